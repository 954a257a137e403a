/- Plain: the document's answer to whether a state is right is the program's. -/
import Derived.Test.YtnbmcbkokaoapaaGreatDoorShape4
import Derived.Test.YtnbmcbkokaoapaaGreatDoorRefchk
namespace Go.Proofs.YtnbmcbkokaoapaaGreatDoor
open Go Go.AV
theorem inB_iff {n a b : Int} : inB n a b = true ↔ a ≤ n ∧ n ≤ b := by simp [inB]
theorem obj_eq {o : Obj} {n : Int} : refObject o n = objOk n o := by
  rw [Bool.eq_iff_iff]
  constructor
  · intro h
    simp only [refObject, Bool.and_eq_true] at h
    obtain ⟨⟨⟨⟨⟨⟨⟨⟨⟨⟨⟨⟨⟨⟨⟨⟨⟨h0, h1⟩, h2⟩, h3⟩, h4⟩, h5⟩, h11⟩, h13⟩, h17⟩, h10⟩, h14⟩, h6⟩, h7⟩, h8⟩, h9⟩, h12⟩, h15⟩, h16⟩ := h
    refine all_up.2 fun f hf => ?_
    match f, hf with
    | 0, _ => exact h0 | 1, _ => exact h1 | 2, _ => exact h2 | 3, _ => exact h3 | 4, _ => exact h4 | 5, _ => exact h5 | 6, _ => exact h6 | 7, _ => exact h7 | 8, _ => exact h8
    | 9, _ => exact h9 | 10, _ => exact h10 | 11, _ => exact h11 | 12, _ => exact h12 | 13, _ => exact h13 | 14, _ => exact h14 | 15, _ => exact h15 | 16, _ => exact h16 | 17, _ => exact h17 | _ + 18, hf => exact absurd hf (by omega)
  · intro h
    have hf := all_up.1 h
    simp only [refObject, Bool.and_eq_true]
    exact ⟨⟨⟨⟨⟨⟨⟨⟨⟨⟨⟨⟨⟨⟨⟨⟨⟨hf 0 (by decide), hf 1 (by decide)⟩, hf 2 (by decide)⟩, hf 3 (by decide)⟩, hf 4 (by decide)⟩, hf 5 (by decide)⟩, hf 11 (by decide)⟩, hf 13 (by decide)⟩, hf 17 (by decide)⟩, hf 10 (by decide)⟩, hf 14 (by decide)⟩, hf 6 (by decide)⟩, hf 7 (by decide)⟩, hf 8 (by decide)⟩, hf 9 (by decide)⟩, hf 12 (by decide)⟩, hf 15 (by decide)⟩, hf 16 (by decide)⟩
theorem pl_eq {p : Nat → Int} : refPl p = plOk p := by
  rw [Bool.eq_iff_iff]
  constructor
  · intro h
    simp only [refPl, Bool.and_eq_true] at h
    obtain ⟨⟨⟨h0, h7⟩, h8⟩, hk⟩ := h
    have hk := all_up.1 hk
    refine all_up.2 fun f hf => ?_
    match f, hf with
    | 0, _ => exact h0 | 1, _ => exact hk 0 (by decide) | 2, _ => exact hk 1 (by decide) | 3, _ => exact hk 2 (by decide) | 4, _ => exact hk 3 (by decide) | 5, _ => exact hk 4 (by decide) | 6, _ => exact hk 5 (by decide) | 7, _ => exact h7 | 8, _ => exact h8
  · intro h
    have hf := all_up.1 h
    simp only [refPl, Bool.and_eq_true]
    refine ⟨⟨⟨hf 0 (by decide), hf 7 (by decide)⟩, hf 8 (by decide)⟩, all_up.2 fun k hk => ?_⟩
    match k, hk with
    | 0, _ => exact hf 1 (by decide) | 1, _ => exact hf 2 (by decide) | 2, _ => exact hf 3 (by decide) | 3, _ => exact hf 4 (by decide) | 4, _ => exact hf 5 (by decide) | 5, _ => exact hf 6 (by decide)
theorem game_eq {g : Nat → Int} : refGame g = gameOk g := by
  rw [Bool.eq_iff_iff]
  constructor
  · intro h
    simp only [refGame, Bool.and_eq_true] at h
    obtain ⟨⟨⟨⟨⟨⟨h0, h1⟩, h2⟩, h3⟩, h4⟩, h5⟩, h6⟩ := h
    refine all_up.2 fun f hf => ?_
    match f, hf with
    | 0, _ => exact h0 | 1, _ => exact h1 | 2, _ => exact h2 | 3, _ => exact h3 | 4, _ => exact h4 | 5, _ => exact h5 | 6, _ => exact h6
  · intro h
    have hf := all_up.1 h
    simp only [refGame, Bool.and_eq_true]
    exact ⟨⟨⟨⟨⟨⟨hf 0 (by decide), hf 1 (by decide)⟩, hf 2 (by decide)⟩, hf 3 (by decide)⟩, hf 4 (by decide)⟩, hf 5 (by decide)⟩, hf 6 (by decide)⟩
theorem ranges_eq {s : St} : refRanges s = rangesF s := by
  unfold refRanges rangesF
  have e1 : (fun o => refObject o s.objs.length) = objOk s.objs.length := funext fun o => obj_eq
  have e2 : (fun p => refPl (s.pl p)) = fun p => plOk (s.pl p) := funext fun p => pl_eq
  rw [e1, e2, game_eq]
theorem stand_eq {o : Obj} (h3 : 0 ≤ o 3 ∧ o 3 ≤ 10) : standsF o (o 3) = refStand o := by
  have hs : sideF (o 3) = if o 3 < 8 then (o 3 - o 3 % 2, o 3 % 2, true) else (o 3, 0, false) := by unfold sideF; rw [if_neg (by omega)]
  unfold standsF refStand
  rw [hs]
  by_cases h8 : o 3 < 8
  · rw [if_pos h8]
    have e : (o 3 == 8) = false := by simp; omega
    simp only [if_true, decide_eq_true h8, e, Bool.true_and, Bool.false_and, Bool.or_false]
    simp [bne]
  · rw [if_neg h8]
    by_cases e8 : o 3 = 8
    · rw [e8]; simp [bne]
    · have e : (o 3 == 8) = false := by simp [e8]
      simp [e8, h8]
theorem sum_zero {l : List Nat} : (l.map fun _ => 0).sum = 0 := by
  induction l with
  | nil => rfl
  | cons a l ih => rw [List.map_cons, List.sum_cons, ih]
theorem sum_ind {n : Nat} {x : Int} (h0 : 0 ≤ x) (h1 : x < n) : ((List.range n).map fun i : Nat => if x = (i : Int) then 1 else 0).sum = 1 := by
  induction n with
  | zero => omega
  | succ n ih =>
    rw [List.range_succ, List.map_append, List.sum_append]
    by_cases e : x = n
    · subst e
      have : ((List.range n).map fun i : Nat => if ((n : Nat) : Int) = (i : Int) then 1 else 0) = (List.range n).map fun _ => 0 := List.map_congr_left fun i hi => if_neg (by have := List.mem_range.1 hi; omega)
      rw [this, sum_zero]; simp
    · rw [ih (by omega)]; simp [e]
theorem sum_add (l : List Nat) (f g : Nat → Nat) : (l.map fun i => f i + g i).sum = (l.map f).sum + (l.map g).sum := by
  induction l with
  | nil => rfl
  | cons a l ih => simp only [List.map_cons, List.sum_cons, ih]; omega
/-- The counts of what stands in a list of small numbers add up to its length. -/
theorem sum_count {l : List Int} {n : Nat} (h : ∀ x ∈ l, 0 ≤ x ∧ x < n) : ((List.range n).map fun i : Nat => l.count (i : Int)).sum = l.length := by
  induction l with
  | nil =>
    simp only [List.count_nil, List.length_nil]
    induction n with
    | zero => rfl
    | succ n ih => rw [List.range_succ, List.map_append, List.sum_append, ih (by simp)]; rfl
  | cons x l ih =>
    have e : (fun i : Nat => (x :: l).count (i : Int)) = fun i : Nat => l.count (i : Int) + if x = (i : Int) then 1 else 0 := by
      funext i; rw [List.count_cons]; simp
    rw [e, sum_add, ih fun y hy => h y (by simp [hy]), sum_ind (h x (by simp)).1 (h x (by simp)).2, List.length_cons]
theorem sum_ones {n : Nat} {f : Nat → Nat} (h : ∀ i, i < n → f i = 1) : ((List.range n).map f).sum = n := by
  induction n with
  | zero => rfl
  | succ n ih => rw [List.range_succ, List.map_append, List.sum_append, ih fun i hi => h i (by omega)]; simp [h n (by omega)]
theorem sum_le {n : Nat} {f : Nat → Nat} (h : ∀ i, i < n → f i ≤ 1) : ((List.range n).map f).sum ≤ n ∧ (((List.range n).map f).sum = n → ∀ i, i < n → f i = 1) := by
  induction n with
  | zero => exact ⟨Nat.le_refl _, fun _ i hi => by omega⟩
  | succ n ih =>
    obtain ⟨a, b⟩ := ih fun i hi => h i (by omega)
    have hn := h n (by omega)
    rw [List.range_succ, List.map_append, List.sum_append]
    simp only [List.map_cons, List.map_nil, List.sum_cons, List.sum_nil]
    refine ⟨by omega, fun e i hi => ?_⟩
    by_cases ei : i = n
    · subst ei; omega
    · exact b (by omega) i (by omega)
theorem mem_ids {s : St} {x : Int} : x ∈ ids s ↔ ∃ z, z < 11 ∧ x ∈ s.lists z := by
  simp [ids]
theorem ids_in {s : St} (h : ∀ z, z < 11 → ∀ x ∈ s.lists z, 0 ≤ x ∧ x < s.objs.length) : ∀ x ∈ ids s, 0 ≤ x ∧ x < s.objs.length := fun x hx => by
  obtain ⟨z, hz, hm⟩ := mem_ids.1 hx; exact h z hz x hm
theorem once {s : St} (hin : ∀ x ∈ ids s, 0 ≤ x ∧ x < s.objs.length) : ((∀ x, (ids s).count x ≤ 1) ∧ (ids s).length = s.objs.length) ↔ ∀ i, i < s.objs.length → (ids s).count ((i : Nat) : Int) = 1 := by
  have hsum := sum_count hin
  constructor
  · rintro ⟨h1, h2⟩
    exact (sum_le (f := fun i => (ids s).count ((i : Nat) : Int)) fun i _ => h1 _).2 (by rw [hsum, h2])
  · intro h
    refine ⟨fun x => ?_, by rw [← hsum, sum_ones h]⟩
    by_cases hx : x ∈ ids s
    · have := hin x hx
      have := h x.toNat (by omega)
      rw [show ((x.toNat : Nat) : Int) = x by omega] at this; omega
    · rw [List.count_eq_zero.2 hx]; omega
theorem zones_eq {s : St} (hr : rangesF s = true) : refZones s = zonesF s := by
  rw [Bool.eq_iff_iff]
  have hf3 : ∀ i, i < s.objs.length → 0 ≤ s.objs.getD i noObj 3 ∧ s.objs.getD i noObj 3 ≤ 10 := fun i hi => right_obj hr hi 3 (by decide)
  constructor
  · intro h
    simp only [refZones, Bool.and_eq_true] at h
    have hin : ∀ z, z < 11 → ∀ x ∈ s.lists z, 0 ≤ x ∧ x < s.objs.length := fun z hz x hx => by
      have := List.all_eq_true.1 (all_up.1 h.1 z hz) x hx; simpa [inN] using this
    have hocc : ∀ i, i < s.objs.length → refOcc s i = true := fun i hi => all_up.1 h.2 i hi
    simp only [zonesF, Bool.and_eq_true, decide_eq_true_eq]
    have h1 : ∀ i, i < s.objs.length → (ids s).count ((i : Nat) : Int) = 1 := fun i hi => by
      have := hocc i hi; simp only [refOcc, Bool.and_eq_true, decide_eq_true_eq] at this; exact this.1.1
    obtain ⟨g1, g2⟩ := (once (ids_in hin)).2 h1
    refine ⟨⟨all_up.2 fun z hz => List.all_eq_true.2 fun x hx => ?_, nodup_count.2 g1⟩, g2⟩
    obtain ⟨x0, x1⟩ := hin z hz x hx
    have := hocc x.toNat (by omega)
    simp only [refOcc, Bool.and_eq_true] at this
    obtain ⟨⟨_, hb⟩, hc⟩ := this
    have hb := List.all_eq_true.1 (all_up.1 hb z hz) x hx
    rw [show ((x.toNat : Nat) : Int) = x by omega] at hb
    have e3 : s.objs.getD x.toNat noObj 3 = z := by simpa using hb
    simp only [standsAt, objAt, inN, Bool.and_eq_true, beq_iff_eq, decide_eq_true_eq]
    exact ⟨⟨⟨x0, x1⟩, e3⟩, by rw [← e3, stand_eq (hf3 _ (by omega))]; exact hc⟩
  · intro h
    simp only [zonesF, Bool.and_eq_true, decide_eq_true_eq] at h
    have hz0 : zonesF s = true := by simp only [zonesF, Bool.and_eq_true, decide_eq_true_eq]; exact h
    have hst : ∀ z, z < 11 → ∀ x ∈ s.lists z, 0 ≤ x ∧ x < s.objs.length ∧ objAt s x 3 = z ∧ standsF (objAt s x) z = true := fun z hz => right_ids hz0 hz
    have hin : ∀ z, z < 11 → ∀ x ∈ s.lists z, 0 ≤ x ∧ x < s.objs.length := fun z hz x hx => ⟨(hst z hz x hx).1, (hst z hz x hx).2.1⟩
    have h1 := (once (ids_in hin)).1 ⟨nodup_count.1 h.1.2, h.2⟩
    simp only [refZones, Bool.and_eq_true]
    refine ⟨all_up.2 fun z hz => List.all_eq_true.2 fun x hx => by have := hin z hz x hx; simpa [inN] using this, all_up.2 fun i hi => ?_⟩
    have hm : ((i : Nat) : Int) ∈ ids s := List.one_le_count_iff.1 (by rw [h1 i hi]; exact Nat.le_refl _)
    obtain ⟨z, hz, hmz⟩ := mem_ids.1 hm
    obtain ⟨_, _, e3, hs⟩ := hst z hz _ hmz
    have et : ((i : Nat) : Int).toNat = i := by omega
    simp only [objAt, et] at e3 hs
    simp only [refOcc, Bool.and_eq_true, decide_eq_true_eq]
    refine ⟨⟨h1 i hi, all_up.2 fun y hy => List.all_eq_true.2 fun x hx => ?_⟩, by rw [← stand_eq (hf3 i hi), e3]; exact hs⟩
    by_cases ex : x = (i : Int)
    · subst ex
      have := (hst y hy _ hx).2.2.1
      simp only [objAt, et] at this
      simp [this]
    · simp [ex]
/-- The same number, whoever looks. -/
theorem refCheck_eq {s : St} : refCheck s = checkF s := by
  unfold refCheck checkF
  rw [ranges_eq]
  by_cases h : rangesF s = true
  · rw [zones_eq h]
  · have : rangesF s = false := by simpa using h
    rw [this]; rfl
end Go.Proofs.YtnbmcbkokaoapaaGreatDoor
