/- Plain: a right state stays right, whatever is put somewhere. -/
import Derived.Test.YtnfpbjblbfcecaaGreatDoorPlain1
namespace Go.Proofs.YtnfpbjblbfcecaaGreatDoor
open Go Go.AV
/-- A right state. -/
structure Rt (s : St) : Prop where
  objs : s.objs.length ≤ 400
  ob : ∀ i, i < s.objs.length → objOk s.objs.length (s.objs.getD i noObj) = true
  pl : ∀ p, p < 2 → plOk (s.pl p) = true
  gm : gameOk s.game = true
  st : ∀ z, z < 11 → ∀ id ∈ s.lists z, standsAt s z id = true
  nd : ∀ x, (ids s).count x ≤ 1
  tot : (ids s).length = s.objs.length
  fm : ∀ i, i < s.objs.length → formedF (s.objs.getD i noObj) = true
  few : Few s
theorem nodup_count {l : List Int} : l.Nodup ↔ ∀ x, l.count x ≤ 1 := List.nodup_iff_count
theorem rt_iff {s : St} (hf : Few s) : checkF s = 0 ↔ Rt s := by
  constructor
  · intro h
    obtain ⟨a, b, c, d⟩ := right_parts h
    have hr := b; have hz := c
    simp only [rangesF, Bool.and_eq_true] at b
    simp only [zonesF, Bool.and_eq_true, decide_eq_true_eq] at c
    exact ⟨a, fun i hi => objs_all.1 b.1.1 i hi, fun p hp => all_up.1 b.1.2 p hp, b.2, fun z hz id hid => List.all_eq_true.1 (all_up.1 c.1.1 z hz) id hid, nodup_count.1 c.1.2, c.2, fun i hi => d _ (getD_mem' hi), hf⟩
  · intro h
    have hr : rangesF s = true := by
      simp only [rangesF, Bool.and_eq_true]
      exact ⟨⟨objs_all.2 h.ob, all_up.2 h.pl⟩, h.gm⟩
    have hz : zonesF s = true := by
      simp only [zonesF, Bool.and_eq_true, decide_eq_true_eq]
      exact ⟨⟨all_up.2 fun z hz => List.all_eq_true.2 (h.st z hz), nodup_count.2 h.nd⟩, h.tot⟩
    have hfm : s.objs.any (fun o => !formedF o) = false := by
      rw [List.any_eq_false]
      intro o ho
      obtain ⟨j, hj, rfl⟩ := List.getElem_of_mem ho
      have := h.fm j hj
      rw [getD_of' hj] at this
      simp [this]
    unfold checkF
    rw [if_neg (by have := h.objs; omega), if_neg (by simp [hr]), if_neg (by simp [hz]), if_neg (by simp [hfm])]
theorem Rt.fld {s : St} (h : Rt s) {i : Nat} (hi : i < s.objs.length) (f : Nat) (hf : f < 18) : oLo s.objs.length f ≤ s.objs.getD i noObj f ∧ s.objs.getD i noObj f ≤ oHi s.objs.length f := by
  have := all_up.1 (h.ob i hi) f hf
  simpa [inB] using this
theorem Rt.at_list {s : St} (h : Rt s) {z : Nat} (hz : z < 11) {id : Int} (hid : id ∈ s.lists z) : 0 ≤ id ∧ id < s.objs.length ∧ s.objs.getD id.toNat noObj 3 = z ∧ standsF (s.objs.getD id.toNat noObj) z = true := by
  have := h.st z hz id hid
  simp only [standsAt, Bool.and_eq_true, beq_iff_eq, inN, decide_eq_true_eq] at this
  exact ⟨this.1.1.1, this.1.1.2, this.1.2, this.2⟩
/-- An object behind a putting, but for who knows it. -/
def putO5 (o : Obj) (base : Int) : Obj :=
  let to := homeF o base
  let o1 := upd o 3 to
  let o2 := if to ≠ 8 then zeros restL o1 else o1
  let o3 := if to < 8 then upd o2 2 (o 1) else o2
  let o4 := if to ≠ 9 then upd o3 16 0 else o3
  if to = 8 ∧ o 3 ≠ to then upd o4 5 1 else o4
/-- An object behind a putting. -/
def putO (o : Obj) (base : Int) : Obj := upd (putO5 o base) 17 (showG (knowZoneF (homeF o base)) (putO5 o base 17))
def putS (s : St) (i base : Int) : St :=
  let o := s.objs.getD i.toNat noObj
  ⟨s.objs.set i.toNat (putO o base), putLists s.lists i (o 3) (homeF o base), s.pl, s.game⟩
theorem showG_small {p w : Int} (hp : 0 ≤ p ∧ p ≤ 3) (hw : 0 ≤ w ∧ w ≤ 3) : 0 ≤ showG p w ∧ showG p w ≤ 3 := by
  have h : ∀ a : Fin 4, ∀ b : Fin 4, 0 ≤ showG (a.val : Int) (b.val : Int) ∧ showG (a.val : Int) (b.val : Int) ≤ 3 := by decide +kernel
  have := h ⟨p.toNat, by omega⟩ ⟨w.toNat, by omega⟩
  rwa [show ((p.toNat : Nat) : Int) = p by omega, show ((w.toNat : Nat) : Int) = w by omega] at this
theorem knowZone_small {z : Int} : 0 ≤ knowZoneF z ∧ knowZoneF z ≤ 3 := by
  unfold knowZoneF; repeat' split
  all_goals omega
theorem zeros_rest {o : Obj} {f : Nat} : zeros restL o f = if 4 ≤ f ∧ f ≤ 12 then 0 else o f := by
  simp only [zeros, restL, List.foldl_cons, List.foldl_nil, upd]
  simp only [show Int.toNat 4 = 4 from rfl, show Int.toNat 5 = 5 from rfl, show Int.toNat 6 = 6 from rfl, show Int.toNat 7 = 7 from rfl, show Int.toNat 8 = 8 from rfl, show Int.toNat 9 = 9 from rfl, show Int.toNat 10 = 10 from rfl, show Int.toNat 11 = 11 from rfl, show Int.toNat 12 = 12 from rfl]
  repeat' split
  all_goals omega
/-- The fields of what was put. -/
theorem putO_fld {o : Obj} {base : Int} {f : Nat} (h17 : f ≠ 17) : putO o base f = if homeF o base = 8 ∧ o 3 ≠ 8 ∧ f = 5 then 1 else if homeF o base ≠ 9 ∧ f = 16 then 0 else if homeF o base < 8 ∧ f = 2 then o 1 else if homeF o base ≠ 8 ∧ 4 ≤ f ∧ f ≤ 12 then 0 else if f = 3 then homeF o base else o f := by
  rw [show putO o base f = putO5 o base f from if_neg h17]
  unfold putO5
  generalize homeF o base = to
  by_cases a : to = 8
  · subst a
    simp only [show ¬ ((8 : Int) ≠ 8) by decide, show ¬ ((8 : Int) < 8) by decide, show (8 : Int) ≠ 9 by decide, if_false, if_true, true_and, false_and, ne_eq, not_false_eq_true]
    by_cases d : o 3 = 8
    · simp only [d, not_true_eq_false, false_and, if_false, upd]; repeat' split
      all_goals omega
    · simp only [d, not_false_eq_true, true_and, if_true, upd]; repeat' split
      all_goals omega
  · rw [if_neg (show ¬(to = 8 ∧ o 3 ≠ to) by simp [a]), if_pos (show to ≠ 8 from a)]
    by_cases c : to < 8
    · rw [if_pos c, if_pos (show to ≠ 9 by omega)]
      simp only [upd, zeros_rest]; repeat' split
      all_goals omega
    · rw [if_neg c]
      by_cases b : to = 9
      · rw [if_neg (show ¬ to ≠ 9 by simp [b])]
        simp only [upd, zeros_rest]; repeat' split
        all_goals omega
      · rw [if_pos (show to ≠ 9 from b)]
        simp only [upd, zeros_rest]; repeat' split
        all_goals omega
/-- The move itself. -/
theorem putEv_at {m : Em} {i base : Int} {k : Nat} (hs : Rt m.now) (he : m.err = 0) (hr : 0 ≤ i ∧ i < m.now.objs.length) (hi : i ∈ m.now.lists (m.now.objs.getD i.toNat noObj 3).toNat) (hb : basesF base = true) (hk : m.evs.length ≤ k) (hk2 : k < 65536) :
    At (m.doL [putEv m.now i base]) ⟨m.now.objs, putLists m.now.lists i (m.now.objs.getD i.toNat noObj 3) (homeF (m.now.objs.getD i.toNat noObj) base), m.now.pl, m.now.game⟩ i (upd (m.now.objs.getD i.toNat noObj) 3 (homeF (m.now.objs.getD i.toNat noObj) base)) (k + 1) := by
  have hlt : i.toNat < m.now.objs.length := by omega
  have hfr : 0 ≤ m.now.objs.getD i.toNat noObj 3 ∧ m.now.objs.getD i.toNat noObj 3 ≤ 10 := hs.fld hlt 3 (by decide)
  have hto := home_in (o := m.now.objs.getD i.toNat noObj) hb
  unfold putEv
  generalize ho : m.now.objs.getD i.toNat noObj = o at *
  dsimp only
  generalize homeF o base = to at *
  obtain ⟨hrem, hix⟩ := rem_erase hi
  have hel : (((m.now.lists (o 3).toNat).erase i).length : Int) = (m.now.lists (o 3).toNat).length - 1 := by
    rw [List.length_erase_of_mem hi]; have := List.length_pos_of_mem hi; omega
  generalize he0 : (if o 3 = to then ((m.now.lists to.toNat).length : Int) - 1 else ((m.now.lists to.toNat).length : Int)) = e0
  generalize hx : (⟨1, i, o 3, idxF (m.now.lists (o 3).toNat) i, to, e0⟩ : Ev) = x
  have hroom : x.e = (upd m.now.lists (o 3).toNat ((m.now.lists (o 3).toNat).erase i) to.toNat).length := by
    rw [← hx]; show e0 = _; rw [← he0]; simp only [upd]
    by_cases e : o 3 = to
    · rw [if_pos e, ← e, if_pos rfl, hel]
    · rw [if_neg e, if_neg (by omega)]
  have hc : evCheck x = 0 := by
    have h0 : 0 ≤ x.e := by rw [hroom]; omega
    rw [← hx] at h0 ⊢
    have h0 : 0 ≤ e0 := h0
    simp [evCheck, evSpare, evMakes, evRanges, inN]
    omega
  have htgt : (if x.d = x.b then (removeF (m.now.lists x.b.toNat) x.c).1 else m.now.lists x.d.toNat) = upd m.now.lists (o 3).toNat ((m.now.lists (o 3).toNat).erase i) to.toNat := by
    rw [← hx]; simp only [hrem, upd]
    by_cases e : to = o 3
    · rw [if_pos e, e, if_pos rfl]
    · rw [if_neg e, if_neg (by omega)]
  have hins : insertF (upd m.now.lists (o 3).toNat ((m.now.lists (o 3).toNat).erase i) to.toNat) x.e x.a = (upd m.now.lists (o 3).toNat ((m.now.lists (o 3).toNat).erase i) to.toNat ++ [i], 0) := by
    rw [hroom, ins_end, show x.a = i by rw [← hx]]
  have hmove : moveF m.now x = (⟨m.now.objs.set i.toNat (upd o 3 to), putLists m.now.lists i (o 3) to, m.now.pl, m.now.game⟩, 0) := by
    rw [move_ok (s := m.now) (x := x) (by rw [← hx]; show ¬ _ ≤ i; omega) (by rw [← hx]; simp only [hrem]; simp) htgt (by rw [hins])]
    rw [hins]
    rw [← hx]; simp only [hrem, putLists, ho]
  have hd : evDo m.now x = (⟨m.now.objs.set i.toNat (upd o 3 to), putLists m.now.lists i (o 3) to, m.now.pl, m.now.game⟩, 0) := by
    rw [do_1 hc (by rw [← hx]), hmove]
  show At (m.do1 x) _ _ _ _
  unfold Em.do1
  rw [if_neg (by simpa using he), hd, if_neg (by simp), if_pos (by omega)]
  exact ⟨he, rfl, by simp; omega⟩
theorem putO5_17 {o : Obj} {base : Int} : putO5 o base 17 = o 17 := by
  unfold putO5
  generalize homeF o base = to
  have hz : ∀ g : Obj, zeros restL g 17 = g 17 := fun g => by rw [zeros_rest, if_neg (by decide)]
  have hu : ∀ (g : Obj) (j : Nat) v, j ≠ 17 → upd g j v 17 = g 17 := fun g j v h => if_neg (fun e => h e.symm)
  have a1 : ∀ g : Obj, (if to = 8 ∧ o 3 ≠ to then upd g 5 1 else g) 17 = g 17 := fun g => by split <;> first | rfl | exact hu _ _ _ (by decide)
  have a2 : ∀ g : Obj, (if to ≠ 9 then upd g 16 0 else g) 17 = g 17 := fun g => by split <;> first | rfl | exact hu _ _ _ (by decide)
  have a3 : ∀ g : Obj, (if to < 8 then upd g 2 (o 1) else g) 17 = g 17 := fun g => by split <;> first | rfl | exact hu _ _ _ (by decide)
  have a4 : ∀ g : Obj, (if to ≠ 8 then zeros restL g else g) 17 = g 17 := fun g => by split <;> first | rfl | exact hz _
  rw [a1, a2, a3, a4]; exact hu _ _ _ (by decide)
theorem putO_17 {o : Obj} {base : Int} : putO o base 17 = showG (knowZoneF (homeF o base)) (o 17) := by
  show showG _ (putO5 o base 17) = _
  rw [putO5_17]
theorem restL_ok : ∀ f ∈ restL, 0 ≤ f ∧ f < 18 ∧ f ≠ 3 := by decide
theorem put2_at {m : Em} {s : St} {i to : Int} {o : Obj} {k : Nat} (h : At m s i o k) (hi : 0 ≤ i ∧ i < s.objs.length) (hk : k + 9 ≤ 65536) : At (m.put2 i to) s i (if to ≠ 8 then zeros restL o else o) (k + 9) := by
  unfold Em.put2; split
  · exact restF_at h hi restL_ok hk
  · exact h.mono (by omega)
theorem put3_at {m : Em} {s : St} {i to own : Int} {o : Obj} {k : Nat} (h : At m s i o k) (hi : 0 ≤ i ∧ i < s.objs.length) (ho : 0 ≤ own ∧ own ≤ 1) (hk : k < 65536) : At (m.put3 i to own) s i (if to < 8 then upd o 2 own else o) (k + 1) := by
  unfold Em.put3; split
  · exact setF_at h hi ⟨by decide, by decide, by decide⟩ ⟨by omega, by omega⟩ hk
  · exact h.mono (by omega)
theorem put4_at {m : Em} {s : St} {i to : Int} {o : Obj} {k : Nat} (h : At m s i o k) (hi : 0 ≤ i ∧ i < s.objs.length) (hk : k < 65536) : At (m.put4 i to) s i (if to ≠ 9 then upd o 16 0 else o) (k + 1) := by
  unfold Em.put4; split
  · exact setF_at h hi ⟨by decide, by decide, by decide⟩ ⟨by decide, by decide⟩ hk
  · exact h.mono (by omega)
theorem put5_at {m : Em} {s : St} {i fr to : Int} {o : Obj} {k : Nat} (h : At m s i o k) (hi : 0 ≤ i ∧ i < s.objs.length) (hk : k < 65536) : At (m.put5 i fr to) s i (if to = 8 ∧ fr ≠ to then upd o 5 1 else o) (k + 1) := by
  unfold Em.put5; split
  · exact setF_at h hi ⟨by decide, by decide, by decide⟩ ⟨by decide, by decide⟩ hk
  · exact h.mono (by omega)
theorem await_at {m : Em} {s : St} {i w ctl : Int} {o : Obj} {k : Nat} (h : At m s i o k) (hi : 0 ≤ i ∧ i < s.objs.length) (hc : (cardE (o 0)).2 = 0) : At (m.awaitF i w ctl) s i o k := by
  have hlt : i.toNat < s.objs.length := by omega
  have hob : m.now.objs.getD i.toNat noObj = o := by rw [h.now]; exact getD_set hlt
  unfold Em.awaitF
  rw [hob, hc, fail_zero h.err]
  exact ⟨h.err, h.now, h.evs⟩
theorem put7_at {m : Em} {s : St} {i fr to base ctl : Int} {o : Obj} {k : Nat} (h : At m s i o k) (hi : 0 ≤ i ∧ i < s.objs.length) (hc : (cardE (o 0)).2 = 0) : At (m.put7 i fr to base ctl) s i o k := by
  unfold Em.put7; split
  · exact h
  · split
    · exact await_at h hi hc
    · split
      · exact await_at h hi hc
      · exact h
/-- Putting, from a right state: no error; the state is as told; few events. -/
theorem putF_at {m : Em} {i base : Int} (hs : Rt m.now) (he : m.err = 0) (hr : 0 ≤ i ∧ i < m.now.objs.length) (hi : i ∈ m.now.lists (m.now.objs.getD i.toNat noObj 3).toNat) (hb : basesF base = true) (hk : m.evs.length + 14 ≤ 65536) :
    (m.putF i base).err = 0 ∧ (m.putF i base).now = putS m.now i base ∧ (m.putF i base).evs.length ≤ m.evs.length + 14 := by
  have hlt : i.toNat < m.now.objs.length := by omega
  have h1 := putEv_at hs he hr hi hb (Nat.le_refl _) (by omega)
  have hcard : (cardE (m.now.objs.getD i.toNat noObj 0)).2 = 0 := by
    have := hs.fld hlt 0 (by decide)
    have h0 : 0 ≤ m.now.objs.getD i.toNat noObj 0 ∧ m.now.objs.getD i.toNat noObj 0 ≤ 119 := this
    unfold cardE; split
    · omega
    · rfl
  have hown : 0 ≤ m.now.objs.getD i.toNat noObj 1 ∧ m.now.objs.getD i.toNat noObj 1 ≤ 1 := hs.fld hlt 1 (by decide)
  have hkn : 0 ≤ m.now.objs.getD i.toNat noObj 17 ∧ m.now.objs.getD i.toNat noObj 17 ≤ 3 := hs.fld hlt 17 (by decide)
  have hput : putS m.now i base = wo ⟨m.now.objs, putLists m.now.lists i (m.now.objs.getD i.toNat noObj 3) (homeF (m.now.objs.getD i.toNat noObj) base), m.now.pl, m.now.game⟩ i (putO (m.now.objs.getD i.toNat noObj) base) := rfl
  have h17 := putO_17 (o := m.now.objs.getD i.toNat noObj) (base := base)
  have h0o := putO_fld (o := m.now.objs.getD i.toNat noObj) (base := base) (f := 0) (by decide)
  unfold Em.putF
  rw [if_neg (by simpa using he), if_neg (by simp [inN, hr]), if_neg (by rw [hb]; decide)]
  rw [hput]
  dsimp only
  generalize hmm : m.doL [putEv m.now i base] = m1 at *
  generalize m.now.objs.getD i.toNat noObj = o at *
  have hr1 : 0 ≤ i ∧ i < (⟨m.now.objs, putLists m.now.lists i (o 3) (homeF o base), m.now.pl, m.now.game⟩ : St).objs.length := hr
  generalize (⟨m.now.objs, putLists m.now.lists i (o 3) (homeF o base), m.now.pl, m.now.game⟩ : St) = s1 at *
  have h6 : At (m1.put6 i base o) s1 i (putO o base) (m.evs.length + 14) := by
    have h2 := put2_at (to := homeF o base) h1 hr1 (by omega)
    have h3 := put3_at (to := homeF o base) h2 hr1 hown (by omega)
    have h4 := put4_at (to := homeF o base) h3 hr1 (by omega)
    have h5 := put5_at (fr := o 3) (to := homeF o base) h4 hr1 (by omega)
    have h5 : At _ _ _ (putO5 o base) _ := h5
    have hs := showG_small (p := knowZoneF (homeF o base)) (w := putO5 o base 17) knowZone_small (by rw [putO5_17]; exact hkn)
    exact (showF_at (p := knowZoneF (homeF o base)) h5 hr1 ⟨by omega, by omega⟩ (by omega)).mono (by omega)
  have h7 := put7_at (fr := o 3) (to := homeF o base) (base := base) (ctl := o 2) h6 hr1 (by
    rw [h0o, if_neg (by simp), if_neg (by simp), if_neg (by simp), if_neg (by simp), if_neg (by decide)]; exact hcard)
  exact ⟨h7.err, h7.now, h7.evs⟩
/-! ### The state behind it is right -/
theorem putO_3 {o : Obj} {base : Int} : putO o base 3 = homeF o base := by
  rw [putO_fld (by decide), if_neg (by simp), if_neg (by simp), if_neg (by simp), if_neg (by simp), if_pos rfl]
theorem putO_same {o : Obj} {base : Int} {f : Nat} (h : f = 0 ∨ f = 1 ∨ f = 13 ∨ f = 14 ∨ f = 15) : putO o base f = o f := by
  rw [putO_fld (by omega), if_neg (by omega), if_neg (by omega), if_neg (by omega), if_neg (by omega), if_neg (by omega)]
theorem putO_ok {o : Obj} {base n : Int} (hn : 0 ≤ n) (hb : basesF base = true) (h : objOk n o = true) : objOk n (putO o base) = true := by
  have hf : ∀ f, f < 18 → oLo n f ≤ o f ∧ o f ≤ oHi n f := fun f hf => by have := all_up.1 h f hf; simpa [inB] using this
  have hto := home_in (o := o) hb
  refine all_up.2 fun f hlt => ?_
  have hg : oLo n f ≤ putO o base f ∧ putO o base f ≤ oHi n f := by
    by_cases h17 : f = 17
    · subst h17
      rw [putO_17]
      exact showG_small knowZone_small (hf 17 (by decide))
    · rw [putO_fld h17]
      have h1 : 0 ≤ o 1 ∧ o 1 ≤ 1 := hf 1 (by decide)
      have hff := hf f hlt
      generalize homeF o base = to at *
      split
      · rename_i e; rw [e.2.2]; exact ⟨by simp [oLo], by simp [oHi]⟩
      · split
        · rename_i e; rw [e.2]; exact ⟨by simp [oLo], by simp [oHi, hn]⟩
        · split
          · rename_i e; rw [e.2]; exact h1
          · split
            · rename_i e
              have : f = 4 ∨ f = 5 ∨ f = 6 ∨ f = 7 ∨ f = 8 ∨ f = 9 ∨ f = 10 ∨ f = 11 ∨ f = 12 := by omega
              rcases this with rfl | rfl | rfl | rfl | rfl | rfl | rfl | rfl | rfl <;> exact ⟨by simp [oLo], by simp [oHi, hn]⟩
            · split
              · rename_i e; rw [e]; exact hto
              · exact hff
  simp only [inB, Bool.and_eq_true, decide_eq_true_eq]; exact hg
theorem putO_formed {o : Obj} {base : Int} (h : formedF o = true) : formedF (putO o base) = true := by
  simp only [formedF, bare, Bool.and_eq_true, Bool.or_eq_true, beq_iff_eq, Bool.not_eq_true', decide_eq_false_iff_not] at h ⊢
  rw [putO_3]
  have hz : homeF o base ≠ 8 → ∀ f, 4 ≤ f → f ≤ 12 → putO o base f = 0 := fun h8 f h4 h12 => by
    rw [putO_fld (by omega), if_neg (by omega), if_neg (by omega), if_neg (by omega), if_pos ⟨h8, h4, h12⟩]
  refine ⟨⟨?_, ?_⟩, ?_⟩
  · by_cases h8 : homeF o base = 8
    · exact .inl h8
    · right
      exact ⟨⟨⟨⟨⟨⟨⟨⟨hz h8 4 (by decide) (by decide), hz h8 5 (by decide) (by decide)⟩, hz h8 6 (by decide) (by decide)⟩, hz h8 7 (by decide) (by decide)⟩, hz h8 8 (by decide) (by decide)⟩, hz h8 9 (by decide) (by decide)⟩, hz h8 10 (by decide) (by decide)⟩, hz h8 11 (by decide) (by decide)⟩, hz h8 12 (by decide) (by decide)⟩
  · by_cases h8 : homeF o base < 8
    · right
      rw [putO_same (f := 1) (by simp), putO_fld (by decide), if_neg (by simp), if_neg (by simp), if_pos ⟨h8, rfl⟩]
    · exact .inl h8
  · by_cases h9 : homeF o base = 9
    · exact .inl h9
    · right
      rw [putO_fld (by decide), if_neg (by simp), if_pos ⟨h9, rfl⟩]
theorem base_cases {b : Int} (h : basesF b = true) : b = 8 ∨ b = 9 ∨ b = 10 ∨ b = 0 ∨ b = 2 ∨ b = 4 ∨ b = 6 := by
  simp only [basesF, zoneF, Bool.or_eq_true, beq_iff_eq, decide_eq_true_eq] at h
  rcases h with ((h | h) | h) | h
  · exact .inl h
  · exact .inr (.inl h)
  · exact .inr (.inr (.inl h))
  · split at h
    · rename_i e; omega
    · omega
theorem putO_stands {o : Obj} {base : Int} (hb : basesF base = true) (h1 : 0 ≤ o 1 ∧ o 1 ≤ 1) (h13 : 0 ≤ o 13 ∧ o 13 ≤ 2) : standsF (putO o base) (homeF o base) = true := by
  have e1 : putO o base 1 = o 1 := putO_same (by simp)
  have e13 : putO o base 13 = o 13 := putO_same (by simp)
  have hbc := base_cases hb
  have c1 : o 1 = 0 ∨ o 1 = 1 := by omega
  have c13 : o 13 = 0 ∨ o 13 = 1 ∨ o 13 = 2 := by omega
  unfold standsF
  rw [e1, e13]
  rcases hbc with rfl | rfl | rfl | rfl | rfl | rfl | rfl <;> rcases c1 with c | c <;> rcases c13 with d | d | d <;> simp [homeF, zoneF, sideF, c, d]
theorem ids_set {s : St} {l : List Obj} {f : Nat → List Int} {p : Nat → Nat → Int} {g : Nat → Int} : ids (⟨l, f, p, g⟩ : St) = (List.range 11).flatMap f := rfl
theorem perm_len {l l' : List Int} (h : ∀ x, l.count x = l'.count x) : l.length = l'.length := (List.perm_iff_count.2 h).length_eq
theorem putS_right {s : St} {i base : Int} (hs : Rt s) (hr : 0 ≤ i ∧ i < s.objs.length) (hi : i ∈ s.lists (s.objs.getD i.toNat noObj 3).toNat) (hb : basesF base = true) : Rt (putS s i base) := by
  have hlt : i.toNat < s.objs.length := by omega
  have hfr : 0 ≤ s.objs.getD i.toNat noObj 3 ∧ s.objs.getD i.toNat noObj 3 ≤ 10 := hs.fld hlt 3 (by decide)
  have hto := home_in (o := s.objs.getD i.toNat noObj) hb
  have h1 : 0 ≤ s.objs.getD i.toNat noObj 1 ∧ s.objs.getD i.toNat noObj 1 ≤ 1 := hs.fld hlt 1 (by decide)
  have h13 : 0 ≤ s.objs.getD i.toNat noObj 13 ∧ s.objs.getD i.toNat noObj 13 ≤ 2 := hs.fld hlt 13 (by decide)
  have hlen : (putS s i base).objs.length = s.objs.length := by simp [putS]
  have hcnt : ∀ x, (ids (putS s i base)).count x = (ids s).count x := fun x => putLists_cnt hfr hto hi
  have hget : ∀ j, j < s.objs.length → (putS s i base).objs.getD j noObj = if i.toNat = j then putO (s.objs.getD i.toNat noObj) base else s.objs.getD j noObj := fun j hj => by
    split
    · rename_i e; subst e; exact getD_set hlt
    · rename_i e; exact getD_set_ne e
  refine ⟨by rw [hlen]; exact hs.objs, fun j hj => ?_, hs.pl, hs.gm, fun z hz id hid => ?_, fun x => by rw [hcnt]; exact hs.nd x, by rw [perm_len hcnt, hlen]; exact hs.tot, fun j hj => ?_, fun z hz => ?_⟩
  · rw [hlen] at hj ⊢
    rw [hget j hj]; split
    · exact putO_ok (by omega) hb (hs.ob _ hlt)
    · exact hs.ob j hj
  · have hmem := putLists_mem (f := s.lists) (i := i) (fr := s.objs.getD i.toNat noObj 3) (to := homeF (s.objs.getD i.toNat noObj) base) hid
    rcases hmem with hm | ⟨rfl, rfl⟩
    · obtain ⟨q1, q2, q3, q4⟩ := hs.at_list hz hm
      by_cases e : i.toNat = id.toNat
      · obtain rfl : i = id := by omega
        -- it stood there: so that is where it was; it stands there no more, unless it came back
        by_cases ez : z = (homeF (s.objs.getD i.toNat noObj) base).toNat
        · subst ez
          simp only [standsAt, objAt, inN, Bool.and_eq_true, beq_iff_eq, decide_eq_true_eq]
          rw [hlen, hget _ hlt, if_pos rfl, putO_3]
          refine ⟨⟨⟨q1, q2⟩, by omega⟩, ?_⟩
          rw [show (((homeF (s.objs.getD i.toNat noObj) base).toNat : Nat) : Int) = homeF (s.objs.getD i.toNat noObj) base by omega]
          exact putO_stands hb h1 h13
        · exfalso
          have ezf : z = (s.objs.getD i.toNat noObj 3).toNat := by omega
          have hc : ((putS s i base).lists z).count i = ((s.lists z).erase i).count i := by
            show (putLists s.lists i (s.objs.getD i.toNat noObj 3) (homeF (s.objs.getD i.toNat noObj) base) z).count i = _
            unfold putLists
            simp only [upd]; rw [if_neg ez, if_pos ezf, ezf]
          have h1c : 1 ≤ ((putS s i base).lists z).count i := List.one_le_count_iff.2 hid
          have h2c : (s.lists z).count i ≤ 1 := Nat.le_trans (cnt_ge (n := 11) hz) (hs.nd i)
          rw [hc, List.count_erase_self] at h1c
          omega
      · simp only [standsAt, objAt, inN, Bool.and_eq_true, beq_iff_eq, decide_eq_true_eq]
        rw [hlen, hget _ (by omega), if_neg e]
        exact ⟨⟨⟨q1, q2⟩, q3⟩, q4⟩
    · simp only [standsAt, objAt, inN, Bool.and_eq_true, beq_iff_eq, decide_eq_true_eq]
      rw [hlen, hget _ hlt, if_pos rfl, putO_3]
      refine ⟨⟨hr, by omega⟩, ?_⟩
      rw [show (((homeF (s.objs.getD id.toNat noObj) base).toNat : Nat) : Int) = homeF (s.objs.getD id.toNat noObj) base by omega]
      exact putO_stands hb h1 h13
  · rw [hlen] at hj
    rw [hget j hj]; split
    · exact putO_formed (hs.fm _ hlt)
    · exact hs.fm j hj
  · show putLists s.lists i (s.objs.getD i.toNat noObj 3) (homeF (s.objs.getD i.toNat noObj) base) z = []
    unfold putLists
    simp only [upd]; rw [if_neg (by omega), if_neg (by omega)]; exact hs.few z hz
end Go.Proofs.YtnfpbjblbfcecaaGreatDoor
