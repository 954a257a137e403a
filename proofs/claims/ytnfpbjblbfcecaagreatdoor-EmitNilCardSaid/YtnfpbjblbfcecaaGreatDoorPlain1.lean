/- Plain: an object that is put somewhere; a right state stays right. -/
import Derived.Test.YtnfpbjblbfcecaaGreatDoorRun
import Derived.Test.YtnfpbjblbfcecaaGreatDoorRefchk
namespace Go.Proofs.YtnfpbjblbfcecaaGreatDoor
open Go Go.AV
/-- A state with another object at a place. -/
def wo (s : St) (i : Int) (o : Obj) : St := ⟨s.objs.set i.toNat o, s.lists, s.pl, s.game⟩
/-- Where an emitter stands: no error; the state is 's' but for object 'i'; so many events at most. -/
structure At (m : Em) (s : St) (i : Int) (o : Obj) (k : Nat) : Prop where
  err : m.err = 0
  now : m.now = wo s i o
  evs : m.evs.length ≤ k
theorem getD_set {l : List Obj} {a : Nat} {v : Obj} (h : a < l.length) : (l.set a v).getD a noObj = v := by
  simp [List.getD_eq_getElem?_getD, h]
theorem getD_set_ne {l : List Obj} {a b : Nat} {v : Obj} (h : a ≠ b) : (l.set a v).getD b noObj = l.getD b noObj := by
  simp [List.getD_eq_getElem?_getD, List.getElem?_set_ne h]
theorem set_getD {l : List Obj} {a : Nat} : l.set a (l.getD a noObj) = l := by
  refine List.ext_getElem? fun j => ?_
  by_cases e : a = j
  · subst e
    by_cases h : a < l.length
    · rw [List.getElem?_set_self h, List.getD_eq_getElem?_getD, List.getElem?_eq_getElem h]; rfl
    · rw [List.getElem?_eq_none (by simpa using h), List.getElem?_eq_none (by omega)]
  · rw [List.getElem?_set_ne e]
theorem upd_self {o : Obj} {f : Nat} : upd o f (o f) = o := by
  funext j; simp only [upd]; split
  · rename_i h; rw [h]
  · rfl
theorem evCheck2 {i f c v : Int} (hi : 0 ≤ i) (hf : 0 ≤ f ∧ f < 18 ∧ f ≠ 3) (hv : -1073741824 ≤ v ∧ v ≤ 1073741824) : evCheck ⟨2, i, f, c, v, 0⟩ = 0 := by
  simp [evCheck, evSpare, evMakes, evRanges, inN, small, hi, hf, hv]
theorem fail_zero {m : Em} (h : m.err = 0) : m.fail 0 = m := by
  unfold Em.fail; rw [if_pos h, ← h]
theorem setF_at {m : Em} {s : St} {i : Int} {o : Obj} {k : Nat} {f v : Int} (h : At m s i o k) (hi : 0 ≤ i ∧ i < s.objs.length) (hf : 0 ≤ f ∧ f < 18 ∧ f ≠ 3) (hv : -1073741824 ≤ v ∧ v ≤ 1073741824) (hk : k < 65536) :
    At (m.setF i f v) s i (upd o f.toNat v) (k + 1) := by
  have hlt : i.toNat < s.objs.length := by omega
  have hlen : m.now.objs.length = s.objs.length := by rw [h.now]; simp [wo]
  have hob : m.now.objs.getD i.toNat noObj = o := by rw [h.now]; exact getD_set hlt
  unfold Em.setF
  rw [if_neg (by simpa using h.err), if_neg (by rw [evCheck2 hi.1 hf hv, hlen]; simp; omega), hob]
  unfold Em.set
  split
  · rename_i e
    rw [evCheck2 hi.1 hf hv, fail_zero h.err]
    refine ⟨h.err, ?_, Nat.le_succ_of_le h.evs⟩
    rw [← e, upd_self]; exact h.now
  · rename_i hne
    show At (m.do1 _) _ _ _ _
    have hc : evCheck ⟨2, i, f, o f.toNat, v, 0⟩ = 0 := evCheck2 hi.1 hf hv
    have hd : evDo m.now ⟨2, i, f, o f.toNat, v, 0⟩ = (wo s i (upd o f.toNat v), 0) := by
      rw [do_2 hc rfl]
      rw [if_neg (by rw [hlen]; simp; omega)]
      show (if m.now.objs.getD i.toNat noObj f.toNat ≠ o f.toNat then _ else _) = _
      rw [hob, if_neg (by simp), h.now]
      simp only [wo, List.set_set]
    have hev := h.evs
    unfold Em.do1
    rw [if_neg (by simpa using h.err), hd, if_neg (by simp), if_pos (by omega)]
    exact ⟨h.err, rfl, by simp; omega⟩
def zeros (l : List Int) (o : Obj) : Obj := l.foldl (fun o f => upd o f.toNat 0) o
theorem restF_at {m : Em} {s : St} {i : Int} {o : Obj} {k : Nat} {l : List Int} (h : At m s i o k) (hi : 0 ≤ i ∧ i < s.objs.length) (hl : ∀ f ∈ l, 0 ≤ f ∧ f < 18 ∧ f ≠ 3) (hk : k + l.length ≤ 65536) : At (m.restF i l) s i (zeros l o) (k + l.length) := by
  induction l generalizing m o k with
  | nil => exact h
  | cons f l ih =>
    have hk' : k + (l.length + 1) ≤ 65536 := hk
    have h1 := setF_at (f := f) (v := 0) h hi (hl f (by simp)) ⟨by decide, by decide⟩ (by omega)
    have := ih (m := m.setF i f 0) h1 (fun g hg => hl g (by simp [hg])) (by omega)
    have e : k + (f :: l).length = k + 1 + l.length := by simp; omega
    rw [e]; exact this
theorem At.mono {m : Em} {s : St} {i : Int} {o : Obj} {k k' : Nat} (h : At m s i o k) (hk : k ≤ k') : At m s i o k' := ⟨h.err, h.now, Nat.le_trans h.evs hk⟩
theorem showF_at {m : Em} {s : St} {i p : Int} {o : Obj} {k : Nat} (h : At m s i o k) (hi : 0 ≤ i ∧ i < s.objs.length) (hv : -1073741824 ≤ showG p (o 17) ∧ showG p (o 17) ≤ 1073741824) (hk : k < 65536) :
    At (m.showF i p) s i (upd o 17 (showG p (o 17))) (k + 1) := by
  have hlt : i.toNat < s.objs.length := by omega
  have hlen : m.now.objs.length = s.objs.length := by rw [h.now]; simp [wo]
  have hob : m.now.objs.getD i.toNat noObj = o := by rw [h.now]; exact getD_set hlt
  unfold Em.showF
  rw [if_pos h.err]
  unfold turnF
  rw [if_neg (by rw [hlen]; omega), hob]
  split
  · rename_i e
    rw [e, upd_self]; exact h.mono (by omega)
  · rename_i hne
    have h2 := setF_at (f := 17) h hi ⟨by decide, by decide, by decide⟩ hv hk
    unfold Em.setF at h2
    rw [if_neg (by simpa using h.err), if_neg (by rw [evCheck2 hi.1 ⟨by decide, by decide, by decide⟩ hv, hlen]; simp; omega), hob] at h2
    unfold Em.set at h2
    rw [if_neg (fun e => hne e.symm)] at h2
    exact h2
/-! ### Lists -/
theorem idxF_cons_eq {l : List Int} {x : Int} : idxF (x :: l) x = 0 := by simp [idxF, List.findIdx?_cons]
theorem idxF_cons_ne {l : List Int} {a x : Int} (h : a ≠ x) (hx : x ∈ l) : idxF (a :: l) x = idxF l x + 1 ∧ 0 ≤ idxF l x := by
  have hb : (a == x) = false := by simpa using h
  cases e : l.findIdx? (fun y => y == x) with
  | none => exact absurd hx (by rw [List.findIdx?_eq_none_iff] at e; intro hm; have := e x hm; simp at this)
  | some k => simp only [idxF, List.findIdx?_cons, hb, e]; simp
theorem rem_erase {l : List Int} {x : Int} (h : x ∈ l) : removeF l (idxF l x) = (l.erase x, x, 0) ∧ 0 ≤ idxF l x := by
  induction l with
  | nil => simp at h
  | cons a l ih =>
    by_cases e : a = x
    · subst e
      rw [idxF_cons_eq]
      refine ⟨?_, by decide⟩
      simp [removeF, inN, List.erase_cons_head]
    · have hx : x ∈ l := by
        rcases List.mem_cons.1 h with h | h
        · exact absurd h.symm e
        · exact h
      obtain ⟨h1, h2⟩ := ih hx
      obtain ⟨e1, e2⟩ := idxF_cons_ne e hx
      rw [e1]
      refine ⟨?_, by omega⟩
      unfold removeF at h1 ⊢
      split at h1
      · rename_i hin
        have hin2 : inN (idxF l x + 1) (a :: l).length = true := by simp [inN] at hin ⊢; omega
        have et : (idxF l x + 1).toNat = (idxF l x).toNat + 1 := by omega
        rw [if_pos hin2, et]
        simp only [Prod.mk.injEq] at h1 ⊢
        refine ⟨?_, ?_, trivial⟩
        · rw [List.erase_cons_tail (by simpa using e), ← h1.1]; rfl
        · exact h1.2.1
      · simp at h1
theorem ins_end {l : List Int} {x : Int} : insertF l l.length x = (l ++ [x], 0) := by
  simp [insertF]
theorem cnt_upd {f : Nat → List Int} {l : List Int} {n z : Nat} {x : Int} (h : z < n) : ((List.range n).flatMap (upd f z l)).count x + (f z).count x = ((List.range n).flatMap f).count x + l.count x := by
  induction n with
  | zero => omega
  | succ n ih =>
    rw [List.range_succ, List.flatMap_append, List.flatMap_append, List.count_append, List.count_append]
    simp only [List.flatMap_cons, List.flatMap_nil, List.append_nil]
    by_cases e : z = n
    · subst e
      have : (List.range z).flatMap (upd f z l) = (List.range z).flatMap f := flat_congr fun j hj => by simp only [upd]; rw [if_neg (by omega)]
      rw [this]; simp only [upd, if_true]; omega
    · have := ih (by omega)
      have e2 : upd f z l n = f n := by simp only [upd]; rw [if_neg (Ne.symm e)]
      rw [e2]; omega
theorem cnt_ge {f : Nat → List Int} {n z : Nat} {x : Int} (h : z < n) : (f z).count x ≤ ((List.range n).flatMap f).count x := by
  induction n with
  | zero => omega
  | succ n ih =>
    rw [List.range_succ, List.flatMap_append, List.count_append]
    simp only [List.flatMap_cons, List.flatMap_nil, List.append_nil]
    by_cases e : z = n
    · subst e; omega
    · have := ih (by omega); omega
/-- The lists behind a putting. -/
def putLists (f : Nat → List Int) (i fr to : Int) : Nat → List Int :=
  upd (upd f fr.toNat ((f fr.toNat).erase i)) to.toNat (upd f fr.toNat ((f fr.toNat).erase i) to.toNat ++ [i])
theorem putLists_cnt {f : Nat → List Int} {i fr to x : Int} (hfr : 0 ≤ fr ∧ fr ≤ 10) (hto : 0 ≤ to ∧ to ≤ 10) (hi : i ∈ f fr.toNat) : ((List.range 11).flatMap (putLists f i fr to)).count x = ((List.range 11).flatMap f).count x := by
  have h1 := cnt_upd (f := f) (l := (f fr.toNat).erase i) (n := 11) (z := fr.toNat) (x := x) (by omega)
  have h2 := cnt_upd (f := upd f fr.toNat ((f fr.toNat).erase i)) (l := upd f fr.toNat ((f fr.toNat).erase i) to.toNat ++ [i]) (n := 11) (z := to.toNat) (x := x) (by omega)
  have h3 : (f fr.toNat).count x = ((f fr.toNat).erase i).count x + [i].count x := by
    have hp := (List.perm_cons_erase hi).count_eq x
    rw [hp, List.count_cons, List.count_singleton]
  rw [List.count_append] at h2
  unfold putLists
  omega
theorem putLists_mem {f : Nat → List Int} {i fr to x : Int} {z : Nat} (h : x ∈ putLists f i fr to z) : x ∈ f z ∨ (x = i ∧ z = to.toNat) := by
  unfold putLists at h
  have hsub : ∀ y z, y ∈ upd f fr.toNat ((f fr.toNat).erase i) z → y ∈ f z := fun y z hy => by
    simp only [upd] at hy; split at hy
    · rename_i e; subst e; exact List.mem_of_mem_erase hy
    · exact hy
  generalize upd f fr.toNat ((f fr.toNat).erase i) = g at *
  simp only [upd] at h; split at h
  · rename_i e; subst e
    rcases List.mem_append.1 h with h | h
    · exact .inl (hsub _ _ h)
    · exact .inr ⟨by simpa using h, rfl⟩
  · exact .inl (hsub _ _ h)
end Go.Proofs.YtnfpbjblbfcecaaGreatDoor
