/- Walks with loops: sizes, lists of numbers. -/
import Derived.Test.YtnbmcbkokaoapaaGreatDoorLeaf2
namespace Go.Proofs.YtnbmcbkokaoapaaGreatDoor
open Go Go.AV
set_option maxRecDepth 100000
/-- A state that is larger than is looked at. -/
def longF (s : St) (m : Int) : Bool := decide (m < s.objs.length) || (List.range 11).any fun z => decide (m + 10 < (s.lists z).length)
theorem any_of {p : Nat → Bool} {n i : Nat} (h : i < n) (hp : p i = true) : (List.range n).any p = true := List.any_eq_true.2 ⟨i, List.mem_range.2 h, hp⟩
theorem any_none {p : Nat → Bool} {n : Nat} (h : ∀ j, j < n → p j = false) : (List.range n).any p = false := by
  rw [List.any_eq_false]; intro x hx; simp [h x (List.mem_range.1 hx)]
theorem all_none {p : Nat → Bool} {i : Nat} (h : ∀ j, j < i → p j = false) (hp : p i = false) : ∀ j, j < i + 1 → p j = false := fun j hj => by
  rcases Nat.lt_succ_iff_lt_or_eq.1 hj with e | e
  · exact h j e
  · subst e; exact hp

theorem long_calls (s : St) (m : Int) (hm : 0 ≤ m ∧ m ≤ 1000) (h : Hp) : ACalls Tryz.prog G 8 [eState s, .int .i64 m] h fun r h' => r = .bool (longF s m) ∧ h' = h := by
  refine ACalls.enter Tryz.func8 rfl Tryz.ntmps8 Tryz.results8 rfl ?_
  refine AW.seq ?_
  refine AW.region ?_
  refine AOps.q rfl rfl rfl (q_boxa rfl (rfl : _ = V.agg _)) ?_
  refine AOps.q rfl rfl rfl (q_as rfl (rfl : _ = V.bool _)) ?_
  refine AOps.nil ?_
  refine AW.seq ?_
  refine AW.seq ?_
  refine AW.region ?_
  refine AOps.q rfl rfl rfl (q_fa_i rfl Tryz.underlying29 rfl (by exact Tryz.sizeOf22) (by decide) rfl (rfl : _ = List.drop 0 _)) ?_
  refine AOps.q rfl rfl rfl (q_load_i1 rfl Tryz.isAgg22 rfl rfl) ?_
  refine AOps.q rfl rfl rfl (q_len rfl Tryz.underlying22 rfl) ?_
  refine AOps.q rfl rfl rfl (q_mv rfl (rfl : _ = V.int _ _)) ?_
  refine AOps.q rfl rfl rfl (q_gt rfl rfl rfl) ?_
  refine AOps.nil ?_
  refine AW.cond rfl (fun c0 => ?_) (fun c0 => ?_)
  · skip
    refine AW.seq ?_
    refine AW.region ?_
    refine AOps.q rfl rfl rfl (q_as rfl (rfl : _ = V.bool _)) ?_
    refine AOps.nil ?_
    refine AW.ret ?_
    exact retQ.mk' (.one _) (VLe.of_eq (congrArg V.bool (by simp [longF]; simp at c0; exact .inl c0))) (HLe.refl _) ⟨rfl, rfl⟩
  · skip
    refine AW.skip ?_
    refine AW.seq ?_
    refine AW.seq ?_
    refine AW.region ?_
    refine AOps.q rfl rfl rfl (q_fa_i rfl Tryz.underlying29 rfl (by exact Tryz.sizeOf24) (by decide) rfl (rfl : _ = List.drop 1 _)) ?_
    refine AOps.q rfl rfl rfl (q_load_iN rfl Tryz.isAgg24 Tryz.sizeOf24 rfl (by rfl) rfl) ?_
    refine AOps.q rfl rfl rfl (q_mv rfl (rfl : _ = V.int _ _)) ?_
    refine AOps.nil ?_
    refine AW.block ?_
    refine AW.loop (fun n T hh => ∃ (i : Nat) , i ≤ 11 ∧ n = 11 - i ∧ T = put (put (put (T0) 14 (V.int .i64 (i : Nat))) 13 (V.agg (((cState s).drop 1).take 11))) 1 (V.int .i64 m) ∧ hh = h ∧ longF s m = (List.range 11).any (fun z => decide (m + 10 < (s.lists z).length)) ∧ ∀ j, j < i → decide (m + 10 < ((s.lists j).length : Int)) = false) (11) ?_ ?_
    · skip
      refine Wk.mk (TLe.put (d := 1) (VLe.refl _) (TLe.put (d := 13) (VLe.refl _) (TLe.put (d := 14) (by exact VLe.of_eq (congrArg (V.int .i64) (by first | rfl | omega))) (TLe.zero _)))) (HLe.refl _) ⟨0, Nat.zero_le _, rfl, rfl, rfl, ⟨by simp at c0; simp [longF]; omega, fun j hj => by omega⟩⟩
    · skip
      rintro n T h' ⟨i, hi, rfl, rfl, rfl, ⟨hl, hn⟩⟩
      refine AW.seq ?_
      refine AW.region ?_
      refine AOps.q rfl rfl rfl (q_lt rfl rfl rfl) ?_
      refine AOps.nil ?_
      refine AW.seq ?_
      refine AW.cond rfl (fun c1 => ?_) (fun c1 => ?_)
      · have hlt : i < 11 := by have := of_decide_eq_true c1; omega
        refine AW.skip ?_
        refine AW.seq ?_
        refine AW.block ?_
        refine AW.seq ?_
        refine AW.region ?_
        refine AOps.q rfl rfl rfl (q_ix1 rfl Tryz.underlying24 Tryz.sizeOf23 Tryz.isAgg23 rfl rfl (by omega) (by omega) (lists_ix (by omega) (by omega))) ?_
        refine AOps.q rfl rfl rfl (q_as rfl (rfl : _ = V.sl _ _ _ _)) ?_
        refine AOps.nil ?_
        refine AW.seq ?_
        refine AW.region ?_
        refine AOps.q rfl rfl rfl (q_mv rfl (rfl : _ = V.sl _ _ _ _)) ?_
        refine AOps.q rfl rfl rfl (q_len rfl Tryz.underlying23 rfl) ?_
        refine AOps.q rfl rfl rfl (q_mv rfl (rfl : _ = V.int _ _)) ?_
        refine AOps.q rfl rfl rfl (q_add' rfl rfl rfl (by omega)) ?_
        refine AOps.q rfl rfl rfl (q_gt rfl rfl rfl) ?_
        refine AOps.nil ?_
        refine AW.cond rfl (fun c2 => ?_) (fun c2 => ?_)
        · skip
          refine AW.seq ?_
          refine AW.region ?_
          refine AOps.q rfl rfl rfl (q_as rfl (rfl : _ = V.bool _)) ?_
          refine AOps.nil ?_
          refine AW.ret ?_
          exact retQ.mk' (.one _) (VLe.of_eq (congrArg V.bool (by rw [hl]; exact (any_of (i := i) (by omega) (by simpa using c2)).symm))) (HLe.refl _) ⟨rfl, rfl⟩
        · skip
          refine AW.skip ?_
          refine AW.region ?_
          refine AOps.q rfl rfl rfl (q_add' rfl rfl rfl (by omega)) ?_
          refine AOps.q rfl rfl rfl (q_mv rfl (rfl : _ = V.int _ _)) ?_
          refine AOps.nil ?_
          refine Wk.mk (TLe.put (d := 1) (VLe.refl _) (TLe.put (d := 13) (VLe.refl _) (TLe.put (d := 14) (by exact VLe.of_eq (congrArg (V.int .i64) (by first | rfl | omega))) (TLe.zero _)))) (HLe.refl _) ⟨_, ?_, i + 1, ?_, rfl, rfl, rfl, ⟨hl, all_none hn (by simpa using c2)⟩⟩
          · omega
          · omega
      · obtain rfl : i = 11 := by have := of_decide_eq_false c1; omega
        refine AW.exit ?_
        refine AW.seq ?_
        refine AW.region ?_
        refine AOps.q rfl rfl rfl (q_as rfl (rfl : _ = V.bool _)) ?_
        refine AOps.nil ?_
        refine AW.ret ?_
        exact retQ.mk' (.one _) (VLe.of_eq (congrArg V.bool (by rw [hl]; exact (any_none hn).symm))) (HLe.refl _) ⟨rfl, rfl⟩

def intsF (a b : List Int) : Bool := decide (a = b)
theorem getD_of {a : List Int} {i : Nat} (h : i < a.length) : a.getD i 0 = a[i] := by simp [List.getD, h]
theorem eq_of_getD {a b : List Int} (hl : a.length = b.length) (h : ∀ j, j < a.length → a.getD j 0 = b.getD j 0) : a = b :=
  List.ext_getElem hl fun i h1 h2 => by have := h i h1; rwa [getD_of h1, getD_of h2] at this
theorem all_eq {a b : List Int} {i : Nat} (h : ∀ j, j < i → a.getD j 0 = b.getD j 0) (hp : a.getD i 0 = b.getD i 0) : ∀ j, j < i + 1 → a.getD j 0 = b.getD j 0 := fun j hj => by
  rcases Nat.lt_succ_iff_lt_or_eq.1 hj with e | e
  · exact h j e
  · subst e; exact hp

theorem ints_calls (a b : List Int) (hb : a.length ≤ 1000000) (h : Hp) : ACalls Tryz.prog G 19 [eInts a, eInts b] h fun r h' => r = .bool (intsF a b) ∧ h' = h := by
  refine ACalls.enter Tryz.func19 rfl Tryz.ntmps19 Tryz.results19 rfl ?_
  refine AW.seq ?_
  refine AW.region ?_
  refine AOps.q rfl rfl rfl (q_as rfl (rfl : _ = V.bool _)) ?_
  refine AOps.nil ?_
  refine AW.seq ?_
  refine AW.seq ?_
  refine AW.region ?_
  refine AOps.q rfl rfl rfl (q_mv rfl (rfl : _ = V.sl _ _ _ _)) ?_
  refine AOps.q rfl rfl rfl (q_len rfl Tryz.underlying23 rfl) ?_
  refine AOps.q rfl rfl rfl (q_mv rfl (rfl : _ = V.sl _ _ _ _)) ?_
  refine AOps.q rfl rfl rfl (q_len rfl Tryz.underlying23 rfl) ?_
  refine AOps.q rfl rfl rfl (q_ne rfl rfl rfl) ?_
  refine AOps.nil ?_
  refine AW.cond rfl (fun c0 => ?_) (fun c0 => ?_)
  · skip
    refine AW.seq ?_
    refine AW.region ?_
    refine AOps.q rfl rfl rfl (q_as rfl (rfl : _ = V.bool _)) ?_
    refine AOps.nil ?_
    refine AW.ret ?_
    exact retQ.mk' (.one _) (VLe.of_eq (congrArg V.bool (by simp at c0; simp [intsF]; intro e; subst e; omega))) (HLe.refl _) ⟨rfl, rfl⟩
  · skip
    refine AW.skip ?_
    refine AW.seq ?_
    refine AW.seq ?_
    refine AW.region ?_
    refine AOps.q rfl rfl rfl (q_mv rfl (rfl : _ = V.sl _ _ _ _)) ?_
    refine AOps.q rfl rfl rfl (q_len rfl Tryz.underlying23 rfl) ?_
    refine AOps.q rfl rfl rfl (q_mv rfl (rfl : _ = V.int _ _)) ?_
    refine AOps.nil ?_
    refine AW.block ?_
    refine AW.loop (fun n T hh => ∃ (i : Nat) , i ≤ a.length ∧ n = a.length - i ∧ T = put (put (put (put (T0) 13 (V.int .i64 (i : Nat))) 12 (V.int .i64 a.length)) 1 (eInts b)) 0 (eInts a) ∧ hh = h ∧ a.length = b.length ∧ ∀ j, j < i → a.getD j 0 = b.getD j 0) (a.length) ?_ ?_
    · skip
      refine Wk.mk (TLe.put (d := 0) (VLe.refl _) (TLe.put (d := 1) (VLe.refl _) (TLe.put (d := 12) (VLe.refl _) (TLe.put (d := 13) (by exact VLe.of_eq (congrArg (V.int .i64) (by first | rfl | omega))) (TLe.zero _))))) (HLe.refl _) ⟨0, Nat.zero_le _, rfl, rfl, rfl, ⟨by simp at c0; omega, fun j hj => by omega⟩⟩
    · skip
      rintro n T h' ⟨i, hi, rfl, rfl, rfl, ⟨hl, hn⟩⟩
      refine AW.seq ?_
      refine AW.region ?_
      refine AOps.q rfl rfl rfl (q_lt rfl rfl rfl) ?_
      refine AOps.nil ?_
      refine AW.seq ?_
      refine AW.cond rfl (fun c1 => ?_) (fun c1 => ?_)
      · have hlt : i < a.length := by have := of_decide_eq_true c1; omega
        refine AW.skip ?_
        refine AW.seq ?_
        refine AW.block ?_
        refine AW.seq ?_
        refine AW.region ?_
        refine AOps.q rfl rfl rfl (q_mv rfl (rfl : _ = V.int _ _)) ?_
        refine AOps.q rfl rfl rfl (q_as rfl (rfl : _ = V.int _ _)) ?_
        refine AOps.nil ?_
        refine AW.seq ?_
        refine AW.draw [] [] [(0, true), (1, true), (2, true), (3, true), (4, true), (5, true), (6, true), (7, true), (8, true)] mixed (by kernel_rfl) rfl (by kernel_rfl) ?_
        refine AOrd.q rfl rfl rfl rfl (q_mv rfl (rfl : _ = V.sl _ _ _ _)) ?_
        refine AOrd.q rfl rfl rfl rfl (q_mv rfl (rfl : _ = V.int _ _)) ?_
        refine AOrd.q rfl rfl rfl rfl (q_ia_s rfl Tryz.underlying23 Tryz.sizeOf3 rfl rfl (by omega) (by omega) (cInts_elem (by omega) (by omega))) ?_
        refine AOrd.q rfl rfl rfl rfl (q_load_i1 rfl Tryz.isAgg3 rfl rfl) ?_
        refine AOrd.q rfl rfl rfl rfl (q_mv rfl (rfl : _ = V.sl _ _ _ _)) ?_
        refine AOrd.q rfl rfl rfl rfl (q_mv rfl (rfl : _ = V.int _ _)) ?_
        refine AOrd.q rfl rfl rfl rfl (q_ia_s rfl Tryz.underlying23 Tryz.sizeOf3 rfl rfl (by omega) (by omega) (cInts_elem (by omega) (by omega))) ?_
        refine AOrd.q rfl rfl rfl rfl (q_load_i1 rfl Tryz.isAgg3 rfl rfl) ?_
        refine AOrd.q rfl rfl rfl rfl (q_ne rfl rfl rfl) ?_
        refine AOrd.nil ?_
        refine AW.cond rfl (fun c2 => ?_) (fun c2 => ?_)
        · skip
          refine AW.seq ?_
          refine AW.region ?_
          refine AOps.q rfl rfl rfl (q_as rfl (rfl : _ = V.bool _)) ?_
          refine AOps.nil ?_
          refine AW.ret ?_
          exact retQ.mk' (.one _) (VLe.of_eq (congrArg V.bool (by simp at c2; simp [intsF]; intro e; subst e; exact absurd rfl c2))) (HLe.refl _) ⟨rfl, rfl⟩
        · skip
          refine AW.skip ?_
          refine AW.region ?_
          refine AOps.q rfl rfl rfl (q_add' rfl rfl rfl (by omega)) ?_
          refine AOps.q rfl rfl rfl (q_mv rfl (rfl : _ = V.int _ _)) ?_
          refine AOps.nil ?_
          refine Wk.mk (TLe.put (d := 0) (VLe.refl _) (TLe.put (d := 1) (VLe.refl _) (TLe.put (d := 12) (VLe.refl _) (TLe.put (d := 13) (by exact VLe.of_eq (congrArg (V.int .i64) (by first | rfl | omega))) (TLe.zero _))))) (HLe.refl _) ⟨_, ?_, i + 1, ?_, rfl, rfl, rfl, ⟨hl, all_eq hn (by simpa using c2)⟩⟩
          · omega
          · omega
      · obtain rfl : i = a.length := by have := of_decide_eq_false c1; omega
        refine AW.exit ?_
        refine AW.seq ?_
        refine AW.region ?_
        refine AOps.q rfl rfl rfl (q_as rfl (rfl : _ = V.bool _)) ?_
        refine AOps.nil ?_
        refine AW.ret ?_
        exact retQ.mk' (.one _) (VLe.of_eq (congrArg V.bool (by simp [intsF]; exact eq_of_getD hl hn))) (HLe.refl _) ⟨rfl, rfl⟩

/-- The first place of a number; -1: none. -/
def idxF (l : List Int) (x : Int) : Int := match l.findIdx? (fun y => y == x) with | some i => i | none => -1
theorem idxF_some {l : List Int} {x : Int} {i : Nat} (hi : i < l.length) (hx : l.getD i 0 = x) (hn : ∀ j, j < i → l.getD j 0 ≠ x) : idxF l x = i := by
  have : l.findIdx? (fun y => y == x) = some i := by
    rw [List.findIdx?_eq_some_iff_getElem]
    refine ⟨hi, by rw [getD_of hi] at hx; simpa using hx, fun j hj => ?_⟩
    have := hn j hj
    rw [getD_of (by omega)] at this
    simpa using this
  unfold idxF; rw [this]
theorem idxF_none {l : List Int} {x : Int} (hn : ∀ j, j < l.length → l.getD j 0 ≠ x) : idxF l x = -1 := by
  have : l.findIdx? (fun y => y == x) = none := by
    rw [List.findIdx?_eq_none_iff]
    intro y hy
    obtain ⟨j, hj, rfl⟩ := List.getElem_of_mem hy
    have := hn j hj
    rw [getD_of hj] at this
    simpa using this
  unfold idxF; rw [this]
theorem all_ne {l : List Int} {x : Int} {i : Nat} (h : ∀ j, j < i → l.getD j 0 ≠ x) (hp : l.getD i 0 ≠ x) : ∀ j, j < i + 1 → l.getD j 0 ≠ x := fun j hj => by
  rcases Nat.lt_succ_iff_lt_or_eq.1 hj with e | e
  · exact h j e
  · subst e; exact hp

theorem sIndex_calls (l : List Int) (x : Int) (hb : l.length ≤ 1000000) (h : Hp) : ACalls Tryz.prog G 110 [eInts l, .int .i64 x] h fun r h' => r = .int .i64 (idxF l x) ∧ h' = h := by
  refine ACalls.enter Tryz.func110 rfl Tryz.ntmps110 Tryz.results110 rfl ?_
  refine AW.seq ?_
  refine AW.region ?_
  refine AOps.q rfl rfl rfl (q_as rfl (rfl : _ = V.int _ _)) ?_
  refine AOps.nil ?_
  refine AW.seq ?_
  refine AW.seq ?_
  refine AW.region ?_
  refine AOps.q rfl rfl rfl (q_mv rfl (rfl : _ = V.sl _ _ _ _)) ?_
  refine AOps.q rfl rfl rfl (q_len rfl Tryz.underlying23 rfl) ?_
  refine AOps.q rfl rfl rfl (q_mv rfl (rfl : _ = V.int _ _)) ?_
  refine AOps.nil ?_
  refine AW.block ?_
  refine AW.loop (fun n T hh => ∃ (i : Nat) , i ≤ l.length ∧ n = l.length - i ∧ T = put (put (put (put (T0) 8 (V.int .i64 (i : Nat))) 7 (V.int .i64 l.length)) 1 (V.int .i64 x)) 0 (eInts l) ∧ hh = h ∧ ∀ j, j < i → l.getD j 0 ≠ x) (l.length) ?_ ?_
  · skip
    refine Wk.mk (TLe.put (d := 0) (VLe.refl _) (TLe.put (d := 1) (VLe.refl _) (TLe.put (d := 7) (VLe.refl _) (TLe.put (d := 8) (by exact VLe.of_eq (congrArg (V.int .i64) (by first | rfl | omega))) (TLe.zero _))))) (HLe.refl _) ⟨0, Nat.zero_le _, rfl, rfl, rfl, fun j hj => by omega⟩
  · skip
    rintro n T h' ⟨i, hi, rfl, rfl, rfl, hn⟩
    refine AW.seq ?_
    refine AW.region ?_
    refine AOps.q rfl rfl rfl (q_lt rfl rfl rfl) ?_
    refine AOps.nil ?_
    refine AW.seq ?_
    refine AW.cond rfl (fun c0 => ?_) (fun c0 => ?_)
    · have hlt : i < l.length := by have := of_decide_eq_true c0; omega
      refine AW.skip ?_
      refine AW.seq ?_
      refine AW.block ?_
      refine AW.seq ?_
      refine AW.region ?_
      refine AOps.q rfl rfl rfl (q_mv rfl (rfl : _ = V.int _ _)) ?_
      refine AOps.q rfl rfl rfl (q_as rfl (rfl : _ = V.int _ _)) ?_
      refine AOps.nil ?_
      refine AW.seq ?_
      refine AW.region ?_
      refine AOps.q rfl rfl rfl (q_mv rfl (rfl : _ = V.int _ _)) ?_
      refine AOps.q rfl rfl rfl (q_mv rfl (rfl : _ = V.sl _ _ _ _)) ?_
      refine AOps.q rfl rfl rfl (q_mv rfl (rfl : _ = V.int _ _)) ?_
      refine AOps.q rfl rfl rfl (q_ia_s rfl Tryz.underlying23 Tryz.sizeOf3 rfl rfl (by omega) (by omega) (cInts_elem (by omega) (by omega))) ?_
      refine AOps.q rfl rfl rfl (q_load_i1 rfl Tryz.isAgg3 rfl rfl) ?_
      refine AOps.q rfl rfl rfl (q_eq rfl rfl rfl) ?_
      refine AOps.nil ?_
      refine AW.cond rfl (fun c1 => ?_) (fun c1 => ?_)
      · skip
        refine AW.seq ?_
        refine AW.region ?_
        refine AOps.q rfl rfl rfl (q_mv rfl (rfl : _ = V.int _ _)) ?_
        refine AOps.q rfl rfl rfl (q_as rfl (rfl : _ = V.int _ _)) ?_
        refine AOps.nil ?_
        refine AW.ret ?_
        exact retQ.mk' (.one _) (VLe.of_eq (congrArg (V.int .i64) (by rw [idxF_some hlt (by simpa using (beq_iff_eq.1 c1).symm) hn]))) (HLe.refl _) ⟨rfl, rfl⟩
      · skip
        refine AW.skip ?_
        refine AW.region ?_
        refine AOps.q rfl rfl rfl (q_add' rfl rfl rfl (by omega)) ?_
        refine AOps.q rfl rfl rfl (q_mv rfl (rfl : _ = V.int _ _)) ?_
        refine AOps.nil ?_
        refine Wk.mk (TLe.put (d := 0) (VLe.refl _) (TLe.put (d := 1) (VLe.refl _) (TLe.put (d := 7) (VLe.refl _) (TLe.put (d := 8) (by exact VLe.of_eq (congrArg (V.int .i64) (by first | rfl | omega))) (TLe.zero _))))) (HLe.refl _) ⟨_, ?_, i + 1, ?_, rfl, rfl, rfl, all_ne hn (fun e => by subst e; simp at c1)⟩
        · omega
        · omega
    · obtain rfl : i = l.length := by have := of_decide_eq_false c0; omega
      refine AW.exit ?_
      refine AW.seq ?_
      refine AW.region ?_
      refine AOps.q rfl rfl rfl (q_as rfl (rfl : _ = V.int _ _)) ?_
      refine AOps.nil ?_
      refine AW.ret ?_
      exact retQ.mk' (.one _) (VLe.of_eq (congrArg (V.int .i64) ((idxF_none hn).symm))) (HLe.refl _) ⟨rfl, rfl⟩

theorem index_calls (l : List Int) (x : Int) (hb : l.length ≤ 1000000) (h : Hp) : ACalls Tryz.prog G 85 [eInts l, .int .i64 x] h fun r h' => r = .int .i64 (idxF l x) ∧ h' = h := by
  refine ACalls.enter Tryz.func85 rfl Tryz.ntmps85 Tryz.results85 rfl ?_
  refine AW.seq ?_
  refine AW.region ?_
  refine AOps.q rfl rfl rfl (q_as rfl (rfl : _ = V.int _ _)) ?_
  refine AOps.nil ?_
  refine AW.seq ?_
  refine AW.region ?_
  refine AOps.q rfl rfl rfl (q_mv rfl (rfl : _ = V.sl _ _ _ _)) ?_
  refine AOps.q rfl rfl rfl (q_mv rfl (rfl : _ = V.int _ _)) ?_
  refine AOps.q rfl rfl rfl (QOp.call rfl (by exact Tryz.call110) fun h' hl' => by exact sIndex_calls _ _ (by assumption) h') ?_
  refine AOps.q rfl rfl rfl (q_as rfl (rfl : _ = V.int _ _)) ?_
  refine AOps.nil ?_
  refine AW.ret ?_
  exact retQ.mk' (.one _) (VLe.of_eq (congrArg (V.int .i64) (rfl))) (HLe.refl _) ⟨rfl, rfl⟩

end Go.Proofs.YtnbmcbkokaoapaaGreatDoor
