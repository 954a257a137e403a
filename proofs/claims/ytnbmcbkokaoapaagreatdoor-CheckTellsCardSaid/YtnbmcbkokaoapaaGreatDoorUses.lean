/- Walks: abilities that count. -/
import Derived.Test.YtnbmcbkokaoapaaGreatDoorTab3
namespace Go.Proofs.YtnbmcbkokaoapaaGreatDoor
open Go Go.AV
set_option maxRecDepth 100000
set_option maxHeartbeats 1000000
theorem cardF_abs : ∀ k : Fin 120, (cardF (k.val : Int)).abs.length ≤ 4 := by decide +kernel
theorem cardE_abs (n : Int) : (cardE n).1.abs.length ≤ 4 := by
  unfold cardE
  split
  · decide
  · rename_i h
    have := cardF_abs ⟨n.toNat, by omega⟩
    have e : ((n.toNat : Nat) : Int) = n := by omega
    rwa [e] at this
def noAb : Abil := aimF 0 (doF 0 0 0 0)
def usesUp (c : Card) (w : Int) (i : Nat) : List Int := ((List.range i).filter fun j => (c.abs.getD j noAb).when == w).map fun (j : Nat) => (j : Int)
/-- The places of the abilities that count then. -/
def usesF (c : Card) (w : Int) : List Int := usesUp c w c.abs.length
theorem uses_yes {c : Card} {w : Int} {i : Nat} (h : ((c.abs.getD i noAb).when == w) = true) : usesUp c w (i + 1) = usesUp c w i ++ [(i : Int)] := by
  simp [-List.getD_eq_getElem?_getD, usesUp, List.range_succ, List.filter_append, h]
theorem uses_no {c : Card} {w : Int} {i : Nat} (h : ((c.abs.getD i noAb).when == w) = false) : usesUp c w (i + 1) = usesUp c w i := by
  simp [-List.getD_eq_getElem?_getD, usesUp, List.range_succ, List.filter_append, h]
theorem uses_le {c : Card} {w : Int} {i : Nat} : (usesUp c w i).length ≤ i := by
  unfold usesUp; rw [List.length_map]; exact Nat.le_trans (List.length_filter_le _ _) (by simp)
theorem abil_at {l : List Abil} {i : Nat} (h : i < l.length) : ((l.flatMap cAbil).drop ((i : Int).toNat * 14)).take 14 = cAbil (l.getD i noAb) := by
  rw [Int.toNat_natCast]; exact flat_at (f := cAbil) (n := 14) (fun _ => rfl) noAb h
theorem cInts_app (l : List Int) (x : Int) : cInts (l ++ [x]) = cInts l ++ [.int .i64 x] := by simp [cInts]

theorem uses_calls (c : Card) (w : Int) (hb : c.abs.length ≤ 1000) (h : Hp) : ACalls Tryz.prog G 113 [eCard c, .int .i64 w] h fun r h' => r = eInts (usesF c w) ∧ h' = h := by
  refine ACalls.enter Tryz.func113 rfl Tryz.ntmps113 Tryz.results113 rfl ?_
  refine AW.seq ?_
  refine AW.region ?_
  refine AOps.q rfl rfl rfl (q_boxa rfl (rfl : _ = V.agg _)) ?_
  refine AOps.q rfl rfl rfl (q_as rfl (rfl : _ = V.snil)) ?_
  refine AOps.nil ?_
  refine AW.seq ?_
  refine AW.region ?_
  refine AOps.q rfl rfl rfl (q_as rfl (rfl : _ = V.snil)) ?_
  refine AOps.nil ?_
  refine AW.seq ?_
  refine AW.seq ?_
  refine AW.region ?_
  refine AOps.q rfl rfl rfl (q_fa_i rfl Tryz.underlying92 rfl (by exact Tryz.sizeOf90) (by decide) rfl (rfl : _ = List.drop 12 _)) ?_
  refine AOps.q rfl rfl rfl (q_load_i1 rfl Tryz.isAgg90 rfl rfl) ?_
  refine AOps.q rfl rfl rfl (q_len rfl Tryz.underlying90 rfl) ?_
  refine AOps.q rfl rfl rfl (q_mv rfl (rfl : _ = V.int _ _)) ?_
  refine AOps.nil ?_
  refine AW.block ?_
  refine AW.loop (fun n T hh => ∃ (i : Nat) (v : V), i ≤ c.abs.length ∧ n = c.abs.length - i ∧ T = put (put (put (put (put (T0) 11 (V.int .i64 (i : Nat))) 10 (V.int .i64 c.abs.length)) 9 (V.sl .imm 14 c.abs.length (c.abs.flatMap cAbil))) 5 (v)) 1 (V.int .i64 w) ∧ Go.AV.Acc h 1 (usesUp c w i).length (cInts (usesUp c w i)) v hh) (c.abs.length) ?_ ?_
  · skip
    refine Wk.mk (TLe.put (d := 1) (VLe.refl _) (TLe.put (d := 5) (VLe.refl _) (TLe.put (d := 9) (VLe.refl _) (TLe.put (d := 10) (VLe.refl _) (TLe.put (d := 11) (by exact VLe.of_eq (congrArg (V.int .i64) (by first | rfl | omega))) (TLe.zero _)))))) (HLe.refl _) ⟨0, V.snil, Nat.zero_le _, rfl, rfl, by exact Go.AV.Acc.nil h 1⟩
  · skip
    rintro n T h' ⟨i, v, hi, rfl, rfl, hem⟩
    refine AW.seq ?_
    refine AW.region ?_
    refine AOps.q rfl rfl rfl (q_lt rfl rfl rfl) ?_
    refine AOps.nil ?_
    refine AW.seq ?_
    refine AW.cond rfl (fun c0 => ?_) (fun c0 => ?_)
    · have hlt : i < c.abs.length := by have := of_decide_eq_true c0; omega
      have hul := uses_le (c := c) (w := w) (i := i)
      refine AW.skip ?_
      refine AW.seq ?_
      refine AW.block ?_
      refine AW.seq ?_
      refine AW.region ?_
      refine AOps.q rfl rfl rfl (q_mv rfl (rfl : _ = V.int _ _)) ?_
      refine AOps.q rfl rfl rfl (q_ia_s rfl Tryz.underlying90 Tryz.sizeOf136 rfl rfl (by omega) (by omega) (abil_at hlt)) ?_
      refine AOps.q rfl rfl rfl (q_load_iW rfl Tryz.isAgg136 Tryz.sizeOf136 rfl (by rfl)) ?_
      refine AOps.s rfl rfl rfl (a_alloc rfl Tryz.zeroValue136 rfl (fun id7 hid7 => ?_))
      refine AOps.q rfl rfl rfl (q_as rfl (rfl : _ = V.int _ _)) ?_
      refine AOps.s0 rfl rfl (a_storeWA rfl Tryz.sizeOf136 rfl rfl (rfl : _ = V.agg _) rfl rfl ?_)
      refine AOps.done 7 rfl hid7 ?_
      refine AOps.nil ?_
      refine AW.seq ?_
      refine AW.region ?_
      refine AOps.q rfl rfl rfl (q_fa_i rfl Tryz.underlying136 rfl (by exact Tryz.sizeOf3) (by decide) rfl (rfl : _ = List.drop 0 _)) ?_
      refine AOps.q rfl rfl rfl (q_load_i1 rfl Tryz.isAgg3 rfl rfl) ?_
      refine AOps.q rfl rfl rfl (q_mv rfl (rfl : _ = V.int _ _)) ?_
      refine AOps.q rfl rfl rfl (q_eq rfl rfl rfl) ?_
      refine AOps.nil ?_
      refine AW.cond rfl (fun c1 => ?_) (fun c1 => ?_)
      · skip
        refine AW.region ?_
        refine AOps.q rfl rfl rfl (q_mv rfl (rfl : _ = _)) ?_
        refine AOps.q rfl rfl rfl (q_mv rfl (rfl : _ = V.int _ _)) ?_
        refine AOps.q rfl rfl rfl (q_buildSl rfl Tryz.underlying23 Tryz.sizeOf3 Tryz.zeroValue3 rfl rfl rfl rfl rfl) ?_
        refine AOps.s rfl rfl rfl (a_append rfl Tryz.underlying23 (i := Tryz.t3) (by kernel_rfl) rfl (n := 1) (by' := 8) rfl rfl rfl rfl hem rfl rfl (by decide) (by omega) (by omega) rfl (fun v2 h2 acc => ?_))
        refine AOps.q rfl rfl rfl (q_as rfl (rfl : _ = _)) ?_
        refine AOps.nil ?_
        refine AW.region ?_
        refine AOps.q rfl rfl rfl (q_add' rfl rfl rfl (by omega)) ?_
        refine AOps.q rfl rfl rfl (q_mv rfl (rfl : _ = V.int _ _)) ?_
        refine AOps.nil ?_
        refine Wk.mk (TLe.put (d := 1) (VLe.refl _) (TLe.put (d := 5) (VLe.refl _) (TLe.put (d := 9) (VLe.refl _) (TLe.put (d := 10) (VLe.refl _) (TLe.put (d := 11) (by exact VLe.of_eq (congrArg (V.int .i64) (by first | rfl | omega))) (TLe.zero _)))))) (HLe.refl _) ⟨_, ?_, i + 1, _, ?_, rfl, rfl, by first | (rw [uses_yes c1, cInts_app, List.length_append]; exact acc) | (rw [uses_no c1]; exact hem)⟩
        · omega
        · omega
      · skip
        refine AW.skip ?_
        refine AW.region ?_
        refine AOps.q rfl rfl rfl (q_add' rfl rfl rfl (by omega)) ?_
        refine AOps.q rfl rfl rfl (q_mv rfl (rfl : _ = V.int _ _)) ?_
        refine AOps.nil ?_
        refine Wk.mk (TLe.put (d := 1) (VLe.refl _) (TLe.put (d := 5) (VLe.refl _) (TLe.put (d := 9) (VLe.refl _) (TLe.put (d := 10) (VLe.refl _) (TLe.put (d := 11) (by exact VLe.of_eq (congrArg (V.int .i64) (by first | rfl | omega))) (TLe.zero _)))))) (HLe.refl _) ⟨_, ?_, i + 1, _, ?_, rfl, rfl, by first | (rw [uses_yes c1, cInts_app, List.length_append]; exact acc) | (rw [uses_no c1]; exact hem)⟩
        · omega
        · omega
    · obtain rfl : i = c.abs.length := by have := of_decide_eq_false c0; omega
      refine AW.exit ?_
      refine AW.seq ?_
      refine AW.region ?_
      refine AOps.q rfl rfl rfl (q_mv rfl (rfl : _ = _)) ?_
      refine AOps.q rfl rfl rfl (q_as rfl (rfl : _ = _)) ?_
      refine AOps.nil ?_
      refine AW.ret ?_
      exact retQ.mk' (.one _) hem.vle hem.hle ⟨rfl, rfl⟩

end Go.Proofs.YtnbmcbkokaoapaaGreatDoor
