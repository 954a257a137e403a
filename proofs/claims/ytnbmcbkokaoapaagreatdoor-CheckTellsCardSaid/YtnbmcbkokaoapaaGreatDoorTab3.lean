/- Walks: the cards. -/
import Derived.Test.YtnbmcbkokaoapaaGreatDoorTab2
namespace Go.Proofs.YtnbmcbkokaoapaaGreatDoor
open Go Go.AV
set_option maxRecDepth 100000
set_option maxHeartbeats 1000000
def sourceF (n : Int) : Card := if n < 5 then ⟨0, n, false, noCost, 0, 0, 0, [manaF 1 n]⟩ else ⟨0, 5, false, noCost, 0, 0, 0, [whenF 2 (doF 3 (1 + (n - 5)) 0 0), manaF (1 + (n - 5) / 2) 5]⟩

theorem source_calls (n : Int) (hn : 0 ≤ n ∧ n < 10) (h : Hp) : ACalls Tryz.prog G 134 [.int .i64 n] h fun r h' => r = eCard (sourceF n) ∧ h' = h := by
  refine ACalls.enter Tryz.func134 rfl Tryz.ntmps134 Tryz.results134 rfl ?_
  refine AW.seq ?_
  refine AW.region ?_
  refine AOps.s rfl rfl rfl (a_alloc rfl Tryz.zeroValue92 rfl (fun id2 hid2 => ?_))
  refine AOps.nil ?_
  refine AW.seq ?_
  refine AW.seq ?_
  refine AW.region ?_
  refine AOps.q rfl rfl rfl (q_mv rfl (rfl : _ = V.int _ _)) ?_
  refine AOps.q rfl rfl rfl (q_lt rfl rfl rfl) ?_
  refine AOps.nil ?_
  refine AW.cond rfl (fun c0 => ?_) (fun c0 => ?_)
  · skip
    refine AW.seq ?_
    refine AW.region ?_
    refine AOps.q rfl rfl rfl (q_mv rfl (rfl : _ = V.int _ _)) ?_
    refine AOps.q rfl rfl rfl (q_mv rfl (rfl : _ = V.int _ _)) ?_
    refine AOps.q rfl rfl rfl (QOp.call rfl (by exact Tryz.call144) fun h' hl' => by exact tMana_calls _ _ h') ?_
    refine AOps.q rfl rfl rfl (q_buildSl (ds := cAbil (manaF 1 n)) rfl Tryz.underlying90 Tryz.sizeOf136 Tryz.zeroValue136 rfl rfl rfl rfl (by kernel_rfl)) ?_
    refine AOps.q rfl rfl rfl (q_buildS (ds := [.int .i64 0, .int .i64 n, .bool false, .int .i64 (noCost 0), .int .i64 (noCost 1), .int .i64 (noCost 2), .int .i64 (noCost 3), .int .i64 (noCost 4), .int .i64 (noCost 5), .int .i64 0, .int .i64 0, .int .i64 0, .sl .full 14 1 (cAbil (manaF 1 n))]) rfl Tryz.zeroValue92 Tryz.underlying92 (pl92 Tryz.underlying92) rfl (by kernel_rfl)) ?_
    refine AOps.s0 rfl rfl (a_storeWA rfl Tryz.sizeOf92 rfl rfl (rfl : _ = V.agg _) rfl rfl ?_)
    refine AOps.nil ?_
    refine AW.ret ?_
    exact retQ.mk' (Res.cellB Tryz.isAgg92 Tryz.sizeOf92 rfl (by exact Hp.box_setBox _ _ _) rfl) (VLe.trans (LLe.wk 14 _).agg (.of_eq (congrArg V.agg (by rw [sourceF, if_pos (by simpa using c0)]; rfl)))) (HLe.setBox hid2.1) ⟨rfl, rfl⟩
  · have h5 : 5 ≤ n := by simpa using c0
    refine AW.skip ?_
    refine AW.seq ?_
    refine AW.region ?_
    refine AOps.q rfl rfl rfl (q_mv rfl (rfl : _ = V.int _ _)) ?_
    refine AOps.q rfl rfl rfl (q_sub' rfl rfl rfl (by omega)) ?_
    refine AOps.q rfl rfl rfl (q_as rfl (rfl : _ = V.int _ _)) ?_
    refine AOps.nil ?_
    refine AW.seq ?_
    refine AW.region ?_
    refine AOps.q rfl rfl rfl (q_mv rfl (rfl : _ = V.int _ _)) ?_
    refine AOps.q rfl rfl rfl (q_add' rfl rfl rfl (by omega)) ?_
    refine AOps.q rfl rfl rfl (QOp.call rfl (by exact Tryz.call146) fun h' hl' => by exact tDo_calls _ _ _ _ h') ?_
    refine AOps.q rfl rfl rfl (QOp.call rfl (by exact Tryz.call145) fun h' hl' => by exact tWhen_calls _ _ h') ?_
    refine AOps.q rfl rfl rfl (q_mv rfl (rfl : _ = V.int _ _)) ?_
    refine AOps.q rfl rfl rfl (q_quo' rfl rfl rfl (by omega) (by omega)) ?_
    refine AOps.q rfl rfl rfl (q_add' rfl rfl rfl (by omega)) ?_
    refine AOps.q rfl rfl rfl (QOp.call rfl (by exact Tryz.call144) fun h' hl' => by exact tMana_calls _ _ h') ?_
    refine AOps.q rfl rfl rfl (q_buildSl (ds := cAbil (whenF 2 (doF 3 (1 + (n - 5)) 0 0)) ++ cAbil (manaF (1 + (n - 5) / 2) 5)) rfl Tryz.underlying90 Tryz.sizeOf136 Tryz.zeroValue136 rfl rfl rfl rfl (by kernel_rfl)) ?_
    refine AOps.q rfl rfl rfl (q_buildS (ds := [.int .i64 0, .int .i64 5, .bool false, .int .i64 (noCost 0), .int .i64 (noCost 1), .int .i64 (noCost 2), .int .i64 (noCost 3), .int .i64 (noCost 4), .int .i64 (noCost 5), .int .i64 0, .int .i64 0, .int .i64 0, .sl .full 14 2 (cAbil (whenF 2 (doF 3 (1 + (n - 5)) 0 0)) ++ cAbil (manaF (1 + (n - 5) / 2) 5))]) rfl Tryz.zeroValue92 Tryz.underlying92 (pl92 Tryz.underlying92) rfl (by kernel_rfl)) ?_
    refine AOps.s0 rfl rfl (a_storeWA rfl Tryz.sizeOf92 rfl rfl (rfl : _ = V.agg _) rfl rfl ?_)
    refine AOps.nil ?_
    refine AW.ret ?_
    exact retQ.mk' (Res.cellB Tryz.isAgg92 Tryz.sizeOf92 rfl (by exact Hp.box_setBox _ _ _) rfl) (VLe.trans (LLe.wk 14 _).agg (.of_eq (congrArg V.agg (by rw [sourceF, if_neg (by simpa using c0)]; rfl)))) (HLe.setBox hid2.1) ⟨rfl, rfl⟩

theorem q_shl1 {P : Program} {G : Nat → Option (List V)} {h : Hp} {o : Oper} {ρ : Operand → V} {t t2 : TypeId} {x y : Operand} (ho : o.op = .binOp .shl t x y t2) {k : Int} (hx : ρ x = .int .i64 1) (hy : ρ y = .int .u64 (IntKind.u64.wrap k)) (hk : 0 ≤ k ∧ k < 8) : QOp P G h o ρ (.int .i64 (2 ^ k.toNat)) := by
  obtain ⟨n, rfl⟩ := Int.eq_ofNat_of_zero_le hk.1
  have hn : n = 0 ∨ n = 1 ∨ n = 2 ∨ n = 3 ∨ n = 4 ∨ n = 5 ∨ n = 6 ∨ n = 7 := by omega
  have h0 : 0 ≤ IntKind.u64.wrap (n : Int) := by rcases hn with e | e | e | e | e | e | e | e <;> subst e <;> decide +kernel
  have := q_shl (P := P) (G := G) (h := h) ho hx hy h0
  have e : IntKind.i64.wrap (1 * 2 ^ (min (IntKind.u64.wrap (n : Int)).toNat IntKind.i64.bits)) = 2 ^ ((n : Int)).toNat := by rcases hn with e | e | e | e | e | e | e | e <;> subst e <;> decide +kernel
  rwa [e] at this
def beastF (i : Int) : Card :=
  if i % 5 = 0 then ⟨1, i % 5, false, costF (i % 5) (1 + i / 5 / 4) (i / 5), i / 5 / 2 + 1, (i / 5 + 1) / 2 + 1, 2 ^ (i / 5).toNat, [whenF 2 (doF 2 (i / 5 + 1) 0 0)]⟩
  else if i % 5 = 1 then ⟨1, i % 5, false, costF (i % 5) (1 + i / 5 / 4) (i / 5), i / 5 / 2 + 1, (i / 5 + 1) / 2 + 1, 2 ^ (i / 5).toNat, if i / 5 % 2 = 1 then [whenF 2 (doF 4 1 0 0)] else []⟩
  else if i % 5 = 2 then ⟨1, i % 5, false, costF (i % 5) (1 + i / 5 / 4) (i / 5), i / 5 / 2 + 1, (i / 5 + 1) / 2 + 1, 2 ^ (i / 5).toNat, [whenF 3 (doF 3 (i / 5 / 2 + 1) 0 1)]⟩
  else if i % 5 = 3 then ⟨1, i % 5, false, costF (i % 5) (1 + i / 5 / 4) (i / 5), i / 5 / 2 + 1 + 1, (i / 5 + 1) / 2 + 1, 2 ^ (i / 5).toNat, [activeF (costF (i % 5) 1 0) true 3 (doF 1 1 0 2)]⟩
  else ⟨1, i % 5, false, costF (i % 5) (1 + i / 5 / 4) (i / 5), i / 5 / 2 + 1, (i / 5 + 1) / 2 + 1 + 1, 2 ^ (i / 5).toNat, [activeF (costF (i % 5) 1 0) false 0 (doF 10 1 1 3)]⟩

theorem beast_calls (i : Int) (hi : 0 ≤ i ∧ i < 40) (h : Hp) : ACalls Tryz.prog G 135 [.int .i64 i] h fun r h' => r = eCard (beastF i) ∧ h' = h := by
  refine ACalls.enter Tryz.func135 rfl Tryz.ntmps135 Tryz.results135 rfl ?_
  refine AW.seq ?_
  refine AW.region ?_
  refine AOps.s rfl rfl rfl (a_alloc rfl Tryz.zeroValue92 rfl (fun id2 hid2 => ?_))
  refine AOps.nil ?_
  refine AW.seq ?_
  refine AW.region ?_
  refine AOps.q rfl rfl rfl (q_mv rfl (rfl : _ = V.int _ _)) ?_
  refine AOps.q rfl rfl rfl (q_rem' rfl rfl rfl (by omega) (by omega)) ?_
  refine AOps.q rfl rfl rfl (q_mv rfl (rfl : _ = V.int _ _)) ?_
  refine AOps.q rfl rfl rfl (q_quo' rfl rfl rfl (by omega) (by omega)) ?_
  refine AOps.q rfl rfl rfl (q_as rfl (rfl : _ = V.int _ _)) ?_
  refine AOps.q rfl rfl rfl (q_as rfl (rfl : _ = V.int _ _)) ?_
  refine AOps.nil ?_
  refine AW.seq ?_
  refine AW.region ?_
  refine AOps.q rfl rfl rfl (q_mv rfl (rfl : _ = V.int _ _)) ?_
  refine AOps.q rfl rfl rfl (q_mv rfl (rfl : _ = V.int _ _)) ?_
  refine AOps.q rfl rfl rfl (q_mv rfl (rfl : _ = V.int _ _)) ?_
  refine AOps.q rfl rfl rfl (q_quo' rfl rfl rfl (by omega) (by omega)) ?_
  refine AOps.q rfl rfl rfl (q_add' rfl rfl rfl (by omega)) ?_
  refine AOps.q rfl rfl rfl (q_mv rfl (rfl : _ = V.int _ _)) ?_
  refine AOps.q rfl rfl rfl (QOp.call rfl (by exact Tryz.call136) fun h' hl' => by exact tCost_calls _ _ _ (by omega) (by omega) h') ?_
  refine AOps.q rfl rfl rfl (q_mv rfl (rfl : _ = V.int _ _)) ?_
  refine AOps.q rfl rfl rfl (q_quo' rfl rfl rfl (by omega) (by omega)) ?_
  refine AOps.q rfl rfl rfl (q_add' rfl rfl rfl (by omega)) ?_
  refine AOps.q rfl rfl rfl (q_mv rfl (rfl : _ = V.int _ _)) ?_
  refine AOps.q rfl rfl rfl (q_add' rfl rfl rfl (by omega)) ?_
  refine AOps.q rfl rfl rfl (q_quo' rfl rfl rfl (by omega) (by omega)) ?_
  refine AOps.q rfl rfl rfl (q_add' rfl rfl rfl (by omega)) ?_
  refine AOps.q rfl rfl rfl (q_mv rfl (rfl : _ = V.int _ _)) ?_
  refine AOps.q rfl rfl rfl (q_conv rfl Tryz.underlying3 Tryz.underlying149 rfl) ?_
  refine AOps.q rfl rfl rfl (q_shl1 rfl rfl rfl (by omega)) ?_
  refine AOps.q rfl rfl rfl (q_buildS (ds := [.int .i64 1, .int .i64 (i % 5), .bool false, .int .i64 (costF (i % 5) (1 + i / 5 / 4) (i / 5) 0), .int .i64 (costF (i % 5) (1 + i / 5 / 4) (i / 5) 1), .int .i64 (costF (i % 5) (1 + i / 5 / 4) (i / 5) 2), .int .i64 (costF (i % 5) (1 + i / 5 / 4) (i / 5) 3), .int .i64 (costF (i % 5) (1 + i / 5 / 4) (i / 5) 4), .int .i64 (costF (i % 5) (1 + i / 5 / 4) (i / 5) 5), .int .i64 (i / 5 / 2 + 1), .int .i64 ((i / 5 + 1) / 2 + 1), .int .i64 (2 ^ (i / 5).toNat), .snil]) rfl Tryz.zeroValue92 Tryz.underlying92 (pl92 Tryz.underlying92) rfl (by kernel_rfl)) ?_
  refine AOps.s rfl rfl rfl (a_alloc rfl Tryz.zeroValue92 rfl (fun id5 hid5 => ?_))
  refine AOps.s0 rfl rfl (a_storeWA rfl Tryz.sizeOf92 rfl rfl (rfl : _ = V.agg _) rfl rfl ?_)
  refine AOps.nil ?_
  refine AW.seq ?_
  refine AW.seq ?_
  refine AW.region ?_
  refine AOps.q rfl rfl rfl (q_mv rfl (rfl : _ = V.int _ _)) ?_
  refine AOps.nil ?_
  refine AW.block ?_
  refine AW.seq ?_
  refine AW.region ?_
  refine AOps.q rfl rfl rfl (q_eq rfl rfl rfl) ?_
  refine AOps.q rfl rfl rfl (q_as rfl (rfl : _ = V.bool _)) ?_
  refine AOps.nil ?_
  refine AW.cond rfl (fun c0 => ?_) (fun c0 => ?_)
  · skip
    refine AW.region ?_
    refine AOps.q rfl rfl rfl (q_mv rfl (rfl : _ = V.int _ _)) ?_
    refine AOps.q rfl rfl rfl (q_add' rfl rfl rfl (by omega)) ?_
    refine AOps.q rfl rfl rfl (QOp.call rfl (by exact Tryz.call146) fun h' hl' => by exact tDo_calls _ _ _ _ h') ?_
    refine AOps.q rfl rfl rfl (QOp.call rfl (by exact Tryz.call145) fun h' hl' => by exact tWhen_calls _ _ h') ?_
    refine AOps.q rfl rfl rfl (q_buildSl (ds := cAbil (whenF 2 (doF 2 (i / 5 + 1) 0 0))) rfl Tryz.underlying90 Tryz.sizeOf136 Tryz.zeroValue136 rfl rfl rfl rfl (by kernel_rfl)) ?_
    refine AOps.q rfl rfl rfl (q_fa_b rfl Tryz.underlying92 rfl (by exact Tryz.sizeOf90) (by decide) rfl (rfl : _ = 12)) ?_
    refine AOps.s0 rfl rfl (a_store1 rfl Tryz.sizeOf90 rfl (by exact Hp.box_setBox _ _ _) (rfl : _ = V.sl _ _ _ _) rfl rfl (by first | decide | exact Nat.le_of_ble_eq_true rfl) ?_)
    refine AOps.nil ?_
    refine AW.seq ?_
    first | rw [Hp.setBox_setBox, Hp.setBox_setBox] | rw [Hp.setBox_setBox] | skip
    refine AW.done 5 rfl hid5 ?_
    refine AW.region ?_
    refine AOps.q rfl rfl rfl (q_load_iW rfl Tryz.isAgg92 Tryz.sizeOf92 rfl (by rfl)) ?_
    refine AOps.s0 rfl rfl (a_storeWA rfl Tryz.sizeOf92 rfl rfl (rfl : _ = V.agg _) rfl rfl ?_)
    refine AOps.nil ?_
    refine AW.ret ?_
    exact retQ.mk' (Res.cellB Tryz.isAgg92 Tryz.sizeOf92 rfl (by exact Hp.box_setBox _ _ _) rfl) (VLe.trans (LLe.wk 14 _).agg (.of_eq (congrArg V.agg (by rw [beastF, if_pos (by simpa using c0)]; rfl)))) (HLe.setBox hid2.1) ⟨rfl, rfl⟩
  · skip
    refine AW.seq ?_
    refine AW.region ?_
    refine AOps.q rfl rfl rfl (q_eq rfl rfl rfl) ?_
    refine AOps.q rfl rfl rfl (q_as rfl (rfl : _ = V.bool _)) ?_
    refine AOps.nil ?_
    refine AW.cond rfl (fun c1 => ?_) (fun c1 => ?_)
    · skip
      refine AW.seq ?_
      refine AW.region ?_
      refine AOps.q rfl rfl rfl (q_mv rfl (rfl : _ = V.int _ _)) ?_
      refine AOps.q rfl rfl rfl (q_rem' rfl rfl rfl (by omega) (by omega)) ?_
      refine AOps.q rfl rfl rfl (q_eq rfl rfl rfl) ?_
      refine AOps.nil ?_
      refine AW.cond rfl (fun c2 => ?_) (fun c2 => ?_)
      · skip
        refine AW.region ?_
        refine AOps.q rfl rfl rfl (QOp.call rfl (by exact Tryz.call146) fun h' hl' => by exact tDo_calls _ _ _ _ h') ?_
        refine AOps.q rfl rfl rfl (QOp.call rfl (by exact Tryz.call145) fun h' hl' => by exact tWhen_calls _ _ h') ?_
        refine AOps.q rfl rfl rfl (q_buildSl (ds := cAbil (whenF 2 (doF 4 1 0 0))) rfl Tryz.underlying90 Tryz.sizeOf136 Tryz.zeroValue136 rfl rfl rfl rfl (by kernel_rfl)) ?_
        refine AOps.q rfl rfl rfl (q_fa_b rfl Tryz.underlying92 rfl (by exact Tryz.sizeOf90) (by decide) rfl (rfl : _ = 12)) ?_
        refine AOps.s0 rfl rfl (a_store1 rfl Tryz.sizeOf90 rfl (by exact Hp.box_setBox _ _ _) (rfl : _ = V.sl _ _ _ _) rfl rfl (by first | decide | exact Nat.le_of_ble_eq_true rfl) ?_)
        refine AOps.nil ?_
        refine AW.seq ?_
        first | rw [Hp.setBox_setBox, Hp.setBox_setBox] | rw [Hp.setBox_setBox] | skip
        refine AW.done 5 rfl hid5 ?_
        refine AW.region ?_
        refine AOps.q rfl rfl rfl (q_load_iW rfl Tryz.isAgg92 Tryz.sizeOf92 rfl (by rfl)) ?_
        refine AOps.s0 rfl rfl (a_storeWA rfl Tryz.sizeOf92 rfl rfl (rfl : _ = V.agg _) rfl rfl ?_)
        refine AOps.nil ?_
        refine AW.ret ?_
        exact retQ.mk' (Res.cellB Tryz.isAgg92 Tryz.sizeOf92 rfl (by exact Hp.box_setBox _ _ _) rfl) (VLe.trans (LLe.wk 14 _).agg (.of_eq (congrArg V.agg (by rw [beastF, if_neg (by simpa using c0), if_pos (by simpa using c1), if_pos (by simpa using c2)]; rfl)))) (HLe.setBox hid2.1) ⟨rfl, rfl⟩
      · skip
        refine AW.skip ?_
        refine AW.seq ?_
        first | rw [Hp.setBox_setBox, Hp.setBox_setBox] | rw [Hp.setBox_setBox] | skip
        refine AW.done 5 rfl hid5 ?_
        refine AW.region ?_
        refine AOps.q rfl rfl rfl (q_load_iW rfl Tryz.isAgg92 Tryz.sizeOf92 rfl (by rfl)) ?_
        refine AOps.s0 rfl rfl (a_storeWA rfl Tryz.sizeOf92 rfl rfl (rfl : _ = V.agg _) rfl rfl ?_)
        refine AOps.nil ?_
        refine AW.ret ?_
        exact retQ.mk' (Res.cellB Tryz.isAgg92 Tryz.sizeOf92 rfl (by exact Hp.box_setBox _ _ _) rfl) (VLe.trans (LLe.wk 14 _).agg (.of_eq (congrArg V.agg (by rw [beastF, if_neg (by simpa using c0), if_pos (by simpa using c1), if_neg (by simpa using c2)]; rfl)))) (HLe.setBox hid2.1) ⟨rfl, rfl⟩
    · skip
      refine AW.seq ?_
      refine AW.region ?_
      refine AOps.q rfl rfl rfl (q_eq rfl rfl rfl) ?_
      refine AOps.q rfl rfl rfl (q_as rfl (rfl : _ = V.bool _)) ?_
      refine AOps.nil ?_
      refine AW.cond rfl (fun c3 => ?_) (fun c3 => ?_)
      · skip
        refine AW.region ?_
        refine AOps.q rfl rfl rfl (q_mv rfl (rfl : _ = V.int _ _)) ?_
        refine AOps.q rfl rfl rfl (q_quo' rfl rfl rfl (by omega) (by omega)) ?_
        refine AOps.q rfl rfl rfl (q_add' rfl rfl rfl (by omega)) ?_
        refine AOps.q rfl rfl rfl (QOp.call rfl (by exact Tryz.call146) fun h' hl' => by exact tDo_calls _ _ _ _ h') ?_
        refine AOps.q rfl rfl rfl (QOp.call rfl (by exact Tryz.call145) fun h' hl' => by exact tWhen_calls _ _ h') ?_
        refine AOps.q rfl rfl rfl (q_buildSl (ds := cAbil (whenF 3 (doF 3 (i / 5 / 2 + 1) 0 1))) rfl Tryz.underlying90 Tryz.sizeOf136 Tryz.zeroValue136 rfl rfl rfl rfl (by kernel_rfl)) ?_
        refine AOps.q rfl rfl rfl (q_fa_b rfl Tryz.underlying92 rfl (by exact Tryz.sizeOf90) (by decide) rfl (rfl : _ = 12)) ?_
        refine AOps.s0 rfl rfl (a_store1 rfl Tryz.sizeOf90 rfl (by exact Hp.box_setBox _ _ _) (rfl : _ = V.sl _ _ _ _) rfl rfl (by first | decide | exact Nat.le_of_ble_eq_true rfl) ?_)
        refine AOps.nil ?_
        refine AW.seq ?_
        first | rw [Hp.setBox_setBox, Hp.setBox_setBox] | rw [Hp.setBox_setBox] | skip
        refine AW.done 5 rfl hid5 ?_
        refine AW.region ?_
        refine AOps.q rfl rfl rfl (q_load_iW rfl Tryz.isAgg92 Tryz.sizeOf92 rfl (by rfl)) ?_
        refine AOps.s0 rfl rfl (a_storeWA rfl Tryz.sizeOf92 rfl rfl (rfl : _ = V.agg _) rfl rfl ?_)
        refine AOps.nil ?_
        refine AW.ret ?_
        exact retQ.mk' (Res.cellB Tryz.isAgg92 Tryz.sizeOf92 rfl (by exact Hp.box_setBox _ _ _) rfl) (VLe.trans (LLe.wk 14 _).agg (.of_eq (congrArg V.agg (by rw [beastF, if_neg (by simpa using c0), if_neg (by simpa using c1), if_pos (by simpa using c3)]; rfl)))) (HLe.setBox hid2.1) ⟨rfl, rfl⟩
      · skip
        refine AW.seq ?_
        refine AW.region ?_
        refine AOps.q rfl rfl rfl (q_eq rfl rfl rfl) ?_
        refine AOps.q rfl rfl rfl (q_as rfl (rfl : _ = V.bool _)) ?_
        refine AOps.nil ?_
        refine AW.cond rfl (fun c4 => ?_) (fun c4 => ?_)
        · skip
          refine AW.seq ?_
          refine AW.region ?_
          refine AOps.q rfl rfl rfl (q_fa_b rfl Tryz.underlying92 rfl (by exact Tryz.sizeOf3) (by decide) rfl (rfl : _ = 9)) ?_
          refine AOps.q rfl rfl rfl (q_load_b1 rfl Tryz.isAgg3 rfl (by exact Hp.box_setBox _ _ _) rfl) ?_
          refine AOps.q rfl rfl rfl (q_add' rfl rfl rfl (by omega)) ?_
          refine AOps.q rfl rfl rfl (q_fa_b rfl Tryz.underlying92 rfl (by exact Tryz.sizeOf3) (by decide) rfl (rfl : _ = 9)) ?_
          refine AOps.s0 rfl rfl (a_store1 rfl Tryz.sizeOf3 rfl (by exact Hp.box_setBox _ _ _) (rfl : _ = V.int _ _) rfl rfl (by first | decide | exact Nat.le_of_ble_eq_true rfl) ?_)
          refine AOps.nil ?_
          refine AW.region ?_
          refine AOps.q rfl rfl rfl (q_mv rfl (rfl : _ = V.int _ _)) ?_
          refine AOps.q rfl rfl rfl (QOp.call rfl (by exact Tryz.call136) fun h' hl' => by exact tCost_calls _ _ _ (by omega) (by omega) h') ?_
          refine AOps.q rfl rfl rfl (QOp.call rfl (by exact Tryz.call146) fun h' hl' => by exact tDo_calls _ _ _ _ h') ?_
          refine AOps.q rfl rfl rfl (QOp.call rfl (by exact Tryz.call147) fun h' hl' => by exact tActive_calls _ _ _ _ h') ?_
          refine AOps.q rfl rfl rfl (q_buildSl (ds := cAbil (activeF (costF (i % 5) 1 0) true 3 (doF 1 1 0 2))) rfl Tryz.underlying90 Tryz.sizeOf136 Tryz.zeroValue136 rfl rfl rfl rfl (by kernel_rfl)) ?_
          refine AOps.q rfl rfl rfl (q_fa_b rfl Tryz.underlying92 rfl (by exact Tryz.sizeOf90) (by decide) rfl (rfl : _ = 12)) ?_
          refine AOps.s0 rfl rfl (a_store1 rfl Tryz.sizeOf90 rfl (by exact Hp.box_setBox _ _ _) (rfl : _ = V.sl _ _ _ _) rfl rfl (by first | decide | exact Nat.le_of_ble_eq_true rfl) ?_)
          refine AOps.nil ?_
          refine AW.seq ?_
          first | rw [Hp.setBox_setBox, Hp.setBox_setBox] | rw [Hp.setBox_setBox] | skip
          refine AW.done 5 rfl hid5 ?_
          refine AW.region ?_
          refine AOps.q rfl rfl rfl (q_load_iW rfl Tryz.isAgg92 Tryz.sizeOf92 rfl (by rfl)) ?_
          refine AOps.s0 rfl rfl (a_storeWA rfl Tryz.sizeOf92 rfl rfl (rfl : _ = V.agg _) rfl rfl ?_)
          refine AOps.nil ?_
          refine AW.ret ?_
          exact retQ.mk' (Res.cellB Tryz.isAgg92 Tryz.sizeOf92 rfl (by exact Hp.box_setBox _ _ _) rfl) (VLe.trans (LLe.wk 14 _).agg (.of_eq (congrArg V.agg (by rw [beastF, if_neg (by simpa using c0), if_neg (by simpa using c1), if_neg (by simpa using c3), if_pos (by simpa using c4)]; rfl)))) (HLe.setBox hid2.1) ⟨rfl, rfl⟩
        · skip
          refine AW.seq ?_
          refine AW.region ?_
          refine AOps.q rfl rfl rfl (q_fa_b rfl Tryz.underlying92 rfl (by exact Tryz.sizeOf3) (by decide) rfl (rfl : _ = 10)) ?_
          refine AOps.q rfl rfl rfl (q_load_b1 rfl Tryz.isAgg3 rfl (by exact Hp.box_setBox _ _ _) rfl) ?_
          refine AOps.q rfl rfl rfl (q_add' rfl rfl rfl (by omega)) ?_
          refine AOps.q rfl rfl rfl (q_fa_b rfl Tryz.underlying92 rfl (by exact Tryz.sizeOf3) (by decide) rfl (rfl : _ = 10)) ?_
          refine AOps.s0 rfl rfl (a_store1 rfl Tryz.sizeOf3 rfl (by exact Hp.box_setBox _ _ _) (rfl : _ = V.int _ _) rfl rfl (by first | decide | exact Nat.le_of_ble_eq_true rfl) ?_)
          refine AOps.nil ?_
          refine AW.region ?_
          refine AOps.q rfl rfl rfl (q_mv rfl (rfl : _ = V.int _ _)) ?_
          refine AOps.q rfl rfl rfl (QOp.call rfl (by exact Tryz.call136) fun h' hl' => by exact tCost_calls _ _ _ (by omega) (by omega) h') ?_
          refine AOps.q rfl rfl rfl (QOp.call rfl (by exact Tryz.call146) fun h' hl' => by exact tDo_calls _ _ _ _ h') ?_
          refine AOps.q rfl rfl rfl (QOp.call rfl (by exact Tryz.call147) fun h' hl' => by exact tActive_calls _ _ _ _ h') ?_
          refine AOps.q rfl rfl rfl (q_buildSl (ds := cAbil (activeF (costF (i % 5) 1 0) false 0 (doF 10 1 1 3))) rfl Tryz.underlying90 Tryz.sizeOf136 Tryz.zeroValue136 rfl rfl rfl rfl (by kernel_rfl)) ?_
          refine AOps.q rfl rfl rfl (q_fa_b rfl Tryz.underlying92 rfl (by exact Tryz.sizeOf90) (by decide) rfl (rfl : _ = 12)) ?_
          refine AOps.s0 rfl rfl (a_store1 rfl Tryz.sizeOf90 rfl (by exact Hp.box_setBox _ _ _) (rfl : _ = V.sl _ _ _ _) rfl rfl (by first | decide | exact Nat.le_of_ble_eq_true rfl) ?_)
          refine AOps.nil ?_
          refine AW.seq ?_
          first | rw [Hp.setBox_setBox, Hp.setBox_setBox] | rw [Hp.setBox_setBox] | skip
          refine AW.done 5 rfl hid5 ?_
          refine AW.region ?_
          refine AOps.q rfl rfl rfl (q_load_iW rfl Tryz.isAgg92 Tryz.sizeOf92 rfl (by rfl)) ?_
          refine AOps.s0 rfl rfl (a_storeWA rfl Tryz.sizeOf92 rfl rfl (rfl : _ = V.agg _) rfl rfl ?_)
          refine AOps.nil ?_
          refine AW.ret ?_
          exact retQ.mk' (Res.cellB Tryz.isAgg92 Tryz.sizeOf92 rfl (by exact Hp.box_setBox _ _ _) rfl) (VLe.trans (LLe.wk 14 _).agg (.of_eq (congrArg V.agg (by rw [beastF, if_neg (by simpa using c0), if_neg (by simpa using c1), if_neg (by simpa using c3), if_neg (by simpa using c4)]; rfl)))) (HLe.setBox hid2.1) ⟨rfl, rfl⟩

theorem flat_at {α : Type} {f : α → List V} {n : Nat} (hf : ∀ a, (f a).length = n) (z : α) : ∀ {l : List α} {i : Nat}, i < l.length → ((l.flatMap f).drop (i * n)).take n = f (l.getD i z)
  | [], i, h => by simp at h
  | o :: l, 0, _ => by
    simp only [List.flatMap_cons, Nat.zero_mul, List.drop_zero]
    rw [List.take_append_of_le_length (by rw [hf]; exact Nat.le_refl _), List.take_of_length_le (by rw [hf]; exact Nat.le_refl _)]; rfl
  | o :: l, i + 1, h => by
    have ih := flat_at hf z (l := l) (i := i) (by simpa using h)
    simp only [List.flatMap_cons]
    rw [show (i + 1) * n = (f o).length + i * n by rw [hf, Nat.add_mul]; omega, List.drop_append, List.drop_eq_nil_of_le (by omega)]
    simp only [List.nil_append, Nat.add_sub_cancel_left]
    rw [ih]; rfl
def noCard : Card := ⟨0, 0, false, noCost, 0, 0, 0, []⟩
def specialL : List Card := earlyL ++ lateL
def specialF (i : Int) : Card :=
  if i = 8 then ⟨1, 5, false, costF 5 0 2, 1, 1, 0, [activeF (costF 5 0 1) false 0 (doF 13 0 0 3), manaF 2 5]⟩
  else if i = 11 then ⟨1, 5, true, costF 5 0 3, 2, 3, 5, [whenF 3 (doF 4 1 0 0)]⟩
  else specialL.getD i.toNat noCard
theorem special_at {i : Int} (h0 : 0 ≤ i) (h1 : i < 12) : ((earlyL.flatMap (cCardK .full) ++ lateL.flatMap (cCardK .full)).drop (i.toNat * 13)).take 13 = cCardK .full (specialL.getD i.toNat noCard) := by
  rw [← List.flatMap_append]; exact flat_at (f := cCardK .full) (n := 13) (fun _ => rfl) noCard (l := earlyL ++ lateL) (i := i.toNat) (by show i.toNat < 12; omega)

theorem special_calls (i : Int) (hi : 0 ≤ i ∧ i < 12) (h : Hp) : ACalls Tryz.prog G 139 [.int .i64 i] h fun r h' => r = eCard (specialF i) ∧ h' = h := by
  refine ACalls.enter Tryz.func139 rfl Tryz.ntmps139 Tryz.results139 rfl ?_
  refine AW.seq ?_
  refine AW.region ?_
  refine AOps.s rfl rfl rfl (a_alloc rfl Tryz.zeroValue92 rfl (fun id2 hid2 => ?_))
  refine AOps.nil ?_
  refine AW.seq ?_
  refine AW.region ?_
  refine AOps.q rfl rfl rfl (QOp.call rfl (by exact Tryz.call158) fun h' hl' => by exact early_calls h') ?_
  refine AOps.q rfl rfl rfl (QOp.call rfl (by exact Tryz.call159) fun h' hl' => by exact late_calls h') ?_
  refine AOps.s rfl rfl rfl (a_append rfl Tryz.underlying190 (i := Tryz.t92) (by kernel_rfl) rfl (n := 13) (by' := 120) rfl rfl rfl rfl (Acc.full rfl) rfl rfl (by decide) (by decide) (by decide) rfl (fun v6 h6 acc => ?_))
  refine AOps.wkn (TLe.put (d := 6) acc.vle (TLe.refl _)) acc.hle ?_
  refine AOps.q rfl rfl rfl (q_mv rfl (rfl : _ = V.int _ _)) ?_
  refine AOps.q rfl rfl rfl (q_ia_s rfl Tryz.underlying190 Tryz.sizeOf92 rfl rfl (by omega) (by omega) (special_at hi.1 hi.2)) ?_
  refine AOps.q rfl rfl rfl (q_load_iW rfl Tryz.isAgg92 Tryz.sizeOf92 rfl (by rfl)) ?_
  refine AOps.s rfl rfl rfl (a_alloc rfl Tryz.zeroValue92 rfl (fun id3 hid3 => ?_))
  refine AOps.s0 rfl rfl (a_storeWA rfl Tryz.sizeOf92 rfl rfl (rfl : _ = V.agg _) rfl rfl ?_)
  refine AOps.nil ?_
  refine AW.seq ?_
  refine AW.seq ?_
  refine AW.region ?_
  refine AOps.q rfl rfl rfl (q_mv rfl (rfl : _ = V.int _ _)) ?_
  refine AOps.nil ?_
  refine AW.block ?_
  refine AW.seq ?_
  refine AW.region ?_
  refine AOps.q rfl rfl rfl (q_eq rfl rfl rfl) ?_
  refine AOps.q rfl rfl rfl (q_as rfl (rfl : _ = V.bool _)) ?_
  refine AOps.nil ?_
  refine AW.cond rfl (fun c0 => ?_) (fun c0 => ?_)
  · obtain rfl : i = 8 := by simpa using c0
    refine AW.seq ?_
    refine AW.region ?_
    refine AOps.q rfl rfl rfl (q_fa_b rfl Tryz.underlying92 rfl (by exact Tryz.sizeOf3) (by decide) rfl (rfl : _ = 9)) ?_
    refine AOps.s0 rfl rfl (a_store1 rfl Tryz.sizeOf3 rfl (by exact Hp.box_setBox _ _ _) (rfl : _ = V.int _ _) rfl rfl (by first | decide | exact Nat.le_of_ble_eq_true rfl) ?_)
    refine AOps.q rfl rfl rfl (q_fa_b rfl Tryz.underlying92 rfl (by exact Tryz.sizeOf3) (by decide) rfl (rfl : _ = 10)) ?_
    refine AOps.s0 rfl rfl (a_store1 rfl Tryz.sizeOf3 rfl (by exact Hp.box_setBox _ _ _) (rfl : _ = V.int _ _) rfl rfl (by first | decide | exact Nat.le_of_ble_eq_true rfl) ?_)
    refine AOps.nil ?_
    refine AW.draw [4, 6] [0] [(0, true), (1, true), (2, true), (3, true), (4, false), (5, true), (6, false)] mixed (by kernel_rfl) rfl (by kernel_rfl) ?_
    refine AOrd.p rfl rfl rfl (fun _ => q_fa_b rfl Tryz.underlying92 rfl (by exact Tryz.sizeOf90) (by decide) rfl (rfl : _ = 12)) ?_
    refine AOrd.q rfl rfl rfl rfl (q_load_b1 rfl Tryz.isAgg90 rfl (by exact Hp.box_setBox _ _ _) rfl) ?_
    refine AOrd.q rfl rfl rfl rfl (QOp.call rfl (by exact Tryz.call144) fun h' hl' => by exact tMana_calls _ _ h') ?_
    refine AOrd.q rfl rfl rfl rfl (q_buildSl (ds := cAbil (manaF 2 5)) rfl Tryz.underlying90 Tryz.sizeOf136 Tryz.zeroValue136 rfl rfl rfl rfl (by kernel_rfl)) ?_
    refine AOrd.s rfl rfl rfl rfl (a_append rfl Tryz.underlying90 (i := Tryz.t136) (by kernel_rfl) rfl (n := 14) (by' := 128) rfl rfl rfl rfl (Acc.full rfl) rfl rfl (by decide) (by decide) (by decide) rfl (fun v19 h19 acc => ?_))
    refine AOrd.q rfl rfl rfl rfl (q_fa_b rfl Tryz.underlying92 rfl (by exact Tryz.sizeOf90) (by decide) rfl (rfl : _ = 12)) ?_
    refine AOrd.s0 rfl rfl rfl rfl (a_store1 rfl Tryz.sizeOf90 rfl (by exact acc.hle.box _ _ (Hp.box_setBox _ _ _)) (rfl : _ = v19) acc.solid.2 acc.solid.1 (by exact Nat.le_of_ble_eq_true rfl) ?_)
    refine AOrd.nil ?_
    refine AW.seq ?_
    refine AW.stay (d := 3) (id := id3) (h0 := h.setBox id2 _) (Hp.box_setBox _ _ _) (by repeat (first | exact HLe.refl _ | refine HLe.over ?_ hid3.1 | refine acc.hle.trans ?_)) hid3.1 Sealed.ptr ?_
    refine AW.region ?_
    refine AOps.q rfl rfl rfl (q_load_iW rfl Tryz.isAgg92 Tryz.sizeOf92 rfl (by rfl)) ?_
    refine AOps.s0 rfl rfl (a_storeWA rfl Tryz.sizeOf92 rfl rfl (rfl : _ = V.agg _) rfl rfl ?_)
    refine AOps.nil ?_
    refine AW.ret ?_
    refine retQ.mk' (Res.cellB Tryz.isAgg92 Tryz.sizeOf92 rfl (by exact Hp.box_setBox _ _ _) rfl) ?_ (HLe.setBox hid2.1) ⟨rfl, rfl⟩
    show VLe (V.agg ((cCard (specialF 8)).take 12 ++ [v19])) (V.agg ((cCard (specialF 8)).take 12 ++ [V.sl .imm 14 2 _]))
    exact LLe.agg (LLe.append (LLe.refl _) (.cons acc.vle .nil))
  · skip
    refine AW.seq ?_
    refine AW.region ?_
    refine AOps.q rfl rfl rfl (q_eq rfl rfl rfl) ?_
    refine AOps.q rfl rfl rfl (q_as rfl (rfl : _ = V.bool _)) ?_
    refine AOps.nil ?_
    refine AW.cond rfl (fun c1 => ?_) (fun c1 => ?_)
    · obtain rfl : i = 11 := by simpa using c1
      refine AW.region ?_
      refine AOps.q rfl rfl rfl (q_fa_b rfl Tryz.underlying92 rfl (by exact Tryz.sizeOf3) (by decide) rfl (rfl : _ = 9)) ?_
      refine AOps.s0 rfl rfl (a_store1 rfl Tryz.sizeOf3 rfl (by exact Hp.box_setBox _ _ _) (rfl : _ = V.int _ _) rfl rfl (by first | decide | exact Nat.le_of_ble_eq_true rfl) ?_)
      refine AOps.q rfl rfl rfl (q_fa_b rfl Tryz.underlying92 rfl (by exact Tryz.sizeOf3) (by decide) rfl (rfl : _ = 10)) ?_
      refine AOps.s0 rfl rfl (a_store1 rfl Tryz.sizeOf3 rfl (by exact Hp.box_setBox _ _ _) (rfl : _ = V.int _ _) rfl rfl (by first | decide | exact Nat.le_of_ble_eq_true rfl) ?_)
      refine AOps.q rfl rfl rfl (q_fa_b rfl Tryz.underlying92 rfl (by exact Tryz.sizeOf3) (by decide) rfl (rfl : _ = 11)) ?_
      refine AOps.s0 rfl rfl (a_store1 rfl Tryz.sizeOf3 rfl (by exact Hp.box_setBox _ _ _) (rfl : _ = V.int _ _) rfl rfl (by first | decide | exact Nat.le_of_ble_eq_true rfl) ?_)
      refine AOps.nil ?_
      refine AW.seq ?_
      refine AW.stay (d := 3) (id := id3) (h0 := h.setBox id2 _) (Hp.box_setBox _ _ _) (by repeat (first | exact HLe.refl _ | refine HLe.over ?_ hid3.1 | refine acc.hle.trans ?_)) hid3.1 Sealed.ptr ?_
      refine AW.region ?_
      refine AOps.q rfl rfl rfl (q_load_iW rfl Tryz.isAgg92 Tryz.sizeOf92 rfl (by rfl)) ?_
      refine AOps.s0 rfl rfl (a_storeWA rfl Tryz.sizeOf92 rfl rfl (rfl : _ = V.agg _) rfl rfl ?_)
      refine AOps.nil ?_
      refine AW.ret ?_
      exact retQ.mk' (Res.cellB Tryz.isAgg92 Tryz.sizeOf92 rfl (by exact Hp.box_setBox _ _ _) rfl) (VLe.trans (LLe.wk 14 _).agg (.of_eq (congrArg V.agg (by rfl)))) (HLe.setBox hid2.1) ⟨rfl, rfl⟩
    · skip
      refine AW.skip ?_
      refine AW.seq ?_
      refine AW.stay (d := 3) (id := id3) (h0 := h.setBox id2 _) (Hp.box_setBox _ _ _) (by repeat (first | exact HLe.refl _ | refine HLe.over ?_ hid3.1 | refine acc.hle.trans ?_)) hid3.1 Sealed.ptr ?_
      refine AW.region ?_
      refine AOps.q rfl rfl rfl (q_load_iW rfl Tryz.isAgg92 Tryz.sizeOf92 rfl (by rfl)) ?_
      refine AOps.s0 rfl rfl (a_storeWA rfl Tryz.sizeOf92 rfl rfl (rfl : _ = V.agg _) rfl rfl ?_)
      refine AOps.nil ?_
      refine AW.ret ?_
      exact retQ.mk' (Res.cellB Tryz.isAgg92 Tryz.sizeOf92 rfl (by exact Hp.box_setBox _ _ _) rfl) (VLe.trans (LLe.wk 14 _).agg (.of_eq (congrArg V.agg (by rw [specialF, if_neg (by simpa using c0), if_neg (by simpa using c1)]; rfl)))) (HLe.setBox hid2.1) ⟨rfl, rfl⟩

def rowF (l : List Abil) (i : Int) : Abil := l.getD i.toNat (aimF 0 (doF 0 0 0 0))
def spellRows : List (List Abil) := [whiteSpellsL, blueSpellsL, blackSpellsL, redSpellsL, greenSpellsL]
def relicRows : List (List Abil) := [whiteRelicsL, blueRelicsL, blackRelicsL, redRelicsL, greenRelicsL]
/-- A card, by its number. -/
def cardF (n : Int) : Card :=
  if n < 10 then sourceF n
  else if n < 50 then beastF (n - 10)
  else if n < 80 then ⟨2, (n - 50) % 5, (n - 50) / 5 % 2 == 0, costF ((n - 50) % 5) 1 ((n - 50) / 5), 0, 0, 0, [rowF (spellRows.getD ((n - 50) % 5).toNat []) ((n - 50) / 5)]⟩
  else if n < 100 then ⟨3, (n - 80) % 5, false, costF ((n - 80) % 5) 1 ((n - 80) / 5 + 1), 0, 0, 0, [rowF (relicRows.getD ((n - 80) % 5).toNat []) ((n - 80) / 5)]⟩
  else if n < 112 then specialF (n - 100)
  else ⟨1, 5, false, noCost, (n - 112) / 2 + 1, (n - 112) / 2 + 1, (n - 112) % 2 * 1, []⟩
def cardE (n : Int) : Card × Int := if n < 0 ∨ 120 ≤ n then (noCard, 4) else (cardF n, 0)
theorem five {P : Int → Prop} {c : Int} (h : 0 ≤ c ∧ c < 5) (h0 : P 0) (h1 : P 1) (h2 : P 2) (h3 : P 3) (h4 : P 4) : P c := by
  have : c = 0 ∨ c = 1 ∨ c = 2 ∨ c = 3 ∨ c = 4 := by omega
  rcases this with e | e | e | e | e <;> subst e <;> assumption
theorem spells_at {c : Int} (h : 0 ≤ c ∧ c < 5) : ((spellsL.flatMap cAbil).drop (c.toNat * 84)).take 84 = (spellRows.getD c.toNat []).flatMap cAbil := by
  refine five (P := fun c => ((spellsL.flatMap cAbil).drop (c.toNat * 84)).take 84 = (spellRows.getD c.toNat []).flatMap cAbil) h ?_ ?_ ?_ ?_ ?_ <;> kernel_rfl
theorem relics_at {c : Int} (h : 0 ≤ c ∧ c < 5) : ((relicsL.flatMap cAbil).drop (c.toNat * 56)).take 56 = (relicRows.getD c.toNat []).flatMap cAbil := by
  refine five (P := fun c => ((relicsL.flatMap cAbil).drop (c.toNat * 56)).take 56 = (relicRows.getD c.toNat []).flatMap cAbil) h ?_ ?_ ?_ ?_ ?_ <;> kernel_rfl
theorem spellRow_len {c : Int} (h : 0 ≤ c ∧ c < 5) : (spellRows.getD c.toNat []).length = 6 := five (P := fun c => (spellRows.getD c.toNat []).length = 6) h rfl rfl rfl rfl rfl
theorem relicRow_len {c : Int} (h : 0 ≤ c ∧ c < 5) : (relicRows.getD c.toNat []).length = 4 := five (P := fun c => (relicRows.getD c.toNat []).length = 4) h rfl rfl rfl rfl rfl
theorem row_at {l : List Abil} {k : Int} (h0 : 0 ≤ k) (h1 : k < l.length) : ((l.flatMap cAbil).drop (k.toNat * 14)).take 14 = cAbil (rowF l k) := flat_at (f := cAbil) (n := 14) (fun _ => rfl) _ (by omega)
theorem zCard_le : LLe [V.int .i64 0, .int .i64 0, .bool false, .int .i64 0, .int .i64 0, .int .i64 0, .int .i64 0, .int .i64 0, .int .i64 0, .int .i64 0, .int .i64 0, .int .i64 0, .snil] (cCard noCard) := LLe.wk 14 _

theorem card_calls (n : Int) (h : Hp) : ACalls Tryz.prog G 112 [.int .i64 n] h fun r h' => r = .tup [eCard (cardE n).1, eE (cardE n).2] ∧ h' = h := by
  refine ACalls.enter Tryz.func112 rfl Tryz.ntmps112 Tryz.results112 rfl ?_
  refine AW.seq ?_
  refine AW.region ?_
  refine AOps.s rfl rfl rfl (a_alloc rfl Tryz.zeroValue92 rfl (fun id2 hid2 => ?_))
  refine AOps.q rfl rfl rfl (q_as rfl (rfl : _ = V.inil)) ?_
  refine AOps.nil ?_
  refine AW.seq ?_
  refine AW.block ?_
  refine AW.seq ?_
  refine AW.region ?_
  refine AOps.q rfl rfl rfl (q_mv rfl (rfl : _ = V.int _ _)) ?_
  refine AOps.q rfl rfl rfl (q_lt rfl rfl rfl) ?_
  refine AOps.q rfl rfl rfl (q_mv rfl (rfl : _ = V.bool _)) ?_
  refine AOps.g (wanted_f rfl rfl) rfl rfl (fun hc => TLe.refl _) (fun hc => q_mv rfl (rfl : _ = V.int _ _)) ?_
  refine AOps.g (wanted_f rfl rfl) rfl rfl (fun hc => TLe.put (d := 13) (VLe.opt hc) (TLe.refl _)) (fun hc => q_ge rfl rfl rfl) ?_
  refine AOps.q rfl rfl rfl (q_pickg rfl rfl (fun hp => by exact VLe.refl _) (fun hp => by first | exact VLe.opt hp | exact VLe.opt (by rw [hp]; rfl) | exact VLe.opt (by simp_all))) ?_
  refine AOps.q rfl rfl rfl (q_as rfl (rfl : _ = V.bool _)) ?_
  refine AOps.nil ?_
  refine AW.cond rfl (fun c0 => ?_) (fun c0 => ?_)
  · skip
    refine AW.seq ?_
    refine AW.region ?_
    refine AOps.q rfl rfl rfl (q_buildS (ds := [.int .i64 0, .int .i64 0, .bool false, .int .i64 0, .int .i64 0, .int .i64 0, .int .i64 0, .int .i64 0, .int .i64 0, .int .i64 0, .int .i64 0, .int .i64 0, .snil]) rfl Tryz.zeroValue92 Tryz.underlying92 (pl92 Tryz.underlying92) rfl (by kernel_rfl)) ?_
    refine AOps.q rfl rfl rfl (q_iface rfl Tryz.underlying62 rfl) ?_
    refine AOps.s0 rfl rfl (a_storeWA rfl Tryz.sizeOf92 rfl rfl (rfl : _ = V.agg _) rfl rfl ?_)
    refine AOps.q rfl rfl rfl (q_as rfl (rfl : _ = V.iface _ _)) ?_
    refine AOps.nil ?_
    refine AW.ret ?_
    exact retQ.mk' (Res.cellB1 Tryz.isAgg92 Tryz.sizeOf92 rfl (by exact Hp.box_setBox _ _ _) rfl) (by rw [cardE, if_pos (turn_out c0)]; exact LLe.tup (.cons zCard_le.agg (.cons (.of_eq (eErr_ne (by decide)).symm) .nil))) (HLe.setBox hid2.1) ⟨rfl, rfl⟩
  · have hn := turn_in c0
    refine AW.seq ?_
    refine AW.region ?_
    refine AOps.q rfl rfl rfl (q_mv rfl (rfl : _ = V.int _ _)) ?_
    refine AOps.q rfl rfl rfl (q_lt rfl rfl rfl) ?_
    refine AOps.q rfl rfl rfl (q_as rfl (rfl : _ = V.bool _)) ?_
    refine AOps.nil ?_
    refine AW.cond rfl (fun c1 => ?_) (fun c1 => ?_)
    · have h1 : n < 10 := by simpa using c1
      refine AW.seq ?_
      refine AW.region ?_
      refine AOps.q rfl rfl rfl (q_mv rfl (rfl : _ = V.int _ _)) ?_
      refine AOps.q rfl rfl rfl (QOp.call rfl (by exact Tryz.call134) fun h' hl' => by exact source_calls _ (by omega) h') ?_
      refine AOps.s0 rfl rfl (a_storeWA rfl Tryz.sizeOf92 rfl rfl (rfl : _ = V.agg _) rfl rfl ?_)
      refine AOps.q rfl rfl rfl (q_as rfl (rfl : _ = V.inil)) ?_
      refine AOps.nil ?_
      refine AW.ret ?_
      exact retQ.mk' (Res.cellB1 Tryz.isAgg92 Tryz.sizeOf92 rfl (by exact Hp.box_setBox _ _ _) rfl) (by rw [cardE, if_neg (by omega), cardF, if_pos h1]; exact LLe.tup (.cons (.refl _) (.cons (.of_eq (eErr_zero _).symm) .nil))) (HLe.setBox hid2.1) ⟨rfl, rfl⟩
    · have h1 : 10 ≤ n := by simpa using c1
      refine AW.seq ?_
      refine AW.region ?_
      refine AOps.q rfl rfl rfl (q_mv rfl (rfl : _ = V.int _ _)) ?_
      refine AOps.q rfl rfl rfl (q_lt rfl rfl rfl) ?_
      refine AOps.q rfl rfl rfl (q_as rfl (rfl : _ = V.bool _)) ?_
      refine AOps.nil ?_
      refine AW.cond rfl (fun c2 => ?_) (fun c2 => ?_)
      · have h2 : n < 50 := by simpa using c2
        refine AW.seq ?_
        refine AW.region ?_
        refine AOps.q rfl rfl rfl (q_mv rfl (rfl : _ = V.int _ _)) ?_
        refine AOps.q rfl rfl rfl (q_sub' rfl rfl rfl (by omega)) ?_
        refine AOps.q rfl rfl rfl (QOp.call rfl (by exact Tryz.call135) fun h' hl' => by exact beast_calls _ (by omega) h') ?_
        refine AOps.s0 rfl rfl (a_storeWA rfl Tryz.sizeOf92 rfl rfl (rfl : _ = V.agg _) rfl rfl ?_)
        refine AOps.q rfl rfl rfl (q_as rfl (rfl : _ = V.inil)) ?_
        refine AOps.nil ?_
        refine AW.ret ?_
        exact retQ.mk' (Res.cellB1 Tryz.isAgg92 Tryz.sizeOf92 rfl (by exact Hp.box_setBox _ _ _) rfl) (by rw [cardE, if_neg (by omega), cardF, if_neg (by omega), if_pos h2]; exact LLe.tup (.cons (.refl _) (.cons (.of_eq (eErr_zero _).symm) .nil))) (HLe.setBox hid2.1) ⟨rfl, rfl⟩
      · have h2 : 50 ≤ n := by simpa using c2
        refine AW.seq ?_
        refine AW.region ?_
        refine AOps.q rfl rfl rfl (q_mv rfl (rfl : _ = V.int _ _)) ?_
        refine AOps.q rfl rfl rfl (q_lt rfl rfl rfl) ?_
        refine AOps.q rfl rfl rfl (q_as rfl (rfl : _ = V.bool _)) ?_
        refine AOps.nil ?_
        refine AW.cond rfl (fun c3 => ?_) (fun c3 => ?_)
        · have h3 : n < 80 := by simpa using c3
          have hc : 0 ≤ (n - 50) % 5 ∧ (n - 50) % 5 < 5 := by omega
          have hk : 0 ≤ (n - 50) / 5 ∧ (n - 50) / 5 < 6 := by omega
          refine AW.seq ?_
          refine AW.region ?_
          refine AOps.q rfl rfl rfl (q_mv rfl (rfl : _ = V.int _ _)) ?_
          refine AOps.q rfl rfl rfl (q_sub' rfl rfl rfl (by omega)) ?_
          refine AOps.q rfl rfl rfl (q_rem' rfl rfl rfl (by omega) (by omega)) ?_
          refine AOps.q rfl rfl rfl (q_mv rfl (rfl : _ = V.int _ _)) ?_
          refine AOps.q rfl rfl rfl (q_sub' rfl rfl rfl (by omega)) ?_
          refine AOps.q rfl rfl rfl (q_quo' rfl rfl rfl (by omega) (by omega)) ?_
          refine AOps.q rfl rfl rfl (q_as rfl (rfl : _ = V.int _ _)) ?_
          refine AOps.q rfl rfl rfl (q_as rfl (rfl : _ = V.int _ _)) ?_
          refine AOps.nil ?_
          refine AW.seq ?_
          refine AW.region ?_
          refine AOps.q rfl rfl rfl (q_mv rfl (rfl : _ = V.int _ _)) ?_
          refine AOps.q rfl rfl rfl (q_mv rfl (rfl : _ = V.int _ _)) ?_
          refine AOps.q rfl rfl rfl (q_rem' rfl rfl rfl (by omega) (by omega)) ?_
          refine AOps.q rfl rfl rfl (q_eq rfl rfl rfl) ?_
          refine AOps.q rfl rfl rfl (q_mv rfl (rfl : _ = V.int _ _)) ?_
          refine AOps.q rfl rfl rfl (q_mv rfl (rfl : _ = V.int _ _)) ?_
          refine AOps.q rfl rfl rfl (QOp.call rfl (by exact Tryz.call136) fun h' hl' => by exact tCost_calls _ _ _ (by omega) (by omega) h') ?_
          refine AOps.q rfl rfl rfl (QOp.call rfl (by exact Tryz.call137) fun h' hl' => by exact spells_calls h') ?_
          refine AOps.q rfl rfl rfl (q_mv rfl (rfl : _ = V.int _ _)) ?_
          refine AOps.q rfl rfl rfl (q_ixN rfl Tryz.underlying178 Tryz.sizeOf177 Tryz.isAgg177 rfl rfl (by omega) (by omega) (spells_at hc)) ?_
          refine AOps.q rfl rfl rfl (q_mv rfl (rfl : _ = V.int _ _)) ?_
          refine AOps.q rfl rfl rfl (q_ixN rfl Tryz.underlying177 Tryz.sizeOf136 Tryz.isAgg136 rfl rfl (by omega) (by omega) (row_at hk.1 (by rw [spellRow_len hc]; omega))) ?_
          refine AOps.q rfl rfl rfl (q_buildSl (ds := cAbil (rowF (spellRows.getD ((n - 50) % 5).toNat []) ((n - 50) / 5))) rfl Tryz.underlying90 Tryz.sizeOf136 Tryz.zeroValue136 rfl rfl rfl rfl (by kernel_rfl)) ?_
          refine AOps.q rfl rfl rfl (q_buildS (ds := cCardK .full ⟨2, (n - 50) % 5, (n - 50) / 5 % 2 == 0, costF ((n - 50) % 5) 1 ((n - 50) / 5), 0, 0, 0, [rowF (spellRows.getD ((n - 50) % 5).toNat []) ((n - 50) / 5)]⟩) rfl Tryz.zeroValue92 Tryz.underlying92 (pl92 Tryz.underlying92) rfl (by kernel_rfl)) ?_
          refine AOps.s0 rfl rfl (a_storeWA rfl Tryz.sizeOf92 rfl rfl (rfl : _ = V.agg _) rfl rfl ?_)
          refine AOps.q rfl rfl rfl (q_as rfl (rfl : _ = V.inil)) ?_
          refine AOps.nil ?_
          refine AW.ret ?_
          exact retQ.mk' (Res.cellB1 Tryz.isAgg92 Tryz.sizeOf92 rfl (by exact Hp.box_setBox _ _ _) rfl) (by rw [cardE, if_neg (by omega), cardF, if_neg (by omega), if_neg (by omega), if_pos h3]; exact LLe.tup (.cons ((LLe.wk 14 _).agg) (.cons (.of_eq (eErr_zero _).symm) .nil))) (HLe.setBox hid2.1) ⟨rfl, rfl⟩
        · have h3 : 80 ≤ n := by simpa using c3
          refine AW.seq ?_
          refine AW.region ?_
          refine AOps.q rfl rfl rfl (q_mv rfl (rfl : _ = V.int _ _)) ?_
          refine AOps.q rfl rfl rfl (q_lt rfl rfl rfl) ?_
          refine AOps.q rfl rfl rfl (q_as rfl (rfl : _ = V.bool _)) ?_
          refine AOps.nil ?_
          refine AW.cond rfl (fun c4 => ?_) (fun c4 => ?_)
          · have h4 : n < 100 := by simpa using c4
            have hc : 0 ≤ (n - 80) % 5 ∧ (n - 80) % 5 < 5 := by omega
            have hk : 0 ≤ (n - 80) / 5 ∧ (n - 80) / 5 < 4 := by omega
            refine AW.seq ?_
            refine AW.region ?_
            refine AOps.q rfl rfl rfl (q_mv rfl (rfl : _ = V.int _ _)) ?_
            refine AOps.q rfl rfl rfl (q_sub' rfl rfl rfl (by omega)) ?_
            refine AOps.q rfl rfl rfl (q_rem' rfl rfl rfl (by omega) (by omega)) ?_
            refine AOps.q rfl rfl rfl (q_mv rfl (rfl : _ = V.int _ _)) ?_
            refine AOps.q rfl rfl rfl (q_sub' rfl rfl rfl (by omega)) ?_
            refine AOps.q rfl rfl rfl (q_quo' rfl rfl rfl (by omega) (by omega)) ?_
            refine AOps.q rfl rfl rfl (q_as rfl (rfl : _ = V.int _ _)) ?_
            refine AOps.q rfl rfl rfl (q_as rfl (rfl : _ = V.int _ _)) ?_
            refine AOps.nil ?_
            refine AW.seq ?_
            refine AW.region ?_
            refine AOps.q rfl rfl rfl (q_mv rfl (rfl : _ = V.int _ _)) ?_
            refine AOps.q rfl rfl rfl (q_mv rfl (rfl : _ = V.int _ _)) ?_
            refine AOps.q rfl rfl rfl (q_mv rfl (rfl : _ = V.int _ _)) ?_
            refine AOps.q rfl rfl rfl (q_add' rfl rfl rfl (by omega)) ?_
            refine AOps.q rfl rfl rfl (QOp.call rfl (by exact Tryz.call136) fun h' hl' => by exact tCost_calls _ _ _ (by omega) (by omega) h') ?_
            refine AOps.q rfl rfl rfl (QOp.call rfl (by exact Tryz.call138) fun h' hl' => by exact relics_calls h') ?_
            refine AOps.q rfl rfl rfl (q_mv rfl (rfl : _ = V.int _ _)) ?_
            refine AOps.q rfl rfl rfl (q_ixN rfl Tryz.underlying181 Tryz.sizeOf180 Tryz.isAgg180 rfl rfl (by omega) (by omega) (relics_at hc)) ?_
            refine AOps.q rfl rfl rfl (q_mv rfl (rfl : _ = V.int _ _)) ?_
            refine AOps.q rfl rfl rfl (q_ixN rfl Tryz.underlying180 Tryz.sizeOf136 Tryz.isAgg136 rfl rfl (by omega) (by omega) (row_at hk.1 (by rw [relicRow_len hc]; omega))) ?_
            refine AOps.q rfl rfl rfl (q_buildSl (ds := cAbil (rowF (relicRows.getD ((n - 80) % 5).toNat []) ((n - 80) / 5))) rfl Tryz.underlying90 Tryz.sizeOf136 Tryz.zeroValue136 rfl rfl rfl rfl (by kernel_rfl)) ?_
            refine AOps.q rfl rfl rfl (q_buildS (ds := cCardK .full ⟨3, (n - 80) % 5, false, costF ((n - 80) % 5) 1 ((n - 80) / 5 + 1), 0, 0, 0, [rowF (relicRows.getD ((n - 80) % 5).toNat []) ((n - 80) / 5)]⟩) rfl Tryz.zeroValue92 Tryz.underlying92 (pl92 Tryz.underlying92) rfl (by kernel_rfl)) ?_
            refine AOps.s0 rfl rfl (a_storeWA rfl Tryz.sizeOf92 rfl rfl (rfl : _ = V.agg _) rfl rfl ?_)
            refine AOps.q rfl rfl rfl (q_as rfl (rfl : _ = V.inil)) ?_
            refine AOps.nil ?_
            refine AW.ret ?_
            exact retQ.mk' (Res.cellB1 Tryz.isAgg92 Tryz.sizeOf92 rfl (by exact Hp.box_setBox _ _ _) rfl) (by rw [cardE, if_neg (by omega), cardF, if_neg (by omega), if_neg (by omega), if_neg (by omega), if_pos h4]; exact LLe.tup (.cons ((LLe.wk 14 _).agg) (.cons (.of_eq (eErr_zero _).symm) .nil))) (HLe.setBox hid2.1) ⟨rfl, rfl⟩
          · have h4 : 100 ≤ n := by simpa using c4
            refine AW.seq ?_
            refine AW.region ?_
            refine AOps.q rfl rfl rfl (q_mv rfl (rfl : _ = V.int _ _)) ?_
            refine AOps.q rfl rfl rfl (q_lt rfl rfl rfl) ?_
            refine AOps.q rfl rfl rfl (q_as rfl (rfl : _ = V.bool _)) ?_
            refine AOps.nil ?_
            refine AW.cond rfl (fun c5 => ?_) (fun c5 => ?_)
            · have h5 : n < 112 := by simpa using c5
              refine AW.seq ?_
              refine AW.region ?_
              refine AOps.q rfl rfl rfl (q_mv rfl (rfl : _ = V.int _ _)) ?_
              refine AOps.q rfl rfl rfl (q_sub' rfl rfl rfl (by omega)) ?_
              refine AOps.q rfl rfl rfl (QOp.call rfl (by exact Tryz.call139) fun h' hl' => by exact special_calls _ (by omega) h') ?_
              refine AOps.s0 rfl rfl (a_storeWA rfl Tryz.sizeOf92 rfl rfl (rfl : _ = V.agg _) rfl rfl ?_)
              refine AOps.q rfl rfl rfl (q_as rfl (rfl : _ = V.inil)) ?_
              refine AOps.nil ?_
              refine AW.ret ?_
              exact retQ.mk' (Res.cellB1 Tryz.isAgg92 Tryz.sizeOf92 rfl (by exact Hp.box_setBox _ _ _) rfl) (by rw [cardE, if_neg (by omega), cardF, if_neg (by omega), if_neg (by omega), if_neg (by omega), if_neg (by omega), if_pos h5]; exact LLe.tup (.cons (.refl _) (.cons (.of_eq (eErr_zero _).symm) .nil))) (HLe.setBox hid2.1) ⟨rfl, rfl⟩
            · have h5 : 112 ≤ n := by simpa using c5
              refine AW.skip ?_
              refine AW.seq ?_
              refine AW.region ?_
              refine AOps.q rfl rfl rfl (q_mv rfl (rfl : _ = V.int _ _)) ?_
              refine AOps.q rfl rfl rfl (q_sub' rfl rfl rfl (by omega)) ?_
              refine AOps.q rfl rfl rfl (q_as rfl (rfl : _ = V.int _ _)) ?_
              refine AOps.nil ?_
              refine AW.seq ?_
              refine AW.region ?_
              refine AOps.q rfl rfl rfl (q_mv rfl (rfl : _ = V.int _ _)) ?_
              refine AOps.q rfl rfl rfl (q_quo' rfl rfl rfl (by omega) (by omega)) ?_
              refine AOps.q rfl rfl rfl (q_add' rfl rfl rfl (by omega)) ?_
              refine AOps.q rfl rfl rfl (q_mv rfl (rfl : _ = V.int _ _)) ?_
              refine AOps.q rfl rfl rfl (q_quo' rfl rfl rfl (by omega) (by omega)) ?_
              refine AOps.q rfl rfl rfl (q_add' rfl rfl rfl (by omega)) ?_
              refine AOps.q rfl rfl rfl (q_mv rfl (rfl : _ = V.int _ _)) ?_
              refine AOps.q rfl rfl rfl (q_rem' rfl rfl rfl (by omega) (by omega)) ?_
              refine AOps.q rfl rfl rfl (q_mul' rfl rfl rfl (by omega)) ?_
              refine AOps.q rfl rfl rfl (q_buildS (ds := [.int .i64 1, .int .i64 5, .bool false, .int .i64 (noCost 0), .int .i64 (noCost 1), .int .i64 (noCost 2), .int .i64 (noCost 3), .int .i64 (noCost 4), .int .i64 (noCost 5), .int .i64 ((n - 112) / 2 + 1), .int .i64 ((n - 112) / 2 + 1), .int .i64 ((n - 112) % 2 * 1), .snil]) rfl Tryz.zeroValue92 Tryz.underlying92 (pl92 Tryz.underlying92) rfl (by kernel_rfl)) ?_
              refine AOps.s0 rfl rfl (a_storeWA rfl Tryz.sizeOf92 rfl rfl (rfl : _ = V.agg _) rfl rfl ?_)
              refine AOps.q rfl rfl rfl (q_as rfl (rfl : _ = V.inil)) ?_
              refine AOps.nil ?_
              refine AW.ret ?_
              exact retQ.mk' (Res.cellB1 Tryz.isAgg92 Tryz.sizeOf92 rfl (by exact Hp.box_setBox _ _ _) rfl) (by rw [cardE, if_neg (by omega), cardF, if_neg (by omega), if_neg (by omega), if_neg (by omega), if_neg (by omega), if_neg (by omega)]; exact LLe.tup (.cons ((LLe.wk 14 _).agg) (.cons (.of_eq (eErr_zero _).symm) .nil))) (HLe.setBox hid2.1) ⟨rfl, rfl⟩

end Go.Proofs.YtnbmcbkokaoapaaGreatDoor
