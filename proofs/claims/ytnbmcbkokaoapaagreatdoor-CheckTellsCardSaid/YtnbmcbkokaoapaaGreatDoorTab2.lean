/- Walks: the cards' tables. -/
import Derived.Test.YtnbmcbkokaoapaaGreatDoorTab1
namespace Go.Proofs.YtnbmcbkokaoapaaGreatDoor
open Go Go.AV
set_option maxRecDepth 100000
set_option maxHeartbeats 1000000
def singleF (kind n : Int) (fast : Bool) (a : Abil) : Card := ⟨kind, 5, fast, costF 5 0 n, 0, 0, 0, [a]⟩

def whiteSpellsL : List Abil := [aimF 0 (doF 2 4 0 0), aimF 1 (doF 6 0 0 2), aimF 0 (everyF 1 10 1 1), aimF 5 (doF 8 0 0 2), aimF 0 (seqF ([sub (doF 2 2 0 0), sub (doF 4 1 0 0)])), aimF 0 (⟨22, 0, 10, 0, [sub (doF 2 8 0 0), sub (doF 4 1 0 0)]⟩)]
def blueSpellsL : List Abil := [aimF 4 (doF 9 0 0 2), aimF 0 (doF 4 2 0 0), aimF 5 (doF 7 0 0 2), aimF 0 (doF 17 3 0 0), aimF 1 (doF 12 0 0 2), aimF 0 (seqF ([sub (doF 4 3 0 0), sub (doF 19 1 0 0)]))]
def blackSpellsL : List Abil := [aimF 1 (doF 10 (-2) (-2) 2), aimF 2 (doF 19 1 0 2), aimF 2 (doF 3 3 0 2), aimF 0 (seqF ([sub (doF 3 2 0 1), sub (doF 2 2 0 0)])), aimF 1 (doF 6 0 0 2), aimF 0 (doF 5 4 0 4)]
def redSpellsL : List Abil := [aimF 3 (doF 1 2 0 2), aimF 1 (doF 1 4 0 2), aimF 1 (doF 10 3 0 2), aimF 0 (everyF 0 1 2 0), aimF 0 (doF 1 3 0 4), aimF 3 (seqF ([sub (doF 1 2 0 2), sub (doF 4 1 0 0)]))]
def greenSpellsL : List Abil := [aimF 1 (doF 10 3 3 2), aimF 1 (doF 11 2 0 2), aimF 1 (doF 23 64 0 2), aimF 0 (doF 14 2 116 0), aimF 0 (doF 15 3 4 0), aimF 0 (everyF 1 11 1 0)]
def whiteRelicsL : List Abil := [whenF 5 (everyF 1 10 0 2), whenF 4 (doF 2 1 0 0), activeF (costF 5 0 1) true 1 (doF 10 0 1 2), whenF 5 (everyF 0 25 1 0)]
def blueRelicsL : List Abil := [whenF 5 (everyF 1 23 1 0), whenF 4 (doF 17 1 0 0), activeF (costF 5 0 1) true 1 (doF 12 0 0 2), activeF (costF 1 1 0) false 0 (doF 13 0 0 3)]
def blackRelicsL : List Abil := [whenF 5 (everyF 2 10 (-1) 0), whenF 4 (doF 3 1 0 4), activeF (costF 5 0 1) true 0 (doF 3 1 0 1), whenF 5 (everyF 2 24 1 1)]
def redRelicsL : List Abil := [whenF 5 (everyF 1 10 1 0), whenF 4 (doF 1 1 0 1), activeF (costF 5 0 1) true 3 (doF 1 1 0 2), whenF 3 (doF 1 3 0 4)]
def greenRelicsL : List Abil := [whenF 5 (everyF 1 10 1 1), whenF 4 (doF 15 1 4 0), activeF (costF 5 0 1) true 1 (doF 13 0 0 2), whenF 2 (doF 14 1 119 0)]
def earlyL : List Card := [singleF 2 1 false (aimF 0 (doF 18 0 0 0)), singleF 2 2 false (aimF 0 (doF 19 2 0 1)), singleF 2 1 false (aimF 0 (doF 16 3 0 1)), singleF 2 1 true (aimF 0 (doF 17 2 0 1)), singleF 2 2 false (aimF 0 (doF 5 3 0 4)), singleF 2 3 true (aimF 4 (doF 9 0 0 2))]
def lateL : List Card := [singleF 2 2 false (aimF 0 (everyF 0 7 0 0)), singleF 3 2 false (activeF (noCost) false 0 (doF 15 1 5 0)), singleF 1 2 false (activeF (costF 5 0 1) false 0 (doF 13 0 0 3)), singleF 2 3 false (aimF 0 (doF 14 2 112 0)), singleF 2 4 false (aimF 0 (everyF 0 6 0 0)), singleF 1 3 true (whenF 3 (doF 4 1 0 0))]

def spellsL : List Abil := whiteSpellsL ++ blueSpellsL ++ blackSpellsL ++ redSpellsL ++ greenSpellsL
def relicsL : List Abil := whiteRelicsL ++ blueRelicsL ++ blackRelicsL ++ redRelicsL ++ greenRelicsL

theorem tSingle_calls (kind n : Int) (fast : Bool) (a : Abil) (hn : 0 ≤ n ∧ n ≤ 1000) (h : Hp) : ACalls Tryz.prog G 166 [.int .i64 kind, .int .i64 n, .bool fast, eAbil a] h fun r h' => r = .agg (cCardK .full (singleF kind n fast a)) ∧ h' = h := by
  refine ACalls.enter Tryz.func166 rfl Tryz.ntmps166 Tryz.results166 rfl ?_
  refine AW.seq ?_
  refine AW.region ?_
  refine AOps.q rfl rfl rfl (q_boxa rfl (rfl : _ = V.agg _)) ?_
  refine AOps.s rfl rfl rfl (a_alloc rfl Tryz.zeroValue92 rfl (fun id8 hid8 => ?_))
  refine AOps.nil ?_
  refine AW.seq ?_
  refine AW.draw [7] [] [(0, true), (1, true), (2, true), (3, true), (4, true), (5, true), (6, true), (7, false)] mixed (by kernel_rfl) rfl (by kernel_rfl) ?_
  refine AOrd.q rfl rfl rfl rfl (q_mv rfl (rfl : _ = V.int _ _)) ?_
  refine AOrd.q rfl rfl rfl rfl (q_mv rfl (rfl : _ = V.bool _)) ?_
  refine AOrd.q rfl rfl rfl rfl (q_mv rfl (rfl : _ = V.int _ _)) ?_
  refine AOrd.q rfl rfl rfl rfl (QOp.call rfl (by exact Tryz.call136) fun h' hl' => by exact tCost_calls _ _ _ (by omega) (by omega) h') ?_
  refine AOrd.q rfl rfl rfl rfl (q_load_iW rfl Tryz.isAgg136 Tryz.sizeOf136 rfl (by rfl)) ?_
  refine AOrd.q rfl rfl rfl rfl (q_buildSl (ds := cAbil a) rfl Tryz.underlying90 Tryz.sizeOf136 Tryz.zeroValue136 rfl rfl rfl rfl (by kernel_rfl)) ?_
  refine AOrd.q rfl rfl rfl rfl (q_buildS (ds := cCardK .full (singleF kind n fast a)) rfl Tryz.zeroValue92 Tryz.underlying92 (pl92 Tryz.underlying92) rfl (by kernel_rfl)) ?_
  refine AOrd.s0 rfl rfl rfl rfl (a_storeWA rfl Tryz.sizeOf92 rfl rfl (rfl : _ = V.agg _) rfl rfl ?_)
  refine AOrd.nil ?_
  refine AW.ret ?_
  exact retQ.mk' (Res.cellB Tryz.isAgg92 Tryz.sizeOf92 rfl (by exact Hp.box_setBox _ _ _) rfl) (VLe.refl _) (HLe.setBox hid8.1) ⟨rfl, rfl⟩

theorem whiteSpells_calls (h : Hp) : ACalls Tryz.prog G 148 [] h fun r h' => r = .agg (whiteSpellsL.flatMap cAbil) ∧ h' = h := by
  refine ACalls.enter Tryz.func148 rfl Tryz.ntmps148 Tryz.results148 rfl ?_
  refine AW.seq ?_
  refine AW.region ?_
  refine AOps.s rfl rfl rfl (a_alloc rfl Tryz.zeroValue177 rfl (fun id0 hid0 => ?_))
  refine AOps.nil ?_
  refine AW.seq ?_
  refine AW.region ?_
  refine AOps.q rfl rfl rfl (QOp.call rfl (by exact Tryz.call146) fun h' hl' => by exact tDo_calls _ _ _ _ h') ?_
  refine AOps.q rfl rfl rfl (QOp.call rfl (by exact Tryz.call163) fun h' hl' => by exact tAim_calls _ _ h') ?_
  refine AOps.q rfl rfl rfl (QOp.call rfl (by exact Tryz.call146) fun h' hl' => by exact tDo_calls _ _ _ _ h') ?_
  refine AOps.q rfl rfl rfl (QOp.call rfl (by exact Tryz.call163) fun h' hl' => by exact tAim_calls _ _ h') ?_
  refine AOps.q rfl rfl rfl (QOp.call rfl (by exact Tryz.call164) fun h' hl' => by exact tEvery_calls _ _ _ _ h') ?_
  refine AOps.q rfl rfl rfl (QOp.call rfl (by exact Tryz.call163) fun h' hl' => by exact tAim_calls _ _ h') ?_
  refine AOps.q rfl rfl rfl (QOp.call rfl (by exact Tryz.call146) fun h' hl' => by exact tDo_calls _ _ _ _ h') ?_
  refine AOps.q rfl rfl rfl (QOp.call rfl (by exact Tryz.call163) fun h' hl' => by exact tAim_calls _ _ h') ?_
  refine AOps.q rfl rfl rfl (QOp.call rfl (by exact Tryz.call146) fun h' hl' => by exact tDo_calls _ _ _ _ h') ?_
  refine AOps.q rfl rfl rfl (QOp.call rfl (by exact Tryz.call146) fun h' hl' => by exact tDo_calls _ _ _ _ h') ?_
  refine AOps.q rfl rfl rfl (q_buildSl (ds := [sub (doF 2 2 0 0), sub (doF 4 1 0 0)].flatMap cEff0) rfl Tryz.underlying97 Tryz.sizeOf99 Tryz.zeroValue99 rfl rfl rfl rfl (by kernel_rfl)) ?_
  refine AOps.q rfl rfl rfl (QOp.call rfl (by exact Tryz.call165) fun h' hl' => by exact tSeq_calls .full [sub (doF 2 2 0 0), sub (doF 4 1 0 0)] h') ?_
  refine AOps.q rfl rfl rfl (QOp.call rfl (by exact Tryz.call163) fun h' hl' => by exact tAim_calls _ _ h') ?_
  refine AOps.q rfl rfl rfl (QOp.call rfl (by exact Tryz.call146) fun h' hl' => by exact tDo_calls _ _ _ _ h') ?_
  refine AOps.q rfl rfl rfl (QOp.call rfl (by exact Tryz.call146) fun h' hl' => by exact tDo_calls _ _ _ _ h') ?_
  refine AOps.q rfl rfl rfl (q_buildSl (ds := [sub (doF 2 8 0 0), sub (doF 4 1 0 0)].flatMap cEff0) rfl Tryz.underlying97 Tryz.sizeOf99 Tryz.zeroValue99 rfl rfl rfl rfl (by kernel_rfl)) ?_
  refine AOps.q rfl rfl rfl (q_buildS (ds := [.int .i64 22, .int .i64 0, .int .i64 10, .int .i64 0, .sl .full 5 2 ([sub (doF 2 8 0 0), sub (doF 4 1 0 0)].flatMap cEff0)]) rfl Tryz.zeroValue99 Tryz.underlying99 (pl99 Tryz.underlying99) rfl (by kernel_rfl)) ?_
  refine AOps.q rfl rfl rfl (QOp.call rfl (by exact Tryz.call163) fun h' hl' => by exact ACalls.args (bs := [.int .i64 0, eEff ⟨22, 0, 10, 0, [sub (doF 2 8 0 0), sub (doF 4 1 0 0)]⟩]) rfl (fun j => match j with | 0 => .refl _ | 1 => VLe.trans (LLe.wk 5 _).agg (.of_eq (congrArg V.agg (by rfl))) | j + 2 => .refl _) (tAim_calls _ _ h')) ?_
  refine AOps.q rfl rfl rfl (q_buildA (ds := (whiteSpellsL).flatMap cAbil) rfl Tryz.zeroValue177 Tryz.underlying177 Tryz.sizeOf136 rfl (by kernel_rfl)) ?_
  refine AOps.s0 rfl rfl (a_storeWA rfl Tryz.sizeOf177 rfl rfl (rfl : _ = V.agg _) rfl rfl ?_)
  refine AOps.nil ?_
  refine AW.ret ?_
  exact retQ.mk' (Res.cellB Tryz.isAgg177 Tryz.sizeOf177 rfl (by exact Hp.box_setBox _ _ _) rfl) (VLe.refl _) (HLe.setBox hid0.1) ⟨rfl, rfl⟩

theorem blueSpells_calls (h : Hp) : ACalls Tryz.prog G 149 [] h fun r h' => r = .agg (blueSpellsL.flatMap cAbil) ∧ h' = h := by
  refine ACalls.enter Tryz.func149 rfl Tryz.ntmps149 Tryz.results149 rfl ?_
  refine AW.seq ?_
  refine AW.region ?_
  refine AOps.s rfl rfl rfl (a_alloc rfl Tryz.zeroValue177 rfl (fun id0 hid0 => ?_))
  refine AOps.nil ?_
  refine AW.seq ?_
  refine AW.region ?_
  refine AOps.q rfl rfl rfl (QOp.call rfl (by exact Tryz.call146) fun h' hl' => by exact tDo_calls _ _ _ _ h') ?_
  refine AOps.q rfl rfl rfl (QOp.call rfl (by exact Tryz.call163) fun h' hl' => by exact tAim_calls _ _ h') ?_
  refine AOps.q rfl rfl rfl (QOp.call rfl (by exact Tryz.call146) fun h' hl' => by exact tDo_calls _ _ _ _ h') ?_
  refine AOps.q rfl rfl rfl (QOp.call rfl (by exact Tryz.call163) fun h' hl' => by exact tAim_calls _ _ h') ?_
  refine AOps.q rfl rfl rfl (QOp.call rfl (by exact Tryz.call146) fun h' hl' => by exact tDo_calls _ _ _ _ h') ?_
  refine AOps.q rfl rfl rfl (QOp.call rfl (by exact Tryz.call163) fun h' hl' => by exact tAim_calls _ _ h') ?_
  refine AOps.q rfl rfl rfl (QOp.call rfl (by exact Tryz.call146) fun h' hl' => by exact tDo_calls _ _ _ _ h') ?_
  refine AOps.q rfl rfl rfl (QOp.call rfl (by exact Tryz.call163) fun h' hl' => by exact tAim_calls _ _ h') ?_
  refine AOps.q rfl rfl rfl (QOp.call rfl (by exact Tryz.call146) fun h' hl' => by exact tDo_calls _ _ _ _ h') ?_
  refine AOps.q rfl rfl rfl (QOp.call rfl (by exact Tryz.call163) fun h' hl' => by exact tAim_calls _ _ h') ?_
  refine AOps.q rfl rfl rfl (QOp.call rfl (by exact Tryz.call146) fun h' hl' => by exact tDo_calls _ _ _ _ h') ?_
  refine AOps.q rfl rfl rfl (QOp.call rfl (by exact Tryz.call146) fun h' hl' => by exact tDo_calls _ _ _ _ h') ?_
  refine AOps.q rfl rfl rfl (q_buildSl (ds := [sub (doF 4 3 0 0), sub (doF 19 1 0 0)].flatMap cEff0) rfl Tryz.underlying97 Tryz.sizeOf99 Tryz.zeroValue99 rfl rfl rfl rfl (by kernel_rfl)) ?_
  refine AOps.q rfl rfl rfl (QOp.call rfl (by exact Tryz.call165) fun h' hl' => by exact tSeq_calls .full [sub (doF 4 3 0 0), sub (doF 19 1 0 0)] h') ?_
  refine AOps.q rfl rfl rfl (QOp.call rfl (by exact Tryz.call163) fun h' hl' => by exact tAim_calls _ _ h') ?_
  refine AOps.q rfl rfl rfl (q_buildA (ds := (blueSpellsL).flatMap cAbil) rfl Tryz.zeroValue177 Tryz.underlying177 Tryz.sizeOf136 rfl (by kernel_rfl)) ?_
  refine AOps.s0 rfl rfl (a_storeWA rfl Tryz.sizeOf177 rfl rfl (rfl : _ = V.agg _) rfl rfl ?_)
  refine AOps.nil ?_
  refine AW.ret ?_
  exact retQ.mk' (Res.cellB Tryz.isAgg177 Tryz.sizeOf177 rfl (by exact Hp.box_setBox _ _ _) rfl) (VLe.refl _) (HLe.setBox hid0.1) ⟨rfl, rfl⟩

theorem blackSpells_calls (h : Hp) : ACalls Tryz.prog G 150 [] h fun r h' => r = .agg (blackSpellsL.flatMap cAbil) ∧ h' = h := by
  refine ACalls.enter Tryz.func150 rfl Tryz.ntmps150 Tryz.results150 rfl ?_
  refine AW.seq ?_
  refine AW.region ?_
  refine AOps.s rfl rfl rfl (a_alloc rfl Tryz.zeroValue177 rfl (fun id0 hid0 => ?_))
  refine AOps.nil ?_
  refine AW.seq ?_
  refine AW.region ?_
  refine AOps.q rfl rfl rfl (QOp.call rfl (by exact Tryz.call146) fun h' hl' => by exact tDo_calls _ _ _ _ h') ?_
  refine AOps.q rfl rfl rfl (QOp.call rfl (by exact Tryz.call163) fun h' hl' => by exact tAim_calls _ _ h') ?_
  refine AOps.q rfl rfl rfl (QOp.call rfl (by exact Tryz.call146) fun h' hl' => by exact tDo_calls _ _ _ _ h') ?_
  refine AOps.q rfl rfl rfl (QOp.call rfl (by exact Tryz.call163) fun h' hl' => by exact tAim_calls _ _ h') ?_
  refine AOps.q rfl rfl rfl (QOp.call rfl (by exact Tryz.call146) fun h' hl' => by exact tDo_calls _ _ _ _ h') ?_
  refine AOps.q rfl rfl rfl (QOp.call rfl (by exact Tryz.call163) fun h' hl' => by exact tAim_calls _ _ h') ?_
  refine AOps.q rfl rfl rfl (QOp.call rfl (by exact Tryz.call146) fun h' hl' => by exact tDo_calls _ _ _ _ h') ?_
  refine AOps.q rfl rfl rfl (QOp.call rfl (by exact Tryz.call146) fun h' hl' => by exact tDo_calls _ _ _ _ h') ?_
  refine AOps.q rfl rfl rfl (q_buildSl (ds := [sub (doF 3 2 0 1), sub (doF 2 2 0 0)].flatMap cEff0) rfl Tryz.underlying97 Tryz.sizeOf99 Tryz.zeroValue99 rfl rfl rfl rfl (by kernel_rfl)) ?_
  refine AOps.q rfl rfl rfl (QOp.call rfl (by exact Tryz.call165) fun h' hl' => by exact tSeq_calls .full [sub (doF 3 2 0 1), sub (doF 2 2 0 0)] h') ?_
  refine AOps.q rfl rfl rfl (QOp.call rfl (by exact Tryz.call163) fun h' hl' => by exact tAim_calls _ _ h') ?_
  refine AOps.q rfl rfl rfl (QOp.call rfl (by exact Tryz.call146) fun h' hl' => by exact tDo_calls _ _ _ _ h') ?_
  refine AOps.q rfl rfl rfl (QOp.call rfl (by exact Tryz.call163) fun h' hl' => by exact tAim_calls _ _ h') ?_
  refine AOps.q rfl rfl rfl (QOp.call rfl (by exact Tryz.call146) fun h' hl' => by exact tDo_calls _ _ _ _ h') ?_
  refine AOps.q rfl rfl rfl (QOp.call rfl (by exact Tryz.call163) fun h' hl' => by exact tAim_calls _ _ h') ?_
  refine AOps.q rfl rfl rfl (q_buildA (ds := (blackSpellsL).flatMap cAbil) rfl Tryz.zeroValue177 Tryz.underlying177 Tryz.sizeOf136 rfl (by kernel_rfl)) ?_
  refine AOps.s0 rfl rfl (a_storeWA rfl Tryz.sizeOf177 rfl rfl (rfl : _ = V.agg _) rfl rfl ?_)
  refine AOps.nil ?_
  refine AW.ret ?_
  exact retQ.mk' (Res.cellB Tryz.isAgg177 Tryz.sizeOf177 rfl (by exact Hp.box_setBox _ _ _) rfl) (VLe.refl _) (HLe.setBox hid0.1) ⟨rfl, rfl⟩

theorem redSpells_calls (h : Hp) : ACalls Tryz.prog G 151 [] h fun r h' => r = .agg (redSpellsL.flatMap cAbil) ∧ h' = h := by
  refine ACalls.enter Tryz.func151 rfl Tryz.ntmps151 Tryz.results151 rfl ?_
  refine AW.seq ?_
  refine AW.region ?_
  refine AOps.s rfl rfl rfl (a_alloc rfl Tryz.zeroValue177 rfl (fun id0 hid0 => ?_))
  refine AOps.nil ?_
  refine AW.seq ?_
  refine AW.region ?_
  refine AOps.q rfl rfl rfl (QOp.call rfl (by exact Tryz.call146) fun h' hl' => by exact tDo_calls _ _ _ _ h') ?_
  refine AOps.q rfl rfl rfl (QOp.call rfl (by exact Tryz.call163) fun h' hl' => by exact tAim_calls _ _ h') ?_
  refine AOps.q rfl rfl rfl (QOp.call rfl (by exact Tryz.call146) fun h' hl' => by exact tDo_calls _ _ _ _ h') ?_
  refine AOps.q rfl rfl rfl (QOp.call rfl (by exact Tryz.call163) fun h' hl' => by exact tAim_calls _ _ h') ?_
  refine AOps.q rfl rfl rfl (QOp.call rfl (by exact Tryz.call146) fun h' hl' => by exact tDo_calls _ _ _ _ h') ?_
  refine AOps.q rfl rfl rfl (QOp.call rfl (by exact Tryz.call163) fun h' hl' => by exact tAim_calls _ _ h') ?_
  refine AOps.q rfl rfl rfl (QOp.call rfl (by exact Tryz.call164) fun h' hl' => by exact tEvery_calls _ _ _ _ h') ?_
  refine AOps.q rfl rfl rfl (QOp.call rfl (by exact Tryz.call163) fun h' hl' => by exact tAim_calls _ _ h') ?_
  refine AOps.q rfl rfl rfl (QOp.call rfl (by exact Tryz.call146) fun h' hl' => by exact tDo_calls _ _ _ _ h') ?_
  refine AOps.q rfl rfl rfl (QOp.call rfl (by exact Tryz.call163) fun h' hl' => by exact tAim_calls _ _ h') ?_
  refine AOps.q rfl rfl rfl (QOp.call rfl (by exact Tryz.call146) fun h' hl' => by exact tDo_calls _ _ _ _ h') ?_
  refine AOps.q rfl rfl rfl (QOp.call rfl (by exact Tryz.call146) fun h' hl' => by exact tDo_calls _ _ _ _ h') ?_
  refine AOps.q rfl rfl rfl (q_buildSl (ds := [sub (doF 1 2 0 2), sub (doF 4 1 0 0)].flatMap cEff0) rfl Tryz.underlying97 Tryz.sizeOf99 Tryz.zeroValue99 rfl rfl rfl rfl (by kernel_rfl)) ?_
  refine AOps.q rfl rfl rfl (QOp.call rfl (by exact Tryz.call165) fun h' hl' => by exact tSeq_calls .full [sub (doF 1 2 0 2), sub (doF 4 1 0 0)] h') ?_
  refine AOps.q rfl rfl rfl (QOp.call rfl (by exact Tryz.call163) fun h' hl' => by exact tAim_calls _ _ h') ?_
  refine AOps.q rfl rfl rfl (q_buildA (ds := (redSpellsL).flatMap cAbil) rfl Tryz.zeroValue177 Tryz.underlying177 Tryz.sizeOf136 rfl (by kernel_rfl)) ?_
  refine AOps.s0 rfl rfl (a_storeWA rfl Tryz.sizeOf177 rfl rfl (rfl : _ = V.agg _) rfl rfl ?_)
  refine AOps.nil ?_
  refine AW.ret ?_
  exact retQ.mk' (Res.cellB Tryz.isAgg177 Tryz.sizeOf177 rfl (by exact Hp.box_setBox _ _ _) rfl) (VLe.refl _) (HLe.setBox hid0.1) ⟨rfl, rfl⟩

theorem greenSpells_calls (h : Hp) : ACalls Tryz.prog G 152 [] h fun r h' => r = .agg (greenSpellsL.flatMap cAbil) ∧ h' = h := by
  refine ACalls.enter Tryz.func152 rfl Tryz.ntmps152 Tryz.results152 rfl ?_
  refine AW.seq ?_
  refine AW.region ?_
  refine AOps.s rfl rfl rfl (a_alloc rfl Tryz.zeroValue177 rfl (fun id0 hid0 => ?_))
  refine AOps.nil ?_
  refine AW.seq ?_
  refine AW.region ?_
  refine AOps.q rfl rfl rfl (QOp.call rfl (by exact Tryz.call146) fun h' hl' => by exact tDo_calls _ _ _ _ h') ?_
  refine AOps.q rfl rfl rfl (QOp.call rfl (by exact Tryz.call163) fun h' hl' => by exact tAim_calls _ _ h') ?_
  refine AOps.q rfl rfl rfl (QOp.call rfl (by exact Tryz.call146) fun h' hl' => by exact tDo_calls _ _ _ _ h') ?_
  refine AOps.q rfl rfl rfl (QOp.call rfl (by exact Tryz.call163) fun h' hl' => by exact tAim_calls _ _ h') ?_
  refine AOps.q rfl rfl rfl (QOp.call rfl (by exact Tryz.call146) fun h' hl' => by exact tDo_calls _ _ _ _ h') ?_
  refine AOps.q rfl rfl rfl (QOp.call rfl (by exact Tryz.call163) fun h' hl' => by exact tAim_calls _ _ h') ?_
  refine AOps.q rfl rfl rfl (QOp.call rfl (by exact Tryz.call146) fun h' hl' => by exact tDo_calls _ _ _ _ h') ?_
  refine AOps.q rfl rfl rfl (QOp.call rfl (by exact Tryz.call163) fun h' hl' => by exact tAim_calls _ _ h') ?_
  refine AOps.q rfl rfl rfl (QOp.call rfl (by exact Tryz.call146) fun h' hl' => by exact tDo_calls _ _ _ _ h') ?_
  refine AOps.q rfl rfl rfl (QOp.call rfl (by exact Tryz.call163) fun h' hl' => by exact tAim_calls _ _ h') ?_
  refine AOps.q rfl rfl rfl (QOp.call rfl (by exact Tryz.call164) fun h' hl' => by exact tEvery_calls _ _ _ _ h') ?_
  refine AOps.q rfl rfl rfl (QOp.call rfl (by exact Tryz.call163) fun h' hl' => by exact tAim_calls _ _ h') ?_
  refine AOps.q rfl rfl rfl (q_buildA (ds := (greenSpellsL).flatMap cAbil) rfl Tryz.zeroValue177 Tryz.underlying177 Tryz.sizeOf136 rfl (by kernel_rfl)) ?_
  refine AOps.s0 rfl rfl (a_storeWA rfl Tryz.sizeOf177 rfl rfl (rfl : _ = V.agg _) rfl rfl ?_)
  refine AOps.nil ?_
  refine AW.ret ?_
  exact retQ.mk' (Res.cellB Tryz.isAgg177 Tryz.sizeOf177 rfl (by exact Hp.box_setBox _ _ _) rfl) (VLe.refl _) (HLe.setBox hid0.1) ⟨rfl, rfl⟩

theorem whiteRelics_calls (h : Hp) : ACalls Tryz.prog G 153 [] h fun r h' => r = .agg (whiteRelicsL.flatMap cAbil) ∧ h' = h := by
  refine ACalls.enter Tryz.func153 rfl Tryz.ntmps153 Tryz.results153 rfl ?_
  refine AW.seq ?_
  refine AW.region ?_
  refine AOps.s rfl rfl rfl (a_alloc rfl Tryz.zeroValue180 rfl (fun id0 hid0 => ?_))
  refine AOps.nil ?_
  refine AW.seq ?_
  refine AW.region ?_
  refine AOps.q rfl rfl rfl (QOp.call rfl (by exact Tryz.call136) fun h' hl' => by exact tCost_calls _ _ _ (by omega) (by omega) h') ?_
  refine AOps.s rfl rfl rfl (a_alloc rfl Tryz.zeroValue89 rfl (fun id1 hid1 => ?_))
  refine AOps.s0 rfl rfl (a_storeWA rfl Tryz.sizeOf89 rfl rfl (rfl : _ = V.agg _) rfl rfl ?_)
  refine AOps.done 1 rfl hid1 ?_
  refine AOps.nil ?_
  refine AW.seq ?_
  refine AW.draw [10] [] [(0, true), (1, true), (2, true), (3, true), (4, true), (5, true), (6, true), (7, true), (8, true), (9, true), (10, false)] mixed (by kernel_rfl) rfl (by kernel_rfl) ?_
  refine AOrd.q rfl rfl rfl rfl (QOp.call rfl (by exact Tryz.call164) fun h' hl' => by exact tEvery_calls _ _ _ _ h') ?_
  refine AOrd.q rfl rfl rfl rfl (QOp.call rfl (by exact Tryz.call145) fun h' hl' => by exact tWhen_calls _ _ h') ?_
  refine AOrd.q rfl rfl rfl rfl (QOp.call rfl (by exact Tryz.call146) fun h' hl' => by exact tDo_calls _ _ _ _ h') ?_
  refine AOrd.q rfl rfl rfl rfl (QOp.call rfl (by exact Tryz.call145) fun h' hl' => by exact tWhen_calls _ _ h') ?_
  refine AOrd.q rfl rfl rfl rfl (q_load_iW rfl Tryz.isAgg89 Tryz.sizeOf89 rfl (by rfl)) ?_
  refine AOrd.q rfl rfl rfl rfl (QOp.call rfl (by exact Tryz.call146) fun h' hl' => by exact tDo_calls _ _ _ _ h') ?_
  refine AOrd.q rfl rfl rfl rfl (QOp.call rfl (by exact Tryz.call147) fun h' hl' => by exact tActive_calls _ _ _ _ h') ?_
  refine AOrd.q rfl rfl rfl rfl (QOp.call rfl (by exact Tryz.call164) fun h' hl' => by exact tEvery_calls _ _ _ _ h') ?_
  refine AOrd.q rfl rfl rfl rfl (QOp.call rfl (by exact Tryz.call145) fun h' hl' => by exact tWhen_calls _ _ h') ?_
  refine AOrd.q rfl rfl rfl rfl (q_buildA (ds := (whiteRelicsL).flatMap cAbil) rfl Tryz.zeroValue180 Tryz.underlying180 Tryz.sizeOf136 rfl (by kernel_rfl)) ?_
  refine AOrd.s0 rfl rfl rfl rfl (a_storeWA rfl Tryz.sizeOf180 rfl rfl (rfl : _ = V.agg _) rfl rfl ?_)
  refine AOrd.nil ?_
  refine AW.ret ?_
  exact retQ.mk' (Res.cellB Tryz.isAgg180 Tryz.sizeOf180 rfl (by exact Hp.box_setBox _ _ _) rfl) (VLe.refl _) (HLe.setBox hid0.1) ⟨rfl, rfl⟩

theorem blueRelics_calls (h : Hp) : ACalls Tryz.prog G 154 [] h fun r h' => r = .agg (blueRelicsL.flatMap cAbil) ∧ h' = h := by
  refine ACalls.enter Tryz.func154 rfl Tryz.ntmps154 Tryz.results154 rfl ?_
  refine AW.seq ?_
  refine AW.region ?_
  refine AOps.s rfl rfl rfl (a_alloc rfl Tryz.zeroValue180 rfl (fun id0 hid0 => ?_))
  refine AOps.nil ?_
  refine AW.seq ?_
  refine AW.region ?_
  refine AOps.q rfl rfl rfl (QOp.call rfl (by exact Tryz.call136) fun h' hl' => by exact tCost_calls _ _ _ (by omega) (by omega) h') ?_
  refine AOps.s rfl rfl rfl (a_alloc rfl Tryz.zeroValue89 rfl (fun id1 hid1 => ?_))
  refine AOps.s0 rfl rfl (a_storeWA rfl Tryz.sizeOf89 rfl rfl (rfl : _ = V.agg _) rfl rfl ?_)
  refine AOps.done 1 rfl hid1 ?_
  refine AOps.nil ?_
  refine AW.seq ?_
  refine AW.draw [11] [] [(0, true), (1, true), (2, true), (3, true), (4, true), (5, true), (6, true), (7, true), (8, true), (9, true), (10, true), (11, false)] mixed (by kernel_rfl) rfl (by kernel_rfl) ?_
  refine AOrd.q rfl rfl rfl rfl (QOp.call rfl (by exact Tryz.call164) fun h' hl' => by exact tEvery_calls _ _ _ _ h') ?_
  refine AOrd.q rfl rfl rfl rfl (QOp.call rfl (by exact Tryz.call145) fun h' hl' => by exact tWhen_calls _ _ h') ?_
  refine AOrd.q rfl rfl rfl rfl (QOp.call rfl (by exact Tryz.call146) fun h' hl' => by exact tDo_calls _ _ _ _ h') ?_
  refine AOrd.q rfl rfl rfl rfl (QOp.call rfl (by exact Tryz.call145) fun h' hl' => by exact tWhen_calls _ _ h') ?_
  refine AOrd.q rfl rfl rfl rfl (q_load_iW rfl Tryz.isAgg89 Tryz.sizeOf89 rfl (by rfl)) ?_
  refine AOrd.q rfl rfl rfl rfl (QOp.call rfl (by exact Tryz.call146) fun h' hl' => by exact tDo_calls _ _ _ _ h') ?_
  refine AOrd.q rfl rfl rfl rfl (QOp.call rfl (by exact Tryz.call147) fun h' hl' => by exact tActive_calls _ _ _ _ h') ?_
  refine AOrd.q rfl rfl rfl rfl (QOp.call rfl (by exact Tryz.call136) fun h' hl' => by exact tCost_calls _ _ _ (by omega) (by omega) h') ?_
  refine AOrd.q rfl rfl rfl rfl (QOp.call rfl (by exact Tryz.call146) fun h' hl' => by exact tDo_calls _ _ _ _ h') ?_
  refine AOrd.q rfl rfl rfl rfl (QOp.call rfl (by exact Tryz.call147) fun h' hl' => by exact tActive_calls _ _ _ _ h') ?_
  refine AOrd.q rfl rfl rfl rfl (q_buildA (ds := (blueRelicsL).flatMap cAbil) rfl Tryz.zeroValue180 Tryz.underlying180 Tryz.sizeOf136 rfl (by kernel_rfl)) ?_
  refine AOrd.s0 rfl rfl rfl rfl (a_storeWA rfl Tryz.sizeOf180 rfl rfl (rfl : _ = V.agg _) rfl rfl ?_)
  refine AOrd.nil ?_
  refine AW.ret ?_
  exact retQ.mk' (Res.cellB Tryz.isAgg180 Tryz.sizeOf180 rfl (by exact Hp.box_setBox _ _ _) rfl) (VLe.refl _) (HLe.setBox hid0.1) ⟨rfl, rfl⟩

theorem blackRelics_calls (h : Hp) : ACalls Tryz.prog G 155 [] h fun r h' => r = .agg (blackRelicsL.flatMap cAbil) ∧ h' = h := by
  refine ACalls.enter Tryz.func155 rfl Tryz.ntmps155 Tryz.results155 rfl ?_
  refine AW.seq ?_
  refine AW.region ?_
  refine AOps.s rfl rfl rfl (a_alloc rfl Tryz.zeroValue180 rfl (fun id0 hid0 => ?_))
  refine AOps.nil ?_
  refine AW.seq ?_
  refine AW.region ?_
  refine AOps.q rfl rfl rfl (QOp.call rfl (by exact Tryz.call136) fun h' hl' => by exact tCost_calls _ _ _ (by omega) (by omega) h') ?_
  refine AOps.s rfl rfl rfl (a_alloc rfl Tryz.zeroValue89 rfl (fun id1 hid1 => ?_))
  refine AOps.s0 rfl rfl (a_storeWA rfl Tryz.sizeOf89 rfl rfl (rfl : _ = V.agg _) rfl rfl ?_)
  refine AOps.done 1 rfl hid1 ?_
  refine AOps.nil ?_
  refine AW.seq ?_
  refine AW.draw [10] [] [(0, true), (1, true), (2, true), (3, true), (4, true), (5, true), (6, true), (7, true), (8, true), (9, true), (10, false)] mixed (by kernel_rfl) rfl (by kernel_rfl) ?_
  refine AOrd.q rfl rfl rfl rfl (QOp.call rfl (by exact Tryz.call164) fun h' hl' => by exact tEvery_calls _ _ _ _ h') ?_
  refine AOrd.q rfl rfl rfl rfl (QOp.call rfl (by exact Tryz.call145) fun h' hl' => by exact tWhen_calls _ _ h') ?_
  refine AOrd.q rfl rfl rfl rfl (QOp.call rfl (by exact Tryz.call146) fun h' hl' => by exact tDo_calls _ _ _ _ h') ?_
  refine AOrd.q rfl rfl rfl rfl (QOp.call rfl (by exact Tryz.call145) fun h' hl' => by exact tWhen_calls _ _ h') ?_
  refine AOrd.q rfl rfl rfl rfl (q_load_iW rfl Tryz.isAgg89 Tryz.sizeOf89 rfl (by rfl)) ?_
  refine AOrd.q rfl rfl rfl rfl (QOp.call rfl (by exact Tryz.call146) fun h' hl' => by exact tDo_calls _ _ _ _ h') ?_
  refine AOrd.q rfl rfl rfl rfl (QOp.call rfl (by exact Tryz.call147) fun h' hl' => by exact tActive_calls _ _ _ _ h') ?_
  refine AOrd.q rfl rfl rfl rfl (QOp.call rfl (by exact Tryz.call164) fun h' hl' => by exact tEvery_calls _ _ _ _ h') ?_
  refine AOrd.q rfl rfl rfl rfl (QOp.call rfl (by exact Tryz.call145) fun h' hl' => by exact tWhen_calls _ _ h') ?_
  refine AOrd.q rfl rfl rfl rfl (q_buildA (ds := (blackRelicsL).flatMap cAbil) rfl Tryz.zeroValue180 Tryz.underlying180 Tryz.sizeOf136 rfl (by kernel_rfl)) ?_
  refine AOrd.s0 rfl rfl rfl rfl (a_storeWA rfl Tryz.sizeOf180 rfl rfl (rfl : _ = V.agg _) rfl rfl ?_)
  refine AOrd.nil ?_
  refine AW.ret ?_
  exact retQ.mk' (Res.cellB Tryz.isAgg180 Tryz.sizeOf180 rfl (by exact Hp.box_setBox _ _ _) rfl) (VLe.refl _) (HLe.setBox hid0.1) ⟨rfl, rfl⟩

theorem redRelics_calls (h : Hp) : ACalls Tryz.prog G 156 [] h fun r h' => r = .agg (redRelicsL.flatMap cAbil) ∧ h' = h := by
  refine ACalls.enter Tryz.func156 rfl Tryz.ntmps156 Tryz.results156 rfl ?_
  refine AW.seq ?_
  refine AW.region ?_
  refine AOps.s rfl rfl rfl (a_alloc rfl Tryz.zeroValue180 rfl (fun id0 hid0 => ?_))
  refine AOps.nil ?_
  refine AW.seq ?_
  refine AW.region ?_
  refine AOps.q rfl rfl rfl (QOp.call rfl (by exact Tryz.call136) fun h' hl' => by exact tCost_calls _ _ _ (by omega) (by omega) h') ?_
  refine AOps.s rfl rfl rfl (a_alloc rfl Tryz.zeroValue89 rfl (fun id1 hid1 => ?_))
  refine AOps.s0 rfl rfl (a_storeWA rfl Tryz.sizeOf89 rfl rfl (rfl : _ = V.agg _) rfl rfl ?_)
  refine AOps.done 1 rfl hid1 ?_
  refine AOps.nil ?_
  refine AW.seq ?_
  refine AW.draw [10] [] [(0, true), (1, true), (2, true), (3, true), (4, true), (5, true), (6, true), (7, true), (8, true), (9, true), (10, false)] mixed (by kernel_rfl) rfl (by kernel_rfl) ?_
  refine AOrd.q rfl rfl rfl rfl (QOp.call rfl (by exact Tryz.call164) fun h' hl' => by exact tEvery_calls _ _ _ _ h') ?_
  refine AOrd.q rfl rfl rfl rfl (QOp.call rfl (by exact Tryz.call145) fun h' hl' => by exact tWhen_calls _ _ h') ?_
  refine AOrd.q rfl rfl rfl rfl (QOp.call rfl (by exact Tryz.call146) fun h' hl' => by exact tDo_calls _ _ _ _ h') ?_
  refine AOrd.q rfl rfl rfl rfl (QOp.call rfl (by exact Tryz.call145) fun h' hl' => by exact tWhen_calls _ _ h') ?_
  refine AOrd.q rfl rfl rfl rfl (q_load_iW rfl Tryz.isAgg89 Tryz.sizeOf89 rfl (by rfl)) ?_
  refine AOrd.q rfl rfl rfl rfl (QOp.call rfl (by exact Tryz.call146) fun h' hl' => by exact tDo_calls _ _ _ _ h') ?_
  refine AOrd.q rfl rfl rfl rfl (QOp.call rfl (by exact Tryz.call147) fun h' hl' => by exact tActive_calls _ _ _ _ h') ?_
  refine AOrd.q rfl rfl rfl rfl (QOp.call rfl (by exact Tryz.call146) fun h' hl' => by exact tDo_calls _ _ _ _ h') ?_
  refine AOrd.q rfl rfl rfl rfl (QOp.call rfl (by exact Tryz.call145) fun h' hl' => by exact tWhen_calls _ _ h') ?_
  refine AOrd.q rfl rfl rfl rfl (q_buildA (ds := (redRelicsL).flatMap cAbil) rfl Tryz.zeroValue180 Tryz.underlying180 Tryz.sizeOf136 rfl (by kernel_rfl)) ?_
  refine AOrd.s0 rfl rfl rfl rfl (a_storeWA rfl Tryz.sizeOf180 rfl rfl (rfl : _ = V.agg _) rfl rfl ?_)
  refine AOrd.nil ?_
  refine AW.ret ?_
  exact retQ.mk' (Res.cellB Tryz.isAgg180 Tryz.sizeOf180 rfl (by exact Hp.box_setBox _ _ _) rfl) (VLe.refl _) (HLe.setBox hid0.1) ⟨rfl, rfl⟩

theorem greenRelics_calls (h : Hp) : ACalls Tryz.prog G 157 [] h fun r h' => r = .agg (greenRelicsL.flatMap cAbil) ∧ h' = h := by
  refine ACalls.enter Tryz.func157 rfl Tryz.ntmps157 Tryz.results157 rfl ?_
  refine AW.seq ?_
  refine AW.region ?_
  refine AOps.s rfl rfl rfl (a_alloc rfl Tryz.zeroValue180 rfl (fun id0 hid0 => ?_))
  refine AOps.nil ?_
  refine AW.seq ?_
  refine AW.region ?_
  refine AOps.q rfl rfl rfl (QOp.call rfl (by exact Tryz.call136) fun h' hl' => by exact tCost_calls _ _ _ (by omega) (by omega) h') ?_
  refine AOps.s rfl rfl rfl (a_alloc rfl Tryz.zeroValue89 rfl (fun id1 hid1 => ?_))
  refine AOps.s0 rfl rfl (a_storeWA rfl Tryz.sizeOf89 rfl rfl (rfl : _ = V.agg _) rfl rfl ?_)
  refine AOps.done 1 rfl hid1 ?_
  refine AOps.nil ?_
  refine AW.seq ?_
  refine AW.draw [10] [] [(0, true), (1, true), (2, true), (3, true), (4, true), (5, true), (6, true), (7, true), (8, true), (9, true), (10, false)] mixed (by kernel_rfl) rfl (by kernel_rfl) ?_
  refine AOrd.q rfl rfl rfl rfl (QOp.call rfl (by exact Tryz.call164) fun h' hl' => by exact tEvery_calls _ _ _ _ h') ?_
  refine AOrd.q rfl rfl rfl rfl (QOp.call rfl (by exact Tryz.call145) fun h' hl' => by exact tWhen_calls _ _ h') ?_
  refine AOrd.q rfl rfl rfl rfl (QOp.call rfl (by exact Tryz.call146) fun h' hl' => by exact tDo_calls _ _ _ _ h') ?_
  refine AOrd.q rfl rfl rfl rfl (QOp.call rfl (by exact Tryz.call145) fun h' hl' => by exact tWhen_calls _ _ h') ?_
  refine AOrd.q rfl rfl rfl rfl (q_load_iW rfl Tryz.isAgg89 Tryz.sizeOf89 rfl (by rfl)) ?_
  refine AOrd.q rfl rfl rfl rfl (QOp.call rfl (by exact Tryz.call146) fun h' hl' => by exact tDo_calls _ _ _ _ h') ?_
  refine AOrd.q rfl rfl rfl rfl (QOp.call rfl (by exact Tryz.call147) fun h' hl' => by exact tActive_calls _ _ _ _ h') ?_
  refine AOrd.q rfl rfl rfl rfl (QOp.call rfl (by exact Tryz.call146) fun h' hl' => by exact tDo_calls _ _ _ _ h') ?_
  refine AOrd.q rfl rfl rfl rfl (QOp.call rfl (by exact Tryz.call145) fun h' hl' => by exact tWhen_calls _ _ h') ?_
  refine AOrd.q rfl rfl rfl rfl (q_buildA (ds := (greenRelicsL).flatMap cAbil) rfl Tryz.zeroValue180 Tryz.underlying180 Tryz.sizeOf136 rfl (by kernel_rfl)) ?_
  refine AOrd.s0 rfl rfl rfl rfl (a_storeWA rfl Tryz.sizeOf180 rfl rfl (rfl : _ = V.agg _) rfl rfl ?_)
  refine AOrd.nil ?_
  refine AW.ret ?_
  exact retQ.mk' (Res.cellB Tryz.isAgg180 Tryz.sizeOf180 rfl (by exact Hp.box_setBox _ _ _) rfl) (VLe.refl _) (HLe.setBox hid0.1) ⟨rfl, rfl⟩

theorem spells_calls (h : Hp) : ACalls Tryz.prog G 137 [] h fun r h' => r = .agg (spellsL.flatMap cAbil) ∧ h' = h := by
  refine ACalls.enter Tryz.func137 rfl Tryz.ntmps137 Tryz.results137 rfl ?_
  refine AW.seq ?_
  refine AW.region ?_
  refine AOps.s rfl rfl rfl (a_alloc rfl Tryz.zeroValue178 rfl (fun id0 hid0 => ?_))
  refine AOps.nil ?_
  refine AW.seq ?_
  refine AW.region ?_
  refine AOps.q rfl rfl rfl (QOp.call rfl (by exact Tryz.call148) fun h' hl' => by exact whiteSpells_calls h') ?_
  refine AOps.q rfl rfl rfl (QOp.call rfl (by exact Tryz.call149) fun h' hl' => by exact blueSpells_calls h') ?_
  refine AOps.q rfl rfl rfl (QOp.call rfl (by exact Tryz.call150) fun h' hl' => by exact blackSpells_calls h') ?_
  refine AOps.q rfl rfl rfl (QOp.call rfl (by exact Tryz.call151) fun h' hl' => by exact redSpells_calls h') ?_
  refine AOps.q rfl rfl rfl (QOp.call rfl (by exact Tryz.call152) fun h' hl' => by exact greenSpells_calls h') ?_
  refine AOps.q rfl rfl rfl (q_buildA (ds := spellsL.flatMap cAbil) rfl Tryz.zeroValue178 Tryz.underlying178 Tryz.sizeOf177 rfl (by kernel_rfl)) ?_
  refine AOps.s0 rfl rfl (a_storeWA rfl Tryz.sizeOf178 rfl rfl (rfl : _ = V.agg _) rfl rfl ?_)
  refine AOps.nil ?_
  refine AW.ret ?_
  exact retQ.mk' (Res.cellB Tryz.isAgg178 Tryz.sizeOf178 rfl (by exact Hp.box_setBox _ _ _) rfl) (VLe.refl _) (HLe.setBox hid0.1) ⟨rfl, rfl⟩

theorem relics_calls (h : Hp) : ACalls Tryz.prog G 138 [] h fun r h' => r = .agg (relicsL.flatMap cAbil) ∧ h' = h := by
  refine ACalls.enter Tryz.func138 rfl Tryz.ntmps138 Tryz.results138 rfl ?_
  refine AW.seq ?_
  refine AW.region ?_
  refine AOps.s rfl rfl rfl (a_alloc rfl Tryz.zeroValue181 rfl (fun id0 hid0 => ?_))
  refine AOps.nil ?_
  refine AW.seq ?_
  refine AW.region ?_
  refine AOps.q rfl rfl rfl (QOp.call rfl (by exact Tryz.call153) fun h' hl' => by exact whiteRelics_calls h') ?_
  refine AOps.q rfl rfl rfl (QOp.call rfl (by exact Tryz.call154) fun h' hl' => by exact blueRelics_calls h') ?_
  refine AOps.q rfl rfl rfl (QOp.call rfl (by exact Tryz.call155) fun h' hl' => by exact blackRelics_calls h') ?_
  refine AOps.q rfl rfl rfl (QOp.call rfl (by exact Tryz.call156) fun h' hl' => by exact redRelics_calls h') ?_
  refine AOps.q rfl rfl rfl (QOp.call rfl (by exact Tryz.call157) fun h' hl' => by exact greenRelics_calls h') ?_
  refine AOps.q rfl rfl rfl (q_buildA (ds := relicsL.flatMap cAbil) rfl Tryz.zeroValue181 Tryz.underlying181 Tryz.sizeOf180 rfl (by kernel_rfl)) ?_
  refine AOps.s0 rfl rfl (a_storeWA rfl Tryz.sizeOf181 rfl rfl (rfl : _ = V.agg _) rfl rfl ?_)
  refine AOps.nil ?_
  refine AW.ret ?_
  exact retQ.mk' (Res.cellB Tryz.isAgg181 Tryz.sizeOf181 rfl (by exact Hp.box_setBox _ _ _) rfl) (VLe.refl _) (HLe.setBox hid0.1) ⟨rfl, rfl⟩

theorem early_calls (h : Hp) : ACalls Tryz.prog G 158 [] h fun r h' => r = .sl .full 13 6 (earlyL.flatMap (cCardK .full)) ∧ h' = h := by
  refine ACalls.enter Tryz.func158 rfl Tryz.ntmps158 Tryz.results158 rfl ?_
  refine AW.seq ?_
  refine AW.region ?_
  refine AOps.q rfl rfl rfl (q_as rfl (rfl : _ = V.snil)) ?_
  refine AOps.nil ?_
  refine AW.seq ?_
  refine AW.region ?_
  refine AOps.q rfl rfl rfl (QOp.call rfl (by exact Tryz.call146) fun h' hl' => by exact tDo_calls _ _ _ _ h') ?_
  refine AOps.q rfl rfl rfl (QOp.call rfl (by exact Tryz.call163) fun h' hl' => by exact tAim_calls _ _ h') ?_
  refine AOps.q rfl rfl rfl (QOp.call rfl (by exact Tryz.call166) fun h' hl' => by exact tSingle_calls _ _ _ _ (by omega) h') ?_
  refine AOps.q rfl rfl rfl (QOp.call rfl (by exact Tryz.call146) fun h' hl' => by exact tDo_calls _ _ _ _ h') ?_
  refine AOps.q rfl rfl rfl (QOp.call rfl (by exact Tryz.call163) fun h' hl' => by exact tAim_calls _ _ h') ?_
  refine AOps.q rfl rfl rfl (QOp.call rfl (by exact Tryz.call166) fun h' hl' => by exact tSingle_calls _ _ _ _ (by omega) h') ?_
  refine AOps.q rfl rfl rfl (QOp.call rfl (by exact Tryz.call146) fun h' hl' => by exact tDo_calls _ _ _ _ h') ?_
  refine AOps.q rfl rfl rfl (QOp.call rfl (by exact Tryz.call163) fun h' hl' => by exact tAim_calls _ _ h') ?_
  refine AOps.q rfl rfl rfl (QOp.call rfl (by exact Tryz.call166) fun h' hl' => by exact tSingle_calls _ _ _ _ (by omega) h') ?_
  refine AOps.q rfl rfl rfl (QOp.call rfl (by exact Tryz.call146) fun h' hl' => by exact tDo_calls _ _ _ _ h') ?_
  refine AOps.q rfl rfl rfl (QOp.call rfl (by exact Tryz.call163) fun h' hl' => by exact tAim_calls _ _ h') ?_
  refine AOps.q rfl rfl rfl (QOp.call rfl (by exact Tryz.call166) fun h' hl' => by exact tSingle_calls _ _ _ _ (by omega) h') ?_
  refine AOps.q rfl rfl rfl (QOp.call rfl (by exact Tryz.call146) fun h' hl' => by exact tDo_calls _ _ _ _ h') ?_
  refine AOps.q rfl rfl rfl (QOp.call rfl (by exact Tryz.call163) fun h' hl' => by exact tAim_calls _ _ h') ?_
  refine AOps.q rfl rfl rfl (QOp.call rfl (by exact Tryz.call166) fun h' hl' => by exact tSingle_calls _ _ _ _ (by omega) h') ?_
  refine AOps.q rfl rfl rfl (QOp.call rfl (by exact Tryz.call146) fun h' hl' => by exact tDo_calls _ _ _ _ h') ?_
  refine AOps.q rfl rfl rfl (QOp.call rfl (by exact Tryz.call163) fun h' hl' => by exact tAim_calls _ _ h') ?_
  refine AOps.q rfl rfl rfl (QOp.call rfl (by exact Tryz.call166) fun h' hl' => by exact tSingle_calls _ _ _ _ (by omega) h') ?_
  refine AOps.q rfl rfl rfl (q_buildSl (ds := (earlyL).flatMap (cCardK .full)) rfl Tryz.underlying190 Tryz.sizeOf92 Tryz.zeroValue92 rfl rfl rfl rfl (by kernel_rfl)) ?_
  refine AOps.q rfl rfl rfl (q_as rfl (rfl : _ = V.sl _ _ _ _)) ?_
  refine AOps.nil ?_
  refine AW.ret ?_
  exact retQ.mk' (.one _) (VLe.refl _) (HLe.refl _) ⟨rfl, rfl⟩

theorem late_calls (h : Hp) : ACalls Tryz.prog G 159 [] h fun r h' => r = .sl .full 13 6 (lateL.flatMap (cCardK .full)) ∧ h' = h := by
  refine ACalls.enter Tryz.func159 rfl Tryz.ntmps159 Tryz.results159 rfl ?_
  refine AW.seq ?_
  refine AW.region ?_
  refine AOps.q rfl rfl rfl (q_as rfl (rfl : _ = V.snil)) ?_
  refine AOps.nil ?_
  refine AW.seq ?_
  refine AW.region ?_
  refine AOps.q rfl rfl rfl (QOp.call rfl (by exact Tryz.call164) fun h' hl' => by exact tEvery_calls _ _ _ _ h') ?_
  refine AOps.q rfl rfl rfl (QOp.call rfl (by exact Tryz.call163) fun h' hl' => by exact tAim_calls _ _ h') ?_
  refine AOps.q rfl rfl rfl (QOp.call rfl (by exact Tryz.call166) fun h' hl' => by exact tSingle_calls _ _ _ _ (by omega) h') ?_
  refine AOps.q rfl rfl rfl (q_buildA (ds := cCost noCost) rfl Tryz.zeroValue89 Tryz.underlying89 Tryz.sizeOf3 rfl (by kernel_rfl)) ?_
  refine AOps.q rfl rfl rfl (QOp.call rfl (by exact Tryz.call146) fun h' hl' => by exact tDo_calls _ _ _ _ h') ?_
  refine AOps.q rfl rfl rfl (QOp.call rfl (by exact Tryz.call147) fun h' hl' => by exact tActive_calls _ _ _ _ h') ?_
  refine AOps.q rfl rfl rfl (QOp.call rfl (by exact Tryz.call166) fun h' hl' => by exact tSingle_calls _ _ _ _ (by omega) h') ?_
  refine AOps.q rfl rfl rfl (QOp.call rfl (by exact Tryz.call136) fun h' hl' => by exact tCost_calls _ _ _ (by omega) (by omega) h') ?_
  refine AOps.q rfl rfl rfl (QOp.call rfl (by exact Tryz.call146) fun h' hl' => by exact tDo_calls _ _ _ _ h') ?_
  refine AOps.q rfl rfl rfl (QOp.call rfl (by exact Tryz.call147) fun h' hl' => by exact tActive_calls _ _ _ _ h') ?_
  refine AOps.q rfl rfl rfl (QOp.call rfl (by exact Tryz.call166) fun h' hl' => by exact tSingle_calls _ _ _ _ (by omega) h') ?_
  refine AOps.q rfl rfl rfl (QOp.call rfl (by exact Tryz.call146) fun h' hl' => by exact tDo_calls _ _ _ _ h') ?_
  refine AOps.q rfl rfl rfl (QOp.call rfl (by exact Tryz.call163) fun h' hl' => by exact tAim_calls _ _ h') ?_
  refine AOps.q rfl rfl rfl (QOp.call rfl (by exact Tryz.call166) fun h' hl' => by exact tSingle_calls _ _ _ _ (by omega) h') ?_
  refine AOps.q rfl rfl rfl (QOp.call rfl (by exact Tryz.call164) fun h' hl' => by exact tEvery_calls _ _ _ _ h') ?_
  refine AOps.q rfl rfl rfl (QOp.call rfl (by exact Tryz.call163) fun h' hl' => by exact tAim_calls _ _ h') ?_
  refine AOps.q rfl rfl rfl (QOp.call rfl (by exact Tryz.call166) fun h' hl' => by exact tSingle_calls _ _ _ _ (by omega) h') ?_
  refine AOps.q rfl rfl rfl (QOp.call rfl (by exact Tryz.call146) fun h' hl' => by exact tDo_calls _ _ _ _ h') ?_
  refine AOps.q rfl rfl rfl (QOp.call rfl (by exact Tryz.call145) fun h' hl' => by exact tWhen_calls _ _ h') ?_
  refine AOps.q rfl rfl rfl (QOp.call rfl (by exact Tryz.call166) fun h' hl' => by exact tSingle_calls _ _ _ _ (by omega) h') ?_
  refine AOps.q rfl rfl rfl (q_buildSl (ds := (lateL).flatMap (cCardK .full)) rfl Tryz.underlying190 Tryz.sizeOf92 Tryz.zeroValue92 rfl rfl rfl rfl (by kernel_rfl)) ?_
  refine AOps.q rfl rfl rfl (q_as rfl (rfl : _ = V.sl _ _ _ _)) ?_
  refine AOps.nil ?_
  refine AW.ret ?_
  exact retQ.mk' (.one _) (VLe.refl _) (HLe.refl _) ⟨rfl, rfl⟩

end Go.Proofs.YtnbmcbkokaoapaaGreatDoor
