/- Walks: cards' parts. -/
import Derived.Test.YtnbmcbkokaoapaaGreatDoorChk4
import Derived.Test.YtnbmcbkokaoapaaGreatDoorAv9
namespace Go.Proofs.YtnbmcbkokaoapaaGreatDoor
open Go Go.AV
set_option maxRecDepth 100000
set_option maxHeartbeats 400000
/-- An effect (one within has none within). -/
structure Eff0 where
  op : Int
  n : Int
  m : Int
  who : Int
structure Eff where
  op : Int
  n : Int
  m : Int
  who : Int
  subs : List Eff0
abbrev Cost := Nat → Int
structure Abil where
  when : Int
  cost : Cost
  tap : Bool
  target : Int
  doo : Eff
structure Card where
  kind : Int
  colour : Int
  fast : Bool
  cost : Cost
  power : Int
  tough : Int
  says : Int
  abs : List Abil
def cEff0 (e : Eff0) : List V := [.int .i64 e.op, .int .i64 e.n, .int .i64 e.m, .int .i64 e.who, .sl .imm 5 0 []]
def cEff (e : Eff) : List V := [.int .i64 e.op, .int .i64 e.n, .int .i64 e.m, .int .i64 e.who, .sl .imm 5 e.subs.length (e.subs.flatMap cEff0)]
def cCost (c : Cost) : List V := [.int .i64 (c 0), .int .i64 (c 1), .int .i64 (c 2), .int .i64 (c 3), .int .i64 (c 4), .int .i64 (c 5)]
def cAbil (a : Abil) : List V := [.int .i64 a.when, .int .i64 (a.cost 0), .int .i64 (a.cost 1), .int .i64 (a.cost 2), .int .i64 (a.cost 3), .int .i64 (a.cost 4), .int .i64 (a.cost 5), .bool a.tap, .int .i64 a.target,
  .int .i64 a.doo.op, .int .i64 a.doo.n, .int .i64 a.doo.m, .int .i64 a.doo.who, .sl .imm 5 a.doo.subs.length (a.doo.subs.flatMap cEff0)]
def cCardK (k : SK) (c : Card) : List V := [.int .i64 c.kind, .int .i64 c.colour, .bool c.fast, .int .i64 (c.cost 0), .int .i64 (c.cost 1), .int .i64 (c.cost 2), .int .i64 (c.cost 3), .int .i64 (c.cost 4), .int .i64 (c.cost 5),
  .int .i64 c.power, .int .i64 c.tough, .int .i64 c.says, .sl k 14 c.abs.length (c.abs.flatMap cAbil)]
abbrev cCard (c : Card) : List V := cCardK .imm c
abbrev eEff (e : Eff) : V := .agg (cEff e)
abbrev eAbil (a : Abil) : V := .agg (cAbil a)
abbrev eCard (c : Card) : V := .agg (cCard c)
abbrev eCost (c : Cost) : V := .agg (cCost c)
/-- A slice, held by value alone. -/
def wk (n : Nat) : V → V
  | .sl _ m len cs => .sl .imm m len cs
  | .snil => .sl .imm n 0 []
  | v => v
theorem wk_le (n : Nat) (v : V) : VLe v (wk n v) := by
  unfold wk; split
  · rename_i k m len cs; exact .sl rfl fun j => .refl _
  · exact .nilimm
  · exact .refl _
theorem LLe.wk (n : Nat) : ∀ (l : List V), LLe l (l.map (wk n))
  | [] => .nil
  | v :: l => .cons (wk_le n v) (LLe.wk n l)
def noCost : Cost := fun _ => 0
def doF (op n m who : Int) : Eff := ⟨op, n, m, who, []⟩
def sub (e : Eff) : Eff0 := ⟨e.op, e.n, e.m, e.who⟩
def whenF (w : Int) (e : Eff) : Abil := ⟨w, noCost, false, 0, e⟩
def aimF (t : Int) (e : Eff) : Abil := ⟨0, noCost, false, t, e⟩
def everyF (g op n m : Int) : Eff := ⟨20, g, 0, 0, [⟨op, n, m, 2⟩]⟩
def seqF (l : List Eff0) : Eff := ⟨21, 0, 0, 0, l⟩
def activeF (c : Cost) (tap : Bool) (t : Int) (e : Eff) : Abil := ⟨1, c, tap, t, e⟩
def manaF (n c : Int) : Abil := ⟨6, noCost, true, 0, doF 15 n c 0⟩
def costF (c n free : Int) : Cost := fun j => if j = 5 then (if c = 5 then n else 0) + free else if (j : Int) = c then n else 0

theorem tDo_calls (op n m who : Int) (h : Hp) : ACalls Tryz.prog G 146 [.int .i64 op, .int .i64 n, .int .i64 m, .int .i64 who] h fun r h' => r = eEff (doF op n m who) ∧ h' = h := by
  refine ACalls.enter Tryz.func146 rfl Tryz.ntmps146 Tryz.results146 rfl ?_
  refine AW.seq ?_
  refine AW.region ?_
  refine AOps.s rfl rfl rfl (a_alloc rfl Tryz.zeroValue99 rfl (fun id8 hid8 => ?_))
  refine AOps.nil ?_
  refine AW.seq ?_
  refine AW.region ?_
  refine AOps.q rfl rfl rfl (q_mv rfl (rfl : _ = V.int _ _)) ?_
  refine AOps.q rfl rfl rfl (q_mv rfl (rfl : _ = V.int _ _)) ?_
  refine AOps.q rfl rfl rfl (q_mv rfl (rfl : _ = V.int _ _)) ?_
  refine AOps.q rfl rfl rfl (q_mv rfl (rfl : _ = V.int _ _)) ?_
  refine AOps.q rfl rfl rfl (q_buildS (ds := [.int .i64 op, .int .i64 n, .int .i64 m, .int .i64 who, .snil]) rfl Tryz.zeroValue99 Tryz.underlying99 (pl99 Tryz.underlying99) rfl (by kernel_rfl)) ?_
  refine AOps.s0 rfl rfl (a_storeWA rfl Tryz.sizeOf99 rfl rfl (rfl : _ = V.agg _) rfl rfl ?_)
  refine AOps.nil ?_
  refine AW.ret ?_
  exact retQ.mk' (Res.cellB Tryz.isAgg99 Tryz.sizeOf99 rfl (by exact Hp.box_setBox _ _ _) rfl) (VLe.trans (LLe.wk 5 _).agg (.of_eq (congrArg V.agg (by rfl)))) (HLe.setBox hid8.1) ⟨rfl, rfl⟩

theorem tWhen_calls (w : Int) (e : Eff) (h : Hp) : ACalls Tryz.prog G 145 [.int .i64 w, eEff e] h fun r h' => r = eAbil (whenF w e) ∧ h' = h := by
  refine ACalls.enter Tryz.func145 rfl Tryz.ntmps145 Tryz.results145 rfl ?_
  refine AW.seq ?_
  refine AW.region ?_
  refine AOps.q rfl rfl rfl (q_boxa rfl (rfl : _ = V.agg _)) ?_
  refine AOps.s rfl rfl rfl (a_alloc rfl Tryz.zeroValue136 rfl (fun id4 hid4 => ?_))
  refine AOps.nil ?_
  refine AW.seq ?_
  refine AW.region ?_
  refine AOps.q rfl rfl rfl (q_mv rfl (rfl : _ = V.int _ _)) ?_
  refine AOps.q rfl rfl rfl (q_load_iW rfl Tryz.isAgg99 Tryz.sizeOf99 rfl (by rfl)) ?_
  refine AOps.q rfl rfl rfl (q_buildS (ds := cAbil (whenF w e)) rfl Tryz.zeroValue136 Tryz.underlying136 (pl136 Tryz.underlying136) rfl (by kernel_rfl)) ?_
  refine AOps.s0 rfl rfl (a_storeWA rfl Tryz.sizeOf136 rfl rfl (rfl : _ = V.agg _) rfl rfl ?_)
  refine AOps.nil ?_
  refine AW.ret ?_
  exact retQ.mk' (Res.cellB Tryz.isAgg136 Tryz.sizeOf136 rfl (by exact Hp.box_setBox _ _ _) rfl) (VLe.refl _) (HLe.setBox hid4.1) ⟨rfl, rfl⟩

theorem tAim_calls (t : Int) (e : Eff) (h : Hp) : ACalls Tryz.prog G 163 [.int .i64 t, eEff e] h fun r h' => r = eAbil (aimF t e) ∧ h' = h := by
  refine ACalls.enter Tryz.func163 rfl Tryz.ntmps163 Tryz.results163 rfl ?_
  refine AW.seq ?_
  refine AW.region ?_
  refine AOps.q rfl rfl rfl (q_boxa rfl (rfl : _ = V.agg _)) ?_
  refine AOps.s rfl rfl rfl (a_alloc rfl Tryz.zeroValue136 rfl (fun id4 hid4 => ?_))
  refine AOps.nil ?_
  refine AW.seq ?_
  refine AW.region ?_
  refine AOps.q rfl rfl rfl (q_mv rfl (rfl : _ = V.int _ _)) ?_
  refine AOps.q rfl rfl rfl (q_load_iW rfl Tryz.isAgg99 Tryz.sizeOf99 rfl (by rfl)) ?_
  refine AOps.q rfl rfl rfl (q_buildS (ds := cAbil (aimF t e)) rfl Tryz.zeroValue136 Tryz.underlying136 (pl136 Tryz.underlying136) rfl (by kernel_rfl)) ?_
  refine AOps.s0 rfl rfl (a_storeWA rfl Tryz.sizeOf136 rfl rfl (rfl : _ = V.agg _) rfl rfl ?_)
  refine AOps.nil ?_
  refine AW.ret ?_
  exact retQ.mk' (Res.cellB Tryz.isAgg136 Tryz.sizeOf136 rfl (by exact Hp.box_setBox _ _ _) rfl) (VLe.refl _) (HLe.setBox hid4.1) ⟨rfl, rfl⟩

theorem tEvery_calls (g op n m : Int) (h : Hp) : ACalls Tryz.prog G 164 [.int .i64 g, .int .i64 op, .int .i64 n, .int .i64 m] h fun r h' => r = eEff (everyF g op n m) ∧ h' = h := by
  refine ACalls.enter Tryz.func164 rfl Tryz.ntmps164 Tryz.results164 rfl ?_
  refine AW.seq ?_
  refine AW.region ?_
  refine AOps.s rfl rfl rfl (a_alloc rfl Tryz.zeroValue99 rfl (fun id8 hid8 => ?_))
  refine AOps.nil ?_
  refine AW.seq ?_
  refine AW.region ?_
  refine AOps.q rfl rfl rfl (q_mv rfl (rfl : _ = V.int _ _)) ?_
  refine AOps.q rfl rfl rfl (q_mv rfl (rfl : _ = V.int _ _)) ?_
  refine AOps.q rfl rfl rfl (q_mv rfl (rfl : _ = V.int _ _)) ?_
  refine AOps.q rfl rfl rfl (q_mv rfl (rfl : _ = V.int _ _)) ?_
  refine AOps.q rfl rfl rfl (QOp.call rfl (by exact Tryz.call146) fun h' hl' => by exact tDo_calls _ _ _ _ h') ?_
  refine AOps.q rfl rfl rfl (q_buildSl (ds := cEff (doF op n m 2)) rfl Tryz.underlying97 Tryz.sizeOf99 Tryz.zeroValue99 rfl rfl rfl rfl (by kernel_rfl)) ?_
  refine AOps.q rfl rfl rfl (q_buildS (ds := [.int .i64 20, .int .i64 g, .int .i64 0, .int .i64 0, .sl .full 5 1 (cEff (doF op n m 2))]) rfl Tryz.zeroValue99 Tryz.underlying99 (pl99 Tryz.underlying99) rfl (by kernel_rfl)) ?_
  refine AOps.s0 rfl rfl (a_storeWA rfl Tryz.sizeOf99 rfl rfl (rfl : _ = V.agg _) rfl rfl ?_)
  refine AOps.nil ?_
  refine AW.ret ?_
  exact retQ.mk' (Res.cellB Tryz.isAgg99 Tryz.sizeOf99 rfl (by exact Hp.box_setBox _ _ _) rfl) (VLe.trans (LLe.wk 5 _).agg (.of_eq (congrArg V.agg (by rfl)))) (HLe.setBox hid8.1) ⟨rfl, rfl⟩

theorem tSeq_calls (k : SK) (l : List Eff0) (h : Hp) : ACalls Tryz.prog G 165 [.sl k 5 l.length (l.flatMap cEff0)] h fun r h' => r = eEff (seqF l) ∧ h' = h := by
  refine ACalls.enter Tryz.func165 rfl Tryz.ntmps165 Tryz.results165 rfl ?_
  refine AW.seq ?_
  refine AW.region ?_
  refine AOps.s rfl rfl rfl (a_alloc rfl Tryz.zeroValue99 rfl (fun id2 hid2 => ?_))
  refine AOps.nil ?_
  refine AW.seq ?_
  refine AW.region ?_
  refine AOps.q rfl rfl rfl (q_mv rfl (rfl : _ = V.sl _ _ _ _)) ?_
  refine AOps.q rfl rfl rfl (q_buildS (ds := [.int .i64 21, .int .i64 0, .int .i64 0, .int .i64 0, .sl k 5 l.length (l.flatMap cEff0)]) rfl Tryz.zeroValue99 Tryz.underlying99 (pl99 Tryz.underlying99) rfl (by kernel_rfl)) ?_
  refine AOps.s0 rfl rfl (a_storeWA rfl Tryz.sizeOf99 rfl rfl (rfl : _ = V.agg _) rfl rfl ?_)
  refine AOps.nil ?_
  refine AW.ret ?_
  exact retQ.mk' (Res.cellB Tryz.isAgg99 Tryz.sizeOf99 rfl (by exact Hp.box_setBox _ _ _) rfl) (VLe.trans (LLe.wk 5 _).agg (.of_eq (congrArg V.agg (by rfl)))) (HLe.setBox hid2.1) ⟨rfl, rfl⟩

theorem tMana_calls (n c : Int) (h : Hp) : ACalls Tryz.prog G 144 [.int .i64 n, .int .i64 c] h fun r h' => r = eAbil (manaF n c) ∧ h' = h := by
  refine ACalls.enter Tryz.func144 rfl Tryz.ntmps144 Tryz.results144 rfl ?_
  refine AW.seq ?_
  refine AW.region ?_
  refine AOps.s rfl rfl rfl (a_alloc rfl Tryz.zeroValue136 rfl (fun id4 hid4 => ?_))
  refine AOps.nil ?_
  refine AW.seq ?_
  refine AW.region ?_
  refine AOps.q rfl rfl rfl (q_mv rfl (rfl : _ = V.int _ _)) ?_
  refine AOps.q rfl rfl rfl (q_mv rfl (rfl : _ = V.int _ _)) ?_
  refine AOps.q rfl rfl rfl (QOp.call rfl (by exact Tryz.call146) fun h' hl' => by exact tDo_calls _ _ _ _ h') ?_
  refine AOps.q rfl rfl rfl (q_buildS (ds := cAbil (manaF n c)) rfl Tryz.zeroValue136 Tryz.underlying136 (pl136 Tryz.underlying136) rfl (by kernel_rfl)) ?_
  refine AOps.s0 rfl rfl (a_storeWA rfl Tryz.sizeOf136 rfl rfl (rfl : _ = V.agg _) rfl rfl ?_)
  refine AOps.nil ?_
  refine AW.ret ?_
  exact retQ.mk' (Res.cellB Tryz.isAgg136 Tryz.sizeOf136 rfl (by exact Hp.box_setBox _ _ _) rfl) (VLe.refl _) (HLe.setBox hid4.1) ⟨rfl, rfl⟩

theorem tActive_calls (c : Cost) (tap : Bool) (t : Int) (e : Eff) (h : Hp) : ACalls Tryz.prog G 147 [eCost c, .bool tap, .int .i64 t, eEff e] h fun r h' => r = eAbil (activeF c tap t e) ∧ h' = h := by
  refine ACalls.enter Tryz.func147 rfl Tryz.ntmps147 Tryz.results147 rfl ?_
  refine AW.seq ?_
  refine AW.region ?_
  refine AOps.q rfl rfl rfl (q_boxa rfl (rfl : _ = V.agg _)) ?_
  refine AOps.q rfl rfl rfl (q_boxa rfl (rfl : _ = V.agg _)) ?_
  refine AOps.s rfl rfl rfl (a_alloc rfl Tryz.zeroValue136 rfl (fun id8 hid8 => ?_))
  refine AOps.nil ?_
  refine AW.seq ?_
  refine AW.region ?_
  refine AOps.q rfl rfl rfl (q_load_iW rfl Tryz.isAgg89 Tryz.sizeOf89 rfl (by rfl)) ?_
  refine AOps.q rfl rfl rfl (q_mv rfl (rfl : _ = V.bool _)) ?_
  refine AOps.q rfl rfl rfl (q_mv rfl (rfl : _ = V.int _ _)) ?_
  refine AOps.q rfl rfl rfl (q_load_iW rfl Tryz.isAgg99 Tryz.sizeOf99 rfl (by rfl)) ?_
  refine AOps.q rfl rfl rfl (q_buildS (ds := cAbil (activeF c tap t e)) rfl Tryz.zeroValue136 Tryz.underlying136 (pl136 Tryz.underlying136) rfl (by kernel_rfl)) ?_
  refine AOps.s0 rfl rfl (a_storeWA rfl Tryz.sizeOf136 rfl rfl (rfl : _ = V.agg _) rfl rfl ?_)
  refine AOps.nil ?_
  refine AW.ret ?_
  exact retQ.mk' (Res.cellB Tryz.isAgg136 Tryz.sizeOf136 rfl (by exact Hp.box_setBox _ _ _) rfl) (VLe.refl _) (HLe.setBox hid8.1) ⟨rfl, rfl⟩

theorem cost_set {c n : Int} (h0 : 0 ≤ c) (h1 : c < 6) : splice (cCost noCost) (0 + c.toNat * 1) [.int .i64 n] = cCost (fun j => if (j : Int) = c then n else 0) := by
  obtain ⟨k, rfl⟩ := Int.eq_ofNat_of_zero_le h0
  have : k = 0 ∨ k = 1 ∨ k = 2 ∨ k = 3 ∨ k = 4 ∨ k = 5 := by omega
  rcases this with e | e | e | e | e | e <;> subst e <;> rfl
theorem cost_5 {c n free : Int} : splice (cCost (fun j => if (j : Int) = c then n else 0)) (0 + Int.toNat 5 * 1) [.int .i64 ((if ((5 : Nat) : Int) = c then n else 0) + free)] = cCost (costF c n free) := by
  show [V.int .i64 (if ((0 : Nat) : Int) = c then n else 0), .int .i64 (if ((1 : Nat) : Int) = c then n else 0), .int .i64 (if ((2 : Nat) : Int) = c then n else 0), .int .i64 (if ((3 : Nat) : Int) = c then n else 0), .int .i64 (if ((4 : Nat) : Int) = c then n else 0), .int .i64 ((if ((5 : Nat) : Int) = c then n else 0) + free)] = _
  have : (if ((5 : Nat) : Int) = c then n else 0) = if c = 5 then n else 0 := by
    by_cases e : c = 5
    · subst e; rfl
    · rw [if_neg e, if_neg (by omega)]
  rw [this]; rfl

theorem tCost_calls (c n free : Int) (hc : 0 ≤ c ∧ c < 6) (hn : 0 ≤ n ∧ n ≤ 1000 ∧ 0 ≤ free ∧ free ≤ 1000) (h : Hp) : ACalls Tryz.prog G 136 [.int .i64 c, .int .i64 n, .int .i64 free] h fun r h' => r = eCost (costF c n free) ∧ h' = h := by
  have hs : -1000 ≤ (if ((5 : Nat) : Int) = c then n else 0) ∧ (if ((5 : Nat) : Int) = c then n else 0) ≤ 1000 := by split <;> omega
  refine ACalls.enter Tryz.func136 rfl Tryz.ntmps136 Tryz.results136 rfl ?_
  refine AW.seq ?_
  refine AW.region ?_
  refine AOps.s rfl rfl rfl (a_alloc rfl Tryz.zeroValue89 rfl (fun id6 hid6 => ?_))
  refine AOps.nil ?_
  refine AW.seq ?_
  refine AW.region ?_
  refine AOps.s rfl rfl rfl (a_alloc rfl Tryz.zeroValue89 rfl (fun id7 hid7 => ?_))
  refine AOps.nil ?_
  refine AW.seq ?_
  refine AW.hp (h' := (h.setBox id6 (cCost noCost)).setBox id7 (cCost noCost)) rfl ?_
  refine AW.region ?_
  refine AOps.q rfl rfl rfl (q_mv rfl (rfl : _ = V.int _ _)) ?_
  refine AOps.q rfl rfl rfl (q_mv rfl (rfl : _ = V.int _ _)) ?_
  refine AOps.q rfl rfl rfl (q_ia_ab rfl Tryz.underlying89 Tryz.sizeOf3 rfl rfl (by omega) (by omega)) ?_
  refine AOps.s0 rfl rfl (a_store1 rfl Tryz.sizeOf3 rfl (by exact Hp.box_setBox _ _ _) (rfl : _ = V.int _ _) rfl rfl (by first | decide | exact Nat.le_of_ble_eq_true rfl | (simp only [cCost, List.length_cons, List.length_nil]; omega)) ?_)
  refine AOps.nil ?_
  refine AW.seq ?_
  refine AW.hp (by rw [Hp.setBox_setBox, cost_set hc.1 hc.2]) ?_
  refine AW.region ?_
  refine AOps.q rfl rfl rfl (q_ia_ab rfl Tryz.underlying89 Tryz.sizeOf3 rfl rfl (by decide) (by decide)) ?_
  refine AOps.q rfl rfl rfl (q_load_b1 rfl Tryz.isAgg3 rfl (by exact Hp.box_setBox _ _ _) rfl) ?_
  refine AOps.q rfl rfl rfl (q_mv rfl (rfl : _ = V.int _ _)) ?_
  refine AOps.q rfl rfl rfl (q_add' (m := if ((5 : Nat) : Int) = c then n else 0) rfl rfl rfl (by omega)) ?_
  refine AOps.q rfl rfl rfl (q_ia_ab rfl Tryz.underlying89 Tryz.sizeOf3 rfl rfl (by decide) (by decide)) ?_
  refine AOps.s0 rfl rfl (a_store1 rfl Tryz.sizeOf3 rfl (by exact Hp.box_setBox _ _ _) (rfl : _ = V.int _ _) rfl rfl (by first | decide | exact Nat.le_of_ble_eq_true rfl | (simp only [cCost, List.length_cons, List.length_nil]; omega)) ?_)
  refine AOps.nil ?_
  refine AW.seq ?_
  refine AW.hp (by rw [Hp.setBox_setBox, cost_5]) ?_
  refine AW.done 7 rfl hid7 ?_
  refine AW.region ?_
  refine AOps.q rfl rfl rfl (q_load_iW rfl Tryz.isAgg89 Tryz.sizeOf89 rfl (by rfl)) ?_
  refine AOps.s0 rfl rfl (a_storeWA rfl Tryz.sizeOf89 rfl rfl (rfl : _ = V.agg _) rfl rfl ?_)
  refine AOps.nil ?_
  refine AW.ret ?_
  exact retQ.mk' (Res.cellB Tryz.isAgg89 Tryz.sizeOf89 rfl (by exact Hp.box_setBox _ _ _) rfl) (VLe.refl _) (HLe.setBox hid6.1) ⟨rfl, rfl⟩

end Go.Proofs.YtnbmcbkokaoapaaGreatDoor
