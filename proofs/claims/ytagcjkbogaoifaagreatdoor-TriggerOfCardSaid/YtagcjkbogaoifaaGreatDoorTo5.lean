/- Walks: cards' parts. -/
import Derived.Test.YtagcjkbogaoifaaGreatDoorTo4
namespace Go.Proofs.YtagcjkbogaoifaaGreatDoor
open Go Go.AV Go.Proofs.Tryz
set_option maxRecDepth 100000
set_option maxHeartbeats 400000
/-- An effect (one within has none within). -/
structure Eff0 where
  op : Int
  n : Int
  m : Int
  who : Int
structure Eff where
  op : Int
  n : Int
  m : Int
  who : Int
  subs : List Eff0
abbrev Cost := Nat → Int
structure Abil where
  when : Int
  cost : Cost
  tap : Bool
  target : Int
  doo : Eff
structure Card where
  kind : Int
  colour : Int
  fast : Bool
  cost : Cost
  power : Int
  tough : Int
  says : Int
  abs : List Abil
def cEff0 (e : Eff0) : List V := [.int .i64 e.op, .int .i64 e.n, .int .i64 e.m, .int .i64 e.who, .sl .imm 5 0 []]
def cEff (e : Eff) : List V := [.int .i64 e.op, .int .i64 e.n, .int .i64 e.m, .int .i64 e.who, .sl .imm 5 e.subs.length (e.subs.flatMap cEff0)]
def cCost (c : Cost) : List V := [.int .i64 (c 0), .int .i64 (c 1), .int .i64 (c 2), .int .i64 (c 3), .int .i64 (c 4), .int .i64 (c 5)]
def cAbil (a : Abil) : List V := [.int .i64 a.when, .int .i64 (a.cost 0), .int .i64 (a.cost 1), .int .i64 (a.cost 2), .int .i64 (a.cost 3), .int .i64 (a.cost 4), .int .i64 (a.cost 5), .bool a.tap, .int .i64 a.target,
  .int .i64 a.doo.op, .int .i64 a.doo.n, .int .i64 a.doo.m, .int .i64 a.doo.who, .sl .imm 5 a.doo.subs.length (a.doo.subs.flatMap cEff0)]
def cCardK (k : SK) (c : Card) : List V := [.int .i64 c.kind, .int .i64 c.colour, .bool c.fast, .int .i64 (c.cost 0), .int .i64 (c.cost 1), .int .i64 (c.cost 2), .int .i64 (c.cost 3), .int .i64 (c.cost 4), .int .i64 (c.cost 5),
  .int .i64 c.power, .int .i64 c.tough, .int .i64 c.says, .sl k 14 c.abs.length (c.abs.flatMap cAbil)]
abbrev cCard (c : Card) : List V := cCardK .imm c
abbrev eEff (e : Eff) : V := .agg (cEff e)
abbrev eAbil (a : Abil) : V := .agg (cAbil a)
abbrev eCard (c : Card) : V := .agg (cCard c)
abbrev eCost (c : Cost) : V := .agg (cCost c)
/-- A slice, held by value alone. -/
def wk (n : Nat) : V → V
  | .sl _ m len cs => .sl .imm m len cs
  | .snil => .sl .imm n 0 []
  | v => v
theorem wk_le (n : Nat) (v : V) : VLe v (wk n v) := by
  unfold wk; split
  · rename_i k m len cs; exact .sl rfl fun j => .refl _
  · exact .nilimm
  · exact .refl _
theorem LLe.wk (n : Nat) : ∀ (l : List V), LLe l (l.map (wk n))
  | [] => .nil
  | v :: l => .cons (wk_le n v) (LLe.wk n l)
def noCost : Cost := fun _ => 0
def doF (op n m who : Int) : Eff := ⟨op, n, m, who, []⟩
def sub (e : Eff) : Eff0 := ⟨e.op, e.n, e.m, e.who⟩
def whenF (w : Int) (e : Eff) : Abil := ⟨w, noCost, false, 0, e⟩
def aimF (t : Int) (e : Eff) : Abil := ⟨0, noCost, false, t, e⟩
def everyF (g op n m : Int) : Eff := ⟨20, g, 0, 0, [⟨op, n, m, 2⟩]⟩
def seqF (l : List Eff0) : Eff := ⟨21, 0, 0, 0, l⟩
def activeF (c : Cost) (tap : Bool) (t : Int) (e : Eff) : Abil := ⟨1, c, tap, t, e⟩
def manaF (n c : Int) : Abil := ⟨6, noCost, true, 0, doF 15 n c 0⟩
def costF (c n free : Int) : Cost := fun j => if j = 5 then (if c = 5 then n else 0) + free else if (j : Int) = c then n else 0

theorem tDo_calls (op n m who : Int) (h : Hp) : ACalls prog G 164 [.int .i64 op, .int .i64 n, .int .i64 m, .int .i64 who] h fun r h' => r = eEff (doF op n m who) ∧ h' = h := by
  refine ACalls.enter func164 rfl ntmps164 results164 rfl ?_
  refine .seq <|
    .region ?_
  refine AOps.s rfl rfl rfl (a_alloc rfl zeroValue36 rfl (fun id8 hid8 => ?_))
  refine .nil <|
    .seq <|
    .region <|
    .mI rfl rfl <|
    .mI rfl rfl <|
    .mI rfl rfl <|
    .mI rfl rfl ?_
  refine .u rfl rfl rfl (q_buildS (ds := [.int .i64 op, .int .i64 n, .int .i64 m, .int .i64 who, .snil]) rfl zeroValue36 underlying36 (pl36 underlying36) rfl (by kernel_rfl)) ?_
  refine .sw sizeOf36 rfl rfl rfl rfl <|
    .nil ?_
  refine AW.ret ?_
  exact retQ.mk' (Res.cellB isAgg36 sizeOf36 rfl (by exact bsb) rfl) (VLe.trans (LLe.wk 5 _).agg (.of_eq (congrArg V.agg (by rfl)))) (HLe.setBox hid8.1) ⟨rfl, rfl⟩

theorem tWhen_calls (w : Int) (e : Eff) (h : Hp) : ACalls prog G 163 [.int .i64 w, eEff e] h fun r h' => r = eAbil (whenF w e) ∧ h' = h := by
  refine ACalls.enter func163 rfl ntmps163 results163 rfl ?_
  refine .seq <|
    .region <|
    .bx rfl rfl ?_
  refine AOps.s rfl rfl rfl (a_alloc rfl zeroValue38 rfl (fun id4 hid4 => ?_))
  refine .nil <|
    .seq <|
    .region <|
    .mI rfl rfl <|
    .lw rfl isAgg36 sizeOf36 rfl rfl ?_
  refine .u rfl rfl rfl (q_buildS (ds := cAbil (whenF w e)) rfl zeroValue38 underlying38 (pl38 underlying38) rfl (by kernel_rfl)) ?_
  refine .sw sizeOf38 rfl rfl rfl rfl <|
    .nil ?_
  refine AW.ret ?_
  exact retQ.mk' (Res.cellB isAgg38 sizeOf38 rfl (by exact bsb) rfl) (VLe.refl _) (HLe.setBox hid4.1) ⟨rfl, rfl⟩

theorem tAim_calls (t : Int) (e : Eff) (h : Hp) : ACalls prog G 194 [.int .i64 t, eEff e] h fun r h' => r = eAbil (aimF t e) ∧ h' = h := by
  refine ACalls.enter func194 rfl ntmps194 results194 rfl ?_
  refine .seq <|
    .region <|
    .bx rfl rfl ?_
  refine AOps.s rfl rfl rfl (a_alloc rfl zeroValue38 rfl (fun id4 hid4 => ?_))
  refine .nil <|
    .seq <|
    .region <|
    .mI rfl rfl <|
    .lw rfl isAgg36 sizeOf36 rfl rfl ?_
  refine .u rfl rfl rfl (q_buildS (ds := cAbil (aimF t e)) rfl zeroValue38 underlying38 (pl38 underlying38) rfl (by kernel_rfl)) ?_
  refine .sw sizeOf38 rfl rfl rfl rfl <|
    .nil ?_
  refine AW.ret ?_
  exact retQ.mk' (Res.cellB isAgg38 sizeOf38 rfl (by exact bsb) rfl) (VLe.refl _) (HLe.setBox hid4.1) ⟨rfl, rfl⟩

theorem tEvery_calls (g op n m : Int) (h : Hp) : ACalls prog G 195 [.int .i64 g, .int .i64 op, .int .i64 n, .int .i64 m] h fun r h' => r = eEff (everyF g op n m) ∧ h' = h := by
  refine ACalls.enter func195 rfl ntmps195 results195 rfl ?_
  refine .seq <|
    .region ?_
  refine AOps.s rfl rfl rfl (a_alloc rfl zeroValue36 rfl (fun id8 hid8 => ?_))
  refine .nil <|
    .seq <|
    .region <|
    .mI rfl rfl <|
    .mI rfl rfl <|
    .mI rfl rfl <|
    .mI rfl rfl ?_
  refine .u rfl rfl rfl (QOp.call rfl call164 fun h' hl' => by exact tDo_calls _ _ _ _ h') ?_
  refine .u rfl rfl rfl (q_buildSl (ds := cEff (doF op n m 2)) rfl underlying34 sizeOf36 zeroValue36 rfl rfl rfl rfl (by kernel_rfl)) ?_
  refine .u rfl rfl rfl (q_buildS (ds := [.int .i64 20, .int .i64 g, .int .i64 0, .int .i64 0, .sl .full 5 1 (cEff (doF op n m 2))]) rfl zeroValue36 underlying36 (pl36 underlying36) rfl (by kernel_rfl)) ?_
  refine .sw sizeOf36 rfl rfl rfl rfl <|
    .nil ?_
  refine AW.ret ?_
  exact retQ.mk' (Res.cellB isAgg36 sizeOf36 rfl (by exact bsb) rfl) (VLe.trans (LLe.wk 5 _).agg (.of_eq (congrArg V.agg (by rfl)))) (HLe.setBox hid8.1) ⟨rfl, rfl⟩

theorem tSeq_calls (k : SK) (l : List Eff0) (h : Hp) : ACalls prog G 196 [.sl k 5 l.length (l.flatMap cEff0)] h fun r h' => r = eEff (seqF l) ∧ h' = h := by
  refine ACalls.enter func196 rfl ntmps196 results196 rfl ?_
  refine .seq <|
    .region ?_
  refine AOps.s rfl rfl rfl (a_alloc rfl zeroValue36 rfl (fun id2 hid2 => ?_))
  refine .nil <|
    .seq <|
    .region <|
    .mS rfl rfl ?_
  refine .u rfl rfl rfl (q_buildS (ds := [.int .i64 21, .int .i64 0, .int .i64 0, .int .i64 0, .sl k 5 l.length (l.flatMap cEff0)]) rfl zeroValue36 underlying36 (pl36 underlying36) rfl (by kernel_rfl)) ?_
  refine .sw sizeOf36 rfl rfl rfl rfl <|
    .nil ?_
  refine AW.ret ?_
  exact retQ.mk' (Res.cellB isAgg36 sizeOf36 rfl (by exact bsb) rfl) (VLe.trans (LLe.wk 5 _).agg (.of_eq (congrArg V.agg (by rfl)))) (HLe.setBox hid2.1) ⟨rfl, rfl⟩

theorem tMana_calls (n c : Int) (h : Hp) : ACalls prog G 162 [.int .i64 n, .int .i64 c] h fun r h' => r = eAbil (manaF n c) ∧ h' = h := by
  refine ACalls.enter func162 rfl ntmps162 results162 rfl ?_
  refine .seq <|
    .region ?_
  refine AOps.s rfl rfl rfl (a_alloc rfl zeroValue38 rfl (fun id4 hid4 => ?_))
  refine .nil <|
    .seq <|
    .region <|
    .mI rfl rfl <|
    .mI rfl rfl ?_
  refine .u rfl rfl rfl (QOp.call rfl call164 fun h' hl' => by exact tDo_calls _ _ _ _ h') ?_
  refine .u rfl rfl rfl (q_buildS (ds := cAbil (manaF n c)) rfl zeroValue38 underlying38 (pl38 underlying38) rfl (by kernel_rfl)) ?_
  refine .sw sizeOf38 rfl rfl rfl rfl <|
    .nil ?_
  refine AW.ret ?_
  exact retQ.mk' (Res.cellB isAgg38 sizeOf38 rfl (by exact bsb) rfl) (VLe.refl _) (HLe.setBox hid4.1) ⟨rfl, rfl⟩

theorem tActive_calls (c : Cost) (tap : Bool) (t : Int) (e : Eff) (h : Hp) : ACalls prog G 165 [eCost c, .bool tap, .int .i64 t, eEff e] h fun r h' => r = eAbil (activeF c tap t e) ∧ h' = h := by
  refine ACalls.enter func165 rfl ntmps165 results165 rfl ?_
  refine .seq <|
    .region <|
    .bx rfl rfl <|
    .bx rfl rfl ?_
  refine AOps.s rfl rfl rfl (a_alloc rfl zeroValue38 rfl (fun id8 hid8 => ?_))
  refine .nil <|
    .seq <|
    .region <|
    .lw rfl isAgg33 sizeOf33 rfl rfl <|
    .mB rfl rfl <|
    .mI rfl rfl <|
    .lw rfl isAgg36 sizeOf36 rfl rfl ?_
  refine .u rfl rfl rfl (q_buildS (ds := cAbil (activeF c tap t e)) rfl zeroValue38 underlying38 (pl38 underlying38) rfl (by kernel_rfl)) ?_
  refine .sw sizeOf38 rfl rfl rfl rfl <|
    .nil ?_
  refine AW.ret ?_
  exact retQ.mk' (Res.cellB isAgg38 sizeOf38 rfl (by exact bsb) rfl) (VLe.refl _) (HLe.setBox hid8.1) ⟨rfl, rfl⟩

theorem cost_set {c n : Int} (h0 : 0 ≤ c) (h1 : c < 6) : splice (cCost noCost) (0 + c.toNat * 1) [.int .i64 n] = cCost (fun j => if (j : Int) = c then n else 0) := by
  obtain ⟨k, rfl⟩ := Int.eq_ofNat_of_zero_le h0
  have : k = 0 ∨ k = 1 ∨ k = 2 ∨ k = 3 ∨ k = 4 ∨ k = 5 := by omega
  rcases this with e | e | e | e | e | e <;> subst e <;> rfl
theorem cost_5 {c n free : Int} : splice (cCost (fun j => if (j : Int) = c then n else 0)) (0 + Int.toNat 5 * 1) [.int .i64 ((if ((5 : Nat) : Int) = c then n else 0) + free)] = cCost (costF c n free) := by
  show [V.int .i64 (if ((0 : Nat) : Int) = c then n else 0), .int .i64 (if ((1 : Nat) : Int) = c then n else 0), .int .i64 (if ((2 : Nat) : Int) = c then n else 0), .int .i64 (if ((3 : Nat) : Int) = c then n else 0), .int .i64 (if ((4 : Nat) : Int) = c then n else 0), .int .i64 ((if ((5 : Nat) : Int) = c then n else 0) + free)] = _
  have : (if ((5 : Nat) : Int) = c then n else 0) = if c = 5 then n else 0 := by
    by_cases e : c = 5
    · subst e; rfl
    · rw [if_neg e, if_neg (by omega)]
  rw [this]; rfl

theorem tCost_calls (c n free : Int) (hc : 0 ≤ c ∧ c < 6) (hn : 0 ≤ n ∧ n ≤ 1000 ∧ 0 ≤ free ∧ free ≤ 1000) (h : Hp) : ACalls prog G 124 [.int .i64 c, .int .i64 n, .int .i64 free] h fun r h' => r = eCost (costF c n free) ∧ h' = h := by
  have hs : -1000 ≤ (if ((5 : Nat) : Int) = c then n else 0) ∧ (if ((5 : Nat) : Int) = c then n else 0) ≤ 1000 := by split <;> omega
  refine ACalls.enter func124 rfl ntmps124 results124 rfl ?_
  refine .seq <|
    .region ?_
  refine AOps.s rfl rfl rfl (a_alloc rfl zeroValue33 rfl (fun id6 hid6 => ?_))
  refine .nil <|
    .seq <|
    .region ?_
  refine AOps.s rfl rfl rfl (a_alloc rfl zeroValue33 rfl (fun id7 hid7 => ?_))
  refine .nil <|
    .seq ?_
  refine AW.hp (h' := (h.setBox id6 (cCost noCost)).setBox id7 (cCost noCost)) rfl ?_
  refine .region <|
    .mI rfl rfl <|
    .mI rfl rfl ?_
  refine .u rfl rfl rfl (q_ia_ab rfl underlying33 sizeOf3 rfl rfl (by omega) (by omega)) ?_
  refine AOps.s0 rfl rfl (a_store1 rfl sizeOf3 rfl (by exact bsb) (rfl : _ = V.int _ _) rfl rfl (by first | decide | exact Nat.le_of_ble_eq_true rfl | (simp only [cCost, List.length_cons, List.length_nil]; omega)) ?_)
  refine .nil <|
    .seq ?_
  refine AW.hp (by rw [Hp.setBox_setBox, cost_set hc.1 hc.2]) ?_
  refine .region ?_
  refine .u rfl rfl rfl (q_ia_ab rfl underlying33 sizeOf3 rfl rfl (by decide) (by decide)) ?_
  refine .lb rfl isAgg3 rfl rfl <|
    .mI rfl rfl ?_
  refine .u rfl rfl rfl (q_add' (m := if ((5 : Nat) : Int) = c then n else 0) rfl rfl rfl (by omega)) ?_
  refine .u rfl rfl rfl (q_ia_ab rfl underlying33 sizeOf3 rfl rfl (by decide) (by decide)) ?_
  refine AOps.s0 rfl rfl (a_store1 rfl sizeOf3 rfl (by exact bsb) (rfl : _ = V.int _ _) rfl rfl (by first | decide | exact Nat.le_of_ble_eq_true rfl | (simp only [cCost, List.length_cons, List.length_nil]; omega)) ?_)
  refine .nil <|
    .seq ?_
  refine AW.hp (by rw [Hp.setBox_setBox, cost_5]) ?_
  refine AW.done 7 rfl hid7 ?_
  refine .region <|
    .lw rfl isAgg33 sizeOf33 rfl rfl <|
    .sw sizeOf33 rfl rfl rfl rfl <|
    .nil ?_
  refine AW.ret ?_
  exact retQ.mk' (Res.cellB isAgg33 sizeOf33 rfl (by exact bsb) rfl) (VLe.refl _) (HLe.setBox hid6.1) ⟨rfl, rfl⟩

end Go.Proofs.YtagcjkbogaoifaaGreatDoor
/- Walks: the cards' tables. -/
namespace Go.Proofs.YtagcjkbogaoifaaGreatDoor
open Go Go.AV Go.Proofs.Tryz
set_option maxRecDepth 100000
set_option maxHeartbeats 1000000
def singleF (kind n : Int) (fast : Bool) (a : Abil) : Card := ⟨kind, 5, fast, costF 5 0 n, 0, 0, 0, [a]⟩

def whiteSpellsL : List Abil := [aimF 0 (doF 2 4 0 0), aimF 1 (doF 6 0 0 2), aimF 0 (everyF 1 10 1 1), aimF 5 (doF 8 0 0 2), aimF 0 (seqF ([sub (doF 2 2 0 0), sub (doF 4 1 0 0)])), aimF 0 (⟨22, 0, 10, 0, [sub (doF 2 8 0 0), sub (doF 4 1 0 0)]⟩)]
def blueSpellsL : List Abil := [aimF 4 (doF 9 0 0 2), aimF 0 (doF 4 2 0 0), aimF 5 (doF 7 0 0 2), aimF 0 (doF 17 3 0 0), aimF 1 (doF 12 0 0 2), aimF 0 (seqF ([sub (doF 4 3 0 0), sub (doF 19 1 0 0)]))]
def blackSpellsL : List Abil := [aimF 1 (doF 10 (-2) (-2) 2), aimF 2 (doF 19 1 0 2), aimF 2 (doF 3 3 0 2), aimF 0 (seqF ([sub (doF 3 2 0 1), sub (doF 2 2 0 0)])), aimF 1 (doF 6 0 0 2), aimF 0 (doF 5 4 0 4)]
def redSpellsL : List Abil := [aimF 3 (doF 1 2 0 2), aimF 1 (doF 1 4 0 2), aimF 1 (doF 10 3 0 2), aimF 0 (everyF 0 1 2 0), aimF 0 (doF 1 3 0 4), aimF 3 (seqF ([sub (doF 1 2 0 2), sub (doF 4 1 0 0)]))]
def greenSpellsL : List Abil := [aimF 1 (doF 10 3 3 2), aimF 1 (doF 11 2 0 2), aimF 1 (doF 23 64 0 2), aimF 0 (doF 14 2 116 0), aimF 0 (doF 15 3 4 0), aimF 0 (everyF 1 11 1 0)]
def whiteRelicsL : List Abil := [whenF 5 (everyF 1 10 0 2), whenF 4 (doF 2 1 0 0), activeF (costF 5 0 1) true 1 (doF 10 0 1 2), whenF 5 (everyF 0 25 1 0)]
def blueRelicsL : List Abil := [whenF 5 (everyF 1 23 1 0), whenF 4 (doF 17 1 0 0), activeF (costF 5 0 1) true 1 (doF 12 0 0 2), activeF (costF 1 1 0) false 0 (doF 13 0 0 3)]
def blackRelicsL : List Abil := [whenF 5 (everyF 2 10 (-1) 0), whenF 4 (doF 3 1 0 4), activeF (costF 5 0 1) true 0 (doF 3 1 0 1), whenF 5 (everyF 2 24 1 1)]
def redRelicsL : List Abil := [whenF 5 (everyF 1 10 1 0), whenF 4 (doF 1 1 0 1), activeF (costF 5 0 1) true 3 (doF 1 1 0 2), whenF 3 (doF 1 3 0 4)]
def greenRelicsL : List Abil := [whenF 5 (everyF 1 10 1 1), whenF 4 (doF 15 1 4 0), activeF (costF 5 0 1) true 1 (doF 13 0 0 2), whenF 2 (doF 14 1 119 0)]
def earlyL : List Card := [singleF 2 1 false (aimF 0 (doF 18 0 0 0)), singleF 2 2 false (aimF 0 (doF 19 2 0 1)), singleF 2 1 false (aimF 0 (doF 16 3 0 1)), singleF 2 1 true (aimF 0 (doF 17 2 0 1)), singleF 2 2 false (aimF 0 (doF 5 3 0 4)), singleF 2 3 true (aimF 4 (doF 9 0 0 2))]
def lateL : List Card := [singleF 2 2 false (aimF 0 (everyF 0 7 0 0)), singleF 3 2 false (activeF (noCost) false 0 (doF 15 1 5 0)), singleF 1 2 false (activeF (costF 5 0 1) false 0 (doF 13 0 0 3)), singleF 2 3 false (aimF 0 (doF 14 2 112 0)), singleF 2 4 false (aimF 0 (everyF 0 6 0 0)), singleF 1 3 true (whenF 3 (doF 4 1 0 0))]

def spellsL : List Abil := whiteSpellsL ++ blueSpellsL ++ blackSpellsL ++ redSpellsL ++ greenSpellsL
def relicsL : List Abil := whiteRelicsL ++ blueRelicsL ++ blackRelicsL ++ redRelicsL ++ greenRelicsL

theorem tSingle_calls (kind n : Int) (fast : Bool) (a : Abil) (hn : 0 ≤ n ∧ n ≤ 1000) (h : Hp) : ACalls prog G 197 [.int .i64 kind, .int .i64 n, .bool fast, eAbil a] h fun r h' => r = .agg (cCardK .full (singleF kind n fast a)) ∧ h' = h := by
  refine ACalls.enter func197 rfl ntmps197 results197 rfl ?_
  refine .seq <|
    .region <|
    .bx rfl rfl ?_
  refine AOps.s rfl rfl rfl (a_alloc rfl zeroValue44 rfl (fun id8 hid8 => ?_))
  refine .nil <|
    .seq ?_
  refine AW.draw [7] [] [(0, true), (1, true), (2, true), (3, true), (4, true), (5, true), (6, true), (7, false)] mixed (by kernel_rfl) rfl (by kernel_rfl) ?_
  refine .q rfl rfl rfl rfl (q_mv rfl (rfl : _ = V.int _ _)) ?_
  refine .q rfl rfl rfl rfl (q_mv rfl (rfl : _ = V.bool _)) ?_
  refine .q rfl rfl rfl rfl (q_mv rfl (rfl : _ = V.int _ _)) ?_
  refine .q rfl rfl rfl rfl (QOp.call rfl (by exact call124) fun h' hl' => by exact tCost_calls _ _ _ (by omega) (by omega) h') ?_
  refine .q rfl rfl rfl rfl (q_load_iW rfl isAgg38 sizeOf38 rfl (by rfl)) ?_
  refine .q rfl rfl rfl rfl (q_buildSl (ds := cAbil a) rfl underlying42 sizeOf38 zeroValue38 rfl rfl rfl rfl (by kernel_rfl)) ?_
  refine .q rfl rfl rfl rfl (q_buildS (ds := cCardK .full (singleF kind n fast a)) rfl zeroValue44 underlying44 (pl44 underlying44) rfl (by kernel_rfl)) ?_
  refine AOrd.s0 rfl rfl rfl rfl (a_storeWA rfl sizeOf44 rfl rfl (rfl : _ = V.agg _) rfl rfl ?_)
  refine AOrd.nil ?_
  refine AW.ret ?_
  exact retQ.mk' (Res.cellB isAgg44 sizeOf44 rfl (by exact bsb) rfl) (VLe.refl _) (HLe.setBox hid8.1) ⟨rfl, rfl⟩

theorem whiteSpells_calls (h : Hp) : ACalls prog G 166 [] h fun r h' => r = .agg (whiteSpellsL.flatMap cAbil) ∧ h' = h := by
  refine ACalls.enter func166 rfl ntmps166 results166 rfl ?_
  refine .seq <|
    .region ?_
  refine AOps.s rfl rfl rfl (a_alloc rfl zeroValue154 rfl (fun id0 hid0 => ?_))
  refine .nil <|
    .seq <|
    .region ?_
  refine .u rfl rfl rfl (QOp.call rfl call164 fun h' hl' => by exact tDo_calls _ _ _ _ h') ?_
  refine .u rfl rfl rfl (QOp.call rfl call194 fun h' hl' => by exact tAim_calls _ _ h') ?_
  refine .u rfl rfl rfl (QOp.call rfl call164 fun h' hl' => by exact tDo_calls _ _ _ _ h') ?_
  refine .u rfl rfl rfl (QOp.call rfl call194 fun h' hl' => by exact tAim_calls _ _ h') ?_
  refine .u rfl rfl rfl (QOp.call rfl call195 fun h' hl' => by exact tEvery_calls _ _ _ _ h') ?_
  refine .u rfl rfl rfl (QOp.call rfl call194 fun h' hl' => by exact tAim_calls _ _ h') ?_
  refine .u rfl rfl rfl (QOp.call rfl call164 fun h' hl' => by exact tDo_calls _ _ _ _ h') ?_
  refine .u rfl rfl rfl (QOp.call rfl call194 fun h' hl' => by exact tAim_calls _ _ h') ?_
  refine .u rfl rfl rfl (QOp.call rfl call164 fun h' hl' => by exact tDo_calls _ _ _ _ h') ?_
  refine .u rfl rfl rfl (QOp.call rfl call164 fun h' hl' => by exact tDo_calls _ _ _ _ h') ?_
  refine .u rfl rfl rfl (q_buildSl (ds := [sub (doF 2 2 0 0), sub (doF 4 1 0 0)].flatMap cEff0) rfl underlying34 sizeOf36 zeroValue36 rfl rfl rfl rfl (by kernel_rfl)) ?_
  refine .u rfl rfl rfl (QOp.call rfl call196 fun h' hl' => by exact tSeq_calls .full [sub (doF 2 2 0 0), sub (doF 4 1 0 0)] h') ?_
  refine .u rfl rfl rfl (QOp.call rfl call194 fun h' hl' => by exact tAim_calls _ _ h') ?_
  refine .u rfl rfl rfl (QOp.call rfl call164 fun h' hl' => by exact tDo_calls _ _ _ _ h') ?_
  refine .u rfl rfl rfl (QOp.call rfl call164 fun h' hl' => by exact tDo_calls _ _ _ _ h') ?_
  refine .u rfl rfl rfl (q_buildSl (ds := [sub (doF 2 8 0 0), sub (doF 4 1 0 0)].flatMap cEff0) rfl underlying34 sizeOf36 zeroValue36 rfl rfl rfl rfl (by kernel_rfl)) ?_
  refine .u rfl rfl rfl (q_buildS (ds := [.int .i64 22, .int .i64 0, .int .i64 10, .int .i64 0, .sl .full 5 2 ([sub (doF 2 8 0 0), sub (doF 4 1 0 0)].flatMap cEff0)]) rfl zeroValue36 underlying36 (pl36 underlying36) rfl (by kernel_rfl)) ?_
  refine .u rfl rfl rfl (QOp.call rfl call194 fun h' hl' => by exact ACalls.args (bs := [.int .i64 0, eEff ⟨22, 0, 10, 0, [sub (doF 2 8 0 0), sub (doF 4 1 0 0)]⟩]) rfl (fun j => match j with | 0 => .refl _ | 1 => VLe.trans (LLe.wk 5 _).agg (.of_eq (congrArg V.agg (by rfl))) | j + 2 => .refl _) (tAim_calls _ _ h')) ?_
  refine .u rfl rfl rfl (q_buildA (ds := (whiteSpellsL).flatMap cAbil) rfl zeroValue154 underlying154 sizeOf38 rfl (by kernel_rfl)) ?_
  refine .sw sizeOf154 rfl rfl rfl rfl <|
    .nil ?_
  refine AW.ret ?_
  exact retQ.mk' (Res.cellB isAgg154 sizeOf154 rfl (by exact bsb) rfl) (VLe.refl _) (HLe.setBox hid0.1) ⟨rfl, rfl⟩

theorem blueSpells_calls (h : Hp) : ACalls prog G 167 [] h fun r h' => r = .agg (blueSpellsL.flatMap cAbil) ∧ h' = h := by
  refine ACalls.enter func167 rfl ntmps167 results167 rfl ?_
  refine .seq <|
    .region ?_
  refine AOps.s rfl rfl rfl (a_alloc rfl zeroValue154 rfl (fun id0 hid0 => ?_))
  refine .nil <|
    .seq <|
    .region ?_
  refine .u rfl rfl rfl (QOp.call rfl call164 fun h' hl' => by exact tDo_calls _ _ _ _ h') ?_
  refine .u rfl rfl rfl (QOp.call rfl call194 fun h' hl' => by exact tAim_calls _ _ h') ?_
  refine .u rfl rfl rfl (QOp.call rfl call164 fun h' hl' => by exact tDo_calls _ _ _ _ h') ?_
  refine .u rfl rfl rfl (QOp.call rfl call194 fun h' hl' => by exact tAim_calls _ _ h') ?_
  refine .u rfl rfl rfl (QOp.call rfl call164 fun h' hl' => by exact tDo_calls _ _ _ _ h') ?_
  refine .u rfl rfl rfl (QOp.call rfl call194 fun h' hl' => by exact tAim_calls _ _ h') ?_
  refine .u rfl rfl rfl (QOp.call rfl call164 fun h' hl' => by exact tDo_calls _ _ _ _ h') ?_
  refine .u rfl rfl rfl (QOp.call rfl call194 fun h' hl' => by exact tAim_calls _ _ h') ?_
  refine .u rfl rfl rfl (QOp.call rfl call164 fun h' hl' => by exact tDo_calls _ _ _ _ h') ?_
  refine .u rfl rfl rfl (QOp.call rfl call194 fun h' hl' => by exact tAim_calls _ _ h') ?_
  refine .u rfl rfl rfl (QOp.call rfl call164 fun h' hl' => by exact tDo_calls _ _ _ _ h') ?_
  refine .u rfl rfl rfl (QOp.call rfl call164 fun h' hl' => by exact tDo_calls _ _ _ _ h') ?_
  refine .u rfl rfl rfl (q_buildSl (ds := [sub (doF 4 3 0 0), sub (doF 19 1 0 0)].flatMap cEff0) rfl underlying34 sizeOf36 zeroValue36 rfl rfl rfl rfl (by kernel_rfl)) ?_
  refine .u rfl rfl rfl (QOp.call rfl call196 fun h' hl' => by exact tSeq_calls .full [sub (doF 4 3 0 0), sub (doF 19 1 0 0)] h') ?_
  refine .u rfl rfl rfl (QOp.call rfl call194 fun h' hl' => by exact tAim_calls _ _ h') ?_
  refine .u rfl rfl rfl (q_buildA (ds := (blueSpellsL).flatMap cAbil) rfl zeroValue154 underlying154 sizeOf38 rfl (by kernel_rfl)) ?_
  refine .sw sizeOf154 rfl rfl rfl rfl <|
    .nil ?_
  refine AW.ret ?_
  exact retQ.mk' (Res.cellB isAgg154 sizeOf154 rfl (by exact bsb) rfl) (VLe.refl _) (HLe.setBox hid0.1) ⟨rfl, rfl⟩

theorem blackSpells_calls (h : Hp) : ACalls prog G 168 [] h fun r h' => r = .agg (blackSpellsL.flatMap cAbil) ∧ h' = h := by
  refine ACalls.enter func168 rfl ntmps168 results168 rfl ?_
  refine .seq <|
    .region ?_
  refine AOps.s rfl rfl rfl (a_alloc rfl zeroValue154 rfl (fun id0 hid0 => ?_))
  refine .nil <|
    .seq <|
    .region ?_
  refine .u rfl rfl rfl (QOp.call rfl call164 fun h' hl' => by exact tDo_calls _ _ _ _ h') ?_
  refine .u rfl rfl rfl (QOp.call rfl call194 fun h' hl' => by exact tAim_calls _ _ h') ?_
  refine .u rfl rfl rfl (QOp.call rfl call164 fun h' hl' => by exact tDo_calls _ _ _ _ h') ?_
  refine .u rfl rfl rfl (QOp.call rfl call194 fun h' hl' => by exact tAim_calls _ _ h') ?_
  refine .u rfl rfl rfl (QOp.call rfl call164 fun h' hl' => by exact tDo_calls _ _ _ _ h') ?_
  refine .u rfl rfl rfl (QOp.call rfl call194 fun h' hl' => by exact tAim_calls _ _ h') ?_
  refine .u rfl rfl rfl (QOp.call rfl call164 fun h' hl' => by exact tDo_calls _ _ _ _ h') ?_
  refine .u rfl rfl rfl (QOp.call rfl call164 fun h' hl' => by exact tDo_calls _ _ _ _ h') ?_
  refine .u rfl rfl rfl (q_buildSl (ds := [sub (doF 3 2 0 1), sub (doF 2 2 0 0)].flatMap cEff0) rfl underlying34 sizeOf36 zeroValue36 rfl rfl rfl rfl (by kernel_rfl)) ?_
  refine .u rfl rfl rfl (QOp.call rfl call196 fun h' hl' => by exact tSeq_calls .full [sub (doF 3 2 0 1), sub (doF 2 2 0 0)] h') ?_
  refine .u rfl rfl rfl (QOp.call rfl call194 fun h' hl' => by exact tAim_calls _ _ h') ?_
  refine .u rfl rfl rfl (QOp.call rfl call164 fun h' hl' => by exact tDo_calls _ _ _ _ h') ?_
  refine .u rfl rfl rfl (QOp.call rfl call194 fun h' hl' => by exact tAim_calls _ _ h') ?_
  refine .u rfl rfl rfl (QOp.call rfl call164 fun h' hl' => by exact tDo_calls _ _ _ _ h') ?_
  refine .u rfl rfl rfl (QOp.call rfl call194 fun h' hl' => by exact tAim_calls _ _ h') ?_
  refine .u rfl rfl rfl (q_buildA (ds := (blackSpellsL).flatMap cAbil) rfl zeroValue154 underlying154 sizeOf38 rfl (by kernel_rfl)) ?_
  refine .sw sizeOf154 rfl rfl rfl rfl <|
    .nil ?_
  refine AW.ret ?_
  exact retQ.mk' (Res.cellB isAgg154 sizeOf154 rfl (by exact bsb) rfl) (VLe.refl _) (HLe.setBox hid0.1) ⟨rfl, rfl⟩

theorem redSpells_calls (h : Hp) : ACalls prog G 169 [] h fun r h' => r = .agg (redSpellsL.flatMap cAbil) ∧ h' = h := by
  refine ACalls.enter func169 rfl ntmps169 results169 rfl ?_
  refine .seq <|
    .region ?_
  refine AOps.s rfl rfl rfl (a_alloc rfl zeroValue154 rfl (fun id0 hid0 => ?_))
  refine .nil <|
    .seq <|
    .region ?_
  refine .u rfl rfl rfl (QOp.call rfl call164 fun h' hl' => by exact tDo_calls _ _ _ _ h') ?_
  refine .u rfl rfl rfl (QOp.call rfl call194 fun h' hl' => by exact tAim_calls _ _ h') ?_
  refine .u rfl rfl rfl (QOp.call rfl call164 fun h' hl' => by exact tDo_calls _ _ _ _ h') ?_
  refine .u rfl rfl rfl (QOp.call rfl call194 fun h' hl' => by exact tAim_calls _ _ h') ?_
  refine .u rfl rfl rfl (QOp.call rfl call164 fun h' hl' => by exact tDo_calls _ _ _ _ h') ?_
  refine .u rfl rfl rfl (QOp.call rfl call194 fun h' hl' => by exact tAim_calls _ _ h') ?_
  refine .u rfl rfl rfl (QOp.call rfl call195 fun h' hl' => by exact tEvery_calls _ _ _ _ h') ?_
  refine .u rfl rfl rfl (QOp.call rfl call194 fun h' hl' => by exact tAim_calls _ _ h') ?_
  refine .u rfl rfl rfl (QOp.call rfl call164 fun h' hl' => by exact tDo_calls _ _ _ _ h') ?_
  refine .u rfl rfl rfl (QOp.call rfl call194 fun h' hl' => by exact tAim_calls _ _ h') ?_
  refine .u rfl rfl rfl (QOp.call rfl call164 fun h' hl' => by exact tDo_calls _ _ _ _ h') ?_
  refine .u rfl rfl rfl (QOp.call rfl call164 fun h' hl' => by exact tDo_calls _ _ _ _ h') ?_
  refine .u rfl rfl rfl (q_buildSl (ds := [sub (doF 1 2 0 2), sub (doF 4 1 0 0)].flatMap cEff0) rfl underlying34 sizeOf36 zeroValue36 rfl rfl rfl rfl (by kernel_rfl)) ?_
  refine .u rfl rfl rfl (QOp.call rfl call196 fun h' hl' => by exact tSeq_calls .full [sub (doF 1 2 0 2), sub (doF 4 1 0 0)] h') ?_
  refine .u rfl rfl rfl (QOp.call rfl call194 fun h' hl' => by exact tAim_calls _ _ h') ?_
  refine .u rfl rfl rfl (q_buildA (ds := (redSpellsL).flatMap cAbil) rfl zeroValue154 underlying154 sizeOf38 rfl (by kernel_rfl)) ?_
  refine .sw sizeOf154 rfl rfl rfl rfl <|
    .nil ?_
  refine AW.ret ?_
  exact retQ.mk' (Res.cellB isAgg154 sizeOf154 rfl (by exact bsb) rfl) (VLe.refl _) (HLe.setBox hid0.1) ⟨rfl, rfl⟩

theorem greenSpells_calls (h : Hp) : ACalls prog G 170 [] h fun r h' => r = .agg (greenSpellsL.flatMap cAbil) ∧ h' = h := by
  refine ACalls.enter func170 rfl ntmps170 results170 rfl ?_
  refine .seq <|
    .region ?_
  refine AOps.s rfl rfl rfl (a_alloc rfl zeroValue154 rfl (fun id0 hid0 => ?_))
  refine .nil <|
    .seq <|
    .region ?_
  refine .u rfl rfl rfl (QOp.call rfl call164 fun h' hl' => by exact tDo_calls _ _ _ _ h') ?_
  refine .u rfl rfl rfl (QOp.call rfl call194 fun h' hl' => by exact tAim_calls _ _ h') ?_
  refine .u rfl rfl rfl (QOp.call rfl call164 fun h' hl' => by exact tDo_calls _ _ _ _ h') ?_
  refine .u rfl rfl rfl (QOp.call rfl call194 fun h' hl' => by exact tAim_calls _ _ h') ?_
  refine .u rfl rfl rfl (QOp.call rfl call164 fun h' hl' => by exact tDo_calls _ _ _ _ h') ?_
  refine .u rfl rfl rfl (QOp.call rfl call194 fun h' hl' => by exact tAim_calls _ _ h') ?_
  refine .u rfl rfl rfl (QOp.call rfl call164 fun h' hl' => by exact tDo_calls _ _ _ _ h') ?_
  refine .u rfl rfl rfl (QOp.call rfl call194 fun h' hl' => by exact tAim_calls _ _ h') ?_
  refine .u rfl rfl rfl (QOp.call rfl call164 fun h' hl' => by exact tDo_calls _ _ _ _ h') ?_
  refine .u rfl rfl rfl (QOp.call rfl call194 fun h' hl' => by exact tAim_calls _ _ h') ?_
  refine .u rfl rfl rfl (QOp.call rfl call195 fun h' hl' => by exact tEvery_calls _ _ _ _ h') ?_
  refine .u rfl rfl rfl (QOp.call rfl call194 fun h' hl' => by exact tAim_calls _ _ h') ?_
  refine .u rfl rfl rfl (q_buildA (ds := (greenSpellsL).flatMap cAbil) rfl zeroValue154 underlying154 sizeOf38 rfl (by kernel_rfl)) ?_
  refine .sw sizeOf154 rfl rfl rfl rfl <|
    .nil ?_
  refine AW.ret ?_
  exact retQ.mk' (Res.cellB isAgg154 sizeOf154 rfl (by exact bsb) rfl) (VLe.refl _) (HLe.setBox hid0.1) ⟨rfl, rfl⟩

theorem whiteRelics_calls (h : Hp) : ACalls prog G 171 [] h fun r h' => r = .agg (whiteRelicsL.flatMap cAbil) ∧ h' = h := by
  refine ACalls.enter func171 rfl ntmps171 results171 rfl ?_
  refine .seq <|
    .region ?_
  refine AOps.s rfl rfl rfl (a_alloc rfl zeroValue157 rfl (fun id0 hid0 => ?_))
  refine .nil <|
    .seq <|
    .region ?_
  refine .u rfl rfl rfl (QOp.call rfl call124 fun h' hl' => by exact tCost_calls _ _ _ (by omega) (by omega) h') ?_
  refine AOps.s rfl rfl rfl (a_alloc rfl zeroValue33 rfl (fun id1 hid1 => ?_))
  refine .sw sizeOf33 rfl rfl rfl rfl ?_
  refine AOps.done 1 rfl hid1 ?_
  refine .nil <|
    .seq ?_
  refine AW.draw [10] [] [(0, true), (1, true), (2, true), (3, true), (4, true), (5, true), (6, true), (7, true), (8, true), (9, true), (10, false)] mixed (by kernel_rfl) rfl (by kernel_rfl) ?_
  refine .q rfl rfl rfl rfl (QOp.call rfl (by exact call195) fun h' hl' => by exact tEvery_calls _ _ _ _ h') ?_
  refine .q rfl rfl rfl rfl (QOp.call rfl (by exact call163) fun h' hl' => by exact tWhen_calls _ _ h') ?_
  refine .q rfl rfl rfl rfl (QOp.call rfl (by exact call164) fun h' hl' => by exact tDo_calls _ _ _ _ h') ?_
  refine .q rfl rfl rfl rfl (QOp.call rfl (by exact call163) fun h' hl' => by exact tWhen_calls _ _ h') ?_
  refine .q rfl rfl rfl rfl (q_load_iW rfl isAgg33 sizeOf33 rfl (by rfl)) ?_
  refine .q rfl rfl rfl rfl (QOp.call rfl (by exact call164) fun h' hl' => by exact tDo_calls _ _ _ _ h') ?_
  refine .q rfl rfl rfl rfl (QOp.call rfl (by exact call165) fun h' hl' => by exact tActive_calls _ _ _ _ h') ?_
  refine .q rfl rfl rfl rfl (QOp.call rfl (by exact call195) fun h' hl' => by exact tEvery_calls _ _ _ _ h') ?_
  refine .q rfl rfl rfl rfl (QOp.call rfl (by exact call163) fun h' hl' => by exact tWhen_calls _ _ h') ?_
  refine .q rfl rfl rfl rfl (q_buildA (ds := (whiteRelicsL).flatMap cAbil) rfl zeroValue157 underlying157 sizeOf38 rfl (by kernel_rfl)) ?_
  refine AOrd.s0 rfl rfl rfl rfl (a_storeWA rfl sizeOf157 rfl rfl (rfl : _ = V.agg _) rfl rfl ?_)
  refine AOrd.nil ?_
  refine AW.ret ?_
  exact retQ.mk' (Res.cellB isAgg157 sizeOf157 rfl (by exact bsb) rfl) (VLe.refl _) (HLe.setBox hid0.1) ⟨rfl, rfl⟩

theorem blueRelics_calls (h : Hp) : ACalls prog G 172 [] h fun r h' => r = .agg (blueRelicsL.flatMap cAbil) ∧ h' = h := by
  refine ACalls.enter func172 rfl ntmps172 results172 rfl ?_
  refine .seq <|
    .region ?_
  refine AOps.s rfl rfl rfl (a_alloc rfl zeroValue157 rfl (fun id0 hid0 => ?_))
  refine .nil <|
    .seq <|
    .region ?_
  refine .u rfl rfl rfl (QOp.call rfl call124 fun h' hl' => by exact tCost_calls _ _ _ (by omega) (by omega) h') ?_
  refine AOps.s rfl rfl rfl (a_alloc rfl zeroValue33 rfl (fun id1 hid1 => ?_))
  refine .sw sizeOf33 rfl rfl rfl rfl ?_
  refine AOps.done 1 rfl hid1 ?_
  refine .nil <|
    .seq ?_
  refine AW.draw [11] [] [(0, true), (1, true), (2, true), (3, true), (4, true), (5, true), (6, true), (7, true), (8, true), (9, true), (10, true), (11, false)] mixed (by kernel_rfl) rfl (by kernel_rfl) ?_
  refine .q rfl rfl rfl rfl (QOp.call rfl (by exact call195) fun h' hl' => by exact tEvery_calls _ _ _ _ h') ?_
  refine .q rfl rfl rfl rfl (QOp.call rfl (by exact call163) fun h' hl' => by exact tWhen_calls _ _ h') ?_
  refine .q rfl rfl rfl rfl (QOp.call rfl (by exact call164) fun h' hl' => by exact tDo_calls _ _ _ _ h') ?_
  refine .q rfl rfl rfl rfl (QOp.call rfl (by exact call163) fun h' hl' => by exact tWhen_calls _ _ h') ?_
  refine .q rfl rfl rfl rfl (q_load_iW rfl isAgg33 sizeOf33 rfl (by rfl)) ?_
  refine .q rfl rfl rfl rfl (QOp.call rfl (by exact call164) fun h' hl' => by exact tDo_calls _ _ _ _ h') ?_
  refine .q rfl rfl rfl rfl (QOp.call rfl (by exact call165) fun h' hl' => by exact tActive_calls _ _ _ _ h') ?_
  refine .q rfl rfl rfl rfl (QOp.call rfl (by exact call124) fun h' hl' => by exact tCost_calls _ _ _ (by omega) (by omega) h') ?_
  refine .q rfl rfl rfl rfl (QOp.call rfl (by exact call164) fun h' hl' => by exact tDo_calls _ _ _ _ h') ?_
  refine .q rfl rfl rfl rfl (QOp.call rfl (by exact call165) fun h' hl' => by exact tActive_calls _ _ _ _ h') ?_
  refine .q rfl rfl rfl rfl (q_buildA (ds := (blueRelicsL).flatMap cAbil) rfl zeroValue157 underlying157 sizeOf38 rfl (by kernel_rfl)) ?_
  refine AOrd.s0 rfl rfl rfl rfl (a_storeWA rfl sizeOf157 rfl rfl (rfl : _ = V.agg _) rfl rfl ?_)
  refine AOrd.nil ?_
  refine AW.ret ?_
  exact retQ.mk' (Res.cellB isAgg157 sizeOf157 rfl (by exact bsb) rfl) (VLe.refl _) (HLe.setBox hid0.1) ⟨rfl, rfl⟩

theorem blackRelics_calls (h : Hp) : ACalls prog G 173 [] h fun r h' => r = .agg (blackRelicsL.flatMap cAbil) ∧ h' = h := by
  refine ACalls.enter func173 rfl ntmps173 results173 rfl ?_
  refine .seq <|
    .region ?_
  refine AOps.s rfl rfl rfl (a_alloc rfl zeroValue157 rfl (fun id0 hid0 => ?_))
  refine .nil <|
    .seq <|
    .region ?_
  refine .u rfl rfl rfl (QOp.call rfl call124 fun h' hl' => by exact tCost_calls _ _ _ (by omega) (by omega) h') ?_
  refine AOps.s rfl rfl rfl (a_alloc rfl zeroValue33 rfl (fun id1 hid1 => ?_))
  refine .sw sizeOf33 rfl rfl rfl rfl ?_
  refine AOps.done 1 rfl hid1 ?_
  refine .nil <|
    .seq ?_
  refine AW.draw [10] [] [(0, true), (1, true), (2, true), (3, true), (4, true), (5, true), (6, true), (7, true), (8, true), (9, true), (10, false)] mixed (by kernel_rfl) rfl (by kernel_rfl) ?_
  refine .q rfl rfl rfl rfl (QOp.call rfl (by exact call195) fun h' hl' => by exact tEvery_calls _ _ _ _ h') ?_
  refine .q rfl rfl rfl rfl (QOp.call rfl (by exact call163) fun h' hl' => by exact tWhen_calls _ _ h') ?_
  refine .q rfl rfl rfl rfl (QOp.call rfl (by exact call164) fun h' hl' => by exact tDo_calls _ _ _ _ h') ?_
  refine .q rfl rfl rfl rfl (QOp.call rfl (by exact call163) fun h' hl' => by exact tWhen_calls _ _ h') ?_
  refine .q rfl rfl rfl rfl (q_load_iW rfl isAgg33 sizeOf33 rfl (by rfl)) ?_
  refine .q rfl rfl rfl rfl (QOp.call rfl (by exact call164) fun h' hl' => by exact tDo_calls _ _ _ _ h') ?_
  refine .q rfl rfl rfl rfl (QOp.call rfl (by exact call165) fun h' hl' => by exact tActive_calls _ _ _ _ h') ?_
  refine .q rfl rfl rfl rfl (QOp.call rfl (by exact call195) fun h' hl' => by exact tEvery_calls _ _ _ _ h') ?_
  refine .q rfl rfl rfl rfl (QOp.call rfl (by exact call163) fun h' hl' => by exact tWhen_calls _ _ h') ?_
  refine .q rfl rfl rfl rfl (q_buildA (ds := (blackRelicsL).flatMap cAbil) rfl zeroValue157 underlying157 sizeOf38 rfl (by kernel_rfl)) ?_
  refine AOrd.s0 rfl rfl rfl rfl (a_storeWA rfl sizeOf157 rfl rfl (rfl : _ = V.agg _) rfl rfl ?_)
  refine AOrd.nil ?_
  refine AW.ret ?_
  exact retQ.mk' (Res.cellB isAgg157 sizeOf157 rfl (by exact bsb) rfl) (VLe.refl _) (HLe.setBox hid0.1) ⟨rfl, rfl⟩

theorem redRelics_calls (h : Hp) : ACalls prog G 174 [] h fun r h' => r = .agg (redRelicsL.flatMap cAbil) ∧ h' = h := by
  refine ACalls.enter func174 rfl ntmps174 results174 rfl ?_
  refine .seq <|
    .region ?_
  refine AOps.s rfl rfl rfl (a_alloc rfl zeroValue157 rfl (fun id0 hid0 => ?_))
  refine .nil <|
    .seq <|
    .region ?_
  refine .u rfl rfl rfl (QOp.call rfl call124 fun h' hl' => by exact tCost_calls _ _ _ (by omega) (by omega) h') ?_
  refine AOps.s rfl rfl rfl (a_alloc rfl zeroValue33 rfl (fun id1 hid1 => ?_))
  refine .sw sizeOf33 rfl rfl rfl rfl ?_
  refine AOps.done 1 rfl hid1 ?_
  refine .nil <|
    .seq ?_
  refine AW.draw [10] [] [(0, true), (1, true), (2, true), (3, true), (4, true), (5, true), (6, true), (7, true), (8, true), (9, true), (10, false)] mixed (by kernel_rfl) rfl (by kernel_rfl) ?_
  refine .q rfl rfl rfl rfl (QOp.call rfl (by exact call195) fun h' hl' => by exact tEvery_calls _ _ _ _ h') ?_
  refine .q rfl rfl rfl rfl (QOp.call rfl (by exact call163) fun h' hl' => by exact tWhen_calls _ _ h') ?_
  refine .q rfl rfl rfl rfl (QOp.call rfl (by exact call164) fun h' hl' => by exact tDo_calls _ _ _ _ h') ?_
  refine .q rfl rfl rfl rfl (QOp.call rfl (by exact call163) fun h' hl' => by exact tWhen_calls _ _ h') ?_
  refine .q rfl rfl rfl rfl (q_load_iW rfl isAgg33 sizeOf33 rfl (by rfl)) ?_
  refine .q rfl rfl rfl rfl (QOp.call rfl (by exact call164) fun h' hl' => by exact tDo_calls _ _ _ _ h') ?_
  refine .q rfl rfl rfl rfl (QOp.call rfl (by exact call165) fun h' hl' => by exact tActive_calls _ _ _ _ h') ?_
  refine .q rfl rfl rfl rfl (QOp.call rfl (by exact call164) fun h' hl' => by exact tDo_calls _ _ _ _ h') ?_
  refine .q rfl rfl rfl rfl (QOp.call rfl (by exact call163) fun h' hl' => by exact tWhen_calls _ _ h') ?_
  refine .q rfl rfl rfl rfl (q_buildA (ds := (redRelicsL).flatMap cAbil) rfl zeroValue157 underlying157 sizeOf38 rfl (by kernel_rfl)) ?_
  refine AOrd.s0 rfl rfl rfl rfl (a_storeWA rfl sizeOf157 rfl rfl (rfl : _ = V.agg _) rfl rfl ?_)
  refine AOrd.nil ?_
  refine AW.ret ?_
  exact retQ.mk' (Res.cellB isAgg157 sizeOf157 rfl (by exact bsb) rfl) (VLe.refl _) (HLe.setBox hid0.1) ⟨rfl, rfl⟩

theorem greenRelics_calls (h : Hp) : ACalls prog G 175 [] h fun r h' => r = .agg (greenRelicsL.flatMap cAbil) ∧ h' = h := by
  refine ACalls.enter func175 rfl ntmps175 results175 rfl ?_
  refine .seq <|
    .region ?_
  refine AOps.s rfl rfl rfl (a_alloc rfl zeroValue157 rfl (fun id0 hid0 => ?_))
  refine .nil <|
    .seq <|
    .region ?_
  refine .u rfl rfl rfl (QOp.call rfl call124 fun h' hl' => by exact tCost_calls _ _ _ (by omega) (by omega) h') ?_
  refine AOps.s rfl rfl rfl (a_alloc rfl zeroValue33 rfl (fun id1 hid1 => ?_))
  refine .sw sizeOf33 rfl rfl rfl rfl ?_
  refine AOps.done 1 rfl hid1 ?_
  refine .nil <|
    .seq ?_
  refine AW.draw [10] [] [(0, true), (1, true), (2, true), (3, true), (4, true), (5, true), (6, true), (7, true), (8, true), (9, true), (10, false)] mixed (by kernel_rfl) rfl (by kernel_rfl) ?_
  refine .q rfl rfl rfl rfl (QOp.call rfl (by exact call195) fun h' hl' => by exact tEvery_calls _ _ _ _ h') ?_
  refine .q rfl rfl rfl rfl (QOp.call rfl (by exact call163) fun h' hl' => by exact tWhen_calls _ _ h') ?_
  refine .q rfl rfl rfl rfl (QOp.call rfl (by exact call164) fun h' hl' => by exact tDo_calls _ _ _ _ h') ?_
  refine .q rfl rfl rfl rfl (QOp.call rfl (by exact call163) fun h' hl' => by exact tWhen_calls _ _ h') ?_
  refine .q rfl rfl rfl rfl (q_load_iW rfl isAgg33 sizeOf33 rfl (by rfl)) ?_
  refine .q rfl rfl rfl rfl (QOp.call rfl (by exact call164) fun h' hl' => by exact tDo_calls _ _ _ _ h') ?_
  refine .q rfl rfl rfl rfl (QOp.call rfl (by exact call165) fun h' hl' => by exact tActive_calls _ _ _ _ h') ?_
  refine .q rfl rfl rfl rfl (QOp.call rfl (by exact call164) fun h' hl' => by exact tDo_calls _ _ _ _ h') ?_
  refine .q rfl rfl rfl rfl (QOp.call rfl (by exact call163) fun h' hl' => by exact tWhen_calls _ _ h') ?_
  refine .q rfl rfl rfl rfl (q_buildA (ds := (greenRelicsL).flatMap cAbil) rfl zeroValue157 underlying157 sizeOf38 rfl (by kernel_rfl)) ?_
  refine AOrd.s0 rfl rfl rfl rfl (a_storeWA rfl sizeOf157 rfl rfl (rfl : _ = V.agg _) rfl rfl ?_)
  refine AOrd.nil ?_
  refine AW.ret ?_
  exact retQ.mk' (Res.cellB isAgg157 sizeOf157 rfl (by exact bsb) rfl) (VLe.refl _) (HLe.setBox hid0.1) ⟨rfl, rfl⟩

theorem spells_calls (h : Hp) : ACalls prog G 125 [] h fun r h' => r = .agg (spellsL.flatMap cAbil) ∧ h' = h := by
  refine ACalls.enter func125 rfl ntmps125 results125 rfl ?_
  refine .seq <|
    .region ?_
  refine AOps.s rfl rfl rfl (a_alloc rfl zeroValue155 rfl (fun id0 hid0 => ?_))
  refine .nil <|
    .seq <|
    .region ?_
  refine .u rfl rfl rfl (QOp.call rfl call166 fun h' hl' => by exact whiteSpells_calls h') ?_
  refine .u rfl rfl rfl (QOp.call rfl call167 fun h' hl' => by exact blueSpells_calls h') ?_
  refine .u rfl rfl rfl (QOp.call rfl call168 fun h' hl' => by exact blackSpells_calls h') ?_
  refine .u rfl rfl rfl (QOp.call rfl call169 fun h' hl' => by exact redSpells_calls h') ?_
  refine .u rfl rfl rfl (QOp.call rfl call170 fun h' hl' => by exact greenSpells_calls h') ?_
  refine .u rfl rfl rfl (q_buildA (ds := spellsL.flatMap cAbil) rfl zeroValue155 underlying155 sizeOf154 rfl (by kernel_rfl)) ?_
  refine .sw sizeOf155 rfl rfl rfl rfl <|
    .nil ?_
  refine AW.ret ?_
  exact retQ.mk' (Res.cellB isAgg155 sizeOf155 rfl (by exact bsb) rfl) (VLe.refl _) (HLe.setBox hid0.1) ⟨rfl, rfl⟩

theorem relics_calls (h : Hp) : ACalls prog G 126 [] h fun r h' => r = .agg (relicsL.flatMap cAbil) ∧ h' = h := by
  refine ACalls.enter func126 rfl ntmps126 results126 rfl ?_
  refine .seq <|
    .region ?_
  refine AOps.s rfl rfl rfl (a_alloc rfl zeroValue158 rfl (fun id0 hid0 => ?_))
  refine .nil <|
    .seq <|
    .region ?_
  refine .u rfl rfl rfl (QOp.call rfl call171 fun h' hl' => by exact whiteRelics_calls h') ?_
  refine .u rfl rfl rfl (QOp.call rfl call172 fun h' hl' => by exact blueRelics_calls h') ?_
  refine .u rfl rfl rfl (QOp.call rfl call173 fun h' hl' => by exact blackRelics_calls h') ?_
  refine .u rfl rfl rfl (QOp.call rfl call174 fun h' hl' => by exact redRelics_calls h') ?_
  refine .u rfl rfl rfl (QOp.call rfl call175 fun h' hl' => by exact greenRelics_calls h') ?_
  refine .u rfl rfl rfl (q_buildA (ds := relicsL.flatMap cAbil) rfl zeroValue158 underlying158 sizeOf157 rfl (by kernel_rfl)) ?_
  refine .sw sizeOf158 rfl rfl rfl rfl <|
    .nil ?_
  refine AW.ret ?_
  exact retQ.mk' (Res.cellB isAgg158 sizeOf158 rfl (by exact bsb) rfl) (VLe.refl _) (HLe.setBox hid0.1) ⟨rfl, rfl⟩

theorem early_calls (h : Hp) : ACalls prog G 176 [] h fun r h' => r = .sl .full 13 6 (earlyL.flatMap (cCardK .full)) ∧ h' = h := by
  refine ACalls.enter func176 rfl ntmps176 results176 rfl ?_
  refine .seq <|
    .region <|
    .aN rfl rfl <|
    .nil <|
    .seq <|
    .region ?_
  refine .u rfl rfl rfl (QOp.call rfl call164 fun h' hl' => by exact tDo_calls _ _ _ _ h') ?_
  refine .u rfl rfl rfl (QOp.call rfl call194 fun h' hl' => by exact tAim_calls _ _ h') ?_
  refine .u rfl rfl rfl (QOp.call rfl call197 fun h' hl' => by exact tSingle_calls _ _ _ _ (by omega) h') ?_
  refine .u rfl rfl rfl (QOp.call rfl call164 fun h' hl' => by exact tDo_calls _ _ _ _ h') ?_
  refine .u rfl rfl rfl (QOp.call rfl call194 fun h' hl' => by exact tAim_calls _ _ h') ?_
  refine .u rfl rfl rfl (QOp.call rfl call197 fun h' hl' => by exact tSingle_calls _ _ _ _ (by omega) h') ?_
  refine .u rfl rfl rfl (QOp.call rfl call164 fun h' hl' => by exact tDo_calls _ _ _ _ h') ?_
  refine .u rfl rfl rfl (QOp.call rfl call194 fun h' hl' => by exact tAim_calls _ _ h') ?_
  refine .u rfl rfl rfl (QOp.call rfl call197 fun h' hl' => by exact tSingle_calls _ _ _ _ (by omega) h') ?_
  refine .u rfl rfl rfl (QOp.call rfl call164 fun h' hl' => by exact tDo_calls _ _ _ _ h') ?_
  refine .u rfl rfl rfl (QOp.call rfl call194 fun h' hl' => by exact tAim_calls _ _ h') ?_
  refine .u rfl rfl rfl (QOp.call rfl call197 fun h' hl' => by exact tSingle_calls _ _ _ _ (by omega) h') ?_
  refine .u rfl rfl rfl (QOp.call rfl call164 fun h' hl' => by exact tDo_calls _ _ _ _ h') ?_
  refine .u rfl rfl rfl (QOp.call rfl call194 fun h' hl' => by exact tAim_calls _ _ h') ?_
  refine .u rfl rfl rfl (QOp.call rfl call197 fun h' hl' => by exact tSingle_calls _ _ _ _ (by omega) h') ?_
  refine .u rfl rfl rfl (QOp.call rfl call164 fun h' hl' => by exact tDo_calls _ _ _ _ h') ?_
  refine .u rfl rfl rfl (QOp.call rfl call194 fun h' hl' => by exact tAim_calls _ _ h') ?_
  refine .u rfl rfl rfl (QOp.call rfl call197 fun h' hl' => by exact tSingle_calls _ _ _ _ (by omega) h') ?_
  refine .u rfl rfl rfl (q_buildSl (ds := (earlyL).flatMap (cCardK .full)) rfl underlying197 sizeOf44 zeroValue44 rfl rfl rfl rfl (by kernel_rfl)) ?_
  refine .aS rfl rfl <|
    .nil ?_
  refine AW.ret ?_
  exact retQ.mk' (.one _) (VLe.refl _) (HLe.refl _) ⟨rfl, rfl⟩

theorem late_calls (h : Hp) : ACalls prog G 177 [] h fun r h' => r = .sl .full 13 6 (lateL.flatMap (cCardK .full)) ∧ h' = h := by
  refine ACalls.enter func177 rfl ntmps177 results177 rfl ?_
  refine .seq <|
    .region <|
    .aN rfl rfl <|
    .nil <|
    .seq <|
    .region ?_
  refine .u rfl rfl rfl (QOp.call rfl call195 fun h' hl' => by exact tEvery_calls _ _ _ _ h') ?_
  refine .u rfl rfl rfl (QOp.call rfl call194 fun h' hl' => by exact tAim_calls _ _ h') ?_
  refine .u rfl rfl rfl (QOp.call rfl call197 fun h' hl' => by exact tSingle_calls _ _ _ _ (by omega) h') ?_
  refine .u rfl rfl rfl (q_buildA (ds := cCost noCost) rfl zeroValue33 underlying33 sizeOf3 rfl (by kernel_rfl)) ?_
  refine .u rfl rfl rfl (QOp.call rfl call164 fun h' hl' => by exact tDo_calls _ _ _ _ h') ?_
  refine .u rfl rfl rfl (QOp.call rfl call165 fun h' hl' => by exact tActive_calls _ _ _ _ h') ?_
  refine .u rfl rfl rfl (QOp.call rfl call197 fun h' hl' => by exact tSingle_calls _ _ _ _ (by omega) h') ?_
  refine .u rfl rfl rfl (QOp.call rfl call124 fun h' hl' => by exact tCost_calls _ _ _ (by omega) (by omega) h') ?_
  refine .u rfl rfl rfl (QOp.call rfl call164 fun h' hl' => by exact tDo_calls _ _ _ _ h') ?_
  refine .u rfl rfl rfl (QOp.call rfl call165 fun h' hl' => by exact tActive_calls _ _ _ _ h') ?_
  refine .u rfl rfl rfl (QOp.call rfl call197 fun h' hl' => by exact tSingle_calls _ _ _ _ (by omega) h') ?_
  refine .u rfl rfl rfl (QOp.call rfl call164 fun h' hl' => by exact tDo_calls _ _ _ _ h') ?_
  refine .u rfl rfl rfl (QOp.call rfl call194 fun h' hl' => by exact tAim_calls _ _ h') ?_
  refine .u rfl rfl rfl (QOp.call rfl call197 fun h' hl' => by exact tSingle_calls _ _ _ _ (by omega) h') ?_
  refine .u rfl rfl rfl (QOp.call rfl call195 fun h' hl' => by exact tEvery_calls _ _ _ _ h') ?_
  refine .u rfl rfl rfl (QOp.call rfl call194 fun h' hl' => by exact tAim_calls _ _ h') ?_
  refine .u rfl rfl rfl (QOp.call rfl call197 fun h' hl' => by exact tSingle_calls _ _ _ _ (by omega) h') ?_
  refine .u rfl rfl rfl (QOp.call rfl call164 fun h' hl' => by exact tDo_calls _ _ _ _ h') ?_
  refine .u rfl rfl rfl (QOp.call rfl call163 fun h' hl' => by exact tWhen_calls _ _ h') ?_
  refine .u rfl rfl rfl (QOp.call rfl call197 fun h' hl' => by exact tSingle_calls _ _ _ _ (by omega) h') ?_
  refine .u rfl rfl rfl (q_buildSl (ds := (lateL).flatMap (cCardK .full)) rfl underlying197 sizeOf44 zeroValue44 rfl rfl rfl rfl (by kernel_rfl)) ?_
  refine .aS rfl rfl <|
    .nil ?_
  refine AW.ret ?_
  exact retQ.mk' (.one _) (VLe.refl _) (HLe.refl _) ⟨rfl, rfl⟩

end Go.Proofs.YtagcjkbogaoifaaGreatDoor
/- Walks: the cards. -/
namespace Go.Proofs.YtagcjkbogaoifaaGreatDoor
open Go Go.AV Go.Proofs.Tryz
set_option maxRecDepth 100000
set_option maxHeartbeats 1000000
def sourceF (n : Int) : Card := if n < 5 then ⟨0, n, false, noCost, 0, 0, 0, [manaF 1 n]⟩ else ⟨0, 5, false, noCost, 0, 0, 0, [whenF 2 (doF 3 (1 + (n - 5)) 0 0), manaF (1 + (n - 5) / 2) 5]⟩

theorem source_calls (n : Int) (hn : 0 ≤ n ∧ n < 10) (h : Hp) : ACalls prog G 122 [.int .i64 n] h fun r h' => r = eCard (sourceF n) ∧ h' = h := by
  refine ACalls.enter func122 rfl ntmps122 results122 rfl ?_
  refine .seq <|
    .region ?_
  refine AOps.s rfl rfl rfl (a_alloc rfl zeroValue44 rfl (fun id2 hid2 => ?_))
  refine .nil <|
    .seq <|
    .seq <|
    .region <|
    .mI rfl rfl <|
    .ql rfl rfl rfl <|
    .nil ?_
  refine AW.cond rfl (fun c0 => ?_) (fun c0 => ?_)
  · skip
    refine .seq <|
      .region <|
      .mI rfl rfl <|
      .mI rfl rfl ?_
    refine .u rfl rfl rfl (QOp.call rfl call162 fun h' hl' => by exact tMana_calls _ _ h') ?_
    refine .u rfl rfl rfl (q_buildSl (ds := cAbil (manaF 1 n)) rfl underlying42 sizeOf38 zeroValue38 rfl rfl rfl rfl (by kernel_rfl)) ?_
    refine .u rfl rfl rfl (q_buildS (ds := [.int .i64 0, .int .i64 n, .bool false, .int .i64 (noCost 0), .int .i64 (noCost 1), .int .i64 (noCost 2), .int .i64 (noCost 3), .int .i64 (noCost 4), .int .i64 (noCost 5), .int .i64 0, .int .i64 0, .int .i64 0, .sl .full 14 1 (cAbil (manaF 1 n))]) rfl zeroValue44 underlying44 (pl44 underlying44) rfl (by kernel_rfl)) ?_
    refine .sw sizeOf44 rfl rfl rfl rfl <|
      .nil ?_
    refine AW.ret ?_
    exact retQ.mk' (Res.cellB isAgg44 sizeOf44 rfl (by exact bsb) rfl) (VLe.trans (LLe.wk 14 _).agg (.of_eq (congrArg V.agg (by rw [sourceF, if_pos (by simpa using c0)]; rfl)))) (HLe.setBox hid2.1) ⟨rfl, rfl⟩
  · have h5 : 5 ≤ n := by simpa using c0
    refine AW.skip ?_
    refine .seq <|
      .region <|
      .mI rfl rfl ?_
    refine .u rfl rfl rfl (q_sub' rfl rfl rfl (by omega)) ?_
    refine .aI rfl rfl <|
      .nil <|
      .seq <|
      .region <|
      .mI rfl rfl <|
      .ad rfl rfl rfl (by omega) ?_
    refine .u rfl rfl rfl (QOp.call rfl call164 fun h' hl' => by exact tDo_calls _ _ _ _ h') ?_
    refine .u rfl rfl rfl (QOp.call rfl call163 fun h' hl' => by exact tWhen_calls _ _ h') ?_
    refine .mI rfl rfl ?_
    refine .u rfl rfl rfl (q_quo' rfl rfl rfl (by omega) (by omega)) ?_
    refine .ad rfl rfl rfl (by omega) ?_
    refine .u rfl rfl rfl (QOp.call rfl call162 fun h' hl' => by exact tMana_calls _ _ h') ?_
    refine .u rfl rfl rfl (q_buildSl (ds := cAbil (whenF 2 (doF 3 (1 + (n - 5)) 0 0)) ++ cAbil (manaF (1 + (n - 5) / 2) 5)) rfl underlying42 sizeOf38 zeroValue38 rfl rfl rfl rfl (by kernel_rfl)) ?_
    refine .u rfl rfl rfl (q_buildS (ds := [.int .i64 0, .int .i64 5, .bool false, .int .i64 (noCost 0), .int .i64 (noCost 1), .int .i64 (noCost 2), .int .i64 (noCost 3), .int .i64 (noCost 4), .int .i64 (noCost 5), .int .i64 0, .int .i64 0, .int .i64 0, .sl .full 14 2 (cAbil (whenF 2 (doF 3 (1 + (n - 5)) 0 0)) ++ cAbil (manaF (1 + (n - 5) / 2) 5))]) rfl zeroValue44 underlying44 (pl44 underlying44) rfl (by kernel_rfl)) ?_
    refine .sw sizeOf44 rfl rfl rfl rfl <|
      .nil ?_
    refine AW.ret ?_
    exact retQ.mk' (Res.cellB isAgg44 sizeOf44 rfl (by exact bsb) rfl) (VLe.trans (LLe.wk 14 _).agg (.of_eq (congrArg V.agg (by rw [sourceF, if_neg (by simpa using c0)]; rfl)))) (HLe.setBox hid2.1) ⟨rfl, rfl⟩

theorem q_shl1 {P : Program} {G : Nat → Option (List V)} {h : Hp} {o : Oper} {ρ : Operand → V} {t t2 : TypeId} {x y : Operand} (ho : o.op = .binOp .shl t x y t2) {k : Int} (hx : ρ x = .int .i64 1) (hy : ρ y = .int .u64 (IntKind.u64.wrap k)) (hk : 0 ≤ k ∧ k < 8) : QOp P G h o ρ (.int .i64 (2 ^ k.toNat)) := by
  obtain ⟨n, rfl⟩ := Int.eq_ofNat_of_zero_le hk.1
  have hn : n = 0 ∨ n = 1 ∨ n = 2 ∨ n = 3 ∨ n = 4 ∨ n = 5 ∨ n = 6 ∨ n = 7 := by omega
  have h0 : 0 ≤ IntKind.u64.wrap (n : Int) := by rcases hn with e | e | e | e | e | e | e | e <;> subst e <;> decide +kernel
  have := q_shl (P := P) (G := G) (h := h) ho hx hy h0
  have e : IntKind.i64.wrap (1 * 2 ^ (min (IntKind.u64.wrap (n : Int)).toNat IntKind.i64.bits)) = 2 ^ ((n : Int)).toNat := by rcases hn with e | e | e | e | e | e | e | e <;> subst e <;> decide +kernel
  rwa [e] at this
def beastF (i : Int) : Card :=
  if i % 5 = 0 then ⟨1, i % 5, false, costF (i % 5) (1 + i / 5 / 4) (i / 5), i / 5 / 2 + 1, (i / 5 + 1) / 2 + 1, 2 ^ (i / 5).toNat, [whenF 2 (doF 2 (i / 5 + 1) 0 0)]⟩
  else if i % 5 = 1 then ⟨1, i % 5, false, costF (i % 5) (1 + i / 5 / 4) (i / 5), i / 5 / 2 + 1, (i / 5 + 1) / 2 + 1, 2 ^ (i / 5).toNat, if i / 5 % 2 = 1 then [whenF 2 (doF 4 1 0 0)] else []⟩
  else if i % 5 = 2 then ⟨1, i % 5, false, costF (i % 5) (1 + i / 5 / 4) (i / 5), i / 5 / 2 + 1, (i / 5 + 1) / 2 + 1, 2 ^ (i / 5).toNat, [whenF 3 (doF 3 (i / 5 / 2 + 1) 0 1)]⟩
  else if i % 5 = 3 then ⟨1, i % 5, false, costF (i % 5) (1 + i / 5 / 4) (i / 5), i / 5 / 2 + 1 + 1, (i / 5 + 1) / 2 + 1, 2 ^ (i / 5).toNat, [activeF (costF (i % 5) 1 0) true 3 (doF 1 1 0 2)]⟩
  else ⟨1, i % 5, false, costF (i % 5) (1 + i / 5 / 4) (i / 5), i / 5 / 2 + 1, (i / 5 + 1) / 2 + 1 + 1, 2 ^ (i / 5).toNat, [activeF (costF (i % 5) 1 0) false 0 (doF 10 1 1 3)]⟩

theorem beast_calls (i : Int) (hi : 0 ≤ i ∧ i < 40) (h : Hp) : ACalls prog G 123 [.int .i64 i] h fun r h' => r = eCard (beastF i) ∧ h' = h := by
  refine ACalls.enter func123 rfl ntmps123 results123 rfl ?_
  refine .seq <|
    .region ?_
  refine AOps.s rfl rfl rfl (a_alloc rfl zeroValue44 rfl (fun id2 hid2 => ?_))
  refine .nil <|
    .seq <|
    .region <|
    .mI rfl rfl ?_
  refine .u rfl rfl rfl (q_rem' rfl rfl rfl (by omega) (by omega)) ?_
  refine .mI rfl rfl ?_
  refine .u rfl rfl rfl (q_quo' rfl rfl rfl (by omega) (by omega)) ?_
  refine .aI rfl rfl <|
    .aI rfl rfl <|
    .nil <|
    .seq <|
    .region <|
    .mI rfl rfl <|
    .mI rfl rfl <|
    .mI rfl rfl ?_
  refine .u rfl rfl rfl (q_quo' rfl rfl rfl (by omega) (by omega)) ?_
  refine .ad rfl rfl rfl (by omega) <|
    .mI rfl rfl ?_
  refine .u rfl rfl rfl (QOp.call rfl call124 fun h' hl' => by exact tCost_calls _ _ _ (by omega) (by omega) h') ?_
  refine .mI rfl rfl ?_
  refine .u rfl rfl rfl (q_quo' rfl rfl rfl (by omega) (by omega)) ?_
  refine .ad rfl rfl rfl (by omega) <|
    .mI rfl rfl <|
    .ad rfl rfl rfl (by omega) ?_
  refine .u rfl rfl rfl (q_quo' rfl rfl rfl (by omega) (by omega)) ?_
  refine .ad rfl rfl rfl (by omega) <|
    .mI rfl rfl ?_
  refine .u rfl rfl rfl (q_conv rfl underlying3 underlying151 rfl) ?_
  refine .u rfl rfl rfl (q_shl1 rfl rfl rfl (by omega)) ?_
  refine .u rfl rfl rfl (q_buildS (ds := [.int .i64 1, .int .i64 (i % 5), .bool false, .int .i64 (costF (i % 5) (1 + i / 5 / 4) (i / 5) 0), .int .i64 (costF (i % 5) (1 + i / 5 / 4) (i / 5) 1), .int .i64 (costF (i % 5) (1 + i / 5 / 4) (i / 5) 2), .int .i64 (costF (i % 5) (1 + i / 5 / 4) (i / 5) 3), .int .i64 (costF (i % 5) (1 + i / 5 / 4) (i / 5) 4), .int .i64 (costF (i % 5) (1 + i / 5 / 4) (i / 5) 5), .int .i64 (i / 5 / 2 + 1), .int .i64 ((i / 5 + 1) / 2 + 1), .int .i64 (2 ^ (i / 5).toNat), .snil]) rfl zeroValue44 underlying44 (pl44 underlying44) rfl (by kernel_rfl)) ?_
  refine AOps.s rfl rfl rfl (a_alloc rfl zeroValue44 rfl (fun id5 hid5 => ?_))
  refine .sw sizeOf44 rfl rfl rfl rfl <|
    .nil <|
    .seq <|
    .seq <|
    .region <|
    .mI rfl rfl <|
    .nil <|
    .block <|
    .seq <|
    .region <|
    .qe rfl rfl rfl <|
    .aB rfl rfl <|
    .nil ?_
  refine AW.cond rfl (fun c0 => ?_) (fun c0 => ?_)
  · skip
    refine .region <|
      .mI rfl rfl <|
      .ad rfl rfl rfl (by omega) ?_
    refine .u rfl rfl rfl (QOp.call rfl call164 fun h' hl' => by exact tDo_calls _ _ _ _ h') ?_
    refine .u rfl rfl rfl (QOp.call rfl call163 fun h' hl' => by exact tWhen_calls _ _ h') ?_
    refine .u rfl rfl rfl (q_buildSl (ds := cAbil (whenF 2 (doF 2 (i / 5 + 1) 0 0))) rfl underlying42 sizeOf38 zeroValue38 rfl rfl rfl rfl (by kernel_rfl)) ?_
    refine .fb rfl f44_12 rfl rfl ?_
    refine AOps.s0 rfl rfl (a_store1 rfl sizeOf42 rfl (by exact bsb) (rfl : _ = V.sl _ _ _ _) rfl rfl (by first | decide | exact Nat.le_of_ble_eq_true rfl) ?_)
    refine .nil <|
      .seq ?_
    first | rw [Hp.setBox_setBox, Hp.setBox_setBox] | rw [Hp.setBox_setBox] | skip
    refine AW.done 5 rfl hid5 ?_
    refine .region <|
      .lw rfl isAgg44 sizeOf44 rfl rfl <|
      .sw sizeOf44 rfl rfl rfl rfl <|
      .nil ?_
    refine AW.ret ?_
    exact retQ.mk' (Res.cellB isAgg44 sizeOf44 rfl (by exact bsb) rfl) (VLe.trans (LLe.wk 14 _).agg (.of_eq (congrArg V.agg (by rw [beastF, if_pos (by simpa using c0)]; rfl)))) (HLe.setBox hid2.1) ⟨rfl, rfl⟩
  · skip
    refine .seq <|
      .region <|
      .qe rfl rfl rfl <|
      .aB rfl rfl <|
      .nil ?_
    refine AW.cond rfl (fun c1 => ?_) (fun c1 => ?_)
    · skip
      refine .seq <|
        .region <|
        .mI rfl rfl ?_
      refine .u rfl rfl rfl (q_rem' rfl rfl rfl (by omega) (by omega)) ?_
      refine .qe rfl rfl rfl <|
        .nil ?_
      refine AW.cond rfl (fun c2 => ?_) (fun c2 => ?_)
      · skip
        refine .region ?_
        refine .u rfl rfl rfl (QOp.call rfl call164 fun h' hl' => by exact tDo_calls _ _ _ _ h') ?_
        refine .u rfl rfl rfl (QOp.call rfl call163 fun h' hl' => by exact tWhen_calls _ _ h') ?_
        refine .u rfl rfl rfl (q_buildSl (ds := cAbil (whenF 2 (doF 4 1 0 0))) rfl underlying42 sizeOf38 zeroValue38 rfl rfl rfl rfl (by kernel_rfl)) ?_
        refine .fb rfl f44_12 rfl rfl ?_
        refine AOps.s0 rfl rfl (a_store1 rfl sizeOf42 rfl (by exact bsb) (rfl : _ = V.sl _ _ _ _) rfl rfl (by first | decide | exact Nat.le_of_ble_eq_true rfl) ?_)
        refine .nil <|
          .seq ?_
        first | rw [Hp.setBox_setBox, Hp.setBox_setBox] | rw [Hp.setBox_setBox] | skip
        refine AW.done 5 rfl hid5 ?_
        refine .region <|
          .lw rfl isAgg44 sizeOf44 rfl rfl <|
          .sw sizeOf44 rfl rfl rfl rfl <|
          .nil ?_
        refine AW.ret ?_
        exact retQ.mk' (Res.cellB isAgg44 sizeOf44 rfl (by exact bsb) rfl) (VLe.trans (LLe.wk 14 _).agg (.of_eq (congrArg V.agg (by rw [beastF, if_neg (by simpa using c0), if_pos (by simpa using c1), if_pos (by simpa using c2)]; rfl)))) (HLe.setBox hid2.1) ⟨rfl, rfl⟩
      · skip
        refine AW.skip ?_
        refine .seq ?_
        first | rw [Hp.setBox_setBox, Hp.setBox_setBox] | rw [Hp.setBox_setBox] | skip
        refine AW.done 5 rfl hid5 ?_
        refine .region <|
          .lw rfl isAgg44 sizeOf44 rfl rfl <|
          .sw sizeOf44 rfl rfl rfl rfl <|
          .nil ?_
        refine AW.ret ?_
        exact retQ.mk' (Res.cellB isAgg44 sizeOf44 rfl (by exact bsb) rfl) (VLe.trans (LLe.wk 14 _).agg (.of_eq (congrArg V.agg (by rw [beastF, if_neg (by simpa using c0), if_pos (by simpa using c1), if_neg (by simpa using c2)]; rfl)))) (HLe.setBox hid2.1) ⟨rfl, rfl⟩
    · skip
      refine .seq <|
        .region <|
        .qe rfl rfl rfl <|
        .aB rfl rfl <|
        .nil ?_
      refine AW.cond rfl (fun c3 => ?_) (fun c3 => ?_)
      · skip
        refine .region <|
          .mI rfl rfl ?_
        refine .u rfl rfl rfl (q_quo' rfl rfl rfl (by omega) (by omega)) ?_
        refine .ad rfl rfl rfl (by omega) ?_
        refine .u rfl rfl rfl (QOp.call rfl call164 fun h' hl' => by exact tDo_calls _ _ _ _ h') ?_
        refine .u rfl rfl rfl (QOp.call rfl call163 fun h' hl' => by exact tWhen_calls _ _ h') ?_
        refine .u rfl rfl rfl (q_buildSl (ds := cAbil (whenF 3 (doF 3 (i / 5 / 2 + 1) 0 1))) rfl underlying42 sizeOf38 zeroValue38 rfl rfl rfl rfl (by kernel_rfl)) ?_
        refine .fb rfl f44_12 rfl rfl ?_
        refine AOps.s0 rfl rfl (a_store1 rfl sizeOf42 rfl (by exact bsb) (rfl : _ = V.sl _ _ _ _) rfl rfl (by first | decide | exact Nat.le_of_ble_eq_true rfl) ?_)
        refine .nil <|
          .seq ?_
        first | rw [Hp.setBox_setBox, Hp.setBox_setBox] | rw [Hp.setBox_setBox] | skip
        refine AW.done 5 rfl hid5 ?_
        refine .region <|
          .lw rfl isAgg44 sizeOf44 rfl rfl <|
          .sw sizeOf44 rfl rfl rfl rfl <|
          .nil ?_
        refine AW.ret ?_
        exact retQ.mk' (Res.cellB isAgg44 sizeOf44 rfl (by exact bsb) rfl) (VLe.trans (LLe.wk 14 _).agg (.of_eq (congrArg V.agg (by rw [beastF, if_neg (by simpa using c0), if_neg (by simpa using c1), if_pos (by simpa using c3)]; rfl)))) (HLe.setBox hid2.1) ⟨rfl, rfl⟩
      · skip
        refine .seq <|
          .region <|
          .qe rfl rfl rfl <|
          .aB rfl rfl <|
          .nil ?_
        refine AW.cond rfl (fun c4 => ?_) (fun c4 => ?_)
        · skip
          refine .seq <|
            .region <|
            .fb rfl f44_9 rfl rfl <|
            .lb rfl isAgg3 rfl rfl <|
            .ad rfl rfl rfl (by omega) <|
            .fb rfl f44_9 rfl rfl ?_
          refine AOps.s0 rfl rfl (a_store1 rfl sizeOf3 rfl (by exact bsb) (rfl : _ = V.int _ _) rfl rfl (by first | decide | exact Nat.le_of_ble_eq_true rfl) ?_)
          refine .nil <|
            .region <|
            .mI rfl rfl ?_
          refine .u rfl rfl rfl (QOp.call rfl call124 fun h' hl' => by exact tCost_calls _ _ _ (by omega) (by omega) h') ?_
          refine .u rfl rfl rfl (QOp.call rfl call164 fun h' hl' => by exact tDo_calls _ _ _ _ h') ?_
          refine .u rfl rfl rfl (QOp.call rfl call165 fun h' hl' => by exact tActive_calls _ _ _ _ h') ?_
          refine .u rfl rfl rfl (q_buildSl (ds := cAbil (activeF (costF (i % 5) 1 0) true 3 (doF 1 1 0 2))) rfl underlying42 sizeOf38 zeroValue38 rfl rfl rfl rfl (by kernel_rfl)) ?_
          refine .fb rfl f44_12 rfl rfl ?_
          refine AOps.s0 rfl rfl (a_store1 rfl sizeOf42 rfl (by exact bsb) (rfl : _ = V.sl _ _ _ _) rfl rfl (by first | decide | exact Nat.le_of_ble_eq_true rfl) ?_)
          refine .nil <|
            .seq ?_
          first | rw [Hp.setBox_setBox, Hp.setBox_setBox] | rw [Hp.setBox_setBox] | skip
          refine AW.done 5 rfl hid5 ?_
          refine .region <|
            .lw rfl isAgg44 sizeOf44 rfl rfl <|
            .sw sizeOf44 rfl rfl rfl rfl <|
            .nil ?_
          refine AW.ret ?_
          exact retQ.mk' (Res.cellB isAgg44 sizeOf44 rfl (by exact bsb) rfl) (VLe.trans (LLe.wk 14 _).agg (.of_eq (congrArg V.agg (by rw [beastF, if_neg (by simpa using c0), if_neg (by simpa using c1), if_neg (by simpa using c3), if_pos (by simpa using c4)]; rfl)))) (HLe.setBox hid2.1) ⟨rfl, rfl⟩
        · skip
          refine .seq <|
            .region <|
            .fb rfl f44_10 rfl rfl <|
            .lb rfl isAgg3 rfl rfl <|
            .ad rfl rfl rfl (by omega) <|
            .fb rfl f44_10 rfl rfl ?_
          refine AOps.s0 rfl rfl (a_store1 rfl sizeOf3 rfl (by exact bsb) (rfl : _ = V.int _ _) rfl rfl (by first | decide | exact Nat.le_of_ble_eq_true rfl) ?_)
          refine .nil <|
            .region <|
            .mI rfl rfl ?_
          refine .u rfl rfl rfl (QOp.call rfl call124 fun h' hl' => by exact tCost_calls _ _ _ (by omega) (by omega) h') ?_
          refine .u rfl rfl rfl (QOp.call rfl call164 fun h' hl' => by exact tDo_calls _ _ _ _ h') ?_
          refine .u rfl rfl rfl (QOp.call rfl call165 fun h' hl' => by exact tActive_calls _ _ _ _ h') ?_
          refine .u rfl rfl rfl (q_buildSl (ds := cAbil (activeF (costF (i % 5) 1 0) false 0 (doF 10 1 1 3))) rfl underlying42 sizeOf38 zeroValue38 rfl rfl rfl rfl (by kernel_rfl)) ?_
          refine .fb rfl f44_12 rfl rfl ?_
          refine AOps.s0 rfl rfl (a_store1 rfl sizeOf42 rfl (by exact bsb) (rfl : _ = V.sl _ _ _ _) rfl rfl (by first | decide | exact Nat.le_of_ble_eq_true rfl) ?_)
          refine .nil <|
            .seq ?_
          first | rw [Hp.setBox_setBox, Hp.setBox_setBox] | rw [Hp.setBox_setBox] | skip
          refine AW.done 5 rfl hid5 ?_
          refine .region <|
            .lw rfl isAgg44 sizeOf44 rfl rfl <|
            .sw sizeOf44 rfl rfl rfl rfl <|
            .nil ?_
          refine AW.ret ?_
          exact retQ.mk' (Res.cellB isAgg44 sizeOf44 rfl (by exact bsb) rfl) (VLe.trans (LLe.wk 14 _).agg (.of_eq (congrArg V.agg (by rw [beastF, if_neg (by simpa using c0), if_neg (by simpa using c1), if_neg (by simpa using c3), if_neg (by simpa using c4)]; rfl)))) (HLe.setBox hid2.1) ⟨rfl, rfl⟩

theorem flat_at {α : Type} {f : α → List V} {n : Nat} (hf : ∀ a, (f a).length = n) (z : α) : ∀ {l : List α} {i : Nat}, i < l.length → ((l.flatMap f).drop (i * n)).take n = f (l.getD i z)
  | [], i, h => by simp at h
  | o :: l, 0, _ => by
    simp only [List.flatMap_cons, Nat.zero_mul, List.drop_zero]
    rw [List.take_append_of_le_length (by rw [hf]; exact Nat.le_refl _), List.take_of_length_le (by rw [hf]; exact Nat.le_refl _)]; rfl
  | o :: l, i + 1, h => by
    have ih := flat_at hf z (l := l) (i := i) (by simpa using h)
    simp only [List.flatMap_cons]
    rw [show (i + 1) * n = (f o).length + i * n by rw [hf, Nat.add_mul]; omega, List.drop_append, List.drop_eq_nil_of_le (by omega)]
    simp only [List.nil_append, Nat.add_sub_cancel_left]
    rw [ih]; rfl
def noCard : Card := ⟨0, 0, false, noCost, 0, 0, 0, []⟩
def specialL : List Card := earlyL ++ lateL
def specialF (i : Int) : Card :=
  if i = 8 then ⟨1, 5, false, costF 5 0 2, 1, 1, 0, [activeF (costF 5 0 1) false 0 (doF 13 0 0 3), manaF 2 5]⟩
  else if i = 11 then ⟨1, 5, true, costF 5 0 3, 2, 3, 5, [whenF 3 (doF 4 1 0 0)]⟩
  else specialL.getD i.toNat noCard
theorem special_at {i : Int} (h0 : 0 ≤ i) (h1 : i < 12) : ((earlyL.flatMap (cCardK .full) ++ lateL.flatMap (cCardK .full)).drop (i.toNat * 13)).take 13 = cCardK .full (specialL.getD i.toNat noCard) := by
  rw [← List.flatMap_append]; exact flat_at (f := cCardK .full) (n := 13) (fun _ => rfl) noCard (l := earlyL ++ lateL) (i := i.toNat) (by show i.toNat < 12; omega)

theorem special_calls (i : Int) (hi : 0 ≤ i ∧ i < 12) (h : Hp) : ACalls prog G 127 [.int .i64 i] h fun r h' => r = eCard (specialF i) ∧ h' = h := by
  refine ACalls.enter func127 rfl ntmps127 results127 rfl ?_
  refine .seq <|
    .region ?_
  refine AOps.s rfl rfl rfl (a_alloc rfl zeroValue44 rfl (fun id2 hid2 => ?_))
  refine .nil <|
    .seq <|
    .region ?_
  refine .u rfl rfl rfl (QOp.call rfl call176 fun h' hl' => by exact early_calls h') ?_
  refine .u rfl rfl rfl (QOp.call rfl call177 fun h' hl' => by exact late_calls h') ?_
  refine AOps.s rfl rfl rfl (a_append rfl underlying197 (i := t44) (by kernel_rfl) rfl (n := 13) (by' := 120) rfl rfl rfl rfl (Acc.full rfl) rfl rfl (by decide) (by decide) (by decide) rfl (fun v6 h6 acc => ?_))
  refine AOps.wkn (TLe.put (d := 6) acc.vle (TLe.refl _)) acc.hle ?_
  refine .mI rfl rfl ?_
  refine .u rfl rfl rfl (q_ia_s rfl underlying197 sizeOf44 rfl rfl (by omega) (by omega) (special_at hi.1 hi.2)) ?_
  refine .lw rfl isAgg44 sizeOf44 rfl rfl ?_
  refine AOps.s rfl rfl rfl (a_alloc rfl zeroValue44 rfl (fun id3 hid3 => ?_))
  refine .sw sizeOf44 rfl rfl rfl rfl <|
    .nil <|
    .seq <|
    .seq <|
    .region <|
    .mI rfl rfl <|
    .nil <|
    .block <|
    .seq <|
    .region <|
    .qe rfl rfl rfl <|
    .aB rfl rfl <|
    .nil ?_
  refine AW.cond rfl (fun c0 => ?_) (fun c0 => ?_)
  · obtain rfl : i = 8 := by simpa using c0
    refine .seq <|
      .region <|
      .fb rfl f44_9 rfl rfl ?_
    refine AOps.s0 rfl rfl (a_store1 rfl sizeOf3 rfl (by exact bsb) (rfl : _ = V.int _ _) rfl rfl (by first | decide | exact Nat.le_of_ble_eq_true rfl) ?_)
    refine .fb rfl f44_10 rfl rfl ?_
    refine AOps.s0 rfl rfl (a_store1 rfl sizeOf3 rfl (by exact bsb) (rfl : _ = V.int _ _) rfl rfl (by first | decide | exact Nat.le_of_ble_eq_true rfl) ?_)
    refine .nil ?_
    refine AW.draw [4, 6] [0] [(0, true), (1, true), (2, true), (3, true), (4, false), (5, true), (6, false)] mixed (by kernel_rfl) rfl (by kernel_rfl) ?_
    refine .p rfl rfl rfl (fun _ => q_fa_b rfl underlying44 rfl (by exact sizeOf42) (by decide) rfl (rfl : _ = 12)) ?_
    refine .q rfl rfl rfl rfl (q_load_b1 rfl isAgg42 rfl (by exact bsb) rfl) ?_
    refine .q rfl rfl rfl rfl (QOp.call rfl (by exact call162) fun h' hl' => by exact tMana_calls _ _ h') ?_
    refine .q rfl rfl rfl rfl (q_buildSl (ds := cAbil (manaF 2 5)) rfl underlying42 sizeOf38 zeroValue38 rfl rfl rfl rfl (by kernel_rfl)) ?_
    refine AOrd.s rfl rfl rfl rfl (a_append rfl underlying42 (i := t38) (by kernel_rfl) rfl (n := 14) (by' := 128) rfl rfl rfl rfl (Acc.full rfl) rfl rfl (by decide) (by decide) (by decide) rfl (fun v19 h19 acc => ?_))
    refine .q rfl rfl rfl rfl (q_fa_b rfl underlying44 rfl (by exact sizeOf42) (by decide) rfl (rfl : _ = 12)) ?_
    refine AOrd.s0 rfl rfl rfl rfl (a_store1 rfl sizeOf42 rfl (by exact acc.hle.box _ _ (Hp.box_setBox _ _ _)) (rfl : _ = v19) acc.solid.2 acc.solid.1 (by exact Nat.le_of_ble_eq_true rfl) ?_)
    refine AOrd.nil ?_
    refine .seq ?_
    refine AW.stay (d := 3) (id := id3) (h0 := h.setBox id2 _) (Hp.box_setBox _ _ _) (by repeat (first | exact HLe.refl _ | refine HLe.over ?_ hid3.1 | refine acc.hle.trans ?_)) hid3.1 Sealed.ptr ?_
    refine .region <|
      .lw rfl isAgg44 sizeOf44 rfl rfl <|
      .sw sizeOf44 rfl rfl rfl rfl <|
      .nil ?_
    refine AW.ret ?_
    refine retQ.mk' (Res.cellB isAgg44 sizeOf44 rfl (by exact bsb) rfl) ?_ (HLe.setBox hid2.1) ⟨rfl, rfl⟩
    show VLe (V.agg ((cCard (specialF 8)).take 12 ++ [v19])) (V.agg ((cCard (specialF 8)).take 12 ++ [V.sl .imm 14 2 _]))
    exact LLe.agg (LLe.append (LLe.refl _) (.cons acc.vle .nil))
  · skip
    refine .seq <|
      .region <|
      .qe rfl rfl rfl <|
      .aB rfl rfl <|
      .nil ?_
    refine AW.cond rfl (fun c1 => ?_) (fun c1 => ?_)
    · obtain rfl : i = 11 := by simpa using c1
      refine .region <|
        .fb rfl f44_9 rfl rfl ?_
      refine AOps.s0 rfl rfl (a_store1 rfl sizeOf3 rfl (by exact bsb) (rfl : _ = V.int _ _) rfl rfl (by first | decide | exact Nat.le_of_ble_eq_true rfl) ?_)
      refine .fb rfl f44_10 rfl rfl ?_
      refine AOps.s0 rfl rfl (a_store1 rfl sizeOf3 rfl (by exact bsb) (rfl : _ = V.int _ _) rfl rfl (by first | decide | exact Nat.le_of_ble_eq_true rfl) ?_)
      refine .fb rfl f44_11 rfl rfl ?_
      refine AOps.s0 rfl rfl (a_store1 rfl sizeOf3 rfl (by exact bsb) (rfl : _ = V.int _ _) rfl rfl (by first | decide | exact Nat.le_of_ble_eq_true rfl) ?_)
      refine .nil <|
        .seq ?_
      refine AW.stay (d := 3) (id := id3) (h0 := h.setBox id2 _) (Hp.box_setBox _ _ _) (by repeat (first | exact HLe.refl _ | refine HLe.over ?_ hid3.1 | refine acc.hle.trans ?_)) hid3.1 Sealed.ptr ?_
      refine .region <|
        .lw rfl isAgg44 sizeOf44 rfl rfl <|
        .sw sizeOf44 rfl rfl rfl rfl <|
        .nil ?_
      refine AW.ret ?_
      exact retQ.mk' (Res.cellB isAgg44 sizeOf44 rfl (by exact bsb) rfl) (VLe.trans (LLe.wk 14 _).agg (.of_eq (congrArg V.agg (by rfl)))) (HLe.setBox hid2.1) ⟨rfl, rfl⟩
    · skip
      refine AW.skip ?_
      refine .seq ?_
      refine AW.stay (d := 3) (id := id3) (h0 := h.setBox id2 _) (Hp.box_setBox _ _ _) (by repeat (first | exact HLe.refl _ | refine HLe.over ?_ hid3.1 | refine acc.hle.trans ?_)) hid3.1 Sealed.ptr ?_
      refine .region <|
        .lw rfl isAgg44 sizeOf44 rfl rfl <|
        .sw sizeOf44 rfl rfl rfl rfl <|
        .nil ?_
      refine AW.ret ?_
      exact retQ.mk' (Res.cellB isAgg44 sizeOf44 rfl (by exact bsb) rfl) (VLe.trans (LLe.wk 14 _).agg (.of_eq (congrArg V.agg (by rw [specialF, if_neg (by simpa using c0), if_neg (by simpa using c1)]; rfl)))) (HLe.setBox hid2.1) ⟨rfl, rfl⟩

def rowF (l : List Abil) (i : Int) : Abil := l.getD i.toNat (aimF 0 (doF 0 0 0 0))
def spellRows : List (List Abil) := [whiteSpellsL, blueSpellsL, blackSpellsL, redSpellsL, greenSpellsL]
def relicRows : List (List Abil) := [whiteRelicsL, blueRelicsL, blackRelicsL, redRelicsL, greenRelicsL]
/-- A card, by its number. -/
def cardF (n : Int) : Card :=
  if n < 10 then sourceF n
  else if n < 50 then beastF (n - 10)
  else if n < 80 then ⟨2, (n - 50) % 5, (n - 50) / 5 % 2 == 0, costF ((n - 50) % 5) 1 ((n - 50) / 5), 0, 0, 0, [rowF (spellRows.getD ((n - 50) % 5).toNat []) ((n - 50) / 5)]⟩
  else if n < 100 then ⟨3, (n - 80) % 5, false, costF ((n - 80) % 5) 1 ((n - 80) / 5 + 1), 0, 0, 0, [rowF (relicRows.getD ((n - 80) % 5).toNat []) ((n - 80) / 5)]⟩
  else if n < 112 then specialF (n - 100)
  else ⟨1, 5, false, noCost, (n - 112) / 2 + 1, (n - 112) / 2 + 1, (n - 112) % 2 * 1, []⟩
def cardE (n : Int) : Card × Int := if n < 0 ∨ 120 ≤ n then (noCard, 4) else (cardF n, 0)
theorem five {P : Int → Prop} {c : Int} (h : 0 ≤ c ∧ c < 5) (h0 : P 0) (h1 : P 1) (h2 : P 2) (h3 : P 3) (h4 : P 4) : P c := by
  have : c = 0 ∨ c = 1 ∨ c = 2 ∨ c = 3 ∨ c = 4 := by omega
  rcases this with e | e | e | e | e <;> subst e <;> assumption
theorem spells_at {c : Int} (h : 0 ≤ c ∧ c < 5) : ((spellsL.flatMap cAbil).drop (c.toNat * 84)).take 84 = (spellRows.getD c.toNat []).flatMap cAbil := by
  refine five (P := fun c => ((spellsL.flatMap cAbil).drop (c.toNat * 84)).take 84 = (spellRows.getD c.toNat []).flatMap cAbil) h ?_ ?_ ?_ ?_ ?_ <;> kernel_rfl
theorem relics_at {c : Int} (h : 0 ≤ c ∧ c < 5) : ((relicsL.flatMap cAbil).drop (c.toNat * 56)).take 56 = (relicRows.getD c.toNat []).flatMap cAbil := by
  refine five (P := fun c => ((relicsL.flatMap cAbil).drop (c.toNat * 56)).take 56 = (relicRows.getD c.toNat []).flatMap cAbil) h ?_ ?_ ?_ ?_ ?_ <;> kernel_rfl
theorem spellRow_len {c : Int} (h : 0 ≤ c ∧ c < 5) : (spellRows.getD c.toNat []).length = 6 := five (P := fun c => (spellRows.getD c.toNat []).length = 6) h rfl rfl rfl rfl rfl
theorem relicRow_len {c : Int} (h : 0 ≤ c ∧ c < 5) : (relicRows.getD c.toNat []).length = 4 := five (P := fun c => (relicRows.getD c.toNat []).length = 4) h rfl rfl rfl rfl rfl
theorem row_at {l : List Abil} {k : Int} (h0 : 0 ≤ k) (h1 : k < l.length) : ((l.flatMap cAbil).drop (k.toNat * 14)).take 14 = cAbil (rowF l k) := flat_at (f := cAbil) (n := 14) (fun _ => rfl) _ (by omega)
theorem zCard_le : LLe [V.int .i64 0, .int .i64 0, .bool false, .int .i64 0, .int .i64 0, .int .i64 0, .int .i64 0, .int .i64 0, .int .i64 0, .int .i64 0, .int .i64 0, .int .i64 0, .snil] (cCard noCard) := LLe.wk 14 _

theorem card_calls (n : Int) (h : Hp) : ACalls prog G 72 [.int .i64 n] h fun r h' => r = .tup [eCard (cardE n).1, eE (cardE n).2] ∧ h' = h := by
  refine ACalls.enter func72 rfl ntmps72 results72 rfl ?_
  refine .seq <|
    .region ?_
  refine AOps.s rfl rfl rfl (a_alloc rfl zeroValue44 rfl (fun id2 hid2 => ?_))
  refine .u rfl rfl rfl (q_as rfl (rfl : _ = V.inil)) ?_
  refine .nil <|
    .seq <|
    .block <|
    .seq <|
    .region <|
    .mI rfl rfl <|
    .ql rfl rfl rfl <|
    .mB rfl rfl ?_
  refine .gf rfl rfl rfl (fun _ => tl0) (fun hc => q_mv rfl (rfl : _ = V.int _ _)) ?_
  refine .gf rfl rfl rfl (fun hc => tl1 13 (.opt hc)) (fun hc => q_ge rfl rfl rfl) ?_
  refine .pf rfl rfl rfl rfl <|
    .aB rfl rfl <|
    .nil ?_
  refine AW.cond rfl (fun c0 => ?_) (fun c0 => ?_)
  · skip
    refine .seq <|
      .region ?_
    refine .u rfl rfl rfl (q_buildS (ds := [.int .i64 0, .int .i64 0, .bool false, .int .i64 0, .int .i64 0, .int .i64 0, .int .i64 0, .int .i64 0, .int .i64 0, .int .i64 0, .int .i64 0, .int .i64 0, .snil]) rfl zeroValue44 underlying44 (pl44 underlying44) rfl (by kernel_rfl)) ?_
    refine .u rfl rfl rfl (q_iface rfl underlying97 rfl) ?_
    refine .sw sizeOf44 rfl rfl rfl rfl ?_
    refine .u rfl rfl rfl (q_as rfl (rfl : _ = V.iface _ _)) ?_
    refine .nil ?_
    refine AW.ret ?_
    exact retQ.mk' (Res.cellB1 isAgg44 sizeOf44 rfl (by exact bsb) rfl) (by rw [cardE, if_pos (turn_out c0)]; exact LLe.tup (.cons zCard_le.agg (.cons (.of_eq (eErr_ne (by decide)).symm) .nil))) (HLe.setBox hid2.1) ⟨rfl, rfl⟩
  · have hn := turn_in c0
    refine .seq <|
      .region <|
      .mI rfl rfl <|
      .ql rfl rfl rfl <|
      .aB rfl rfl <|
      .nil ?_
    refine AW.cond rfl (fun c1 => ?_) (fun c1 => ?_)
    · have h1 : n < 10 := by simpa using c1
      refine .seq <|
        .region <|
        .mI rfl rfl ?_
      refine .u rfl rfl rfl (QOp.call rfl call122 fun h' hl' => by exact source_calls _ (by omega) h') ?_
      refine .sw sizeOf44 rfl rfl rfl rfl ?_
      refine .u rfl rfl rfl (q_as rfl (rfl : _ = V.inil)) ?_
      refine .nil ?_
      refine AW.ret ?_
      exact retQ.mk' (Res.cellB1 isAgg44 sizeOf44 rfl (by exact bsb) rfl) (by rw [cardE, if_neg (by omega), cardF, if_pos h1]; exact LLe.tup (.cons (.refl _) (.cons (.of_eq (eErr_zero _).symm) .nil))) (HLe.setBox hid2.1) ⟨rfl, rfl⟩
    · have h1 : 10 ≤ n := by simpa using c1
      refine .seq <|
        .region <|
        .mI rfl rfl <|
        .ql rfl rfl rfl <|
        .aB rfl rfl <|
        .nil ?_
      refine AW.cond rfl (fun c2 => ?_) (fun c2 => ?_)
      · have h2 : n < 50 := by simpa using c2
        refine .seq <|
          .region <|
          .mI rfl rfl ?_
        refine .u rfl rfl rfl (q_sub' rfl rfl rfl (by omega)) ?_
        refine .u rfl rfl rfl (QOp.call rfl call123 fun h' hl' => by exact beast_calls _ (by omega) h') ?_
        refine .sw sizeOf44 rfl rfl rfl rfl ?_
        refine .u rfl rfl rfl (q_as rfl (rfl : _ = V.inil)) ?_
        refine .nil ?_
        refine AW.ret ?_
        exact retQ.mk' (Res.cellB1 isAgg44 sizeOf44 rfl (by exact bsb) rfl) (by rw [cardE, if_neg (by omega), cardF, if_neg (by omega), if_pos h2]; exact LLe.tup (.cons (.refl _) (.cons (.of_eq (eErr_zero _).symm) .nil))) (HLe.setBox hid2.1) ⟨rfl, rfl⟩
      · have h2 : 50 ≤ n := by simpa using c2
        refine .seq <|
          .region <|
          .mI rfl rfl <|
          .ql rfl rfl rfl <|
          .aB rfl rfl <|
          .nil ?_
        refine AW.cond rfl (fun c3 => ?_) (fun c3 => ?_)
        · have h3 : n < 80 := by simpa using c3
          have hc : 0 ≤ (n - 50) % 5 ∧ (n - 50) % 5 < 5 := by omega
          have hk : 0 ≤ (n - 50) / 5 ∧ (n - 50) / 5 < 6 := by omega
          refine .seq <|
            .region <|
            .mI rfl rfl ?_
          refine .u rfl rfl rfl (q_sub' rfl rfl rfl (by omega)) ?_
          refine .u rfl rfl rfl (q_rem' rfl rfl rfl (by omega) (by omega)) ?_
          refine .mI rfl rfl ?_
          refine .u rfl rfl rfl (q_sub' rfl rfl rfl (by omega)) ?_
          refine .u rfl rfl rfl (q_quo' rfl rfl rfl (by omega) (by omega)) ?_
          refine .aI rfl rfl <|
            .aI rfl rfl <|
            .nil <|
            .seq <|
            .region <|
            .mI rfl rfl <|
            .mI rfl rfl ?_
          refine .u rfl rfl rfl (q_rem' rfl rfl rfl (by omega) (by omega)) ?_
          refine .qe rfl rfl rfl <|
            .mI rfl rfl <|
            .mI rfl rfl ?_
          refine .u rfl rfl rfl (QOp.call rfl call124 fun h' hl' => by exact tCost_calls _ _ _ (by omega) (by omega) h') ?_
          refine .u rfl rfl rfl (QOp.call rfl call125 fun h' hl' => by exact spells_calls h') ?_
          refine .mI rfl rfl ?_
          refine .u rfl rfl rfl (q_ixN rfl underlying155 sizeOf154 isAgg154 rfl rfl (by omega) (by omega) (spells_at hc)) ?_
          refine .mI rfl rfl ?_
          refine .u rfl rfl rfl (q_ixN rfl underlying154 sizeOf38 isAgg38 rfl rfl (by omega) (by omega) (row_at hk.1 (by rw [spellRow_len hc]; omega))) ?_
          refine .u rfl rfl rfl (q_buildSl (ds := cAbil (rowF (spellRows.getD ((n - 50) % 5).toNat []) ((n - 50) / 5))) rfl underlying42 sizeOf38 zeroValue38 rfl rfl rfl rfl (by kernel_rfl)) ?_
          refine .u rfl rfl rfl (q_buildS (ds := cCardK .full ⟨2, (n - 50) % 5, (n - 50) / 5 % 2 == 0, costF ((n - 50) % 5) 1 ((n - 50) / 5), 0, 0, 0, [rowF (spellRows.getD ((n - 50) % 5).toNat []) ((n - 50) / 5)]⟩) rfl zeroValue44 underlying44 (pl44 underlying44) rfl (by kernel_rfl)) ?_
          refine .sw sizeOf44 rfl rfl rfl rfl ?_
          refine .u rfl rfl rfl (q_as rfl (rfl : _ = V.inil)) ?_
          refine .nil ?_
          refine AW.ret ?_
          exact retQ.mk' (Res.cellB1 isAgg44 sizeOf44 rfl (by exact bsb) rfl) (by rw [cardE, if_neg (by omega), cardF, if_neg (by omega), if_neg (by omega), if_pos h3]; exact LLe.tup (.cons ((LLe.wk 14 _).agg) (.cons (.of_eq (eErr_zero _).symm) .nil))) (HLe.setBox hid2.1) ⟨rfl, rfl⟩
        · have h3 : 80 ≤ n := by simpa using c3
          refine .seq <|
            .region <|
            .mI rfl rfl <|
            .ql rfl rfl rfl <|
            .aB rfl rfl <|
            .nil ?_
          refine AW.cond rfl (fun c4 => ?_) (fun c4 => ?_)
          · have h4 : n < 100 := by simpa using c4
            have hc : 0 ≤ (n - 80) % 5 ∧ (n - 80) % 5 < 5 := by omega
            have hk : 0 ≤ (n - 80) / 5 ∧ (n - 80) / 5 < 4 := by omega
            refine .seq <|
              .region <|
              .mI rfl rfl ?_
            refine .u rfl rfl rfl (q_sub' rfl rfl rfl (by omega)) ?_
            refine .u rfl rfl rfl (q_rem' rfl rfl rfl (by omega) (by omega)) ?_
            refine .mI rfl rfl ?_
            refine .u rfl rfl rfl (q_sub' rfl rfl rfl (by omega)) ?_
            refine .u rfl rfl rfl (q_quo' rfl rfl rfl (by omega) (by omega)) ?_
            refine .aI rfl rfl <|
              .aI rfl rfl <|
              .nil <|
              .seq <|
              .region <|
              .mI rfl rfl <|
              .mI rfl rfl <|
              .mI rfl rfl <|
              .ad rfl rfl rfl (by omega) ?_
            refine .u rfl rfl rfl (QOp.call rfl call124 fun h' hl' => by exact tCost_calls _ _ _ (by omega) (by omega) h') ?_
            refine .u rfl rfl rfl (QOp.call rfl call126 fun h' hl' => by exact relics_calls h') ?_
            refine .mI rfl rfl ?_
            refine .u rfl rfl rfl (q_ixN rfl underlying158 sizeOf157 isAgg157 rfl rfl (by omega) (by omega) (relics_at hc)) ?_
            refine .mI rfl rfl ?_
            refine .u rfl rfl rfl (q_ixN rfl underlying157 sizeOf38 isAgg38 rfl rfl (by omega) (by omega) (row_at hk.1 (by rw [relicRow_len hc]; omega))) ?_
            refine .u rfl rfl rfl (q_buildSl (ds := cAbil (rowF (relicRows.getD ((n - 80) % 5).toNat []) ((n - 80) / 5))) rfl underlying42 sizeOf38 zeroValue38 rfl rfl rfl rfl (by kernel_rfl)) ?_
            refine .u rfl rfl rfl (q_buildS (ds := cCardK .full ⟨3, (n - 80) % 5, false, costF ((n - 80) % 5) 1 ((n - 80) / 5 + 1), 0, 0, 0, [rowF (relicRows.getD ((n - 80) % 5).toNat []) ((n - 80) / 5)]⟩) rfl zeroValue44 underlying44 (pl44 underlying44) rfl (by kernel_rfl)) ?_
            refine .sw sizeOf44 rfl rfl rfl rfl ?_
            refine .u rfl rfl rfl (q_as rfl (rfl : _ = V.inil)) ?_
            refine .nil ?_
            refine AW.ret ?_
            exact retQ.mk' (Res.cellB1 isAgg44 sizeOf44 rfl (by exact bsb) rfl) (by rw [cardE, if_neg (by omega), cardF, if_neg (by omega), if_neg (by omega), if_neg (by omega), if_pos h4]; exact LLe.tup (.cons ((LLe.wk 14 _).agg) (.cons (.of_eq (eErr_zero _).symm) .nil))) (HLe.setBox hid2.1) ⟨rfl, rfl⟩
          · have h4 : 100 ≤ n := by simpa using c4
            refine .seq <|
              .region <|
              .mI rfl rfl <|
              .ql rfl rfl rfl <|
              .aB rfl rfl <|
              .nil ?_
            refine AW.cond rfl (fun c5 => ?_) (fun c5 => ?_)
            · have h5 : n < 112 := by simpa using c5
              refine .seq <|
                .region <|
                .mI rfl rfl ?_
              refine .u rfl rfl rfl (q_sub' rfl rfl rfl (by omega)) ?_
              refine .u rfl rfl rfl (QOp.call rfl call127 fun h' hl' => by exact special_calls _ (by omega) h') ?_
              refine .sw sizeOf44 rfl rfl rfl rfl ?_
              refine .u rfl rfl rfl (q_as rfl (rfl : _ = V.inil)) ?_
              refine .nil ?_
              refine AW.ret ?_
              exact retQ.mk' (Res.cellB1 isAgg44 sizeOf44 rfl (by exact bsb) rfl) (by rw [cardE, if_neg (by omega), cardF, if_neg (by omega), if_neg (by omega), if_neg (by omega), if_neg (by omega), if_pos h5]; exact LLe.tup (.cons (.refl _) (.cons (.of_eq (eErr_zero _).symm) .nil))) (HLe.setBox hid2.1) ⟨rfl, rfl⟩
            · have h5 : 112 ≤ n := by simpa using c5
              refine AW.skip ?_
              refine .seq <|
                .region <|
                .mI rfl rfl ?_
              refine .u rfl rfl rfl (q_sub' rfl rfl rfl (by omega)) ?_
              refine .aI rfl rfl <|
                .nil <|
                .seq <|
                .region <|
                .mI rfl rfl ?_
              refine .u rfl rfl rfl (q_quo' rfl rfl rfl (by omega) (by omega)) ?_
              refine .ad rfl rfl rfl (by omega) <|
                .mI rfl rfl ?_
              refine .u rfl rfl rfl (q_quo' rfl rfl rfl (by omega) (by omega)) ?_
              refine .ad rfl rfl rfl (by omega) <|
                .mI rfl rfl ?_
              refine .u rfl rfl rfl (q_rem' rfl rfl rfl (by omega) (by omega)) ?_
              refine .u rfl rfl rfl (q_mul' rfl rfl rfl (by omega)) ?_
              refine .u rfl rfl rfl (q_buildS (ds := [.int .i64 1, .int .i64 5, .bool false, .int .i64 (noCost 0), .int .i64 (noCost 1), .int .i64 (noCost 2), .int .i64 (noCost 3), .int .i64 (noCost 4), .int .i64 (noCost 5), .int .i64 ((n - 112) / 2 + 1), .int .i64 ((n - 112) / 2 + 1), .int .i64 ((n - 112) % 2 * 1), .snil]) rfl zeroValue44 underlying44 (pl44 underlying44) rfl (by kernel_rfl)) ?_
              refine .sw sizeOf44 rfl rfl rfl rfl ?_
              refine .u rfl rfl rfl (q_as rfl (rfl : _ = V.inil)) ?_
              refine .nil ?_
              refine AW.ret ?_
              exact retQ.mk' (Res.cellB1 isAgg44 sizeOf44 rfl (by exact bsb) rfl) (by rw [cardE, if_neg (by omega), cardF, if_neg (by omega), if_neg (by omega), if_neg (by omega), if_neg (by omega), if_neg (by omega)]; exact LLe.tup (.cons ((LLe.wk 14 _).agg) (.cons (.of_eq (eErr_zero _).symm) .nil))) (HLe.setBox hid2.1) ⟨rfl, rfl⟩

end Go.Proofs.YtagcjkbogaoifaaGreatDoor
/- Walks: abilities that count. -/
namespace Go.Proofs.YtagcjkbogaoifaaGreatDoor
open Go Go.AV Go.Proofs.Tryz
set_option maxRecDepth 100000
set_option maxHeartbeats 1000000
theorem cardF_abs : ∀ k : Fin 120, (cardF (k.val : Int)).abs.length ≤ 4 := by decide +kernel
theorem cardE_abs (n : Int) : (cardE n).1.abs.length ≤ 4 := by
  unfold cardE
  split
  · decide
  · rename_i h
    have := cardF_abs ⟨n.toNat, by omega⟩
    have e : ((n.toNat : Nat) : Int) = n := by omega
    rwa [e] at this
def noAb : Abil := aimF 0 (doF 0 0 0 0)
def usesUp (c : Card) (w : Int) (i : Nat) : List Int := ((List.range i).filter fun j => (c.abs.getD j noAb).when == w).map fun (j : Nat) => (j : Int)
/-- The places of the abilities that count then. -/
def usesF (c : Card) (w : Int) : List Int := usesUp c w c.abs.length
theorem uses_yes {c : Card} {w : Int} {i : Nat} (h : ((c.abs.getD i noAb).when == w) = true) : usesUp c w (i + 1) = usesUp c w i ++ [(i : Int)] := by
  simp [-List.getD_eq_getElem?_getD, usesUp, List.range_succ, List.filter_append, h]
theorem uses_no {c : Card} {w : Int} {i : Nat} (h : ((c.abs.getD i noAb).when == w) = false) : usesUp c w (i + 1) = usesUp c w i := by
  simp [-List.getD_eq_getElem?_getD, usesUp, List.range_succ, List.filter_append, h]
theorem uses_le {c : Card} {w : Int} {i : Nat} : (usesUp c w i).length ≤ i := by
  unfold usesUp; rw [List.length_map]; exact Nat.le_trans (List.length_filter_le _ _) (by simp)
theorem abil_at {l : List Abil} {i : Nat} (h : i < l.length) : ((l.flatMap cAbil).drop ((i : Int).toNat * 14)).take 14 = cAbil (l.getD i noAb) := by
  rw [Int.toNat_natCast]; exact flat_at (f := cAbil) (n := 14) (fun _ => rfl) noAb h
theorem cInts_app (l : List Int) (x : Int) : cInts (l ++ [x]) = cInts l ++ [.int .i64 x] := by simp [cInts]

theorem uses_calls (c : Card) (w : Int) (hb : c.abs.length ≤ 1000) (h : Hp) : ACalls prog G 63 [eCard c, .int .i64 w] h fun r h' => r = eInts (usesF c w) ∧ h' = h := by
  refine ACalls.enter func63 rfl ntmps63 results63 rfl ?_
  refine .seq <|
    .region <|
    .bx rfl rfl <|
    .aN rfl rfl <|
    .nil <|
    .seq <|
    .region <|
    .aN rfl rfl <|
    .nil <|
    .seq <|
    .seq <|
    .region <|
    .fi rfl f44_12 rfl <|
    .li rfl isAgg42 rfl rfl <|
    .ln rfl underlying42 rfl <|
    .mI rfl rfl <|
    .nil <|
    .block ?_
  refine AW.loop (fun n T hh => ∃ (i : Nat) (v : V), i ≤ c.abs.length ∧ n = c.abs.length - i ∧ T = put (put (put (put (put (T0) 11 (V.int .i64 (i : Nat))) 10 (V.int .i64 c.abs.length)) 9 (V.sl .imm 14 c.abs.length (c.abs.flatMap cAbil))) 5 (v)) 1 (V.int .i64 w) ∧ Go.AV.Acc h 1 (usesUp c w i).length (cInts (usesUp c w i)) v hh) (c.abs.length) ?_ ?_
  · skip
    refine Wk.mk (TLe.put (d := 1) (VLe.refl _) (TLe.put (d := 5) (VLe.refl _) (TLe.put (d := 9) (VLe.refl _) (TLe.put (d := 10) (VLe.refl _) (TLe.put (d := 11) (by exact VLe.of_eq (congrArg (V.int .i64) (by first | rfl | omega))) (TLe.zero _)))))) (HLe.refl _) ⟨0, V.snil, Nat.zero_le _, rfl, rfl, by exact Go.AV.Acc.nil h 1⟩
  · skip
    rintro n T h' ⟨i, v, hi, rfl, rfl, hem⟩
    refine .seq <|
      .region <|
      .ql rfl rfl rfl <|
      .nil <|
      .seq ?_
    refine AW.cond rfl (fun c0 => ?_) (fun c0 => ?_)
    · have hlt : i < c.abs.length := by have := of_decide_eq_true c0; omega
      have hul := uses_le (c := c) (w := w) (i := i)
      refine AW.skip ?_
      refine .seq <|
        .block <|
        .seq <|
        .region <|
        .mI rfl rfl ?_
      refine .u rfl rfl rfl (q_ia_s rfl underlying42 sizeOf38 rfl rfl (by omega) (by omega) (abil_at hlt)) ?_
      refine .lw rfl isAgg38 sizeOf38 rfl rfl ?_
      refine AOps.s rfl rfl rfl (a_alloc rfl zeroValue38 rfl (fun id7 hid7 => ?_))
      refine .aI rfl rfl <|
        .sw sizeOf38 rfl rfl rfl rfl ?_
      refine AOps.done 7 rfl hid7 ?_
      refine .nil <|
        .seq <|
        .region <|
        .fi rfl f38_0 rfl <|
        .li rfl isAgg3 rfl rfl <|
        .mI rfl rfl <|
        .qe rfl rfl rfl <|
        .nil ?_
      refine AW.cond rfl (fun c1 => ?_) (fun c1 => ?_)
      · skip
        refine .region ?_
        refine .u rfl rfl rfl (q_mv rfl (rfl : _ = _)) ?_
        refine .mI rfl rfl ?_
        refine .u rfl rfl rfl (q_buildSl rfl underlying23 sizeOf3 zeroValue3 rfl rfl rfl rfl rfl) ?_
        refine AOps.s rfl rfl rfl (a_append rfl underlying23 (i := t3) (by kernel_rfl) rfl (n := 1) (by' := 8) rfl rfl rfl rfl hem rfl rfl (by decide) (by omega) (by omega) rfl (fun v2 h2 acc => ?_))
        refine .u rfl rfl rfl (q_as rfl (rfl : _ = _)) ?_
        refine .nil <|
          .region <|
          .ad rfl rfl rfl (by omega) <|
          .mI rfl rfl <|
          .nil ?_
        refine Wk.mk (TLe.put (d := 1) (VLe.refl _) (TLe.put (d := 5) (VLe.refl _) (TLe.put (d := 9) (VLe.refl _) (TLe.put (d := 10) (VLe.refl _) (TLe.put (d := 11) (by exact VLe.of_eq (congrArg (V.int .i64) (by first | rfl | omega))) (TLe.zero _)))))) (HLe.refl _) ⟨_, ?_, i + 1, _, ?_, rfl, rfl, by first | (rw [uses_yes c1, cInts_app, List.length_append]; exact acc) | (rw [uses_no c1]; exact hem)⟩
        · omega
        · omega
      · skip
        refine AW.skip ?_
        refine .region <|
          .ad rfl rfl rfl (by omega) <|
          .mI rfl rfl <|
          .nil ?_
        refine Wk.mk (TLe.put (d := 1) (VLe.refl _) (TLe.put (d := 5) (VLe.refl _) (TLe.put (d := 9) (VLe.refl _) (TLe.put (d := 10) (VLe.refl _) (TLe.put (d := 11) (by exact VLe.of_eq (congrArg (V.int .i64) (by first | rfl | omega))) (TLe.zero _)))))) (HLe.refl _) ⟨_, ?_, i + 1, _, ?_, rfl, rfl, by first | (rw [uses_yes c1, cInts_app, List.length_append]; exact acc) | (rw [uses_no c1]; exact hem)⟩
        · omega
        · omega
    · obtain rfl : i = c.abs.length := by have := of_decide_eq_false c0; omega
      refine AW.exit ?_
      refine .seq <|
        .region ?_
      refine .u rfl rfl rfl (q_mv rfl (rfl : _ = _)) ?_
      refine .u rfl rfl rfl (q_as rfl (rfl : _ = _)) ?_
      refine .nil ?_
      refine AW.ret ?_
      exact retQ.mk' (.one _) hem.vle hem.hle ⟨rfl, rfl⟩

end Go.Proofs.YtagcjkbogaoifaaGreatDoor
/- Walks: copies. -/
namespace Go.Proofs.YtagcjkbogaoifaaGreatDoor
open Go Go.AV Go.Proofs.Tryz
set_option maxRecDepth 100000
set_option maxHeartbeats 400000
/-- A pending ability. -/
structure Pd where
  id : Int
  ab : Int
  ctl : Int
def cPd (x : Pd) : List V := [.int .i64 x.id, .int .i64 x.ab, .int .i64 x.ctl]
def cPds (l : List Pd) : List V := l.flatMap cPd
def cEvs (l : List Ev) : List V := l.flatMap cEv
theorem flat_len {α : Type} {f : α → List V} {n : Nat} (h : ∀ a, (f a).length = n) (l : List α) : (l.flatMap f).length = l.length * n := by
  induction l with
  | nil => simp
  | cons o l ih => simp only [List.flatMap_cons, List.length_append, h, List.length_cons, ih, Nat.add_mul]; omega
theorem cPds_len (l : List Pd) : (cPds l).length = l.length * 3 := flat_len (f := cPd) (n := 3) (fun _ => rfl) l
theorem cloneI_calls (k : SK) (l : List Int) (hb : l.length ≤ 1000000) (h : Hp) : ACalls prog G 35 [.sl k 1 l.length (cInts l)] h fun r h' => r = .sl .imm 1 l.length (cInts l) ∧ h' = h := by
  refine ACalls.enter func35 rfl ntmps35 results35 rfl ?_
  refine .seq <|
    .region <|
    .aN rfl rfl <|
    .nil <|
    .seq <|
    .seq <|
    .region <|
    .mS rfl rfl ?_
  refine AOps.s rfl rfl rfl (a_eqnil_sl underlying23 rfl rfl (fun b hnil => ?_))
  refine .nil ?_
  refine AW.cond rfl (fun c0 => ?_) (fun c0 => ?_)
  · skip
    refine .seq <|
      .region <|
      .aN rfl rfl <|
      .nil ?_
    refine AW.ret ?_
    obtain ⟨e1, e2⟩ := hnil c0
    exact retQ.mk' (.one _) (by rw [e1, e2]; exact VLe.nilimm) (.refl _) ⟨rfl, rfl⟩
  · skip
    refine AW.skip ?_
    refine .seq <|
      .region ?_
    refine .u rfl rfl rfl (q_buildSl (ds := []) rfl underlying23 sizeOf3 zeroValue3 rfl rfl rfl rfl rfl) ?_
    refine .mS rfl rfl ?_
    refine AOps.s rfl rfl rfl (a_append rfl underlying23 (i := t3) (by kernel_rfl) rfl (n := 1) (by' := 8) rfl rfl rfl rfl (Acc.full rfl) rfl (by simp [cInts_len]) (by decide) (by omega) (by omega) rfl (fun v2 h2 acc => ?_))
    refine .u rfl rfl rfl (q_as rfl (rfl : _ = _)) ?_
    refine .nil ?_
    refine AW.ret ?_
    exact retQ.mk' (.one _) (by have := acc.vle; rw [List.nil_append, Nat.zero_add] at this; exact this) acc.hle ⟨rfl, rfl⟩

theorem cloneO_calls (k : SK) (l : List Obj) (hb : l.length ≤ 1000000) (h : Hp) : ACalls prog G 81 [.sl k 18 l.length (cObjs l)] h fun r h' => r = .sl .imm 18 l.length (cObjs l) ∧ h' = h := by
  refine ACalls.enter func81 rfl ntmps81 results81 rfl ?_
  refine .seq <|
    .region <|
    .aN rfl rfl <|
    .nil <|
    .seq <|
    .seq <|
    .region <|
    .mS rfl rfl ?_
  refine AOps.s rfl rfl rfl (a_eqnil_sl underlying22 rfl rfl (fun b hnil => ?_))
  refine .nil ?_
  refine AW.cond rfl (fun c0 => ?_) (fun c0 => ?_)
  · skip
    refine .seq <|
      .region <|
      .aN rfl rfl <|
      .nil ?_
    refine AW.ret ?_
    obtain ⟨e1, e2⟩ := hnil c0
    exact retQ.mk' (.one _) (by rw [e1, e2]; exact VLe.nilimm) (.refl _) ⟨rfl, rfl⟩
  · skip
    refine AW.skip ?_
    refine .seq <|
      .region ?_
    refine .u rfl rfl rfl (q_buildSl (ds := []) rfl underlying22 sizeOf72 zeroValue72 rfl rfl rfl rfl rfl) ?_
    refine .mS rfl rfl ?_
    refine AOps.s rfl rfl rfl (a_append rfl underlying22 (i := t72) (by kernel_rfl) rfl (n := 18) (by' := 144) rfl rfl rfl rfl (Acc.full rfl) rfl (by simp [cObjs_len]) (by decide) (by omega) (by omega) rfl (fun v2 h2 acc => ?_))
    refine .u rfl rfl rfl (q_as rfl (rfl : _ = _)) ?_
    refine .nil ?_
    refine AW.ret ?_
    exact retQ.mk' (.one _) (by have := acc.vle; rw [List.nil_append, Nat.zero_add] at this; exact this) acc.hle ⟨rfl, rfl⟩

theorem cloneP_calls (k : SK) (l : List Pd) (hb : l.length ≤ 1000000) (h : Hp) : ACalls prog G 50 [.sl k 3 l.length (cPds l)] h fun r h' => r = .sl .imm 3 l.length (cPds l) ∧ h' = h := by
  refine ACalls.enter func50 rfl ntmps50 results50 rfl ?_
  refine .seq <|
    .region <|
    .aN rfl rfl <|
    .nil <|
    .seq <|
    .seq <|
    .region <|
    .mS rfl rfl ?_
  refine AOps.s rfl rfl rfl (a_eqnil_sl underlying53 rfl rfl (fun b hnil => ?_))
  refine .nil ?_
  refine AW.cond rfl (fun c0 => ?_) (fun c0 => ?_)
  · skip
    refine .seq <|
      .region <|
      .aN rfl rfl <|
      .nil ?_
    refine AW.ret ?_
    obtain ⟨e1, e2⟩ := hnil c0
    exact retQ.mk' (.one _) (by rw [e1, e2]; exact VLe.nilimm) (.refl _) ⟨rfl, rfl⟩
  · skip
    refine AW.skip ?_
    refine .seq <|
      .region ?_
    refine .u rfl rfl rfl (q_buildSl (ds := []) rfl underlying53 sizeOf95 zeroValue95 rfl rfl rfl rfl rfl) ?_
    refine .mS rfl rfl ?_
    refine AOps.s rfl rfl rfl (a_append rfl underlying53 (i := t95) (by kernel_rfl) rfl (n := 3) (by' := 24) rfl rfl rfl rfl (Acc.full rfl) rfl (by simp [cPds_len]) (by decide) (by omega) (by omega) rfl (fun v2 h2 acc => ?_))
    refine .u rfl rfl rfl (q_as rfl (rfl : _ = _)) ?_
    refine .nil ?_
    refine AW.ret ?_
    exact retQ.mk' (.one _) (by have := acc.vle; rw [List.nil_append, Nat.zero_add] at this; exact this) acc.hle ⟨rfl, rfl⟩

theorem list_again {s : St} {i : Nat} (h : i < 11) : splice (cState s) (1 + (i : Int).toNat * 1) [eInts (s.lists i)] = cState s := by
  match i, h with
  | 0, _ | 1, _ | 2, _ | 3, _ | 4, _ | 5, _ | 6, _ | 7, _ | 8, _ | 9, _ | 10, _ => rfl
theorem listp_ix {s : St} {i : Nat} (h : i < 11) : (cState s)[1 + (i : Int).toNat * 1]? = some (eInts (s.lists i)) := by
  match i, h with
  | 0, _ | 1, _ | 2, _ | 3, _ | 4, _ | 5, _ | 6, _ | 7, _ | 8, _ | 9, _ | 10, _ => rfl

theorem copy_calls (s : St) (hb : s.objs.length ≤ 1000000) (hl : ∀ z, (s.lists z).length ≤ 1000000) (h : Hp) : ACalls prog G 34 [eState s] h fun r h' => r = eState s ∧ h' = h := by
  refine ACalls.enter func34 rfl ntmps34 results34 rfl ?_
  refine .seq <|
    .region ?_
  refine AOps.s rfl rfl rfl (a_boxa rfl (rfl : _ = V.agg _) (fun id1 hid1 => ?_))
  refine AOps.s rfl rfl rfl (a_alloc rfl zeroValue29 rfl (fun id2 hid2 => ?_))
  refine .nil <|
    .seq ?_
  have ne : id1 ≠ id2 := Hp.ne_of_box (Hp.box_setBox _ _ _) hid2.1
  have f2 : h.fresh id2 := ⟨by have := hid2.1; rwa [Hp.box_setBox_ne _ _ ne.symm] at this, hid2.2⟩
  have f1 := fresh_setBox (cs := zState) hid1 ne
  rw [Hp.setBox_comm _ _ _ ne]
  refine .region <|
    .fb rfl f29_0 rfl rfl <|
    .lb rfl isAgg22 rfl rfl ?_
  refine .u rfl rfl rfl (QOp.call rfl call81 fun h' hl' => by exact cloneO_calls _ _ (by assumption) h') ?_
  refine .fb rfl f29_0 rfl rfl ?_
  refine AOps.s0 rfl rfl (a_store1 rfl sizeOf22 rfl (by exact bsb) (rfl : _ = V.sl _ _ _ _) rfl rfl (by exact Nat.le_of_ble_eq_true rfl) ?_)
  rw [Hp.setBox_setBox]
  show AOps _ _ _ _ _ _ _ ((h.setBox id2 zState).setBox id1 (cState s))
  refine .nil <|
    .seq <|
    .seq <|
    .region <|
    .mI rfl rfl <|
    .nil <|
    .block ?_
  refine AW.loop (fun n T hh => ∃ (i : Nat) , i ≤ 11 ∧ n = 11 - i ∧ T = put (put (put (T0) 8 (V.int .i64 (i : Nat))) 2 (V.ptr id2 0)) 1 (V.ptr id1 0) ∧ hh = (h.setBox id2 zState).setBox id1 (cState s)) (11) ?_ ?_
  · skip
    refine Wk.mk (TLe.put (d := 1) (VLe.refl _) (TLe.put (d := 2) (VLe.refl _) (TLe.put (d := 8) (by exact VLe.of_eq (congrArg (V.int .i64) (by first | rfl | omega))) (TLe.zero _)))) (HLe.refl _) ⟨0, Nat.zero_le _, rfl, rfl, rfl⟩
  · skip
    rintro n T h' ⟨i, hi, rfl, rfl, rfl⟩
    refine .seq <|
      .region <|
      .ql rfl rfl rfl <|
      .nil <|
      .seq ?_
    refine AW.cond rfl (fun c0 => ?_) (fun c0 => ?_)
    · have hlt : i < 11 := by have := of_decide_eq_true c0; omega
      have hli := hl i
      refine AW.skip ?_
      refine .seq <|
        .block <|
        .seq <|
        .region <|
        .mI rfl rfl <|
        .aI rfl rfl <|
        .nil <|
        .region <|
        .mI rfl rfl <|
        .mI rfl rfl <|
        .fb rfl f29_1 rfl rfl ?_
      refine .u rfl rfl rfl (q_ia_ab rfl underlying24 sizeOf23 rfl rfl (by omega) (by omega)) ?_
      refine .u rfl rfl rfl (q_load_b1 rfl isAgg23 rfl (by exact bsb) (listp_ix hlt)) ?_
      refine .u rfl rfl rfl (QOp.call rfl call35 fun h' hl' => by exact cloneI_calls _ _ (by assumption) h') ?_
      refine .fb rfl f29_1 rfl rfl ?_
      refine .u rfl rfl rfl (q_ia_ab rfl underlying24 sizeOf23 rfl rfl (by omega) (by omega)) ?_
      refine AOps.s0 rfl rfl (a_store1 rfl sizeOf23 rfl (by exact bsb) (rfl : _ = V.sl _ _ _ _) rfl rfl (by first | decide | exact Nat.le_of_ble_eq_true rfl | (simp only [cState, List.length_cons, List.length_nil]; omega)) ?_)
      refine .nil <|
        .region <|
        .ad rfl rfl rfl (by omega) <|
        .mI rfl rfl <|
        .nil ?_
      refine Wk.mk (TLe.put (d := 1) (VLe.refl _) (TLe.put (d := 2) (VLe.refl _) (TLe.put (d := 8) (by exact VLe.of_eq (congrArg (V.int .i64) (by first | rfl | omega))) (TLe.zero _)))) (HLe.refl _) ⟨_, ?_, i + 1, ?_, rfl, rfl, by rw [Hp.setBox_setBox, list_again hlt]⟩
      · omega
      · omega
    · obtain rfl : i = 11 := by have := of_decide_eq_false c0; omega
      refine AW.exit ?_
      refine .seq ?_
      refine AW.done 1 rfl f1 ?_
      refine .region <|
        .lw rfl isAgg29 sizeOf29 rfl rfl <|
        .sw sizeOf29 rfl rfl rfl rfl <|
        .nil ?_
      refine AW.ret ?_
      exact retQ.mk' (Res.cellB isAgg29 sizeOf29 rfl (by exact bsb) rfl) (VLe.refl _) (HLe.setBox f2.1) ⟨rfl, rfl⟩

end Go.Proofs.YtagcjkbogaoifaaGreatDoor
/- Walks: lists of numbers, changed by value. -/
namespace Go.Proofs.YtagcjkbogaoifaaGreatDoor
open Go Go.AV Go.Proofs.Tryz
set_option maxRecDepth 100000
set_option maxHeartbeats 400000

def insRen : Go.Shelf.Ren := ⟨fun | 21 => 206 | 27 => 221 | 28 => 222 | 35 => 232 | 39 => 234 | n => n, fun | 22 => 23 | 3 => 3 | 4 => 4 | 0 => 0 | n => n, fun n => n⟩
def delRen : Go.Shelf.Ren := ⟨fun | 23 => 205 | n => n, fun | 22 => 23 | 3 => 3 | 4 => 4 | 0 => 0 | n => n, fun n => n⟩
theorem insLays : Go.Proofs.Lays2.n21 prog insRen := { mixed := mixed, f21 := (by kernel_rfl), f27 := (by kernel_rfl), f28 := (by kernel_rfl), f35 := (by kernel_rfl), f39 := (by kernel_rfl), t0 := underlying0, a0 := isAgg0, z0 := sizeOf0, v0 := zeroValue0, t3 := underlying3, a3 := isAgg3, z3 := sizeOf3, v3 := zeroValue3, t4 := underlying4, a4 := isAgg4, z4 := sizeOf4, v4 := zeroValue4, t22 := underlying23, a22 := isAgg23, z22 := sizeOf23, v22 := zeroValue23, i3 := (by kernel_rfl) }
theorem delLays : Go.Proofs.Lays2.n23 prog delRen := { mixed := mixed, f23 := (by kernel_rfl), t0 := underlying0, a0 := isAgg0, z0 := sizeOf0, v0 := zeroValue0, t3 := underlying3, a3 := isAgg3, z3 := sizeOf3, v3 := zeroValue3, t4 := underlying4, a4 := isAgg4, z4 := sizeOf4, v4 := zeroValue4, t22 := underlying23, a22 := isAgg23, z22 := sizeOf23, v22 := zeroValue23, i3 := (by kernel_rfl) }

/-- A copy that may be written to. -/
theorem cloneIM_calls (k : SK) (l : List Int) (hb : l.length ≤ 1000000) (h0 : 0 < l.length) (h : Hp) : ACalls prog G 35 [.sl k 1 l.length (cInts l)] h fun r h' => ∃ id slack, h.fresh id ∧ r = .msl id 0 l.length ∧ h' = h.setBox id (cInts l ++ slack) := by
  refine ACalls.enter func35 rfl ntmps35 results35 rfl ?_
  refine .seq <|
    .region <|
    .aN rfl rfl <|
    .nil <|
    .seq <|
    .seq <|
    .region <|
    .mS rfl rfl ?_
  refine AOps.s rfl rfl rfl (a_eqnil_sl underlying23 rfl rfl (fun b hnil => ?_))
  refine .nil ?_
  refine AW.cond rfl (fun c0 => ?_) (fun c0 => ?_)
  · skip
    refine .seq <|
      .region <|
      .aN rfl rfl <|
      .nil ?_
    refine AW.ret ?_
    exact absurd (hnil c0).2 (by omega)
  · skip
    refine AW.skip ?_
    refine .seq <|
      .region ?_
    refine .u rfl rfl rfl (q_buildSl (ds := []) rfl underlying23 sizeOf3 zeroValue3 rfl rfl rfl rfl rfl) ?_
    refine .mS rfl rfl ?_
    refine AOps.s rfl rfl rfl (a_append_box rfl underlying23 (i := t3) (by kernel_rfl) rfl (n := 1) (by' := 8) rfl rfl rfl rfl rfl (by simp [cInts_len]) h0 (by decide) (by omega) (by omega) rfl (fun id7 hid7 slack => ?_))
    refine .u rfl rfl rfl (q_as rfl (rfl : _ = V.msl _ _ _)) ?_
    refine .nil ?_
    refine AW.ret ?_
    exact retQ.mk' (.one _) (VLe.refl _) (.refl _) ⟨id7, slack, hid7, rfl, rfl⟩

/-- A copy that may be written to. -/
theorem cloneOM_calls (k : SK) (l : List Obj) (hb : l.length ≤ 1000000) (h0 : 0 < l.length) (h : Hp) : ACalls prog G 81 [.sl k 18 l.length (cObjs l)] h fun r h' => ∃ id slack, h.fresh id ∧ r = .msl id 0 l.length ∧ h' = h.setBox id (cObjs l ++ slack) := by
  refine ACalls.enter func81 rfl ntmps81 results81 rfl ?_
  refine .seq <|
    .region <|
    .aN rfl rfl <|
    .nil <|
    .seq <|
    .seq <|
    .region <|
    .mS rfl rfl ?_
  refine AOps.s rfl rfl rfl (a_eqnil_sl underlying22 rfl rfl (fun b hnil => ?_))
  refine .nil ?_
  refine AW.cond rfl (fun c0 => ?_) (fun c0 => ?_)
  · skip
    refine .seq <|
      .region <|
      .aN rfl rfl <|
      .nil ?_
    refine AW.ret ?_
    exact absurd (hnil c0).2 (by omega)
  · skip
    refine AW.skip ?_
    refine .seq <|
      .region ?_
    refine .u rfl rfl rfl (q_buildSl (ds := []) rfl underlying22 sizeOf72 zeroValue72 rfl rfl rfl rfl rfl) ?_
    refine .mS rfl rfl ?_
    refine AOps.s rfl rfl rfl (a_append_box rfl underlying22 (i := t72) (by kernel_rfl) rfl (n := 18) (by' := 144) rfl rfl rfl rfl rfl (by simp [cObjs_len]) h0 (by decide) (by omega) (by omega) rfl (fun id7 hid7 slack => ?_))
    refine .u rfl rfl rfl (q_as rfl (rfl : _ = V.msl _ _ _)) ?_
    refine .nil ?_
    refine AW.ret ?_
    exact retQ.mk' (.one _) (VLe.refl _) (.refl _) ⟨id7, slack, hid7, rfl, rfl⟩

/-- .. of nothing. -/
theorem cloneI0_calls (k : SK) (h : Hp) : ACalls prog G 35 [.sl k 1 0 []] h fun r h' => r = .sl .full 1 0 [] ∧ h' = h := by
  refine ACalls.enter func35 rfl ntmps35 results35 rfl ?_
  refine .seq <|
    .region <|
    .aN rfl rfl <|
    .nil <|
    .seq <|
    .seq <|
    .region <|
    .mS rfl rfl ?_
  refine AOps.s rfl rfl rfl (a_eqnil_sl underlying23 rfl rfl (fun b hnil => ?_))
  refine .nil ?_
  refine AW.cond rfl (fun c0 => ?_) (fun c0 => ?_)
  · skip
    refine .seq <|
      .region <|
      .aN rfl rfl <|
      .nil ?_
    refine AW.ret ?_
    exact retQ.mk' (.one _) VLe.nilfull (.refl _) ⟨rfl, rfl⟩
  · skip
    refine AW.skip ?_
    refine .seq <|
      .region ?_
    refine .u rfl rfl rfl (q_buildSl (ds := []) rfl underlying23 sizeOf3 zeroValue3 rfl rfl rfl rfl rfl) ?_
    refine .mS rfl rfl ?_
    refine AOps.s rfl rfl rfl (a_append_nil rfl underlying23 (i := t3) (by kernel_rfl) rfl rfl ?_)
    refine .aS rfl rfl <|
      .nil ?_
    refine AW.ret ?_
    exact retQ.mk' (.one _) (VLe.refl _) (.refl _) ⟨rfl, rfl⟩

theorem place_calls (l : List Int) (at' : Int) (h : Hp) : ACalls prog G 204 [eInts l, .int .i64 at'] h fun r h' => r = .bool (inN at' l.length) ∧ h' = h := by
  refine ACalls.enter func204 rfl ntmps204 results204 rfl ?_
  refine .seq <|
    .region <|
    .aB rfl rfl <|
    .nil <|
    .seq <|
    .region <|
    .mI rfl rfl <|
    .qg rfl rfl rfl <|
    .mB rfl rfl ?_
  refine .gt rfl rfl rfl (fun _ => tl0) (fun hc => q_mv rfl (rfl : _ = V.int _ _)) ?_
  refine .gt rfl rfl rfl (fun _ => tl0) (fun hc => q_mv rfl (rfl : _ = V.sl _ _ _ _)) ?_
  refine .gt rfl rfl rfl (fun hc => tl1 9 (.opt hc)) (fun hc => q_len rfl underlying23 rfl) ?_
  refine .gt rfl rfl rfl (fun hc => tl2 10 8 (.opt hc) (.opt hc)) (fun hc => q_lt rfl rfl rfl) ?_
  refine .pt rfl rfl rfl rfl <|
    .aB rfl rfl <|
    .nil ?_
  refine AW.ret ?_
  exact retQ.mk' (.one _) (VLe.of_eq (congrArg V.bool (by simp [inN]))) (.refl _) ⟨rfl, rfl⟩

def removeF (l : List Int) (i : Int) : List Int × Int × Int := if inN i l.length then (l.take i.toNat ++ l.drop (i.toNat + 1), l.getD i.toNat 0, 0) else ([], 0, 1)
def insertF (l : List Int) (i x : Int) : List Int × Int := if i = l.length ∨ inN i l.length = true then (l.take i.toNat ++ x :: l.drop i.toNat, 0) else ([], 1)
abbrev eRemove (x : List Int × Int × Int) : V := .tup [eInts x.1, .int .i64 x.2.1, eE x.2.2]
abbrev eInsert (x : List Int × Int) : V := .tup [eInts x.1, eE x.2]
theorem rem_eq {l : List Int} {i : Nat} (hi : i < l.length) : V.sl .imm 1 (l.length - (i + 1 - i)) (nums (l.take i ++ l.drop (i + 1))) = eInts (l.take (i : Int).toNat ++ l.drop ((i : Int).toNat + 1)) := by
  have : l.length - (i + 1 - i) = (l.take i ++ l.drop (i + 1)).length := by simp; omega
  rw [this]; rfl
theorem ins_eq {l : List Int} {i : Nat} {x : Int} (hi : i ≤ l.length) : V.sl .imm 1 (l.length + 1) (nums (l.take i ++ x :: l.drop i)) = eInts (l.take (i : Int).toNat ++ x :: l.drop (i : Int).toNat) := by
  rw [← ins_len l x hi]; rfl
theorem ins_at {l : List Int} {i : Nat} (hi : i ≤ l.length) : (i : Int) = l.length ∨ inN i l.length = true := by simp [inN]; omega

theorem remove_calls (l : List Int) (at' : Int) (hb : l.length ≤ 1000000) (h : Hp) : ACalls prog G 192 [eInts l, .int .i64 at'] h fun r h' => r = eRemove (removeF l at') ∧ h' = h := by
  refine ACalls.enter func192 rfl ntmps192 results192 rfl ?_
  refine .seq <|
    .region <|
    .aN rfl rfl <|
    .aI rfl rfl ?_
  refine .u rfl rfl rfl (q_as rfl (rfl : _ = V.inil)) ?_
  refine .nil <|
    .seq <|
    .seq <|
    .region <|
    .mS rfl rfl <|
    .mI rfl rfl ?_
  refine .u rfl rfl rfl (QOp.call rfl call204 fun h' hl' => by exact place_calls _ _ h') ?_
  refine .nt rfl rfl <|
    .nil ?_
  refine AW.cond rfl (fun c0 => ?_) (fun c0 => ?_)
  · skip
    refine .seq <|
      .region ?_
    refine .u rfl rfl rfl (q_iface rfl underlying97 rfl) ?_
    refine .aN rfl rfl <|
      .aI rfl rfl ?_
    refine .u rfl rfl rfl (q_as rfl (rfl : _ = V.iface _ _)) ?_
    refine .nil ?_
    refine AW.ret ?_
    exact retQ.mk' (.three _ _ _) (by rw [removeF, if_neg (by simpa using c0)]; exact LLe.tup (.cons VLe.nilimm (.cons (.refl _) (.cons (.of_eq (eErr_ne (by decide)).symm) .nil)))) (.refl _) ⟨rfl, rfl⟩
  · obtain ⟨i, rfl⟩ : ∃ i : Nat, at' = i := ⟨at'.toNat, by simp [inN] at c0; omega⟩
    have hi : i < l.length := by simp [inN] at c0; omega
    refine AW.skip ?_
    refine .seq ?_
    refine AW.draw [5] [0, 3, 6, 7, 8, 9] [(0, true), (2, true), (3, true), (4, true), (6, true), (7, true), (8, true), (9, true), (1, false), (5, false), (10, true), (11, true), (12, true)] mixed (by kernel_rfl) rfl (by kernel_rfl) ?_
    refine .p rfl rfl rfl (fun _ => q_mv rfl (rfl : _ = V.sl _ _ _ _)) ?_
    refine .q rfl rfl rfl rfl (q_mv rfl (rfl : _ = V.int _ _)) ?_
    refine .p rfl rfl rfl (fun _ => q_mv rfl (rfl : _ = V.int _ _)) ?_
    refine .q rfl rfl rfl rfl (q_add' rfl rfl rfl (by omega)) ?_
    refine .p rfl rfl rfl (fun _ => q_mv rfl (rfl : _ = V.sl _ _ _ _)) ?_
    refine .p rfl rfl rfl (fun _ => q_mv rfl (rfl : _ = V.int _ _)) ?_
    refine .p rfl rfl rfl (fun _ => q_ia_s rfl underlying23 sizeOf3 rfl rfl (by omega) (by omega) (cInts_at hi)) ?_
    refine .p rfl rfl rfl (fun _ => q_load_i1 rfl isAgg3 rfl rfl) ?_
    refine AOrd.s' rfl rfl rfl ((AStep.call rfl (by exact call35) (cloneIM_calls .imm l hb (by omega) _)).mono ?_)
    rintro x1 h1 ⟨id1, slack, hid1, rfl, rfl⟩
    refine ⟨?_, HLe.setBox hid1.1⟩
    refine AOrd.s rfl rfl rfl rfl ((AStep.call rfl (by exact call205) (delete_lift delLays hid1 (i := i) (j := i + 1) (by omega) (by omega))).mono ?_)
    rintro x2 h2 ⟨rfl, rfl⟩
    refine .q rfl rfl rfl rfl (q_as rfl (rfl : _ = V.sl _ _ _ _)) ?_
    refine .q rfl rfl rfl rfl (q_as rfl (rfl : _ = V.int _ _)) ?_
    refine .q rfl rfl rfl rfl (q_as rfl (rfl : _ = V.inil)) ?_
    refine AOrd.nil ?_
    refine AW.ret ?_
    exact retQ.mk' (.three _ _ _) (by rw [removeF, if_pos (by simpa using c0)]; exact LLe.tup (.cons (.of_eq (rem_eq hi)) (.cons (.refl _) (.cons (.of_eq (eErr_zero _).symm) .nil)))) (.refl _) ⟨rfl, rfl⟩

theorem insert1_calls (l : List Int) (at' x : Int) (hb : l.length ≤ 1000000) (h0 : 0 < l.length) (h : Hp) : ACalls prog G 193 [eInts l, .int .i64 at', .int .i64 x] h fun r h' => r = eInsert (insertF l at' x) ∧ h' = h := by
  refine ACalls.enter func193 rfl ntmps193 results193 rfl ?_
  refine .seq <|
    .region <|
    .aN rfl rfl ?_
  refine .u rfl rfl rfl (q_as rfl (rfl : _ = V.inil)) ?_
  refine .nil <|
    .seq <|
    .seq <|
    .region <|
    .mI rfl rfl <|
    .mS rfl rfl <|
    .ln rfl underlying23 rfl <|
    .qn rfl rfl rfl <|
    .mB rfl rfl ?_
  refine .gt rfl rfl rfl (fun _ => tl0) (fun hc => q_mv rfl (rfl : _ = V.sl _ _ _ _)) ?_
  refine .gt rfl rfl rfl (fun _ => tl0) (fun hc => q_mv rfl (rfl : _ = V.int _ _)) ?_
  refine .gt rfl rfl rfl (fun hc => tl2 14 13 (.opt hc) (.opt hc)) (fun hc => QOp.call rfl (by exact call204) fun h' hl' => by exact place_calls _ _ h') ?_
  refine .gt rfl rfl rfl (fun hc => tl1 15 (.opt hc)) (fun hc => q_not rfl rfl) ?_
  refine .pt rfl rfl rfl rfl <|
    .nil ?_
  refine AW.cond rfl (fun c0 => ?_) (fun c0 => ?_)
  · skip
    refine .seq <|
      .region ?_
    refine .u rfl rfl rfl (q_iface rfl underlying97 rfl) ?_
    refine .aN rfl rfl ?_
    refine .u rfl rfl rfl (q_as rfl (rfl : _ = V.iface _ _)) ?_
    refine .nil ?_
    refine AW.ret ?_
    exact retQ.mk' (.two _ _) (by rw [insertF, if_neg (by simpa using c0)]; exact LLe.tup (.cons VLe.nilimm (.cons (.of_eq (eErr_ne (by decide)).symm) .nil))) (.refl _) ⟨rfl, rfl⟩
  · obtain ⟨i, rfl⟩ : ∃ i : Nat, at' = i := ⟨at'.toNat, by simp [inN] at c0; omega⟩
    have hi : i ≤ l.length := by simp [inN] at c0; omega
    refine AW.skip ?_
    refine .seq <|
      .region <|
      .mS rfl rfl ?_
    refine AOps.s rfl rfl rfl ((AStep.call rfl (by exact call35) (cloneIM_calls .imm l hb (by omega) _)).mono ?_)
    rintro x1 h1 ⟨id1, slack, hid1, rfl, rfl⟩
    refine .mI rfl rfl <|
      .mI rfl rfl ?_
    refine AOps.s rfl rfl rfl (a_build1 rfl underlying23 sizeOf3 zeroValue3 rfl (fun id4 hid4 => ?_))
    refine AOps.s rfl rfl rfl ((AStep.call rfl (by exact call206) (insert_lift insLays hid1 hid4 hi hb)).mono ?_)
    rintro x2 h2 ⟨rfl, rfl⟩
    refine .aS rfl rfl ?_
    refine .u rfl rfl rfl (q_as rfl (rfl : _ = V.inil)) ?_
    refine .nil ?_
    refine AW.ret ?_
    exact retQ.mk' (.two _ _) (by rw [insertF, if_pos (ins_at (by omega))]; exact LLe.tup (.cons (.of_eq (ins_eq hi)) (.cons (.of_eq (eErr_zero _).symm) .nil))) (.refl _) ⟨rfl, rfl⟩

theorem insert0_calls (at' x : Int) (h : Hp) : ACalls prog G 193 [eInts [], .int .i64 at', .int .i64 x] h fun r h' => r = eInsert (insertF [] at' x) ∧ h' = h := by
  refine ACalls.enter func193 rfl ntmps193 results193 rfl ?_
  refine .seq <|
    .region <|
    .aN rfl rfl ?_
  refine .u rfl rfl rfl (q_as rfl (rfl : _ = V.inil)) ?_
  refine .nil <|
    .seq <|
    .seq <|
    .region <|
    .mI rfl rfl <|
    .mS rfl rfl <|
    .ln rfl underlying23 rfl <|
    .qn rfl rfl rfl <|
    .mB rfl rfl ?_
  refine .gt rfl rfl rfl (fun _ => tl0) (fun hc => q_mv rfl (rfl : _ = V.sl _ _ _ _)) ?_
  refine .gt rfl rfl rfl (fun _ => tl0) (fun hc => q_mv rfl (rfl : _ = V.int _ _)) ?_
  refine .gt rfl rfl rfl (fun hc => tl2 14 13 (.opt hc) (.opt hc)) (fun hc => QOp.call rfl (by exact call204) fun h' _ => by exact place_calls [] _ h') ?_
  refine .gt rfl rfl rfl (fun hc => tl1 15 (.opt hc)) (fun hc => q_not rfl rfl) ?_
  refine .pt rfl rfl rfl rfl <|
    .nil ?_
  refine AW.cond rfl (fun c0 => ?_) (fun c0 => ?_)
  · skip
    refine .seq <|
      .region ?_
    refine .u rfl rfl rfl (q_iface rfl underlying97 rfl) ?_
    refine .aN rfl rfl ?_
    refine .u rfl rfl rfl (q_as rfl (rfl : _ = V.iface _ _)) ?_
    refine .nil ?_
    refine AW.ret ?_
    exact retQ.mk' (.two _ _) (by rw [insertF, if_neg (by simpa using c0)]; exact LLe.tup (.cons VLe.nilimm (.cons (.of_eq (eErr_ne (by decide)).symm) .nil))) (.refl _) ⟨rfl, rfl⟩
  · obtain rfl : at' = (0 : Nat) := by simp [inN] at c0; omega
    refine AW.skip ?_
    refine .seq <|
      .region <|
      .mS rfl rfl ?_
    refine .u rfl rfl rfl (QOp.call rfl call35 fun h' _ => by exact cloneI0_calls .imm h') ?_
    refine .mI rfl rfl <|
      .mI rfl rfl ?_
    refine AOps.s rfl rfl rfl (a_build1 rfl underlying23 sizeOf3 zeroValue3 rfl (fun id4 hid4 => ?_))
    refine AOps.s rfl rfl rfl ((AStep.call rfl (by exact call206) (insert_lift0 insLays hid4 rfl)).mono ?_)
    rintro x2 h2 ⟨rfl, rfl⟩
    refine .aS rfl rfl ?_
    refine .u rfl rfl rfl (q_as rfl (rfl : _ = V.inil)) ?_
    refine .nil ?_
    refine AW.ret ?_
    exact retQ.mk' (.two _ _) (by rw [insertF, if_pos (.inl rfl)]; exact LLe.tup (.cons (.refl _) (.cons (.of_eq (eErr_zero _).symm) .nil))) (.refl _) ⟨rfl, rfl⟩

theorem insert_calls (l : List Int) (at' x : Int) (hb : l.length ≤ 1000000) (h : Hp) : ACalls prog G 193 [eInts l, .int .i64 at', .int .i64 x] h fun r h' => r = eInsert (insertF l at' x) ∧ h' = h := by
  match l, hb with
  | [], _ => exact insert0_calls at' x h
  | y :: l, hb => exact insert1_calls (y :: l) at' x hb (by simp) h

end Go.Proofs.YtagcjkbogaoifaaGreatDoor
/- Slices that are gathered, apart from the memory. -/
namespace Go.Proofs.YtagcjkbogaoifaaGreatDoor
open Go Go.AV Go.Proofs.Tryz
set_option maxRecDepth 100000
def upd {α : Type} (f : Nat → α) (i : Nat) (v : α) : Nat → α := fun j => if j = i then v else f j
def addTok (v : V) (h : Hp) : Hp := match v with | .sl (.own t) _ _ cs => h.setTok t cs.length | _ => h
def vFresh (v : V) (h : Hp) : Prop := match v with | .sl (.own t) _ _ _ => h.fresh t | _ => True
/-- A slice that is gathered, apart from the memory. -/
def AccV (n len : Nat) (cs : List V) (v : V) : Prop := cs.length = len * n ∧ ((v = .snil ∧ cs = [] ∧ len = 0) ∨ v = .sl .full n len cs ∨ ∃ t, v = .sl (.own t) n len cs)
theorem acc_iff {h0 h : Hp} {n len : Nat} {cs : List V} {v : V} : Go.AV.Acc h0 n len cs v h ↔ AccV n len cs v ∧ vFresh v h0 ∧ h = addTok v h0 := by
  constructor
  · rintro ⟨e, ⟨rfl, e2, e3, rfl⟩ | ⟨rfl, rfl⟩ | ⟨t, f, rfl, rfl⟩⟩
    · exact ⟨⟨e, .inl ⟨rfl, e2, e3⟩⟩, trivial, rfl⟩
    · exact ⟨⟨e, .inr (.inl rfl)⟩, trivial, rfl⟩
    · exact ⟨⟨e, .inr (.inr ⟨t, rfl⟩)⟩, f, rfl⟩
  · rintro ⟨⟨e, ⟨rfl, e2, e3⟩ | rfl | ⟨t, rfl⟩⟩, f, rfl⟩
    · exact ⟨e, .inl ⟨rfl, e2, e3, rfl⟩⟩
    · exact ⟨e, .inr (.inl ⟨rfl, rfl⟩)⟩
    · exact ⟨e, .inr (.inr ⟨t, f, rfl, rfl⟩)⟩
theorem AccV.imm {n len : Nat} {cs : List V} {v : V} (a : AccV n len cs v) : VLe v (.sl .imm n len cs) := by
  rcases a with ⟨_, ⟨rfl, rfl, rfl⟩ | rfl | ⟨t, rfl⟩⟩
  · exact .nilimm
  · exact .fullimm
  · exact .own
theorem AccV.len? {n len : Nat} {cs : List V} {v : V} (a : AccV n len cs v) : v.len? = some len := by
  rcases a with ⟨_, ⟨rfl, rfl, rfl⟩ | rfl | ⟨t, rfl⟩⟩ <;> rfl
theorem AccV.cells {n len : Nat} {cs : List V} {v : V} (a : AccV n len cs v) : v.cells = [v] ∧ v.solid = true := by
  rcases a with ⟨_, ⟨rfl, rfl, rfl⟩ | rfl | ⟨t, rfl⟩⟩ <;> exact ⟨rfl, rfl⟩
theorem addTok_le {v : V} {h : Hp} (f : vFresh v h) : HLe (addTok v h) h := by
  unfold addTok vFresh at *
  split
  · exact .setTok f.2
  · exact .refl _
theorem addTok_box (v : V) (h : Hp) : (addTok v h).box = h.box := by unfold addTok; split <;> rfl
theorem addTok_setBox (v : V) (h : Hp) (id : Nat) (cs : List V) : addTok v (h.setBox id cs) = (addTok v h).setBox id cs := by unfold addTok; split <;> rfl
end Go.Proofs.YtagcjkbogaoifaaGreatDoor
