/- Walks: the document's cards: abilities and rows of numbers. -/
import Derived.Test.YtnbmcbkokaoapaaGreatDoorRefcard1
import Derived.Test.YtnbmcbkokaoapaaGreatDoorAv11
namespace Go.Proofs.YtnbmcbkokaoapaaGreatDoor
open Go Go.AV
set_option maxRecDepth 100000
set_option maxHeartbeats 1000000
theorem cInts_to {l : List Int} {i : Int} (j : Nat) (e : i.toNat = j) (h0 : 0 ≤ i) (h1 : i < l.length) : ((cInts l).drop (i.toNat * 1)).take 1 = [.int .i64 (l.getD j 0)] := e ▸ cInts_elem h0 h1
def cRows (l : List (List Int)) : List V := l.map fun r => .sl .full 1 r.length (cInts r)
theorem cRows_elem {l : List (List Int)} {i : Int} (h0 : 0 ≤ i) (h1 : i < l.length) : ((cRows l).drop (i.toNat * 1)).take 1 = [.sl .full 1 (l.getD i.toNat []).length (cInts (l.getD i.toNat []))] := by
  obtain ⟨n, rfl⟩ := Int.eq_ofNat_of_zero_le h0
  have hn : n < l.length := by omega
  simp only [cRows, Int.toNat_natCast, Nat.mul_one]
  rw [List.drop_eq_getElem_cons (by simpa using hn)]
  simp [List.getD_eq_getElem?_getD, List.getElem?_eq_getElem hn]
theorem q_sliceI {P : Program} {G : Nat → Option (List V)} {h : Hp} {o : Oper} {ρ : Operand → V} {t e : TypeId} {x lo : Operand} (ho : o.op = .slice t x (some lo) none none) (hu : P.underlying t = some (.slice e)) (hs : ∀ w, (sizeOf e).run P w = .ok 1 w) {k : SK} {l : Nat} {row : List Int} (hx : ρ x = .sl k 1 row.length (cInts row)) (hlo : ρ lo = .int .i64 (l : Int)) (hl : l ≤ row.length) :
    QOp P G h o ρ (.sl .imm 1 (row.drop l).length (cInts (row.drop l))) := by
  have := q_sliceS (P := P) (G := G) (h := h) ho hu hs hx hlo hl
  rwa [show (cInts row).drop (l * 1) = cInts (row.drop l) by simp [cInts, List.map_drop], ← List.length_drop] at this
abbrev cAbilV (w : Int) (c : Cost) (tap : Bool) (tg : Int) (e : Eff) : List V := cAbil ⟨w, c, tap, tg, e⟩
def oneCost (c n : Int) : Cost := fun j => if (j : Int) = c then n else 0
theorem abil_set {w c n tg : Int} {tap : Bool} {e : Eff} (h0 : 0 ≤ c) (h1 : c < 6) : splice (cAbil ⟨w, noCost, tap, tg, e⟩) (1 + c.toNat * 1) [.int .i64 n] = cAbil ⟨w, oneCost c n, tap, tg, e⟩ := by
  obtain ⟨k, rfl⟩ := Int.eq_ofNat_of_zero_le h0
  have : k = 0 ∨ k = 1 ∨ k = 2 ∨ k = 3 ∨ k = 4 ∨ k = 5 := by omega
  rcases this with e | e | e | e | e | e <;> subst e <;> rfl
/-- An ability, out of a row of numbers. -/
def abilR (row : List Int) : Abil := ⟨row.getD 0 0, if 0 ≤ row.getD 1 0 then oneCost (row.getD 1 0) 1 else noCost, row.getD 2 0 == 1, row.getD 3 0, effR (row.drop 4)⟩

theorem refAbility_calls (row : List Int) (k : SK) (hr : 8 ≤ row.length ∧ row.length ≤ 50 ∧ (row.length - 8) % 4 = 0 ∧ row.getD 1 0 < 6) (h : Hp) : ACalls Tryz.prog G 117 [.sl k 1 row.length (cInts row)] h fun r h' => r = eAbil (abilR row) ∧ h' = h := by
  refine ACalls.enter Tryz.func117 rfl Tryz.ntmps117 Tryz.results117 rfl ?_
  refine AW.seq ?_
  refine AW.region ?_
  refine AOps.s rfl rfl rfl (a_alloc rfl Tryz.zeroValue136 rfl (fun id2 hid2 => ?_))
  refine AOps.nil ?_
  refine AW.seq ?_
  refine AW.draw [15] [] [(0, true), (1, true), (2, true), (3, true), (4, true), (5, true), (6, true), (7, true), (8, true), (9, true), (10, true), (11, true), (12, true), (13, true), (14, false), (15, false)] mixed (by kernel_rfl) rfl (by kernel_rfl) ?_
  refine AOrd.q rfl rfl rfl rfl (q_mv rfl (rfl : _ = V.sl _ _ _ _)) ?_
  refine AOrd.q rfl rfl rfl rfl (q_ia_s rfl Tryz.underlying23 Tryz.sizeOf3 rfl rfl (by omega) (by omega) (cInts_to 0 rfl (by omega) (by omega))) ?_
  refine AOrd.q rfl rfl rfl rfl (q_load_i1 rfl Tryz.isAgg3 rfl rfl) ?_
  refine AOrd.q rfl rfl rfl rfl (q_mv rfl (rfl : _ = V.sl _ _ _ _)) ?_
  refine AOrd.q rfl rfl rfl rfl (q_ia_s rfl Tryz.underlying23 Tryz.sizeOf3 rfl rfl (by omega) (by omega) (cInts_to 2 rfl (by omega) (by omega))) ?_
  refine AOrd.q rfl rfl rfl rfl (q_load_i1 rfl Tryz.isAgg3 rfl rfl) ?_
  refine AOrd.q rfl rfl rfl rfl (q_eq rfl rfl rfl) ?_
  refine AOrd.q rfl rfl rfl rfl (q_mv rfl (rfl : _ = V.sl _ _ _ _)) ?_
  refine AOrd.q rfl rfl rfl rfl (q_ia_s rfl Tryz.underlying23 Tryz.sizeOf3 rfl rfl (by omega) (by omega) (cInts_to 3 rfl (by omega) (by omega))) ?_
  refine AOrd.q rfl rfl rfl rfl (q_load_i1 rfl Tryz.isAgg3 rfl rfl) ?_
  refine AOrd.q rfl rfl rfl rfl (q_mv rfl (rfl : _ = V.sl _ _ _ _)) ?_
  refine AOrd.q rfl rfl rfl rfl (q_sliceI (l := 4) rfl Tryz.underlying23 Tryz.sizeOf3 rfl rfl (by omega)) ?_
  refine AOrd.q rfl rfl rfl rfl (QOp.call rfl (by exact Tryz.call116) fun h' hl' => by exact refEffect_calls _ _ (by simp only [List.length_drop]; omega) h') ?_
  refine AOrd.q rfl rfl rfl rfl (q_buildS (ds := cAbil ⟨row.getD 0 0, noCost, row.getD 2 0 == 1, row.getD 3 0, effR (row.drop 4)⟩) rfl Tryz.zeroValue136 Tryz.underlying136 (pl136 Tryz.underlying136) rfl (by kernel_rfl)) ?_
  refine AOrd.s' rfl rfl rfl (a_alloc rfl Tryz.zeroValue136 rfl (fun id3 hid3 => ⟨?_, HLe.setBox hid3.1⟩))
  refine AOrd.s0 rfl rfl rfl rfl (a_storeA rfl Tryz.sizeOf136 rfl (by exact Hp.box_setBox _ _ _) (rfl : _ = V.agg _) rfl (by first | decide | exact Nat.le_of_ble_eq_true rfl) ?_)
  refine AOrd.nil ?_
  refine AW.seq ?_
  refine AW.seq ?_
  refine AW.hp (h' := (h.setBox id2 [.int .i64 0, .int .i64 0, .int .i64 0, .int .i64 0, .int .i64 0, .int .i64 0, .int .i64 0, .bool false, .int .i64 0, .int .i64 0, .int .i64 0, .int .i64 0, .int .i64 0, .snil]).setBox id3 (cAbil ⟨row.getD 0 0, noCost, row.getD 2 0 == 1, row.getD 3 0, effR (row.drop 4)⟩)) (by rw [Hp.setBox_setBox]; rfl) ?_
  refine AW.region ?_
  refine AOps.q rfl rfl rfl (q_mv rfl (rfl : _ = V.sl _ _ _ _)) ?_
  refine AOps.q rfl rfl rfl (q_ia_s rfl Tryz.underlying23 Tryz.sizeOf3 rfl rfl (by omega) (by omega) (cInts_to 1 rfl (by omega) (by omega))) ?_
  refine AOps.q rfl rfl rfl (q_load_i1 rfl Tryz.isAgg3 rfl rfl) ?_
  refine AOps.q rfl rfl rfl (q_ge rfl rfl rfl) ?_
  refine AOps.nil ?_
  refine AW.cond rfl (fun c0 => ?_) (fun c0 => ?_)
  · have h0 : 0 ≤ row.getD 1 0 := of_decide_eq_true c0
    refine AW.region ?_
    refine AOps.q rfl rfl rfl (q_mv rfl (rfl : _ = V.sl _ _ _ _)) ?_
    refine AOps.q rfl rfl rfl (q_ia_s rfl Tryz.underlying23 Tryz.sizeOf3 rfl rfl (by omega) (by omega) (cInts_to 1 rfl (by omega) (by omega))) ?_
    refine AOps.q rfl rfl rfl (q_load_i1 rfl Tryz.isAgg3 rfl rfl) ?_
    refine AOps.q rfl rfl rfl (q_fa_b rfl Tryz.underlying136 rfl (by exact Tryz.sizeOf89) (by decide) rfl (rfl : _ = 1)) ?_
    refine AOps.q rfl rfl rfl (q_ia_ab rfl Tryz.underlying89 Tryz.sizeOf3 rfl rfl (by omega) (by omega)) ?_
    refine AOps.s0 rfl rfl (a_store1 rfl Tryz.sizeOf3 rfl (by exact Hp.box_setBox _ _ _) (rfl : _ = V.int _ _) rfl rfl (by first | decide | exact Nat.le_of_ble_eq_true rfl | (simp only [cAbil, List.length_cons, List.length_nil]; omega)) ?_)
    refine AOps.nil ?_
    refine AW.seq ?_
    first | refine AW.hp (h' := (h.setBox id2 _).setBox id3 (cAbil (abilR row))) (by rw [abilR, if_pos h0, Hp.setBox_setBox, abil_set h0 hr.2.2.2]) ?_ | refine AW.hp (h' := (h.setBox id2 _).setBox id3 (cAbil (abilR row))) (by rw [abilR, if_neg h0]) ?_
    refine AW.done 3 rfl hid3 ?_
    refine AW.region ?_
    refine AOps.q rfl rfl rfl (q_load_iW rfl Tryz.isAgg136 Tryz.sizeOf136 rfl (by rfl)) ?_
    refine AOps.s0 rfl rfl (a_storeWA rfl Tryz.sizeOf136 rfl rfl (rfl : _ = V.agg _) rfl rfl ?_)
    refine AOps.nil ?_
    refine AW.ret ?_
    exact retQ.mk' (Res.cellB Tryz.isAgg136 Tryz.sizeOf136 rfl (by exact Hp.box_setBox _ _ _) rfl) (VLe.refl _) (HLe.setBox hid2.1) ⟨rfl, rfl⟩
  · have h0 : ¬ 0 ≤ row.getD 1 0 := of_decide_eq_false c0
    refine AW.skip ?_
    refine AW.seq ?_
    first | refine AW.hp (h' := (h.setBox id2 _).setBox id3 (cAbil (abilR row))) (by rw [abilR, if_pos h0, Hp.setBox_setBox, abil_set h0 hr.2.2.2]) ?_ | refine AW.hp (h' := (h.setBox id2 _).setBox id3 (cAbil (abilR row))) (by rw [abilR, if_neg h0]) ?_
    refine AW.done 3 rfl hid3 ?_
    refine AW.region ?_
    refine AOps.q rfl rfl rfl (q_load_iW rfl Tryz.isAgg136 Tryz.sizeOf136 rfl (by rfl)) ?_
    refine AOps.s0 rfl rfl (a_storeWA rfl Tryz.sizeOf136 rfl rfl (rfl : _ = V.agg _) rfl rfl ?_)
    refine AOps.nil ?_
    refine AW.ret ?_
    exact retQ.mk' (Res.cellB Tryz.isAgg136 Tryz.sizeOf136 rfl (by exact Hp.box_setBox _ _ _) rfl) (VLe.refl _) (HLe.setBox hid2.1) ⟨rfl, rfl⟩

def magicRows : List (List Int) := [[0, 2, 4, 0, 0], [4, 9, 0, 0, 2], [1, 10, -2, -2, 2], [3, 1, 2, 0, 2], [1, 10, 3, 3, 2], [1, 6, 0, 0, 2], [0, 4, 2, 0, 0], [2, 19, 1, 0, 2], [1, 1, 4, 0, 2], [1, 11, 2, 0, 2], [0, 20, 1, 0, 0, 10, 1, 1, 2], [5, 7, 0, 0, 2], [2, 3, 3, 0, 2], [1, 10, 3, 0, 2], [1, 23, 64, 0, 2], [5, 8, 0, 0, 2], [0, 17, 3, 0, 0], [0, 21, 0, 0, 0, 3, 2, 0, 1, 2, 2, 0, 0], [0, 20, 0, 0, 0, 1, 2, 0, 2], [0, 14, 2, 116, 0], [0, 21, 0, 0, 0, 2, 2, 0, 0, 4, 1, 0, 0], [1, 12, 0, 0, 2], [1, 6, 0, 0, 2], [0, 1, 3, 0, 4], [0, 15, 3, 4, 0], [0, 22, 0, 10, 0, 2, 8, 0, 0, 4, 1, 0, 0], [0, 21, 0, 0, 0, 4, 3, 0, 0, 19, 1, 0, 0], [0, 5, 4, 0, 4], [3, 21, 0, 0, 0, 1, 2, 0, 2, 4, 1, 0, 0], [0, 20, 1, 0, 0, 11, 1, 0, 2]]
def relicRows8 : List (List Int) := [[5, -1, 0, 0, 20, 1, 0, 0, 10, 0, 2, 2], [5, -1, 0, 0, 20, 1, 0, 0, 23, 1, 0, 2], [5, -1, 0, 0, 20, 2, 0, 0, 10, -1, 0, 2], [5, -1, 0, 0, 20, 1, 0, 0, 10, 1, 0, 2], [5, -1, 0, 0, 20, 1, 0, 0, 10, 1, 1, 2], [4, -1, 0, 0, 2, 1, 0, 0], [4, -1, 0, 0, 17, 1, 0, 0], [4, -1, 0, 0, 3, 1, 0, 4], [4, -1, 0, 0, 1, 1, 0, 1], [4, -1, 0, 0, 15, 1, 4, 0], [1, 5, 1, 1, 10, 0, 1, 2], [1, 5, 1, 1, 12, 0, 0, 2], [1, 5, 1, 0, 3, 1, 0, 1], [1, 5, 1, 3, 1, 1, 0, 2], [1, 5, 1, 1, 13, 0, 0, 2], [5, -1, 0, 0, 20, 0, 0, 0, 25, 1, 0, 2], [1, 1, 0, 0, 13, 0, 0, 3], [5, -1, 0, 0, 20, 2, 0, 0, 24, 1, 1, 2], [3, -1, 0, 0, 1, 3, 0, 4], [2, -1, 0, 0, 14, 1, 119, 0]]
def specialRows : List (List Int) := [[2, 1, 0, 0, 0, 0, 0, -1, 0, 0, 18, 0, 0, 0], [2, 2, 0, 0, 0, 0, 0, -1, 0, 0, 19, 2, 0, 1], [2, 1, 0, 0, 0, 0, 0, -1, 0, 0, 16, 3, 0, 1], [2, 1, 1, 0, 0, 0, 0, -1, 0, 0, 17, 2, 0, 1], [2, 2, 0, 0, 0, 0, 0, -1, 0, 0, 5, 3, 0, 4], [2, 3, 1, 0, 0, 0, 0, -1, 0, 4, 9, 0, 0, 2], [2, 2, 0, 0, 0, 0, 0, -1, 0, 0, 20, 0, 0, 0, 7, 0, 0, 2], [3, 2, 0, 0, 0, 0, 1, -1, 0, 0, 15, 1, 5, 0], [1, 2, 0, 1, 1, 0, 1, 5, 0, 0, 13, 0, 0, 3], [2, 3, 0, 0, 0, 0, 0, -1, 0, 0, 14, 2, 112, 0], [2, 4, 0, 0, 0, 0, 0, -1, 0, 0, 20, 0, 0, 0, 6, 0, 0, 2], [1, 3, 1, 2, 3, 5, 3, -1, 0, 0, 4, 1, 0, 0]]
theorem refMagic_calls (h : Hp) : ACalls Tryz.prog G 115 [] h fun r h' => r = .sl .full 1 magicRows.length (cRows magicRows) ∧ h' = h := by
  refine ACalls.enter Tryz.func115 rfl Tryz.ntmps115 Tryz.results115 rfl ?_
  refine AW.seq ?_
  refine AW.region ?_
  refine AOps.q rfl rfl rfl (q_as rfl (rfl : _ = V.snil)) ?_
  refine AOps.nil ?_
  refine AW.seq ?_
  refine AW.region ?_
  refine AOps.q rfl rfl rfl (q_buildSl rfl Tryz.underlying23 Tryz.sizeOf3 Tryz.zeroValue3 rfl rfl rfl rfl rfl) ?_
  refine AOps.q rfl rfl rfl (q_buildSl rfl Tryz.underlying23 Tryz.sizeOf3 Tryz.zeroValue3 rfl rfl rfl rfl rfl) ?_
  refine AOps.q rfl rfl rfl (q_buildSl rfl Tryz.underlying23 Tryz.sizeOf3 Tryz.zeroValue3 rfl rfl rfl rfl rfl) ?_
  refine AOps.q rfl rfl rfl (q_buildSl rfl Tryz.underlying23 Tryz.sizeOf3 Tryz.zeroValue3 rfl rfl rfl rfl rfl) ?_
  refine AOps.q rfl rfl rfl (q_buildSl rfl Tryz.underlying23 Tryz.sizeOf3 Tryz.zeroValue3 rfl rfl rfl rfl rfl) ?_
  refine AOps.q rfl rfl rfl (q_buildSl rfl Tryz.underlying23 Tryz.sizeOf3 Tryz.zeroValue3 rfl rfl rfl rfl rfl) ?_
  refine AOps.q rfl rfl rfl (q_buildSl rfl Tryz.underlying23 Tryz.sizeOf3 Tryz.zeroValue3 rfl rfl rfl rfl rfl) ?_
  refine AOps.q rfl rfl rfl (q_buildSl rfl Tryz.underlying23 Tryz.sizeOf3 Tryz.zeroValue3 rfl rfl rfl rfl rfl) ?_
  refine AOps.q rfl rfl rfl (q_buildSl rfl Tryz.underlying23 Tryz.sizeOf3 Tryz.zeroValue3 rfl rfl rfl rfl rfl) ?_
  refine AOps.q rfl rfl rfl (q_buildSl rfl Tryz.underlying23 Tryz.sizeOf3 Tryz.zeroValue3 rfl rfl rfl rfl rfl) ?_
  refine AOps.q rfl rfl rfl (q_buildSl rfl Tryz.underlying23 Tryz.sizeOf3 Tryz.zeroValue3 rfl rfl rfl rfl rfl) ?_
  refine AOps.q rfl rfl rfl (q_buildSl rfl Tryz.underlying23 Tryz.sizeOf3 Tryz.zeroValue3 rfl rfl rfl rfl rfl) ?_
  refine AOps.q rfl rfl rfl (q_buildSl rfl Tryz.underlying23 Tryz.sizeOf3 Tryz.zeroValue3 rfl rfl rfl rfl rfl) ?_
  refine AOps.q rfl rfl rfl (q_buildSl rfl Tryz.underlying23 Tryz.sizeOf3 Tryz.zeroValue3 rfl rfl rfl rfl rfl) ?_
  refine AOps.q rfl rfl rfl (q_buildSl rfl Tryz.underlying23 Tryz.sizeOf3 Tryz.zeroValue3 rfl rfl rfl rfl rfl) ?_
  refine AOps.q rfl rfl rfl (q_buildSl rfl Tryz.underlying23 Tryz.sizeOf3 Tryz.zeroValue3 rfl rfl rfl rfl rfl) ?_
  refine AOps.q rfl rfl rfl (q_buildSl rfl Tryz.underlying23 Tryz.sizeOf3 Tryz.zeroValue3 rfl rfl rfl rfl rfl) ?_
  refine AOps.q rfl rfl rfl (q_buildSl rfl Tryz.underlying23 Tryz.sizeOf3 Tryz.zeroValue3 rfl rfl rfl rfl rfl) ?_
  refine AOps.q rfl rfl rfl (q_buildSl rfl Tryz.underlying23 Tryz.sizeOf3 Tryz.zeroValue3 rfl rfl rfl rfl rfl) ?_
  refine AOps.q rfl rfl rfl (q_buildSl rfl Tryz.underlying23 Tryz.sizeOf3 Tryz.zeroValue3 rfl rfl rfl rfl rfl) ?_
  refine AOps.q rfl rfl rfl (q_buildSl rfl Tryz.underlying23 Tryz.sizeOf3 Tryz.zeroValue3 rfl rfl rfl rfl rfl) ?_
  refine AOps.q rfl rfl rfl (q_buildSl rfl Tryz.underlying23 Tryz.sizeOf3 Tryz.zeroValue3 rfl rfl rfl rfl rfl) ?_
  refine AOps.q rfl rfl rfl (q_buildSl rfl Tryz.underlying23 Tryz.sizeOf3 Tryz.zeroValue3 rfl rfl rfl rfl rfl) ?_
  refine AOps.q rfl rfl rfl (q_buildSl rfl Tryz.underlying23 Tryz.sizeOf3 Tryz.zeroValue3 rfl rfl rfl rfl rfl) ?_
  refine AOps.q rfl rfl rfl (q_buildSl rfl Tryz.underlying23 Tryz.sizeOf3 Tryz.zeroValue3 rfl rfl rfl rfl rfl) ?_
  refine AOps.q rfl rfl rfl (q_buildSl rfl Tryz.underlying23 Tryz.sizeOf3 Tryz.zeroValue3 rfl rfl rfl rfl rfl) ?_
  refine AOps.q rfl rfl rfl (q_buildSl rfl Tryz.underlying23 Tryz.sizeOf3 Tryz.zeroValue3 rfl rfl rfl rfl rfl) ?_
  refine AOps.q rfl rfl rfl (q_buildSl rfl Tryz.underlying23 Tryz.sizeOf3 Tryz.zeroValue3 rfl rfl rfl rfl rfl) ?_
  refine AOps.q rfl rfl rfl (q_buildSl rfl Tryz.underlying23 Tryz.sizeOf3 Tryz.zeroValue3 rfl rfl rfl rfl rfl) ?_
  refine AOps.q rfl rfl rfl (q_buildSl rfl Tryz.underlying23 Tryz.sizeOf3 Tryz.zeroValue3 rfl rfl rfl rfl rfl) ?_
  refine AOps.q rfl rfl rfl (q_buildSl (ds := cRows magicRows) rfl Tryz.underlying154 Tryz.sizeOf23 Tryz.zeroValue23 rfl rfl rfl rfl (by kernel_rfl)) ?_
  refine AOps.q rfl rfl rfl (q_as rfl (rfl : _ = V.sl _ _ _ _)) ?_
  refine AOps.nil ?_
  refine AW.ret ?_
  exact retQ.mk (.one _) ⟨rfl, rfl⟩

theorem refRelic_calls (h : Hp) : ACalls Tryz.prog G 118 [] h fun r h' => r = .sl .full 1 relicRows8.length (cRows relicRows8) ∧ h' = h := by
  refine ACalls.enter Tryz.func118 rfl Tryz.ntmps118 Tryz.results118 rfl ?_
  refine AW.seq ?_
  refine AW.region ?_
  refine AOps.q rfl rfl rfl (q_as rfl (rfl : _ = V.snil)) ?_
  refine AOps.nil ?_
  refine AW.seq ?_
  refine AW.region ?_
  refine AOps.q rfl rfl rfl (q_buildSl rfl Tryz.underlying23 Tryz.sizeOf3 Tryz.zeroValue3 rfl rfl rfl rfl rfl) ?_
  refine AOps.q rfl rfl rfl (q_buildSl rfl Tryz.underlying23 Tryz.sizeOf3 Tryz.zeroValue3 rfl rfl rfl rfl rfl) ?_
  refine AOps.q rfl rfl rfl (q_buildSl rfl Tryz.underlying23 Tryz.sizeOf3 Tryz.zeroValue3 rfl rfl rfl rfl rfl) ?_
  refine AOps.q rfl rfl rfl (q_buildSl rfl Tryz.underlying23 Tryz.sizeOf3 Tryz.zeroValue3 rfl rfl rfl rfl rfl) ?_
  refine AOps.q rfl rfl rfl (q_buildSl rfl Tryz.underlying23 Tryz.sizeOf3 Tryz.zeroValue3 rfl rfl rfl rfl rfl) ?_
  refine AOps.q rfl rfl rfl (q_buildSl rfl Tryz.underlying23 Tryz.sizeOf3 Tryz.zeroValue3 rfl rfl rfl rfl rfl) ?_
  refine AOps.q rfl rfl rfl (q_buildSl rfl Tryz.underlying23 Tryz.sizeOf3 Tryz.zeroValue3 rfl rfl rfl rfl rfl) ?_
  refine AOps.q rfl rfl rfl (q_buildSl rfl Tryz.underlying23 Tryz.sizeOf3 Tryz.zeroValue3 rfl rfl rfl rfl rfl) ?_
  refine AOps.q rfl rfl rfl (q_buildSl rfl Tryz.underlying23 Tryz.sizeOf3 Tryz.zeroValue3 rfl rfl rfl rfl rfl) ?_
  refine AOps.q rfl rfl rfl (q_buildSl rfl Tryz.underlying23 Tryz.sizeOf3 Tryz.zeroValue3 rfl rfl rfl rfl rfl) ?_
  refine AOps.q rfl rfl rfl (q_buildSl rfl Tryz.underlying23 Tryz.sizeOf3 Tryz.zeroValue3 rfl rfl rfl rfl rfl) ?_
  refine AOps.q rfl rfl rfl (q_buildSl rfl Tryz.underlying23 Tryz.sizeOf3 Tryz.zeroValue3 rfl rfl rfl rfl rfl) ?_
  refine AOps.q rfl rfl rfl (q_buildSl rfl Tryz.underlying23 Tryz.sizeOf3 Tryz.zeroValue3 rfl rfl rfl rfl rfl) ?_
  refine AOps.q rfl rfl rfl (q_buildSl rfl Tryz.underlying23 Tryz.sizeOf3 Tryz.zeroValue3 rfl rfl rfl rfl rfl) ?_
  refine AOps.q rfl rfl rfl (q_buildSl rfl Tryz.underlying23 Tryz.sizeOf3 Tryz.zeroValue3 rfl rfl rfl rfl rfl) ?_
  refine AOps.q rfl rfl rfl (q_buildSl rfl Tryz.underlying23 Tryz.sizeOf3 Tryz.zeroValue3 rfl rfl rfl rfl rfl) ?_
  refine AOps.q rfl rfl rfl (q_buildSl rfl Tryz.underlying23 Tryz.sizeOf3 Tryz.zeroValue3 rfl rfl rfl rfl rfl) ?_
  refine AOps.q rfl rfl rfl (q_buildSl rfl Tryz.underlying23 Tryz.sizeOf3 Tryz.zeroValue3 rfl rfl rfl rfl rfl) ?_
  refine AOps.q rfl rfl rfl (q_buildSl rfl Tryz.underlying23 Tryz.sizeOf3 Tryz.zeroValue3 rfl rfl rfl rfl rfl) ?_
  refine AOps.q rfl rfl rfl (q_buildSl rfl Tryz.underlying23 Tryz.sizeOf3 Tryz.zeroValue3 rfl rfl rfl rfl rfl) ?_
  refine AOps.q rfl rfl rfl (q_buildSl (ds := cRows relicRows8) rfl Tryz.underlying154 Tryz.sizeOf23 Tryz.zeroValue23 rfl rfl rfl rfl (by kernel_rfl)) ?_
  refine AOps.q rfl rfl rfl (q_as rfl (rfl : _ = V.sl _ _ _ _)) ?_
  refine AOps.nil ?_
  refine AW.ret ?_
  exact retQ.mk (.one _) ⟨rfl, rfl⟩

theorem refSpecial_calls (h : Hp) : ACalls Tryz.prog G 119 [] h fun r h' => r = .sl .full 1 specialRows.length (cRows specialRows) ∧ h' = h := by
  refine ACalls.enter Tryz.func119 rfl Tryz.ntmps119 Tryz.results119 rfl ?_
  refine AW.seq ?_
  refine AW.region ?_
  refine AOps.q rfl rfl rfl (q_as rfl (rfl : _ = V.snil)) ?_
  refine AOps.nil ?_
  refine AW.seq ?_
  refine AW.region ?_
  refine AOps.q rfl rfl rfl (q_buildSl rfl Tryz.underlying23 Tryz.sizeOf3 Tryz.zeroValue3 rfl rfl rfl rfl rfl) ?_
  refine AOps.q rfl rfl rfl (q_buildSl rfl Tryz.underlying23 Tryz.sizeOf3 Tryz.zeroValue3 rfl rfl rfl rfl rfl) ?_
  refine AOps.q rfl rfl rfl (q_buildSl rfl Tryz.underlying23 Tryz.sizeOf3 Tryz.zeroValue3 rfl rfl rfl rfl rfl) ?_
  refine AOps.q rfl rfl rfl (q_buildSl rfl Tryz.underlying23 Tryz.sizeOf3 Tryz.zeroValue3 rfl rfl rfl rfl rfl) ?_
  refine AOps.q rfl rfl rfl (q_buildSl rfl Tryz.underlying23 Tryz.sizeOf3 Tryz.zeroValue3 rfl rfl rfl rfl rfl) ?_
  refine AOps.q rfl rfl rfl (q_buildSl rfl Tryz.underlying23 Tryz.sizeOf3 Tryz.zeroValue3 rfl rfl rfl rfl rfl) ?_
  refine AOps.q rfl rfl rfl (q_buildSl rfl Tryz.underlying23 Tryz.sizeOf3 Tryz.zeroValue3 rfl rfl rfl rfl rfl) ?_
  refine AOps.q rfl rfl rfl (q_buildSl rfl Tryz.underlying23 Tryz.sizeOf3 Tryz.zeroValue3 rfl rfl rfl rfl rfl) ?_
  refine AOps.q rfl rfl rfl (q_buildSl rfl Tryz.underlying23 Tryz.sizeOf3 Tryz.zeroValue3 rfl rfl rfl rfl rfl) ?_
  refine AOps.q rfl rfl rfl (q_buildSl rfl Tryz.underlying23 Tryz.sizeOf3 Tryz.zeroValue3 rfl rfl rfl rfl rfl) ?_
  refine AOps.q rfl rfl rfl (q_buildSl rfl Tryz.underlying23 Tryz.sizeOf3 Tryz.zeroValue3 rfl rfl rfl rfl rfl) ?_
  refine AOps.q rfl rfl rfl (q_buildSl rfl Tryz.underlying23 Tryz.sizeOf3 Tryz.zeroValue3 rfl rfl rfl rfl rfl) ?_
  refine AOps.q rfl rfl rfl (q_buildSl (ds := cRows specialRows) rfl Tryz.underlying154 Tryz.sizeOf23 Tryz.zeroValue23 rfl rfl rfl rfl (by kernel_rfl)) ?_
  refine AOps.q rfl rfl rfl (q_as rfl (rfl : _ = V.sl _ _ _ _)) ?_
  refine AOps.nil ?_
  refine AW.ret ?_
  exact retQ.mk (.one _) ⟨rfl, rfl⟩

end Go.Proofs.YtnbmcbkokaoapaaGreatDoor
