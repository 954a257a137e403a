/- Walks: the document's cards: their parts. -/
import Derived.Test.YtnbmcbkokaoapaaGreatDoorUses
import Derived.Test.YtnbmcbkokaoapaaGreatDoorShape3
import Derived.Test.YtnbmcbkokaoapaaGreatDoorAcc
namespace Go.Proofs.YtnbmcbkokaoapaaGreatDoor
open Go Go.AV
set_option maxRecDepth 100000
set_option maxHeartbeats 1000000
/-! A row that lies in a variable. -/
theorem bx_acc {h0 : Hp} {id n len : Nat} {cs bc : List V} {v : V} (a : AccV n len cs v) (f : vFresh v h0) (fi : (addTok v h0).fresh id) : Go.AV.Acc (h0.setBox id bc) n len cs v ((addTok v h0).setBox id bc) := by
  refine acc_iff.2 ⟨a, ?_, (addTok_setBox _ _ _ _).symm⟩
  have h2 := fi.2
  unfold vFresh at *
  split
  · rename_i t n len c
    simp only [addTok] at h2
    have hne : t ≠ id := fun e => by subst e; simp at h2
    exact ⟨by rw [Hp.box_setBox_ne _ _ hne]; exact f.1, f.2⟩
  · trivial
theorem bx_app {h0 h' : Hp} {id n len : Nat} {cs bc : List V} {v : V} (hid : h0.fresh id) (acc : Go.AV.Acc (h0.setBox id bc) n len cs v h') :
    h'.box id = some bc ∧ (v.cells = [v] ∧ v.solid = true) ∧ (∀ c2, h'.setBox id c2 = (addTok v h0).setBox id c2) ∧ AccV n len cs v ∧ vFresh v h0 ∧ (addTok v h0).fresh id := by
  obtain ⟨a, f, rfl⟩ := acc_iff.1 acc
  have fe : vFresh v h0 ∧ (addTok v h0).tok id = none := by
    unfold vFresh addTok at *
    split
    · rename_i t n len c
      simp only at f
      have hne : t ≠ id := fun e => by subst e; have := f.1; simp at this
      exact ⟨⟨by have := f.1; rwa [Hp.box_setBox_ne _ _ hne] at this, f.2⟩, by rw [Hp.tok_setTok_ne _ _ hne.symm]; exact hid.2⟩
    · exact ⟨trivial, hid.2⟩
  refine ⟨by rw [addTok_box, Hp.box_setBox], a.cells, fun c2 => by rw [addTok_setBox, Hp.setBox_setBox], a, fe.1, ⟨by rw [addTok_box]; exact hid.1, fe.2⟩⟩
def giveF (n c : Int) : Abil := ⟨6, fun _ => 0, true, 0, ⟨15, n, c, 0, []⟩⟩
def subAt (row : List Int) (q : Nat) : Eff0 := ⟨row.getD (4 + 4 * q) 0, row.getD (4 + 4 * q + 1) 0, row.getD (4 + 4 * q + 2) 0, row.getD (4 + 4 * q + 3) 0⟩
def subsUp (row : List Int) (q : Nat) : List Eff0 := (List.range q).map (subAt row)
/-- An effect, out of a row of numbers. -/
def effR (row : List Int) : Eff := ⟨row.getD 0 0, row.getD 1 0, row.getD 2 0, row.getD 3 0, subsUp row ((row.length - 4) / 4)⟩
def cEffN (e : Eff0) : List V := [.int .i64 e.op, .int .i64 e.n, .int .i64 e.m, .int .i64 e.who, .snil]
theorem subs_next {row : List Int} {q : Nat} : (subsUp row (q + 1)).flatMap cEffN = (subsUp row q).flatMap cEffN ++ cEffN (subAt row q) := by
  simp [subsUp, List.range_succ]
theorem subs_len {row : List Int} {q : Nat} : (subsUp row q).length = q := by simp [subsUp]
theorem eff0_le {e : Eff0} : LLe (cEffN e) (cEff0 e) := .cons (.refl _) (.cons (.refl _) (.cons (.refl _) (.cons (.refl _) (.cons .nilimm .nil))))
theorem effs_le : ∀ l : List Eff0, LLe (l.flatMap cEffN) (l.flatMap cEff0)
  | [] => .nil
  | e :: l => LLe.append (eff0_le (e := e)) (effs_le l)

theorem refGive_calls (n c : Int) (h : Hp) : ACalls Tryz.prog G 114 [.int .i64 n, .int .i64 c] h fun r h' => r = eAbil (giveF n c) ∧ h' = h := by
  refine ACalls.enter Tryz.func114 rfl Tryz.ntmps114 Tryz.results114 rfl ?_
  refine AW.seq ?_
  refine AW.region ?_
  refine AOps.s rfl rfl rfl (a_alloc rfl Tryz.zeroValue136 rfl (fun id4 hid4 => ?_))
  refine AOps.nil ?_
  refine AW.seq ?_
  refine AW.region ?_
  refine AOps.q rfl rfl rfl (q_mv rfl (rfl : _ = V.int _ _)) ?_
  refine AOps.q rfl rfl rfl (q_mv rfl (rfl : _ = V.int _ _)) ?_
  refine AOps.q rfl rfl rfl (q_buildS (ds := [.int .i64 15, .int .i64 n, .int .i64 c, .int .i64 0, .snil]) rfl Tryz.zeroValue99 Tryz.underlying99 (pl99 Tryz.underlying99) rfl (by kernel_rfl)) ?_
  refine AOps.q rfl rfl rfl (q_buildS (ds := [.int .i64 6, .int .i64 0, .int .i64 0, .int .i64 0, .int .i64 0, .int .i64 0, .int .i64 0, .bool true, .int .i64 0, .int .i64 15, .int .i64 n, .int .i64 c, .int .i64 0, .snil]) rfl Tryz.zeroValue136 Tryz.underlying136 (pl136 Tryz.underlying136) rfl (by kernel_rfl)) ?_
  refine AOps.s0 rfl rfl (a_storeWA rfl Tryz.sizeOf136 rfl rfl (rfl : _ = V.agg _) rfl rfl ?_)
  refine AOps.nil ?_
  refine AW.ret ?_
  exact retQ.mk' (Res.cellB Tryz.isAgg136 Tryz.sizeOf136 rfl (by exact Hp.box_setBox _ _ _) rfl) (LLe.agg (LLe.append (a := [.int .i64 6, .int .i64 0, .int .i64 0, .int .i64 0, .int .i64 0, .int .i64 0, .int .i64 0, .bool true, .int .i64 0, .int .i64 15, .int .i64 n, .int .i64 c, .int .i64 0]) (.refl _) (.cons .nilimm .nil))) (HLe.setBox hid4.1) ⟨rfl, rfl⟩

theorem refEffect_calls (row : List Int) (k : SK) (hr : 4 ≤ row.length ∧ row.length ≤ 100 ∧ (row.length - 4) % 4 = 0) (h : Hp) : ACalls Tryz.prog G 116 [.sl k 1 row.length (cInts row)] h fun r h' => r = eEff (effR row) ∧ h' = h := by
  obtain ⟨J, hJ⟩ : ∃ J, J = (row.length - 4) / 4 := ⟨_, rfl⟩
  have hlen : row.length = 4 + 4 * J := by omega
  refine ACalls.enter Tryz.func116 rfl Tryz.ntmps116 Tryz.results116 rfl ?_
  refine AW.seq ?_
  refine AW.region ?_
  refine AOps.s rfl rfl rfl (a_alloc rfl Tryz.zeroValue99 rfl (fun id2 hid2 => ?_))
  refine AOps.nil ?_
  refine AW.seq ?_
  refine AW.draw [14] [] [(0, true), (1, true), (2, true), (3, true), (4, true), (5, true), (6, true), (7, true), (8, true), (9, true), (10, true), (11, true), (12, true), (13, false), (14, false)] mixed (by kernel_rfl) rfl (by kernel_rfl) ?_
  refine AOrd.q rfl rfl rfl rfl (q_mv rfl (rfl : _ = V.sl _ _ _ _)) ?_
  refine AOrd.q rfl rfl rfl rfl (q_ia_s rfl Tryz.underlying23 Tryz.sizeOf3 rfl rfl (by omega) (by omega) (cInts_elem (by omega) (by omega))) ?_
  refine AOrd.q rfl rfl rfl rfl (q_load_i1 rfl Tryz.isAgg3 rfl rfl) ?_
  refine AOrd.q rfl rfl rfl rfl (q_mv rfl (rfl : _ = V.sl _ _ _ _)) ?_
  refine AOrd.q rfl rfl rfl rfl (q_ia_s rfl Tryz.underlying23 Tryz.sizeOf3 rfl rfl (by omega) (by omega) (cInts_elem (by omega) (by omega))) ?_
  refine AOrd.q rfl rfl rfl rfl (q_load_i1 rfl Tryz.isAgg3 rfl rfl) ?_
  refine AOrd.q rfl rfl rfl rfl (q_mv rfl (rfl : _ = V.sl _ _ _ _)) ?_
  refine AOrd.q rfl rfl rfl rfl (q_ia_s rfl Tryz.underlying23 Tryz.sizeOf3 rfl rfl (by omega) (by omega) (cInts_elem (by omega) (by omega))) ?_
  refine AOrd.q rfl rfl rfl rfl (q_load_i1 rfl Tryz.isAgg3 rfl rfl) ?_
  refine AOrd.q rfl rfl rfl rfl (q_mv rfl (rfl : _ = V.sl _ _ _ _)) ?_
  refine AOrd.q rfl rfl rfl rfl (q_ia_s rfl Tryz.underlying23 Tryz.sizeOf3 rfl rfl (by omega) (by omega) (cInts_elem (by omega) (by omega))) ?_
  refine AOrd.q rfl rfl rfl rfl (q_load_i1 rfl Tryz.isAgg3 rfl rfl) ?_
  refine AOrd.q rfl rfl rfl rfl (q_buildS (ds := [V.int .i64 (row.getD 0 0), V.int .i64 (row.getD 1 0), V.int .i64 (row.getD 2 0), V.int .i64 (row.getD 3 0), V.snil]) rfl Tryz.zeroValue99 Tryz.underlying99 (pl99 Tryz.underlying99) rfl (by kernel_rfl)) ?_
  refine AOrd.s' rfl rfl rfl (a_alloc rfl Tryz.zeroValue99 rfl (fun id3 hid3 => ⟨?_, HLe.setBox hid3.1⟩))
  refine AOrd.s0 rfl rfl rfl rfl (a_storeA rfl Tryz.sizeOf99 rfl (by exact Hp.box_setBox _ _ _) (rfl : _ = V.agg _) rfl (by first | decide | exact Nat.le_of_ble_eq_true rfl) ?_)
  refine AOrd.nil ?_
  refine AW.seq ?_
  refine AW.seq ?_
  refine AW.region ?_
  refine AOps.q rfl rfl rfl (q_as rfl (rfl : _ = V.int _ _)) ?_
  refine AOps.nil ?_
  refine AW.block ?_
  refine AW.loop (fun n T hh => ∃ (q : Nat) (v : V), q ≤ J ∧ n = J - q ∧ T = put (put (put (put (T0) 4 (V.int .i64 (4 + 4 * (q : Nat)))) 3 (V.ptr id3 0)) 2 (V.ptr id2 0)) 0 (V.sl k 1 row.length (cInts row)) ∧ (AccV 5 q ((subsUp row q).flatMap cEffN) v ∧ vFresh v (h.setBox id2 [V.int .i64 0, V.int .i64 0, V.int .i64 0, V.int .i64 0, V.snil]) ∧ (addTok v (h.setBox id2 [V.int .i64 0, V.int .i64 0, V.int .i64 0, V.int .i64 0, V.snil])).fresh id3) ∧ hh = (addTok v (h.setBox id2 [V.int .i64 0, V.int .i64 0, V.int .i64 0, V.int .i64 0, V.snil])).setBox id3 [V.int .i64 (row.getD 0 0), V.int .i64 (row.getD 1 0), V.int .i64 (row.getD 2 0), V.int .i64 (row.getD 3 0), v]) (J) ?_ ?_
  · skip
    refine Wk.mk (TLe.put (d := 0) (VLe.refl _) (TLe.put (d := 2) (VLe.refl _) (TLe.put (d := 3) (VLe.refl _) (TLe.put (d := 4) (by exact VLe.of_eq (congrArg (V.int .i64) (by first | rfl | omega))) (TLe.zero _))))) (HLe.refl _) ⟨0, V.snil, Nat.zero_le _, rfl, rfl, ⟨⟨⟨rfl, .inl ⟨rfl, rfl, rfl⟩⟩, trivial, hid3⟩, by rw [Hp.setBox_setBox]; rfl⟩⟩
  · skip
    rintro n T h' ⟨q, v, hq, rfl, rfl, ⟨⟨ha, hf, hfi⟩, rfl⟩⟩
    refine AW.seq ?_
    refine AW.seq ?_
    refine AW.region ?_
    refine AOps.q rfl rfl rfl (q_mv rfl (rfl : _ = V.int _ _)) ?_
    refine AOps.q rfl rfl rfl (q_mv rfl (rfl : _ = V.sl _ _ _ _)) ?_
    refine AOps.q rfl rfl rfl (q_len rfl Tryz.underlying23 rfl) ?_
    refine AOps.q rfl rfl rfl (q_lt rfl rfl rfl) ?_
    refine AOps.nil ?_
    refine AW.cond rfl (fun c0 => ?_) (fun c0 => ?_)
    · have hltq : q < J := by have := of_decide_eq_true c0; omega
      refine AW.skip ?_
      refine AW.seq ?_
      refine AW.block ?_
      refine AW.draw [23, 25] [0, 2, 3, 4, 5, 6, 7, 8, 9, 10, 11, 12, 13, 14, 15, 16, 17, 18, 19, 20] [(0, true), (1, true), (2, true), (3, true), (4, true), (5, true), (6, true), (7, true), (8, true), (9, true), (10, true), (11, true), (12, true), (13, true), (14, true), (15, true), (16, true), (17, true), (18, true), (19, true), (20, true), (21, false), (22, true), (23, false), (24, true), (25, false)] mixed (by kernel_rfl) rfl (by kernel_rfl) ?_
      refine AOrd.p rfl rfl rfl (fun _ => q_fa_b rfl Tryz.underlying99 rfl (by exact Tryz.sizeOf97) (by decide) rfl (rfl : _ = 4)) ?_
      refine AOrd.q rfl rfl rfl rfl (q_load_b1 rfl Tryz.isAgg97 rfl (by exact Hp.box_setBox _ _ _) rfl) ?_
      refine AOrd.p rfl rfl rfl (fun _ => q_mv rfl (rfl : _ = V.sl _ _ _ _)) ?_
      refine AOrd.p rfl rfl rfl (fun _ => q_mv rfl (rfl : _ = V.int _ _)) ?_
      refine AOrd.p rfl rfl rfl (fun _ => q_ia_s rfl Tryz.underlying23 Tryz.sizeOf3 rfl rfl (by omega) (by omega) (cInts_elem (by omega) (by omega))) ?_
      refine AOrd.p rfl rfl rfl (fun _ => q_load_i1 rfl Tryz.isAgg3 rfl rfl) ?_
      refine AOrd.p rfl rfl rfl (fun _ => q_mv rfl (rfl : _ = V.sl _ _ _ _)) ?_
      refine AOrd.p rfl rfl rfl (fun _ => q_mv rfl (rfl : _ = V.int _ _)) ?_
      refine AOrd.p rfl rfl rfl (fun _ => q_add' rfl rfl rfl (by omega)) ?_
      refine AOrd.p rfl rfl rfl (fun _ => q_ia_s rfl Tryz.underlying23 Tryz.sizeOf3 rfl rfl (by omega) (by omega) (cInts_elem (by omega) (by omega))) ?_
      refine AOrd.p rfl rfl rfl (fun _ => q_load_i1 rfl Tryz.isAgg3 rfl rfl) ?_
      refine AOrd.p rfl rfl rfl (fun _ => q_mv rfl (rfl : _ = V.sl _ _ _ _)) ?_
      refine AOrd.p rfl rfl rfl (fun _ => q_mv rfl (rfl : _ = V.int _ _)) ?_
      refine AOrd.p rfl rfl rfl (fun _ => q_add' rfl rfl rfl (by omega)) ?_
      refine AOrd.p rfl rfl rfl (fun _ => q_ia_s rfl Tryz.underlying23 Tryz.sizeOf3 rfl rfl (by omega) (by omega) (cInts_elem (by omega) (by omega))) ?_
      refine AOrd.p rfl rfl rfl (fun _ => q_load_i1 rfl Tryz.isAgg3 rfl rfl) ?_
      refine AOrd.p rfl rfl rfl (fun _ => q_mv rfl (rfl : _ = V.sl _ _ _ _)) ?_
      refine AOrd.p rfl rfl rfl (fun _ => q_mv rfl (rfl : _ = V.int _ _)) ?_
      refine AOrd.p rfl rfl rfl (fun _ => q_add' rfl rfl rfl (by omega)) ?_
      refine AOrd.p rfl rfl rfl (fun _ => q_ia_s rfl Tryz.underlying23 Tryz.sizeOf3 rfl rfl (by omega) (by omega) (cInts_elem (by omega) (by omega))) ?_
      refine AOrd.p rfl rfl rfl (fun _ => q_load_i1 rfl Tryz.isAgg3 rfl rfl) ?_
      refine AOrd.qf rfl rfl rfl (q_buildS (ds := (cEffN (subAt row q))) rfl Tryz.zeroValue99 Tryz.underlying99 (pl99 Tryz.underlying99) rfl (by kernel_rfl)) ?_
      refine AOrd.q rfl rfl rfl rfl (q_buildSl (ds := (cEffN (subAt row q))) rfl Tryz.underlying97 Tryz.sizeOf99 Tryz.zeroValue99 rfl rfl rfl rfl (by kernel_rfl)) ?_
      refine AOrd.s rfl rfl rfl rfl (a_append rfl Tryz.underlying97 (i := Tryz.t99) (by kernel_rfl) rfl (n := 5) (by' := 56) rfl rfl rfl rfl (bx_acc (v := v) (h0 := h.setBox id2 [V.int .i64 0, V.int .i64 0, V.int .i64 0, V.int .i64 0, V.snil]) (id := id3) (bc := [V.int .i64 (row.getD 0 0), V.int .i64 (row.getD 1 0), V.int .i64 (row.getD 2 0), V.int .i64 (row.getD 3 0), v]) ha hf hfi) rfl rfl (by decide) (by show (q + 1) * 56 ≤ _; omega) (by show q + 1 ≤ _; omega) rfl (fun v3 h3 acc => ?_))
      obtain ⟨hb3, hc3, hs3, ha3, hf3, hfi3⟩ := bx_app hid3 acc
      refine AOrd.q rfl rfl rfl rfl (q_fa_b rfl Tryz.underlying99 rfl (by exact Tryz.sizeOf97) (by decide) rfl (rfl : _ = 4)) ?_
      refine AOrd.s0 rfl rfl rfl rfl (a_store1 rfl Tryz.sizeOf97 rfl (by exact hb3) (rfl : _ = v3) hc3.1 hc3.2 (by exact Nat.le_of_ble_eq_true rfl) ?_)
      refine AOrd.nil ?_
      refine AW.region ?_
      refine AOps.q rfl rfl rfl (q_mv rfl (rfl : _ = V.int _ _)) ?_
      refine AOps.q rfl rfl rfl (q_add' rfl rfl rfl (by omega)) ?_
      refine AOps.q rfl rfl rfl (q_as rfl (rfl : _ = V.int _ _)) ?_
      refine AOps.nil ?_
      refine Wk.mk (TLe.put (d := 0) (VLe.refl _) (TLe.put (d := 2) (VLe.refl _) (TLe.put (d := 3) (VLe.refl _) (TLe.put (d := 4) (by exact VLe.of_eq (congrArg (V.int .i64) (by first | rfl | omega))) (TLe.zero _))))) (HLe.refl _) ⟨_, ?_, q + 1, _, ?_, rfl, rfl, ⟨⟨by rw [subs_next]; exact ha3, hf3, hfi3⟩, hs3 _⟩⟩
      · omega
      · omega
    · obtain rfl : q = J := by have := of_decide_eq_false c0; omega
      have n32 : id3 ≠ id2 := (fresh_ne hid3).symm
      refine AW.exit ?_
      refine AW.seq ?_
      refine AW.region ?_
      refine AOps.q rfl rfl rfl (q_load_bW rfl Tryz.isAgg99 Tryz.sizeOf99 (by decide) rfl (by exact Hp.box_setBox _ _ _) (by rfl)) ?_
      refine AOps.s0 rfl rfl (a_storeA rfl Tryz.sizeOf99 rfl (by exact box_under n32 (by rw [addTok_box]; exact Hp.box_setBox _ _ _)) (rfl : _ = V.agg _) rfl (by first | decide | exact Nat.le_of_ble_eq_true rfl) ?_)
      refine AOps.nil ?_
      refine AW.ret ?_
      exact retQ.mk' (Res.cellB Tryz.isAgg99 Tryz.sizeOf99 rfl (by exact Hp.box_setBox _ _ _) rfl) (LLe.agg (.cons (.refl _) (.cons (.refl _) (.cons (.refl _) (.cons (.refl _) (.cons (by rw [effR, ← hJ, subs_len]; exact ha.imm.trans (effs_le _).sl) .nil)))))) (HLe.over (HLe.over ((addTok_le hf).trans (HLe.setBox hid2.1)) (none_of hid3.1)) hid2.1) ⟨rfl, rfl⟩

end Go.Proofs.YtnbmcbkokaoapaaGreatDoor
