/- Walks: copies. -/
import Derived.Test.YtnbmcbkokaoapaaGreatDoorChk4
namespace Go.Proofs.YtnbmcbkokaoapaaGreatDoor
open Go Go.AV
set_option maxRecDepth 100000
set_option maxHeartbeats 400000
/-- A pending ability. -/
structure Pd where
  id : Int
  ab : Int
  ctl : Int
def cPd (x : Pd) : List V := [.int .i64 x.id, .int .i64 x.ab, .int .i64 x.ctl]
def cPds (l : List Pd) : List V := l.flatMap cPd
def cEvs (l : List Ev) : List V := l.flatMap cEv
theorem flat_len {α : Type} {f : α → List V} {n : Nat} (h : ∀ a, (f a).length = n) (l : List α) : (l.flatMap f).length = l.length * n := by
  induction l with
  | nil => simp
  | cons o l ih => simp only [List.flatMap_cons, List.length_append, h, List.length_cons, ih, Nat.add_mul]; omega
theorem cPds_len (l : List Pd) : (cPds l).length = l.length * 3 := flat_len (f := cPd) (n := 3) (fun _ => rfl) l
theorem cEvs_len (l : List Ev) : (cEvs l).length = l.length * 6 := flat_len (f := cEv) (n := 6) (fun _ => rfl) l

theorem cloneI_calls (k : SK) (l : List Int) (hb : l.length ≤ 1000000) (h : Hp) : ACalls Tryz.prog G 29 [.sl k 1 l.length (cInts l)] h fun r h' => r = .sl .imm 1 l.length (cInts l) ∧ h' = h := by
  refine ACalls.enter Tryz.func29 rfl Tryz.ntmps29 Tryz.results29 rfl ?_
  refine AW.seq ?_
  refine AW.region ?_
  refine AOps.q rfl rfl rfl (q_as rfl (rfl : _ = V.snil)) ?_
  refine AOps.nil ?_
  refine AW.seq ?_
  refine AW.seq ?_
  refine AW.region ?_
  refine AOps.q rfl rfl rfl (q_mv rfl (rfl : _ = V.sl _ _ _ _)) ?_
  refine AOps.s rfl rfl rfl (a_eqnil_sl Tryz.underlying23 rfl rfl (fun b hnil => ?_))
  refine AOps.nil ?_
  refine AW.cond rfl (fun c0 => ?_) (fun c0 => ?_)
  · skip
    refine AW.seq ?_
    refine AW.region ?_
    refine AOps.q rfl rfl rfl (q_as rfl (rfl : _ = V.snil)) ?_
    refine AOps.nil ?_
    refine AW.ret ?_
    obtain ⟨e1, e2⟩ := hnil c0
    exact retQ.mk' (.one _) (by rw [e1, e2]; exact VLe.nilimm) (.refl _) ⟨rfl, rfl⟩
  · skip
    refine AW.skip ?_
    refine AW.seq ?_
    refine AW.region ?_
    refine AOps.q rfl rfl rfl (q_buildSl (ds := []) rfl Tryz.underlying23 Tryz.sizeOf3 Tryz.zeroValue3 rfl rfl rfl rfl rfl) ?_
    refine AOps.q rfl rfl rfl (q_mv rfl (rfl : _ = V.sl _ _ _ _)) ?_
    refine AOps.s rfl rfl rfl (a_append rfl Tryz.underlying23 (i := Tryz.t3) (by kernel_rfl) rfl (n := 1) (by' := 8) rfl rfl rfl rfl (Acc.full rfl) rfl (by simp [cInts_len]) (by decide) (by omega) (by omega) rfl (fun v2 h2 acc => ?_))
    refine AOps.q rfl rfl rfl (q_as rfl (rfl : _ = _)) ?_
    refine AOps.nil ?_
    refine AW.ret ?_
    exact retQ.mk' (.one _) (by have := acc.vle; rw [List.nil_append, Nat.zero_add] at this; exact this) acc.hle ⟨rfl, rfl⟩

theorem cloneO_calls (k : SK) (l : List Obj) (hb : l.length ≤ 1000000) (h : Hp) : ACalls Tryz.prog G 49 [.sl k 18 l.length (cObjs l)] h fun r h' => r = .sl .imm 18 l.length (cObjs l) ∧ h' = h := by
  refine ACalls.enter Tryz.func49 rfl Tryz.ntmps49 Tryz.results49 rfl ?_
  refine AW.seq ?_
  refine AW.region ?_
  refine AOps.q rfl rfl rfl (q_as rfl (rfl : _ = V.snil)) ?_
  refine AOps.nil ?_
  refine AW.seq ?_
  refine AW.seq ?_
  refine AW.region ?_
  refine AOps.q rfl rfl rfl (q_mv rfl (rfl : _ = V.sl _ _ _ _)) ?_
  refine AOps.s rfl rfl rfl (a_eqnil_sl Tryz.underlying22 rfl rfl (fun b hnil => ?_))
  refine AOps.nil ?_
  refine AW.cond rfl (fun c0 => ?_) (fun c0 => ?_)
  · skip
    refine AW.seq ?_
    refine AW.region ?_
    refine AOps.q rfl rfl rfl (q_as rfl (rfl : _ = V.snil)) ?_
    refine AOps.nil ?_
    refine AW.ret ?_
    obtain ⟨e1, e2⟩ := hnil c0
    exact retQ.mk' (.one _) (by rw [e1, e2]; exact VLe.nilimm) (.refl _) ⟨rfl, rfl⟩
  · skip
    refine AW.skip ?_
    refine AW.seq ?_
    refine AW.region ?_
    refine AOps.q rfl rfl rfl (q_buildSl (ds := []) rfl Tryz.underlying22 Tryz.sizeOf49 Tryz.zeroValue49 rfl rfl rfl rfl rfl) ?_
    refine AOps.q rfl rfl rfl (q_mv rfl (rfl : _ = V.sl _ _ _ _)) ?_
    refine AOps.s rfl rfl rfl (a_append rfl Tryz.underlying22 (i := Tryz.t49) (by kernel_rfl) rfl (n := 18) (by' := 144) rfl rfl rfl rfl (Acc.full rfl) rfl (by simp [cObjs_len]) (by decide) (by omega) (by omega) rfl (fun v2 h2 acc => ?_))
    refine AOps.q rfl rfl rfl (q_as rfl (rfl : _ = _)) ?_
    refine AOps.nil ?_
    refine AW.ret ?_
    exact retQ.mk' (.one _) (by have := acc.vle; rw [List.nil_append, Nat.zero_add] at this; exact this) acc.hle ⟨rfl, rfl⟩

theorem cloneE_calls (k : SK) (l : List Ev) (hb : l.length ≤ 1000000) (h : Hp) : ACalls Tryz.prog G 68 [.sl k 6 l.length (cEvs l)] h fun r h' => r = .sl .imm 6 l.length (cEvs l) ∧ h' = h := by
  refine ACalls.enter Tryz.func68 rfl Tryz.ntmps68 Tryz.results68 rfl ?_
  refine AW.seq ?_
  refine AW.region ?_
  refine AOps.q rfl rfl rfl (q_as rfl (rfl : _ = V.snil)) ?_
  refine AOps.nil ?_
  refine AW.seq ?_
  refine AW.seq ?_
  refine AW.region ?_
  refine AOps.q rfl rfl rfl (q_mv rfl (rfl : _ = V.sl _ _ _ _)) ?_
  refine AOps.s rfl rfl rfl (a_eqnil_sl Tryz.underlying54 rfl rfl (fun b hnil => ?_))
  refine AOps.nil ?_
  refine AW.cond rfl (fun c0 => ?_) (fun c0 => ?_)
  · skip
    refine AW.seq ?_
    refine AW.region ?_
    refine AOps.q rfl rfl rfl (q_as rfl (rfl : _ = V.snil)) ?_
    refine AOps.nil ?_
    refine AW.ret ?_
    obtain ⟨e1, e2⟩ := hnil c0
    exact retQ.mk' (.one _) (by rw [e1, e2]; exact VLe.nilimm) (.refl _) ⟨rfl, rfl⟩
  · skip
    refine AW.skip ?_
    refine AW.seq ?_
    refine AW.region ?_
    refine AOps.q rfl rfl rfl (q_buildSl (ds := []) rfl Tryz.underlying54 Tryz.sizeOf84 Tryz.zeroValue84 rfl rfl rfl rfl rfl) ?_
    refine AOps.q rfl rfl rfl (q_mv rfl (rfl : _ = V.sl _ _ _ _)) ?_
    refine AOps.s rfl rfl rfl (a_append rfl Tryz.underlying54 (i := Tryz.t84) (by kernel_rfl) rfl (n := 6) (by' := 48) rfl rfl rfl rfl (Acc.full rfl) rfl (by simp [cEvs_len]) (by decide) (by omega) (by omega) rfl (fun v2 h2 acc => ?_))
    refine AOps.q rfl rfl rfl (q_as rfl (rfl : _ = _)) ?_
    refine AOps.nil ?_
    refine AW.ret ?_
    exact retQ.mk' (.one _) (by have := acc.vle; rw [List.nil_append, Nat.zero_add] at this; exact this) acc.hle ⟨rfl, rfl⟩

theorem cloneP_calls (k : SK) (l : List Pd) (hb : l.length ≤ 1000000) (h : Hp) : ACalls Tryz.prog G 69 [.sl k 3 l.length (cPds l)] h fun r h' => r = .sl .imm 3 l.length (cPds l) ∧ h' = h := by
  refine ACalls.enter Tryz.func69 rfl Tryz.ntmps69 Tryz.results69 rfl ?_
  refine AW.seq ?_
  refine AW.region ?_
  refine AOps.q rfl rfl rfl (q_as rfl (rfl : _ = V.snil)) ?_
  refine AOps.nil ?_
  refine AW.seq ?_
  refine AW.seq ?_
  refine AW.region ?_
  refine AOps.q rfl rfl rfl (q_mv rfl (rfl : _ = V.sl _ _ _ _)) ?_
  refine AOps.s rfl rfl rfl (a_eqnil_sl Tryz.underlying55 rfl rfl (fun b hnil => ?_))
  refine AOps.nil ?_
  refine AW.cond rfl (fun c0 => ?_) (fun c0 => ?_)
  · skip
    refine AW.seq ?_
    refine AW.region ?_
    refine AOps.q rfl rfl rfl (q_as rfl (rfl : _ = V.snil)) ?_
    refine AOps.nil ?_
    refine AW.ret ?_
    obtain ⟨e1, e2⟩ := hnil c0
    exact retQ.mk' (.one _) (by rw [e1, e2]; exact VLe.nilimm) (.refl _) ⟨rfl, rfl⟩
  · skip
    refine AW.skip ?_
    refine AW.seq ?_
    refine AW.region ?_
    refine AOps.q rfl rfl rfl (q_buildSl (ds := []) rfl Tryz.underlying55 Tryz.sizeOf77 Tryz.zeroValue77 rfl rfl rfl rfl rfl) ?_
    refine AOps.q rfl rfl rfl (q_mv rfl (rfl : _ = V.sl _ _ _ _)) ?_
    refine AOps.s rfl rfl rfl (a_append rfl Tryz.underlying55 (i := Tryz.t77) (by kernel_rfl) rfl (n := 3) (by' := 24) rfl rfl rfl rfl (Acc.full rfl) rfl (by simp [cPds_len]) (by decide) (by omega) (by omega) rfl (fun v2 h2 acc => ?_))
    refine AOps.q rfl rfl rfl (q_as rfl (rfl : _ = _)) ?_
    refine AOps.nil ?_
    refine AW.ret ?_
    exact retQ.mk' (.one _) (by have := acc.vle; rw [List.nil_append, Nat.zero_add] at this; exact this) acc.hle ⟨rfl, rfl⟩

theorem list_again {s : St} {i : Nat} (h : i < 11) : splice (cState s) (1 + (i : Int).toNat * 1) [eInts (s.lists i)] = cState s := by
  match i, h with
  | 0, _ | 1, _ | 2, _ | 3, _ | 4, _ | 5, _ | 6, _ | 7, _ | 8, _ | 9, _ | 10, _ => rfl
theorem listp_ix {s : St} {i : Nat} (h : i < 11) : (cState s)[1 + (i : Int).toNat * 1]? = some (eInts (s.lists i)) := by
  match i, h with
  | 0, _ | 1, _ | 2, _ | 3, _ | 4, _ | 5, _ | 6, _ | 7, _ | 8, _ | 9, _ | 10, _ => rfl

theorem copy_calls (s : St) (hb : s.objs.length ≤ 1000000) (hl : ∀ z, (s.lists z).length ≤ 1000000) (h : Hp) : ACalls Tryz.prog G 28 [eState s] h fun r h' => r = eState s ∧ h' = h := by
  refine ACalls.enter Tryz.func28 rfl Tryz.ntmps28 Tryz.results28 rfl ?_
  refine AW.seq ?_
  refine AW.region ?_
  refine AOps.s rfl rfl rfl (a_boxa rfl (rfl : _ = V.agg _) (fun id1 hid1 => ?_))
  refine AOps.s rfl rfl rfl (a_alloc rfl Tryz.zeroValue29 rfl (fun id2 hid2 => ?_))
  refine AOps.nil ?_
  refine AW.seq ?_
  have ne : id1 ≠ id2 := Hp.ne_of_box (Hp.box_setBox _ _ _) hid2.1
  have f2 : h.fresh id2 := ⟨by have := hid2.1; rwa [Hp.box_setBox_ne _ _ ne.symm] at this, hid2.2⟩
  have f1 := fresh_setBox (cs := zState) hid1 ne
  rw [Hp.setBox_comm _ _ _ ne]
  refine AW.region ?_
  refine AOps.q rfl rfl rfl (q_fa_b rfl Tryz.underlying29 rfl (by exact Tryz.sizeOf22) (by decide) rfl (rfl : _ = 0)) ?_
  refine AOps.q rfl rfl rfl (q_load_b1 rfl Tryz.isAgg22 rfl (by exact Hp.box_setBox _ _ _) rfl) ?_
  refine AOps.q rfl rfl rfl (QOp.call rfl (by exact Tryz.call49) fun h' hl' => by exact cloneO_calls _ _ (by assumption) h') ?_
  refine AOps.q rfl rfl rfl (q_fa_b rfl Tryz.underlying29 rfl (by exact Tryz.sizeOf22) (by decide) rfl (rfl : _ = 0)) ?_
  refine AOps.s0 rfl rfl (a_store1 rfl Tryz.sizeOf22 rfl (by exact Hp.box_setBox _ _ _) (rfl : _ = V.sl _ _ _ _) rfl rfl (by exact Nat.le_of_ble_eq_true rfl) ?_)
  rw [Hp.setBox_setBox]
  show AOps _ _ _ _ _ _ _ ((h.setBox id2 zState).setBox id1 (cState s))
  refine AOps.nil ?_
  refine AW.seq ?_
  refine AW.seq ?_
  refine AW.region ?_
  refine AOps.q rfl rfl rfl (q_mv rfl (rfl : _ = V.int _ _)) ?_
  refine AOps.nil ?_
  refine AW.block ?_
  refine AW.loop (fun n T hh => ∃ (i : Nat) , i ≤ 11 ∧ n = 11 - i ∧ T = put (put (put (T0) 8 (V.int .i64 (i : Nat))) 2 (V.ptr id2 0)) 1 (V.ptr id1 0) ∧ hh = (h.setBox id2 zState).setBox id1 (cState s)) (11) ?_ ?_
  · skip
    refine Wk.mk (TLe.put (d := 1) (VLe.refl _) (TLe.put (d := 2) (VLe.refl _) (TLe.put (d := 8) (by exact VLe.of_eq (congrArg (V.int .i64) (by first | rfl | omega))) (TLe.zero _)))) (HLe.refl _) ⟨0, Nat.zero_le _, rfl, rfl, rfl⟩
  · skip
    rintro n T h' ⟨i, hi, rfl, rfl, rfl⟩
    refine AW.seq ?_
    refine AW.region ?_
    refine AOps.q rfl rfl rfl (q_lt rfl rfl rfl) ?_
    refine AOps.nil ?_
    refine AW.seq ?_
    refine AW.cond rfl (fun c0 => ?_) (fun c0 => ?_)
    · have hlt : i < 11 := by have := of_decide_eq_true c0; omega
      have hli := hl i
      refine AW.skip ?_
      refine AW.seq ?_
      refine AW.block ?_
      refine AW.seq ?_
      refine AW.region ?_
      refine AOps.q rfl rfl rfl (q_mv rfl (rfl : _ = V.int _ _)) ?_
      refine AOps.q rfl rfl rfl (q_as rfl (rfl : _ = V.int _ _)) ?_
      refine AOps.nil ?_
      refine AW.region ?_
      refine AOps.q rfl rfl rfl (q_mv rfl (rfl : _ = V.int _ _)) ?_
      refine AOps.q rfl rfl rfl (q_mv rfl (rfl : _ = V.int _ _)) ?_
      refine AOps.q rfl rfl rfl (q_fa_b rfl Tryz.underlying29 rfl (by exact Tryz.sizeOf24) (by decide) rfl (rfl : _ = 1)) ?_
      refine AOps.q rfl rfl rfl (q_ia_ab rfl Tryz.underlying24 Tryz.sizeOf23 rfl rfl (by omega) (by omega)) ?_
      refine AOps.q rfl rfl rfl (q_load_b1 rfl Tryz.isAgg23 rfl (by exact Hp.box_setBox _ _ _) (listp_ix hlt)) ?_
      refine AOps.q rfl rfl rfl (QOp.call rfl (by exact Tryz.call29) fun h' hl' => by exact cloneI_calls _ _ (by assumption) h') ?_
      refine AOps.q rfl rfl rfl (q_fa_b rfl Tryz.underlying29 rfl (by exact Tryz.sizeOf24) (by decide) rfl (rfl : _ = 1)) ?_
      refine AOps.q rfl rfl rfl (q_ia_ab rfl Tryz.underlying24 Tryz.sizeOf23 rfl rfl (by omega) (by omega)) ?_
      refine AOps.s0 rfl rfl (a_store1 rfl Tryz.sizeOf23 rfl (by exact Hp.box_setBox _ _ _) (rfl : _ = V.sl _ _ _ _) rfl rfl (by first | decide | exact Nat.le_of_ble_eq_true rfl | (simp only [cState, List.length_cons, List.length_nil]; omega)) ?_)
      refine AOps.nil ?_
      refine AW.region ?_
      refine AOps.q rfl rfl rfl (q_add' rfl rfl rfl (by omega)) ?_
      refine AOps.q rfl rfl rfl (q_mv rfl (rfl : _ = V.int _ _)) ?_
      refine AOps.nil ?_
      refine Wk.mk (TLe.put (d := 1) (VLe.refl _) (TLe.put (d := 2) (VLe.refl _) (TLe.put (d := 8) (by exact VLe.of_eq (congrArg (V.int .i64) (by first | rfl | omega))) (TLe.zero _)))) (HLe.refl _) ⟨_, ?_, i + 1, ?_, rfl, rfl, by rw [Hp.setBox_setBox, list_again hlt]⟩
      · omega
      · omega
    · obtain rfl : i = 11 := by have := of_decide_eq_false c0; omega
      refine AW.exit ?_
      refine AW.seq ?_
      refine AW.done 1 rfl f1 ?_
      refine AW.region ?_
      refine AOps.q rfl rfl rfl (q_load_iW rfl Tryz.isAgg29 Tryz.sizeOf29 rfl (by rfl)) ?_
      refine AOps.s0 rfl rfl (a_storeWA rfl Tryz.sizeOf29 rfl rfl (rfl : _ = V.agg _) rfl rfl ?_)
      refine AOps.nil ?_
      refine AW.ret ?_
      exact retQ.mk' (Res.cellB Tryz.isAgg29 Tryz.sizeOf29 rfl (by exact Hp.box_setBox _ _ _) rfl) (VLe.refl _) (HLe.setBox f2.1) ⟨rfl, rfl⟩

end Go.Proofs.YtnbmcbkokaoapaaGreatDoor
