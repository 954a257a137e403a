/- Walks: the bounds of a state's numbers. -/
import Derived.Test.YtnbmcbkokaoapaaGreatDoorWalk1
namespace Go.Proofs.YtnbmcbkokaoapaaGreatDoor
open Go Go.AV
set_option maxRecDepth 100000
set_option maxHeartbeats 400000

theorem pl29 {fs : Array Field} (h : Tryz.prog.underlying 29 = some (.struct fs)) (w : World) : (fs.mapM fun f => do pure (f.offset, ← sizeOf f.type) : Sem (Array (Nat × Nat))).run Tryz.prog w = .ok #[(0, 1), (1, 11), (12, 18), (30, 7)] w := by
  rw [Tryz.underlying29] at h; cases h
  simp [Array.mapM_eq_mapM_toList, List.mapM_cons, Tryz.sizeOf22, Tryz.sizeOf24, Tryz.sizeOf26, Tryz.sizeOf27]
theorem pl57 {fs : Array Field} (h : Tryz.prog.underlying 57 = some (.struct fs)) (w : World) : (fs.mapM fun f => do pure (f.offset, ← sizeOf f.type) : Sem (Array (Nat × Nat))).run Tryz.prog w = .ok #[(0, 37), (37, 1), (38, 1), (39, 1), (40, 1)] w := by
  rw [Tryz.underlying57] at h; cases h
  simp [Array.mapM_eq_mapM_toList, List.mapM_cons, Tryz.sizeOf23, Tryz.sizeOf29, Tryz.sizeOf38, Tryz.sizeOf54, Tryz.sizeOf55]
theorem pl64 {fs : Array Field} (h : Tryz.prog.underlying 64 = some (.struct fs)) (w : World) : (fs.mapM fun f => do pure (f.offset, ← sizeOf f.type) : Sem (Array (Nat × Nat))).run Tryz.prog w = .ok #[(0, 1), (1, 1), (2, 1)] w := by
  rw [Tryz.underlying64] at h; cases h
  simp [Array.mapM_eq_mapM_toList, List.mapM_cons, Tryz.sizeOf3]
theorem pl70 {fs : Array Field} (h : Tryz.prog.underlying 70 = some (.struct fs)) (w : World) : (fs.mapM fun f => do pure (f.offset, ← sizeOf f.type) : Sem (Array (Nat × Nat))).run Tryz.prog w = .ok #[(0, 37), (37, 1), (38, 1), (39, 1), (40, 1)] w := by
  rw [Tryz.underlying70] at h; cases h
  simp [Array.mapM_eq_mapM_toList, List.mapM_cons, Tryz.sizeOf3, Tryz.sizeOf23, Tryz.sizeOf29, Tryz.sizeOf54, Tryz.sizeOf68]
theorem pl77 {fs : Array Field} (h : Tryz.prog.underlying 77 = some (.struct fs)) (w : World) : (fs.mapM fun f => do pure (f.offset, ← sizeOf f.type) : Sem (Array (Nat × Nat))).run Tryz.prog w = .ok #[(0, 1), (1, 1), (2, 1)] w := by
  rw [Tryz.underlying77] at h; cases h
  simp [Array.mapM_eq_mapM_toList, List.mapM_cons, Tryz.sizeOf3]
theorem pl78 {fs : Array Field} (h : Tryz.prog.underlying 78 = some (.struct fs)) (w : World) : (fs.mapM fun f => do pure (f.offset, ← sizeOf f.type) : Sem (Array (Nat × Nat))).run Tryz.prog w = .ok #[(0, 1), (1, 1), (2, 1)] w := by
  rw [Tryz.underlying78] at h; cases h
  simp [Array.mapM_eq_mapM_toList, List.mapM_cons, Tryz.sizeOf3]
theorem pl84 {fs : Array Field} (h : Tryz.prog.underlying 84 = some (.struct fs)) (w : World) : (fs.mapM fun f => do pure (f.offset, ← sizeOf f.type) : Sem (Array (Nat × Nat))).run Tryz.prog w = .ok #[(0, 1), (1, 1), (2, 1), (3, 1), (4, 1), (5, 1)] w := by
  rw [Tryz.underlying84] at h; cases h
  simp [Array.mapM_eq_mapM_toList, List.mapM_cons, Tryz.sizeOf3]
theorem pl92 {fs : Array Field} (h : Tryz.prog.underlying 92 = some (.struct fs)) (w : World) : (fs.mapM fun f => do pure (f.offset, ← sizeOf f.type) : Sem (Array (Nat × Nat))).run Tryz.prog w = .ok #[(0, 1), (1, 1), (2, 1), (3, 6), (9, 1), (10, 1), (11, 1), (12, 1)] w := by
  rw [Tryz.underlying92] at h; cases h
  simp [Array.mapM_eq_mapM_toList, List.mapM_cons, Tryz.sizeOf3, Tryz.sizeOf4, Tryz.sizeOf89, Tryz.sizeOf90]
theorem pl99 {fs : Array Field} (h : Tryz.prog.underlying 99 = some (.struct fs)) (w : World) : (fs.mapM fun f => do pure (f.offset, ← sizeOf f.type) : Sem (Array (Nat × Nat))).run Tryz.prog w = .ok #[(0, 1), (1, 1), (2, 1), (3, 1), (4, 1)] w := by
  rw [Tryz.underlying99] at h; cases h
  simp [Array.mapM_eq_mapM_toList, List.mapM_cons, Tryz.sizeOf3, Tryz.sizeOf97]
theorem pl101 {fs : Array Field} (h : Tryz.prog.underlying 101 = some (.struct fs)) (w : World) : (fs.mapM fun f => do pure (f.offset, ← sizeOf f.type) : Sem (Array (Nat × Nat))).run Tryz.prog w = .ok #[(0, 1), (1, 5)] w := by
  rw [Tryz.underlying101] at h; cases h
  simp [Array.mapM_eq_mapM_toList, List.mapM_cons, Tryz.sizeOf3, Tryz.sizeOf99]
theorem pl104 {fs : Array Field} (h : Tryz.prog.underlying 104 = some (.struct fs)) (w : World) : (fs.mapM fun f => do pure (f.offset, ← sizeOf f.type) : Sem (Array (Nat × Nat))).run Tryz.prog w = .ok #[(0, 1), (1, 1), (2, 1)] w := by
  rw [Tryz.underlying104] at h; cases h
  simp [Array.mapM_eq_mapM_toList, List.mapM_cons, Tryz.sizeOf3]
theorem pl113 {fs : Array Field} (h : Tryz.prog.underlying 113 = some (.struct fs)) (w : World) : (fs.mapM fun f => do pure (f.offset, ← sizeOf f.type) : Sem (Array (Nat × Nat))).run Tryz.prog w = .ok #[(0, 1), (1, 1)] w := by
  rw [Tryz.underlying113] at h; cases h
  simp [Array.mapM_eq_mapM_toList, List.mapM_cons, Tryz.sizeOf3]
theorem pl136 {fs : Array Field} (h : Tryz.prog.underlying 136 = some (.struct fs)) (w : World) : (fs.mapM fun f => do pure (f.offset, ← sizeOf f.type) : Sem (Array (Nat × Nat))).run Tryz.prog w = .ok #[(0, 1), (1, 6), (7, 1), (8, 1), (9, 5)] w := by
  rw [Tryz.underlying136] at h; cases h
  simp [Array.mapM_eq_mapM_toList, List.mapM_cons, Tryz.sizeOf3, Tryz.sizeOf4, Tryz.sizeOf89, Tryz.sizeOf99]
theorem pl162 {fs : Array Field} (h : Tryz.prog.underlying 162 = some (.struct fs)) (w : World) : (fs.mapM fun f => do pure (f.offset, ← sizeOf f.type) : Sem (Array (Nat × Nat))).run Tryz.prog w = .ok #[(0, 1), (1, 1), (2, 1), (3, 5)] w := by
  rw [Tryz.underlying162] at h; cases h
  simp [Array.mapM_eq_mapM_toList, List.mapM_cons, Tryz.sizeOf3, Tryz.sizeOf99]

/-- Bounds, by field. -/
def oLo (m : Int) : Nat → Int | 8 => -1073741824 | 9 => -1073741824 | 16 => -2 | _ => 0
def oHi (m : Int) : Nat → Int | 0 => 119 | 1 => 1 | 2 => 1 | 3 => 10 | 4 => 1 | 5 => 1 | 6 => 1073741824 | 7 => 1073741824 | 8 => 1073741824 | 9 => 1073741824 | 10 => 255 | 11 => 1 | 12 => m | 13 => 2 | 14 => 3 | 15 => m | 16 => m | _ => 3
def pLo : Nat → Int | 0 => -1073741824 | _ => 0
def pHi : Nat → Int | 0 => 1073741824 | 7 => 1 | 8 => 1 | _ => 1000
def gHi : Nat → Int | 0 => 1073741824 | 1 => 1 | 2 => 7 | 3 => 1 | 4 => 1 | 5 => 4096 | _ => 3
def bnds (lo hi : Nat → Int) : Nat → Nat → List V
  | _, 0 => []
  | k, n + 1 => .int .i64 (lo k) :: .int .i64 (hi k) :: bnds lo hi (k + 1) n
theorem bnds_len (lo hi : Nat → Int) : ∀ n k, (bnds lo hi k n).length = n * 2
  | 0, _ => rfl
  | n + 1, k => by simp [bnds, bnds_len lo hi n (k + 1)]; omega
theorem bnds_ix (lo hi : Nat → Int) : ∀ n k i, i < n → ((bnds lo hi k n).drop (i * 2)).take 2 = [.int .i64 (lo (k + i)), .int .i64 (hi (k + i))]
  | 0, _, _, h => by omega
  | n + 1, k, 0, _ => by simp [bnds]
  | n + 1, k, i + 1, h => by
    have := bnds_ix lo hi n (k + 1) i (by omega)
    rw [show (i + 1) * 2 = i * 2 + 1 + 1 by omega]
    simp only [bnds, List.drop_succ_cons]
    rw [this, show k + 1 + i = k + (i + 1) by omega]

theorem objects_calls (m : Int) (h : Hp) : ACalls Tryz.prog G 70 [.int .i64 m] h fun r h' => r = .agg (bnds (oLo m) (oHi m) 0 18) ∧ h' = h := by
  refine ACalls.enter Tryz.func70 rfl Tryz.ntmps70 Tryz.results70 rfl ?_
  refine AW.seq ?_
  refine AW.region ?_
  refine AOps.s rfl rfl rfl (a_alloc rfl Tryz.zeroValue114 rfl (fun id2 hid2 => ?_))
  refine AOps.nil ?_
  refine AW.seq ?_
  refine AW.region ?_
  refine AOps.q rfl rfl rfl (q_buildS rfl Tryz.zeroValue113 Tryz.underlying113 (pl113 Tryz.underlying113) rfl rfl) ?_
  refine AOps.s rfl rfl rfl (a_alloc rfl Tryz.zeroValue113 rfl (fun id3 hid3 => ?_))
  refine AOps.s0 rfl rfl (a_storeWA rfl Tryz.sizeOf113 rfl rfl (rfl : _ = V.agg _) rfl rfl ?_)
  refine AOps.done 3 rfl hid3 ?_
  refine AOps.nil ?_
  refine AW.seq ?_
  refine AW.region ?_
  refine AOps.q rfl rfl rfl (q_buildS rfl Tryz.zeroValue113 Tryz.underlying113 (pl113 Tryz.underlying113) rfl rfl) ?_
  refine AOps.q rfl rfl rfl (q_load_iW rfl Tryz.isAgg113 Tryz.sizeOf113 rfl (by rfl)) ?_
  refine AOps.q rfl rfl rfl (q_load_iW rfl Tryz.isAgg113 Tryz.sizeOf113 rfl (by rfl)) ?_
  refine AOps.q rfl rfl rfl (q_buildS rfl Tryz.zeroValue113 Tryz.underlying113 (pl113 Tryz.underlying113) rfl rfl) ?_
  refine AOps.q rfl rfl rfl (q_load_iW rfl Tryz.isAgg113 Tryz.sizeOf113 rfl (by rfl)) ?_
  refine AOps.q rfl rfl rfl (q_load_iW rfl Tryz.isAgg113 Tryz.sizeOf113 rfl (by rfl)) ?_
  refine AOps.q rfl rfl rfl (q_load_iW rfl Tryz.isAgg113 Tryz.sizeOf113 rfl (by rfl)) ?_
  refine AOps.q rfl rfl rfl (q_load_iW rfl Tryz.isAgg113 Tryz.sizeOf113 rfl (by rfl)) ?_
  refine AOps.q rfl rfl rfl (q_load_iW rfl Tryz.isAgg113 Tryz.sizeOf113 rfl (by rfl)) ?_
  refine AOps.q rfl rfl rfl (q_load_iW rfl Tryz.isAgg113 Tryz.sizeOf113 rfl (by rfl)) ?_
  refine AOps.q rfl rfl rfl (q_buildS rfl Tryz.zeroValue113 Tryz.underlying113 (pl113 Tryz.underlying113) rfl rfl) ?_
  refine AOps.q rfl rfl rfl (q_load_iW rfl Tryz.isAgg113 Tryz.sizeOf113 rfl (by rfl)) ?_
  refine AOps.q rfl rfl rfl (q_mv rfl (rfl : _ = V.int _ _)) ?_
  refine AOps.q rfl rfl rfl (q_buildS rfl Tryz.zeroValue113 Tryz.underlying113 (pl113 Tryz.underlying113) rfl rfl) ?_
  refine AOps.q rfl rfl rfl (q_buildS rfl Tryz.zeroValue113 Tryz.underlying113 (pl113 Tryz.underlying113) rfl rfl) ?_
  refine AOps.q rfl rfl rfl (q_buildS rfl Tryz.zeroValue113 Tryz.underlying113 (pl113 Tryz.underlying113) rfl rfl) ?_
  refine AOps.q rfl rfl rfl (q_mv rfl (rfl : _ = V.int _ _)) ?_
  refine AOps.q rfl rfl rfl (q_buildS rfl Tryz.zeroValue113 Tryz.underlying113 (pl113 Tryz.underlying113) rfl rfl) ?_
  refine AOps.q rfl rfl rfl (q_mv rfl (rfl : _ = V.int _ _)) ?_
  refine AOps.q rfl rfl rfl (q_buildS rfl Tryz.zeroValue113 Tryz.underlying113 (pl113 Tryz.underlying113) rfl rfl) ?_
  refine AOps.q rfl rfl rfl (q_buildS rfl Tryz.zeroValue113 Tryz.underlying113 (pl113 Tryz.underlying113) rfl rfl) ?_
  refine AOps.q rfl rfl rfl (q_buildA (ds := bnds (oLo m) (oHi m) 0 18) rfl Tryz.zeroValue114 Tryz.underlying114 Tryz.sizeOf113 rfl (by kernel_rfl)) ?_
  refine AOps.s0 rfl rfl (a_storeWA rfl Tryz.sizeOf114 rfl rfl (rfl : _ = V.agg _) rfl rfl ?_)
  refine AOps.nil ?_
  refine AW.ret ?_
  exact retQ.mk' (Res.cellB Tryz.isAgg114 Tryz.sizeOf114 rfl (by exact Hp.box_setBox _ _ _) rfl) (VLe.refl _) (HLe.setBox hid2.1) ⟨rfl, rfl⟩

theorem fill_step {i : Nat} (h : i < 9) : splice (bnds (fun _ => 0) (fun j => if j < i then 1000 else 0) 0 9) (0 + (i : Int).toNat * 2) [.int .i64 0, .int .i64 1000] = bnds (fun _ => 0) (fun j => if j < i + 1 then 1000 else 0) 0 9 := by
  match i, h with
  | 0, _ | 1, _ | 2, _ | 3, _ | 4, _ | 5, _ | 6, _ | 7, _ | 8, _ => rfl

theorem players_calls (h : Hp) : ACalls Tryz.prog G 72 [] h fun r h' => r = .agg (bnds pLo pHi 0 9) ∧ h' = h := by
  refine ACalls.enter Tryz.func72 rfl Tryz.ntmps72 Tryz.results72 rfl ?_
  refine AW.seq ?_
  refine AW.region ?_
  refine AOps.s rfl rfl rfl (a_alloc rfl Tryz.zeroValue117 rfl (fun id0 hid0 => ?_))
  refine AOps.nil ?_
  refine AW.seq ?_
  refine AW.region ?_
  refine AOps.s rfl rfl rfl (a_alloc rfl Tryz.zeroValue117 rfl (fun id1 hid1 => ?_))
  refine AOps.nil ?_
  refine AW.seq ?_
  refine AW.seq ?_
  refine AW.region ?_
  refine AOps.q rfl rfl rfl (q_mv rfl (rfl : _ = V.int _ _)) ?_
  refine AOps.nil ?_
  refine AW.block ?_
  refine AW.loop (fun n T hh => ∃ (i : Nat) , i ≤ 9 ∧ n = 9 - i ∧ T = put (put (put (T0) 3 (V.int .i64 (i : Nat))) 1 (V.ptr id1 0)) 0 (V.ptr id0 0) ∧ hh = (h.setBox id0 (bnds (fun _ => 0) (fun _ => 0) 0 9)).setBox id1 (bnds (fun _ => 0) (fun j => if j < i then 1000 else 0) 0 9)) (9) ?_ ?_
  · skip
    refine Wk.mk (TLe.put (d := 0) (VLe.refl _) (TLe.put (d := 1) (VLe.refl _) (TLe.put (d := 3) (by exact VLe.of_eq (congrArg (V.int .i64) (by first | rfl | omega))) (TLe.zero _)))) (HLe.refl _) ⟨0, Nat.zero_le _, rfl, rfl, rfl⟩
  · skip
    rintro n T h' ⟨i, hi, rfl, rfl, rfl⟩
    refine AW.seq ?_
    refine AW.region ?_
    refine AOps.q rfl rfl rfl (q_lt rfl rfl rfl) ?_
    refine AOps.nil ?_
    refine AW.seq ?_
    refine AW.cond rfl (fun c0 => ?_) (fun c0 => ?_)
    · have hlt : i < 9 := by have := of_decide_eq_true c0; omega
      refine AW.skip ?_
      refine AW.seq ?_
      refine AW.block ?_
      refine AW.seq ?_
      refine AW.region ?_
      refine AOps.q rfl rfl rfl (q_mv rfl (rfl : _ = V.int _ _)) ?_
      refine AOps.q rfl rfl rfl (q_as rfl (rfl : _ = V.int _ _)) ?_
      refine AOps.nil ?_
      refine AW.region ?_
      refine AOps.q rfl rfl rfl (q_mv rfl (rfl : _ = V.int _ _)) ?_
      refine AOps.q rfl rfl rfl (q_buildS rfl Tryz.zeroValue113 Tryz.underlying113 (pl113 Tryz.underlying113) rfl rfl) ?_
      refine AOps.q rfl rfl rfl (q_ia_ab rfl Tryz.underlying117 Tryz.sizeOf113 rfl rfl (by omega) (by omega)) ?_
      refine AOps.s0 rfl rfl (a_storeA rfl Tryz.sizeOf113 rfl (by exact Hp.box_setBox _ _ _) (rfl : _ = V.agg _) rfl (by first | decide | exact Nat.le_of_ble_eq_true rfl | (simp only [bnds_len]; omega)) ?_)
      refine AOps.nil ?_
      refine AW.region ?_
      refine AOps.q rfl rfl rfl (q_add' rfl rfl rfl (by omega)) ?_
      refine AOps.q rfl rfl rfl (q_mv rfl (rfl : _ = V.int _ _)) ?_
      refine AOps.nil ?_
      refine Wk.mk (TLe.put (d := 0) (VLe.refl _) (TLe.put (d := 1) (VLe.refl _) (TLe.put (d := 3) (by exact VLe.of_eq (congrArg (V.int .i64) (by first | rfl | omega))) (TLe.zero _)))) (HLe.refl _) ⟨_, ?_, i + 1, ?_, rfl, rfl, by rw [Hp.setBox_setBox]; congr 1; exact fill_step (by omega)⟩
      · omega
      · omega
    · obtain rfl : i = 9 := by have := of_decide_eq_false c0; omega
      refine AW.exit ?_
      refine AW.seq ?_
      refine AW.draw [4, 6, 8] [1, 2] [(0, true), (1, true), (2, true), (3, true), (4, false), (5, true), (6, false), (7, true), (8, false)] mixed (by kernel_rfl) rfl (by kernel_rfl) ?_
      refine AOrd.q rfl rfl rfl rfl (q_load_iW rfl Tryz.isAgg113 Tryz.sizeOf113 rfl (by rfl)) ?_
      refine AOrd.p rfl rfl rfl (fun _ => q_load_iW rfl Tryz.isAgg113 Tryz.sizeOf113 rfl (by rfl)) ?_
      refine AOrd.p rfl rfl rfl (fun _ => q_load_iW rfl Tryz.isAgg113 Tryz.sizeOf113 rfl (by rfl)) ?_
      refine AOrd.q rfl rfl rfl rfl (q_ia_ab rfl Tryz.underlying117 Tryz.sizeOf113 rfl rfl (by decide) (by decide)) ?_
      refine AOrd.s0 rfl rfl rfl rfl (a_storeA rfl Tryz.sizeOf113 rfl (by exact Hp.box_setBox _ _ _) (rfl : _ = V.agg _) rfl (by first | decide | exact Nat.le_of_ble_eq_true rfl | (simp only [bnds_len]; omega)) ?_)
      refine AOrd.q rfl rfl rfl rfl (q_ia_ab rfl Tryz.underlying117 Tryz.sizeOf113 rfl rfl (by decide) (by decide)) ?_
      refine AOrd.s0 rfl rfl rfl rfl (a_storeA rfl Tryz.sizeOf113 rfl (by exact Hp.box_setBox _ _ _) (rfl : _ = V.agg _) rfl (by first | decide | exact Nat.le_of_ble_eq_true rfl | (simp only [bnds_len]; omega)) ?_)
      refine AOrd.q rfl rfl rfl rfl (q_ia_ab rfl Tryz.underlying117 Tryz.sizeOf113 rfl rfl (by decide) (by decide)) ?_
      refine AOrd.s0 rfl rfl rfl rfl (a_storeA rfl Tryz.sizeOf113 rfl (by exact Hp.box_setBox _ _ _) (rfl : _ = V.agg _) rfl (by first | decide | exact Nat.le_of_ble_eq_true rfl | (simp only [bnds_len]; omega)) ?_)
      refine AOrd.nil ?_
      refine AW.seq ?_
      rw [Hp.setBox_setBox, Hp.setBox_setBox, Hp.setBox_setBox]
      refine AW.done 1 rfl hid1 ?_
      refine AW.region ?_
      refine AOps.q rfl rfl rfl (q_load_iW rfl Tryz.isAgg117 Tryz.sizeOf117 rfl (by rfl)) ?_
      refine AOps.s0 rfl rfl (a_storeWA rfl Tryz.sizeOf117 rfl rfl (rfl : _ = V.agg _) rfl rfl ?_)
      refine AOps.nil ?_
      refine AW.ret ?_
      exact retQ.mk' (Res.cellB Tryz.isAgg117 Tryz.sizeOf117 rfl (by exact Hp.box_setBox _ _ _) rfl) (VLe.refl _) (HLe.setBox hid0.1) ⟨rfl, rfl⟩

theorem game_calls (h : Hp) : ACalls Tryz.prog G 73 [] h fun r h' => r = .agg (bnds (fun _ => 0) gHi 0 7) ∧ h' = h := by
  refine ACalls.enter Tryz.func73 rfl Tryz.ntmps73 Tryz.results73 rfl ?_
  refine AW.seq ?_
  refine AW.region ?_
  refine AOps.s rfl rfl rfl (a_alloc rfl Tryz.zeroValue119 rfl (fun id0 hid0 => ?_))
  refine AOps.nil ?_
  refine AW.seq ?_
  refine AW.region ?_
  refine AOps.q rfl rfl rfl (q_buildS rfl Tryz.zeroValue113 Tryz.underlying113 (pl113 Tryz.underlying113) rfl rfl) ?_
  refine AOps.q rfl rfl rfl (q_load_iW rfl Tryz.isAgg113 Tryz.sizeOf113 rfl (by rfl)) ?_
  refine AOps.q rfl rfl rfl (q_buildS rfl Tryz.zeroValue113 Tryz.underlying113 (pl113 Tryz.underlying113) rfl rfl) ?_
  refine AOps.q rfl rfl rfl (q_load_iW rfl Tryz.isAgg113 Tryz.sizeOf113 rfl (by rfl)) ?_
  refine AOps.q rfl rfl rfl (q_load_iW rfl Tryz.isAgg113 Tryz.sizeOf113 rfl (by rfl)) ?_
  refine AOps.q rfl rfl rfl (q_buildS rfl Tryz.zeroValue113 Tryz.underlying113 (pl113 Tryz.underlying113) rfl rfl) ?_
  refine AOps.q rfl rfl rfl (q_buildS rfl Tryz.zeroValue113 Tryz.underlying113 (pl113 Tryz.underlying113) rfl rfl) ?_
  refine AOps.q rfl rfl rfl (q_buildA (ds := bnds (fun _ => 0) gHi 0 7) rfl Tryz.zeroValue119 Tryz.underlying119 Tryz.sizeOf113 rfl (by kernel_rfl)) ?_
  refine AOps.s0 rfl rfl (a_storeWA rfl Tryz.sizeOf119 rfl rfl (rfl : _ = V.agg _) rfl rfl ?_)
  refine AOps.nil ?_
  refine AW.ret ?_
  exact retQ.mk' (Res.cellB Tryz.isAgg119 Tryz.sizeOf119 rfl (by exact Hp.box_setBox _ _ _) rfl) (VLe.refl _) (HLe.setBox hid0.1) ⟨rfl, rfl⟩

end Go.Proofs.YtnbmcbkokaoapaaGreatDoor
