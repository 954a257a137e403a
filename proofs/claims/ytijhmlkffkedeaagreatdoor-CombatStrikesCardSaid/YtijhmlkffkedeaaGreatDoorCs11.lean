/- Walks: a state's copy, and an event that is applied, by the document. -/
import Derived.Test.YtijhmlkffkedeaaGreatDoorCs10
namespace Go.Proofs.YtijhmlkffkedeaaGreatDoor
open Go Go.AV Go.Proofs.Tryz
set_option maxRecDepth 100000
set_option maxHeartbeats 1000000
/-- A state's cells, the first one being another. -/
def stX (x : V) (s : St) : List V := x :: (cState s).drop 1
theorem stX_again {x : V} {s : St} {i : Nat} (h : i < 11) : splice (stX x s) (1 + (i : Int).toNat * 1) [eInts (s.lists i)] = stX x s := by
  match i, h with
  | 0, _ | 1, _ | 2, _ | 3, _ | 4, _ | 5, _ | 6, _ | 7, _ | 8, _ | 9, _ | 10, _ => rfl
theorem stX_at {x : V} {s : St} {i : Nat} (h : i < 11) : (stX x s)[1 + (i : Int).toNat * 1]? = some (eInts (s.lists i)) := by
  match i, h with
  | 0, _ | 1, _ | 2, _ | 3, _ | 4, _ | 5, _ | 6, _ | 7, _ | 8, _ | 9, _ | 10, _ => rfl
theorem stX_list_ix {x : V} {s : St} {i : Int} (h0 : 0 ≤ i) (h1 : i < 11) : (stX x s)[1 + i.toNat * 1]? = some (eInts (s.lists i.toNat)) := by
  obtain ⟨n, rfl⟩ := Int.eq_ofNat_of_zero_le h0
  exact stX_at (by omega)
theorem stX_list_set {x : V} {s : St} {i : Int} {l : List Int} (h0 : 0 ≤ i) (h1 : i < 11) : splice (stX x s) (1 + i.toNat * 1) [eInts l] = stX x ⟨s.objs, upd s.lists i.toNat l, s.pl, s.game⟩ := by
  obtain ⟨n, rfl⟩ := Int.eq_ofNat_of_zero_le h0
  match n, h1 with
  | 0, _ | 1, _ | 2, _ | 3, _ | 4, _ | 5, _ | 6, _ | 7, _ | 8, _ | 9, _ | 10, _ => rfl
theorem fresh3 {h : Hp} {i j k : Nat} {a b : List V} (f2 : h.fresh j) (f1 : (h.setBox j a).fresh i) (fk : ((h.setBox j a).setBox i b).fresh k) : h.fresh k ∧ i ≠ k ∧ j ≠ k := by
  have g1 := fresh_ne fk
  have g2 := (fresh_pair (d := []) f1 fk).1
  exact ⟨(fresh_pair (d := []) f2 g2).1, g1, fresh_ne g2⟩
theorem fresh_up {h : Hp} {i j : Nat} {c : List V} (f : h.fresh i) (n : i ≠ j) : (h.setBox j c).fresh i := fresh_setBox f n

theorem numCopy_calls (s : St) (hb : s.objs.length ≤ 1000000) (hl : ∀ z, (s.lists z).length ≤ 1000000) (h : Hp) : ACalls prog G 47 [eState s] h fun r h' => r = eState s ∧ h' = h := by
  refine ACalls.enter func47 rfl ntmps47 results47 rfl ?_
  refine .seq <|
    .region ?_
  refine AOps.s rfl rfl rfl (a_boxa rfl (rfl : _ = V.agg _) (fun id1 hid1 => ?_))
  refine AOps.s rfl rfl rfl (a_alloc rfl zeroValue29 rfl (fun id2 hid2 => ?_))
  refine .nil <|
    .seq ?_
  have ne : id1 ≠ id2 := Hp.ne_of_box (Hp.box_setBox _ _ _) hid2.1
  have f2 : h.fresh id2 := ⟨by have := hid2.1; rwa [Hp.box_setBox_ne _ _ ne.symm] at this, hid2.2⟩
  have f1 := fresh_setBox (cs := zState) hid1 ne
  rw [Hp.setBox_comm _ _ _ ne]
  refine .region ?_
  refine .u rfl rfl rfl (q_buildSl (ds := []) rfl underlying22 sizeOf58 zeroValue58 rfl rfl rfl rfl rfl) ?_
  refine .fb rfl f29_0 rfl rfl <|
    .lb rfl isAgg22 rfl rfl ?_
  refine AOps.s rfl rfl rfl (a_append rfl underlying22 (i := t58) (by kernel_rfl) rfl (n := 18) (by' := 144) rfl rfl rfl rfl (Go.AV.Acc.full rfl) rfl (by simp [cObjs_len]) (by decide) (by omega) (by omega) rfl (fun v2 h2 acc => ?_))
  rw [List.nil_append, Nat.zero_add] at acc
  refine AOps.wkn (T' := put _ 7 (eObjs s.objs)) (TLe.put (d := 7) acc.vle (TLe.refl _)) acc.hle ?_
  refine .fb rfl f29_0 rfl rfl ?_
  refine AOps.s0 rfl rfl (a_store1 rfl sizeOf22 rfl (by exact bsb) (rfl : _ = V.sl _ _ _ _) rfl rfl (by exact Nat.le_of_ble_eq_true rfl) ?_)
  rw [Hp.setBox_setBox]
  show AOps _ _ _ _ _ _ _ ((h.setBox id2 zState).setBox id1 (stX (eObjs s.objs) s))
  refine .nil <|
    .seq <|
    .seq <|
    .region <|
    .mI rfl rfl <|
    .nil <|
    .block ?_
  refine AW.loop (fun n T hh => ∃ (i : Nat) , i ≤ 11 ∧ n = 11 - i ∧ T = put (put (put (T0) 9 (V.int .i64 (i : Nat))) 2 (V.ptr id2 0)) 1 (V.ptr id1 0) ∧ hh = (h.setBox id2 zState).setBox id1 (stX (eObjs s.objs) s)) (11) ?_ ?_
  · skip
    refine Wk.mk (TLe.put (d := 1) (VLe.refl _) (TLe.put (d := 2) (VLe.refl _) (TLe.put (d := 9) (by exact VLe.of_eq (congrArg (V.int .i64) (by first | rfl | omega))) (TLe.zero _)))) (HLe.refl _) ⟨0, Nat.zero_le _, rfl, rfl, rfl⟩
  · skip
    rintro n T h' ⟨i, hi, rfl, rfl, rfl⟩
    refine .seq <|
      .region <|
      .ql rfl rfl rfl <|
      .nil <|
      .seq ?_
    refine AW.cond rfl (fun c0 => ?_) (fun c0 => ?_)
    · have hlt : i < 11 := by have := of_decide_eq_true c0; omega
      have hli := hl i
      refine AW.skip ?_
      refine .seq <|
        .block <|
        .seq <|
        .region <|
        .mI rfl rfl <|
        .aI rfl rfl <|
        .nil <|
        .region <|
        .mI rfl rfl ?_
      refine .u rfl rfl rfl (q_buildSl (ds := []) rfl underlying23 sizeOf3 zeroValue3 rfl rfl rfl rfl rfl) ?_
      refine .mI rfl rfl <|
        .fb rfl f29_1 rfl rfl ?_
      refine .u rfl rfl rfl (q_ia_ab rfl underlying24 sizeOf23 rfl rfl (by omega) (by omega)) ?_
      refine .u rfl rfl rfl (q_load_b1 rfl isAgg23 rfl (by exact bsb) (stX_at hlt)) ?_
      refine AOps.s rfl rfl rfl (a_append rfl underlying23 (i := t3) (by kernel_rfl) rfl (n := 1) (by' := 8) rfl rfl rfl rfl (Go.AV.Acc.full rfl) rfl (by simp [cInts_len]) (by decide) (by omega) (by omega) rfl (fun v2 h2 acc => ?_))
      rw [List.nil_append, Nat.zero_add] at acc
      refine AOps.wkn (T' := put _ 18 (eInts (s.lists i))) (TLe.put (d := 18) acc.vle (TLe.refl _)) acc.hle ?_
      refine .fb rfl f29_1 rfl rfl ?_
      refine .u rfl rfl rfl (q_ia_ab rfl underlying24 sizeOf23 rfl rfl (by omega) (by omega)) ?_
      refine AOps.s0 rfl rfl (a_store1 rfl sizeOf23 rfl (by exact bsb) (rfl : _ = V.sl _ _ _ _) rfl rfl (by first | decide | exact Nat.le_of_ble_eq_true rfl | (simp only [stX, cState, List.drop_succ_cons, List.drop_zero, List.length_cons, List.length_nil]; omega)) ?_)
      refine .nil <|
        .region <|
        .ad rfl rfl rfl (by omega) <|
        .mI rfl rfl <|
        .nil ?_
      refine Wk.mk (TLe.put (d := 1) (VLe.refl _) (TLe.put (d := 2) (VLe.refl _) (TLe.put (d := 9) (by exact VLe.of_eq (congrArg (V.int .i64) (by first | rfl | omega))) (TLe.zero _)))) (HLe.refl _) ⟨_, ?_, i + 1, ?_, rfl, rfl, by rw [Hp.setBox_setBox, stX_again hlt]⟩
      · omega
      · omega
    · obtain rfl : i = 11 := by have := of_decide_eq_false c0; omega
      refine AW.exit ?_
      refine .seq ?_
      refine AW.done 1 rfl f1 ?_
      refine .region <|
        .lw rfl isAgg29 sizeOf29 rfl rfl <|
        .sw sizeOf29 rfl rfl rfl rfl <|
        .nil ?_
      refine AW.ret ?_
      exact retQ.mk' (Res.cellB isAgg29 sizeOf29 rfl (by exact bsb) rfl) (VLe.refl _) (HLe.setBox f2.1) ⟨rfl, rfl⟩

theorem numCopyM_calls (s : St) (hb : s.objs.length ≤ 1000000) (hn : 0 < s.objs.length) (hl : ∀ z, (s.lists z).length ≤ 1000000) (h : Hp) : ACalls prog G 47 [eState s] h fun r h' => ∃ idc slack, h.fresh idc ∧ r = .agg (stX (.msl idc 0 s.objs.length) s) ∧ h' = h.setBox idc (cObjs s.objs ++ slack) := by
  refine ACalls.enter func47 rfl ntmps47 results47 rfl ?_
  refine .seq <|
    .region ?_
  refine AOps.s rfl rfl rfl (a_boxa rfl (rfl : _ = V.agg _) (fun id1 hid1 => ?_))
  refine AOps.s rfl rfl rfl (a_alloc rfl zeroValue29 rfl (fun id2 hid2 => ?_))
  refine .nil <|
    .seq ?_
  have ne : id1 ≠ id2 := Hp.ne_of_box (Hp.box_setBox _ _ _) hid2.1
  have f2 : h.fresh id2 := ⟨by have := hid2.1; rwa [Hp.box_setBox_ne _ _ ne.symm] at this, hid2.2⟩
  have f1 := fresh_setBox (cs := zState) hid1 ne
  rw [Hp.setBox_comm _ _ _ ne]
  refine .region ?_
  refine .u rfl rfl rfl (q_buildSl (ds := []) rfl underlying22 sizeOf58 zeroValue58 rfl rfl rfl rfl rfl) ?_
  refine .fb rfl f29_0 rfl rfl <|
    .lb rfl isAgg22 rfl rfl ?_
  refine AOps.s rfl rfl rfl (a_append_box rfl underlying22 (i := t58) (by kernel_rfl) rfl (n := 18) (by' := 144) rfl rfl rfl rfl rfl (by simp [cObjs_len]) hn (by decide) (by omega) (by omega) rfl (fun idc hidc slack => ?_))
  obtain ⟨fc1, fc2, fc3⟩ := fresh3 f2 f1 hidc
  refine AOps.hp (h' := ((h.setBox idc (cObjs s.objs ++ slack)).setBox id2 zState).setBox id1 (cState s)) (by rw [Hp.setBox_comm _ _ _ fc2, Hp.setBox_comm h _ _ fc3]; rfl) ?_
  have g2 : (h.setBox idc (cObjs s.objs ++ slack)).fresh id2 := fresh_up f2 fc3
  have g1 : ((h.setBox idc (cObjs s.objs ++ slack)).setBox id2 zState).fresh id1 := fresh_up (fresh_up hid1 fc2) ne
  refine .fb rfl f29_0 rfl rfl ?_
  refine AOps.s0 rfl rfl (a_store1 rfl sizeOf22 rfl (by exact bsb) (rfl : _ = V.msl _ _ _) rfl rfl (by exact Nat.le_of_ble_eq_true rfl) ?_)
  rw [Hp.setBox_setBox]
  show AOps _ _ _ _ _ _ _ (((h.setBox idc (cObjs s.objs ++ slack)).setBox id2 zState).setBox id1 (stX (.msl idc 0 s.objs.length) s))
  refine .nil <|
    .seq <|
    .seq <|
    .region <|
    .mI rfl rfl <|
    .nil <|
    .block ?_
  refine AW.loop (fun n T hh => ∃ (i : Nat) , i ≤ 11 ∧ n = 11 - i ∧ T = put (put (put (T0) 9 (V.int .i64 (i : Nat))) 2 (V.ptr id2 0)) 1 (V.ptr id1 0) ∧ hh = ((h.setBox idc (cObjs s.objs ++ slack)).setBox id2 zState).setBox id1 (stX (.msl idc 0 s.objs.length) s)) (11) ?_ ?_
  · skip
    refine Wk.mk (TLe.put (d := 1) (VLe.refl _) (TLe.put (d := 2) (VLe.refl _) (TLe.put (d := 9) (by exact VLe.of_eq (congrArg (V.int .i64) (by first | rfl | omega))) (TLe.zero _)))) (HLe.refl _) ⟨0, Nat.zero_le _, rfl, rfl, rfl⟩
  · skip
    rintro n T h' ⟨i, hi, rfl, rfl, rfl⟩
    refine .seq <|
      .region <|
      .ql rfl rfl rfl <|
      .nil <|
      .seq ?_
    refine AW.cond rfl (fun c0 => ?_) (fun c0 => ?_)
    · have hlt : i < 11 := by have := of_decide_eq_true c0; omega
      have hli := hl i
      refine AW.skip ?_
      refine .seq <|
        .block <|
        .seq <|
        .region <|
        .mI rfl rfl <|
        .aI rfl rfl <|
        .nil <|
        .region <|
        .mI rfl rfl ?_
      refine .u rfl rfl rfl (q_buildSl (ds := []) rfl underlying23 sizeOf3 zeroValue3 rfl rfl rfl rfl rfl) ?_
      refine .mI rfl rfl <|
        .fb rfl f29_1 rfl rfl ?_
      refine .u rfl rfl rfl (q_ia_ab rfl underlying24 sizeOf23 rfl rfl (by omega) (by omega)) ?_
      refine .u rfl rfl rfl (q_load_b1 rfl isAgg23 rfl (by exact bsb) (stX_at hlt)) ?_
      refine AOps.s rfl rfl rfl (a_append rfl underlying23 (i := t3) (by kernel_rfl) rfl (n := 1) (by' := 8) rfl rfl rfl rfl (Go.AV.Acc.full rfl) rfl (by simp [cInts_len]) (by decide) (by omega) (by omega) rfl (fun v2 h2 acc => ?_))
      rw [List.nil_append, Nat.zero_add] at acc
      refine AOps.wkn (T' := put _ 18 (eInts (s.lists i))) (TLe.put (d := 18) acc.vle (TLe.refl _)) acc.hle ?_
      refine .fb rfl f29_1 rfl rfl ?_
      refine .u rfl rfl rfl (q_ia_ab rfl underlying24 sizeOf23 rfl rfl (by omega) (by omega)) ?_
      refine AOps.s0 rfl rfl (a_store1 rfl sizeOf23 rfl (by exact bsb) (rfl : _ = V.sl _ _ _ _) rfl rfl (by first | decide | exact Nat.le_of_ble_eq_true rfl | (simp only [stX, cState, List.drop_succ_cons, List.drop_zero, List.length_cons, List.length_nil]; omega)) ?_)
      refine .nil <|
        .region <|
        .ad rfl rfl rfl (by omega) <|
        .mI rfl rfl <|
        .nil ?_
      refine Wk.mk (TLe.put (d := 1) (VLe.refl _) (TLe.put (d := 2) (VLe.refl _) (TLe.put (d := 9) (by exact VLe.of_eq (congrArg (V.int .i64) (by first | rfl | omega))) (TLe.zero _)))) (HLe.refl _) ⟨_, ?_, i + 1, ?_, rfl, rfl, by rw [Hp.setBox_setBox, stX_again hlt]⟩
      · omega
      · omega
    · obtain rfl : i = 11 := by have := of_decide_eq_false c0; omega
      refine AW.exit ?_
      refine .seq ?_
      refine AW.done 1 rfl g1 ?_
      refine .region <|
        .lw rfl isAgg29 sizeOf29 rfl rfl <|
        .sw sizeOf29 rfl rfl rfl rfl <|
        .nil ?_
      refine AW.ret ?_
      exact retQ.mk' (Res.cellB isAgg29 sizeOf29 rfl (by exact bsb) rfl) (VLe.refl _) (HLe.setBox g2.1) ⟨idc, slack, fc1, rfl, rfl⟩

/-- The state behind an event that is applied. -/
def appSt (s : St) (x : Ev) : St := if (evDo s x).2 = 0 then (evDo s x).1 else noSt
theorem app_err {s : St} {x : Ev} {n : Int} (h : (evDo s x).2 = n) (hn : n ≠ 0) : VLe (.tup [.agg zState, .int .i64 n]) (.tup [eState (appSt s x), .int .i64 (evDo s x).2]) := by
  rw [appSt, h, if_neg hn]; exact LLe.tup (.cons zState_le.agg (.cons (.refl _) .nil))
theorem app_ok {s s' : St} {x : Ev} (h : evDo s x = (s', 0)) : VLe (.tup [eState s', .int .i64 0]) (.tup [eState (appSt s x), .int .i64 (evDo s x).2]) := by
  rw [appSt, h, if_pos rfl]; exact .refl _
theorem rm_bits {l : List Int} {c a : Int} (h0 : 0 ≤ c) : (bif decide ((l.length : Int) ≤ c) then true else l.getD c.toNat 0 != a) = (bif (removeF l c).2.2 != 0 then true else (removeF l c).2.1 != a) := by
  unfold removeF
  by_cases h : (l.length : Int) ≤ c
  · have : inN c l.length = false := by simp [inN]; omega
    simp [h, this]
  · have : inN c l.length = true := by simp [inN]; omega
    simp [h, this]
theorem rm_in {l : List Int} {c a : Int} (h0 : 0 ≤ c) (h : (bif decide ((l.length : Int) ≤ c) then true else l.getD c.toNat 0 != a) = false) : 0 ≤ c ∧ c < l.length := by
  by_cases g : (l.length : Int) ≤ c
  · simp [g] at h
  · omega
theorem ge_no {a b : Int} (h : (!decide (b ≤ a)) = true) (ha : 0 ≤ a) : 0 ≤ a ∧ a < b := ⟨ha, by simpa using h⟩
theorem ins_long {l : List Int} {e a : Int} (h : (l.length : Int) < e) : (insertF l e a).2 = 1 := by
  rw [insertF, if_neg (by simp [inN]; omega)]
theorem ins_fits {l : List Int} {e a : Int} (h0 : 0 ≤ e) (h : ¬ (l.length : Int) < e) : (insertF l e a).2 = 0 := by
  rw [insertF, if_pos (by simp [inN]; omega)]
theorem upd_to {f : Nat → List Int} {b d : Int} {l : List Int} (hb : 0 ≤ b) (hd : 0 ≤ d) : upd f b.toNat l d.toNat = if d = b then l else f d.toNat := by
  unfold upd
  by_cases e : d = b
  · subst e; simp
  · rw [if_neg (by omega), if_neg e]
theorem swap_out {h : Hp} {i j : Nat} {a b c : List V} (n : i ≠ j) : ((h.setBox i a).setBox j b).setBox i c = (h.setBox j b).setBox i c := by
  rw [Hp.setBox_comm _ _ _ n, Hp.setBox_setBox]
theorem over3 {h : Hp} {i j k : Nat} {a b c d : List V} (fi : h.fresh i) (fj : h.fresh j) (fk : h.fresh k) : HLe ((((h.setBox i a).setBox j b).setBox k c).setBox i d) h :=
  HLe.over (HLe.over (HLe.over (HLe.setBox fi.1) fj.1) fk.1) fi.1
theorem over2 {h : Hp} {i k : Nat} {a c d : List V} (fi : h.fresh i) (fk : h.fresh k) : HLe (((h.setBox i a).setBox k c).setBox i d) h :=
  HLe.over (HLe.over (HLe.setBox fi.1) fk.1) fi.1
theorem stX_pl_ix {x : V} {s : St} {p i : Int} (hp0 : 0 ≤ p) (hp1 : p < 2) (h0 : 0 ≤ i) (h1 : i < 9) : (stX x s)[12 + p.toNat * 9 + i.toNat * 1]? = some (.int .i64 (s.pl p.toNat i.toNat)) := by
  obtain ⟨n, rfl⟩ := Int.eq_ofNat_of_zero_le h0
  obtain ⟨m, rfl⟩ := Int.eq_ofNat_of_zero_le hp0
  match m, hp1, n, h1 with
  | 0, _, 0, _ | 0, _, 1, _ | 0, _, 2, _ | 0, _, 3, _ | 0, _, 4, _ | 0, _, 5, _ | 0, _, 6, _ | 0, _, 7, _ | 0, _, 8, _ => rfl
  | 1, _, 0, _ | 1, _, 1, _ | 1, _, 2, _ | 1, _, 3, _ | 1, _, 4, _ | 1, _, 5, _ | 1, _, 6, _ | 1, _, 7, _ | 1, _, 8, _ => rfl
theorem stC_pl_set {s : St} {p i v : Int} (hp0 : 0 ≤ p) (hp1 : p < 2) (h0 : 0 ≤ i) (h1 : i < 9) : splice (cState s) (12 + p.toNat * 9 + i.toNat * 1) [.int .i64 v] = cState ⟨s.objs, s.lists, upd s.pl p.toNat (upd (s.pl p.toNat) i.toNat v), s.game⟩ := by
  obtain ⟨n, rfl⟩ := Int.eq_ofNat_of_zero_le h0
  obtain ⟨m, rfl⟩ := Int.eq_ofNat_of_zero_le hp0
  match m, hp1, n, h1 with
  | 0, _, 0, _ | 0, _, 1, _ | 0, _, 2, _ | 0, _, 3, _ | 0, _, 4, _ | 0, _, 5, _ | 0, _, 6, _ | 0, _, 7, _ | 0, _, 8, _ => rfl
  | 1, _, 0, _ | 1, _, 1, _ | 1, _, 2, _ | 1, _, 3, _ | 1, _, 4, _ | 1, _, 5, _ | 1, _, 6, _ | 1, _, 7, _ | 1, _, 8, _ => rfl
theorem stC_game_ix {s : St} {i : Int} (h0 : 0 ≤ i) (h1 : i < 7) : (cState s)[30 + i.toNat * 1]? = some (.int .i64 (s.game i.toNat)) := by
  obtain ⟨n, rfl⟩ := Int.eq_ofNat_of_zero_le h0
  match n, h1 with
  | 0, _ | 1, _ | 2, _ | 3, _ | 4, _ | 5, _ | 6, _ => rfl
theorem stC_game_set {s : St} {i v : Int} (h0 : 0 ≤ i) (h1 : i < 7) : splice (cState s) (30 + i.toNat * 1) [.int .i64 v] = cState ⟨s.objs, s.lists, s.pl, upd s.game i.toNat v⟩ := by
  obtain ⟨n, rfl⟩ := Int.eq_ofNat_of_zero_le h0
  match n, h1 with
  | 0, _ | 1, _ | 2, _ | 3, _ | 4, _ | 5, _ | 6, _ => rfl

theorem refApplyI (s : St) (x : Ev) (hk : x.k ≠ 0 ∧ x.k ≠ 5) (hI : evCheck x = 0 → x.k = 1 ∨ x.k = 2 → (s.objs.length : Int) ≤ x.a) (hb : s.objs.length ≤ 1000000) (hl : ∀ z, (s.lists z).length ≤ 1000000) (h : Hp) : ACalls prog G 118 [eState s, eEv x] h fun r h' => r = .tup [eState (appSt s x), .int .i64 (evDo s x).2] ∧ h' = h := by
  refine ACalls.enter func118 rfl ntmps118 results118 rfl ?_
  refine .seq <|
    .region <|
    .bx rfl rfl <|
    .bx rfl rfl ?_
  refine AOps.s rfl rfl rfl (a_alloc rfl zeroValue29 rfl (fun id4 hid4 => ?_))
  refine .aI rfl rfl <|
    .nil <|
    .seq <|
    .seq <|
    .region <|
    .lw rfl isAgg129 sizeOf129 rfl rfl ?_
  refine .u rfl rfl rfl (QOp.call rfl call90 fun h' hl' => by exact refEv_calls x h') ?_
  refine .aI rfl rfl <|
    .nil <|
    .seq <|
    .region <|
    .mI rfl rfl <|
    .qn rfl rfl rfl <|
    .nil ?_
  refine AW.cond rfl (fun c0 => ?_) (fun c0 => ?_)
  · skip
    refine .seq <|
      .region ?_
    refine .u rfl rfl rfl (q_buildS rfl zeroValue29 underlying29 (pl29 underlying29) rfl rfl) ?_
    refine .mI rfl rfl <|
      .sw sizeOf29 rfl rfl rfl rfl <|
      .aI rfl rfl <|
      .nil ?_
    refine AW.ret ?_
    exact retQ.mk' (Res.cellB1 isAgg29 sizeOf29 rfl (by exact bsb) rfl) (app_err (n := evCheck x) (by rw [do_bad (by simpa using c0)]) (by simpa using c0)) (HLe.setBox hid4.1) ⟨rfl, rfl⟩
  · have hc : evCheck x = 0 := by simpa using c0
    have ok := evCheck_ok hc
    refine AW.skip ?_
    refine .seq <|
      .region <|
      .lw rfl isAgg29 sizeOf29 rfl rfl ?_
    refine .u rfl rfl rfl (QOp.call rfl call47 fun h' hl' => by exact numCopy_calls s hb hl h') ?_
    refine AOps.s rfl rfl rfl (a_alloc rfl zeroValue29 rfl (fun id7 hid7 => ?_))
    refine .sw sizeOf29 rfl rfl rfl rfl <|
      .nil <|
      .seq ?_
    have ne47 : id4 ≠ id7 := Hp.ne_of_box (Hp.box_setBox _ _ _) hid7.1
    have f7 : h.fresh id7 := (fresh_pair (d := []) hid4 hid7).1
    refine .region <|
      .fb rfl f29_0 rfl rfl <|
      .lb rfl isAgg22 rfl rfl <|
      .ln rfl underlying22 rfl <|
      .aI rfl rfl <|
      .nil ?_
    refine AW.cut (fun T h1 => ∃ s', evDo s x = (s', 0) ∧ T = put (put T0 4 (V.ptr id4 0)) 7 (V.ptr id7 0) ∧ h1 = (h.setBox id4 zState).setBox id7 (cState s')) ?_ ?_
    · skip
      refine .seq <|
        .region <|
        .fi rfl f129_0 rfl <|
        .li rfl isAgg3 rfl rfl <|
        .nil <|
        .block <|
        .seq <|
        .region <|
        .qe rfl rfl rfl <|
        .aB rfl rfl <|
        .nil ?_
      refine AW.cond rfl (fun c1 => ?_) (fun c1 => ?_)
      · exact absurd (by simpa using c1) hk.1
      · skip
        refine .seq <|
          .region <|
          .qe rfl rfl rfl <|
          .aB rfl rfl <|
          .nil ?_
        refine AW.cond rfl (fun c2 => ?_) (fun c2 => ?_)
        · exact absurd (by simpa using c2) hk.2
        · skip
          refine .seq <|
            .region <|
            .qe rfl rfl rfl <|
            .aB rfl rfl <|
            .nil ?_
          refine AW.cond rfl (fun c3 => ?_) (fun c3 => ?_)
          · have e1 : x.k = 1 := by simpa using c3
            have hn := hI hc (.inl e1)
            refine .seq <|
              .seq <|
              .region <|
              .fi rfl f129_1 rfl <|
              .li rfl isAgg3 rfl rfl <|
              .mI rfl rfl <|
              .qg rfl rfl rfl <|
              .nil ?_
            refine AW.cond rfl (fun c4 => ?_) (fun c4 => ?_)
            · skip
              refine .seq <|
                .region ?_
              refine .u rfl rfl rfl (q_buildS rfl zeroValue29 underlying29 (pl29 underlying29) rfl rfl) ?_
              refine AOps.s0 rfl rfl (a_storeA rfl sizeOf29 rfl (by exact (Hp.box_setBox_ne _ _ ne47).trans (Hp.box_setBox _ _ _)) (rfl : _ = V.agg _) rfl (by first | decide | exact Nat.le_of_ble_eq_true rfl) ?_)
              refine .aI rfl rfl <|
                .nil ?_
              refine AW.ret ?_
              exact retQ.mk' (Res.cellB1 isAgg29 sizeOf29 rfl (by exact bsb) rfl) (app_err (n := 4) (by rw [do_1 hc e1, moveF, if_pos hn]) (by decide)) (over2 hid4 f7) ⟨rfl, rfl⟩
            · exact absurd hn (by simpa using c4)
          · skip
            refine .seq <|
              .region <|
              .qe rfl rfl rfl <|
              .aB rfl rfl <|
              .nil ?_
            refine AW.cond rfl (fun c5 => ?_) (fun c5 => ?_)
            · have e2 : x.k = 2 := by simpa using c5
              have hn := hI hc (.inr e2)
              refine .seq <|
                .seq <|
                .region <|
                .fi rfl f129_1 rfl <|
                .li rfl isAgg3 rfl rfl <|
                .mI rfl rfl <|
                .qg rfl rfl rfl <|
                .nil ?_
              refine AW.cond rfl (fun c6 => ?_) (fun c6 => ?_)
              · skip
                refine .seq <|
                  .region ?_
                refine .u rfl rfl rfl (q_buildS rfl zeroValue29 underlying29 (pl29 underlying29) rfl rfl) ?_
                refine AOps.s0 rfl rfl (a_storeA rfl sizeOf29 rfl (by exact (Hp.box_setBox_ne _ _ ne47).trans (Hp.box_setBox _ _ _)) (rfl : _ = V.agg _) rfl (by first | decide | exact Nat.le_of_ble_eq_true rfl) ?_)
                refine .aI rfl rfl <|
                  .nil ?_
                refine AW.ret ?_
                exact retQ.mk' (Res.cellB1 isAgg29 sizeOf29 rfl (by exact bsb) rfl) (app_err (n := 4) (by rw [do_2 hc e2, if_pos hn]) (by decide)) (over2 hid4 f7) ⟨rfl, rfl⟩
              · exact absurd hn (by simpa using c6)
            · skip
              refine .seq <|
                .region <|
                .qe rfl rfl rfl <|
                .aB rfl rfl <|
                .nil ?_
              refine AW.cond rfl (fun c7 => ?_) (fun c7 => ?_)
              · have e3 : x.k = 3 := by simpa using c7
                obtain ⟨h1, h2, h3, h4⟩ := ok.2.2.2.1 e3
                have hp : 0 ≤ x.a ∧ x.a < 2 ∧ 0 ≤ x.b ∧ x.b < 9 := ⟨h1, h2, h3, h4⟩
                refine .seq <|
                  .seq ?_
                refine AW.draw [] [] [(0, true), (1, true), (2, true), (3, true), (4, true), (5, true), (6, true), (7, true), (8, true), (9, true), (10, true)] mixed (by kernel_rfl) rfl (by kernel_rfl) ?_
                refine .q rfl rfl rfl rfl (q_fa_i rfl underlying129 rfl (by exact sizeOf3) (by decide) rfl (rfl : _ = List.drop 1 _)) ?_
                refine .q rfl rfl rfl rfl (q_load_i1 rfl isAgg3 rfl rfl) ?_
                refine .q rfl rfl rfl rfl (q_fa_i rfl underlying129 rfl (by exact sizeOf3) (by decide) rfl (rfl : _ = List.drop 2 _)) ?_
                refine .q rfl rfl rfl rfl (q_load_i1 rfl isAgg3 rfl rfl) ?_
                refine .q rfl rfl rfl rfl (q_fa_b rfl underlying29 rfl (by exact sizeOf26) (by decide) rfl (rfl : _ = 12)) ?_
                refine .q rfl rfl rfl rfl (q_ia_ab rfl underlying26 sizeOf25 rfl rfl (by omega) (by omega)) ?_
                refine .q rfl rfl rfl rfl (q_ia_ab rfl underlying25 sizeOf3 rfl rfl (by omega) (by omega)) ?_
                refine .q rfl rfl rfl rfl (q_load_b1 rfl isAgg3 rfl (by exact bsb) (stX_pl_ix hp.1 hp.2.1 hp.2.2.1 hp.2.2.2)) ?_
                refine .q rfl rfl rfl rfl (q_fa_i rfl underlying129 rfl (by exact sizeOf3) (by decide) rfl (rfl : _ = List.drop 3 _)) ?_
                refine .q rfl rfl rfl rfl (q_load_i1 rfl isAgg3 rfl rfl) ?_
                refine .q rfl rfl rfl rfl (q_ne rfl rfl rfl) ?_
                refine AOrd.nil ?_
                refine AW.cond rfl (fun c8 => ?_) (fun c8 => ?_)
                · skip
                  refine .seq <|
                    .region ?_
                  refine .u rfl rfl rfl (q_buildS rfl zeroValue29 underlying29 (pl29 underlying29) rfl rfl) ?_
                  refine AOps.s0 rfl rfl (a_storeA rfl sizeOf29 rfl (by exact (Hp.box_setBox_ne _ _ ne47).trans (Hp.box_setBox _ _ _)) (rfl : _ = V.agg _) rfl (by first | decide | exact Nat.le_of_ble_eq_true rfl) ?_)
                  refine .aI rfl rfl <|
                    .nil ?_
                  refine AW.ret ?_
                  exact retQ.mk' (Res.cellB1 isAgg29 sizeOf29 rfl (by exact bsb) rfl) (app_err (n := 20) (by rw [do_3 hc e3, if_pos (by simpa using c8)]) (by decide)) (over2 hid4 f7) ⟨rfl, rfl⟩
                · skip
                  refine AW.skip ?_
                  refine AW.draw [9] [6, 7] [(0, true), (1, true), (2, true), (3, true), (4, true), (5, true), (6, true), (7, true), (8, true), (9, false)] mixed (by kernel_rfl) rfl (by kernel_rfl) ?_
                  refine .q rfl rfl rfl rfl (q_fa_i rfl underlying129 rfl (by exact sizeOf3) (by decide) rfl (rfl : _ = List.drop 1 _)) ?_
                  refine .q rfl rfl rfl rfl (q_load_i1 rfl isAgg3 rfl rfl) ?_
                  refine .q rfl rfl rfl rfl (q_fa_i rfl underlying129 rfl (by exact sizeOf3) (by decide) rfl (rfl : _ = List.drop 2 _)) ?_
                  refine .q rfl rfl rfl rfl (q_load_i1 rfl isAgg3 rfl rfl) ?_
                  refine .q rfl rfl rfl rfl (q_fa_i rfl underlying129 rfl (by exact sizeOf3) (by decide) rfl (rfl : _ = List.drop 4 _)) ?_
                  refine .q rfl rfl rfl rfl (q_load_i1 rfl isAgg3 rfl rfl) ?_
                  refine .p rfl rfl rfl (fun _ => q_fa_b rfl underlying29 rfl (by exact sizeOf26) (by decide) rfl (rfl : _ = 12)) ?_
                  refine .p rfl rfl rfl (fun _ => q_ia_ab rfl underlying26 sizeOf25 rfl rfl (by omega) (by omega)) ?_
                  refine .q rfl rfl rfl rfl (q_ia_ab rfl underlying25 sizeOf3 rfl rfl (by omega) (by omega)) ?_
                  refine AOrd.s0 rfl rfl rfl rfl (a_store1 rfl sizeOf3 rfl (by exact bsb) (rfl : _ = V.int _ _) rfl rfl (by simp [cState]; omega) ?_)
                  refine AOrd.nil ?_
                  first | exact Wk.mk (TLe.put (d := 7) (VLe.refl _) (TLe.put (d := 4) (VLe.refl _) (TLe.zero _))) (HLe.refl _) ⟨_, by rw [do_3 hc e3, if_neg (by simpa using c8)], rfl, by rw [Hp.setBox_setBox, stC_pl_set hp.1 hp.2.1 hp.2.2.1 hp.2.2.2]; rfl⟩ | exact Wk.mk (TLe.put (d := 7) (VLe.refl _) (TLe.put (d := 4) (VLe.refl _) (TLe.zero _))) (HLe.refl _) ⟨_, by rw [do_4 hc hk (by simpa using c3) (by simpa using c5) (by simpa using c7), if_neg (by simpa using c9)], rfl, by rw [Hp.setBox_setBox, stC_game_set hg.1 hg.2]; rfl⟩
              · have hg := ok.2.2.2.2 ⟨hk.1, hk.2, by simpa using c3, by simpa using c5, by simpa using c7⟩
                have h1 := hg.1
                have h2 := hg.2
                refine .seq <|
                  .seq ?_
                refine AW.draw [] [] [(0, true), (1, true), (2, true), (3, true), (4, true), (5, true), (6, true), (7, true)] mixed (by kernel_rfl) rfl (by kernel_rfl) ?_
                refine .q rfl rfl rfl rfl (q_fa_i rfl underlying129 rfl (by exact sizeOf3) (by decide) rfl (rfl : _ = List.drop 2 _)) ?_
                refine .q rfl rfl rfl rfl (q_load_i1 rfl isAgg3 rfl rfl) ?_
                refine .q rfl rfl rfl rfl (q_fa_b rfl underlying29 rfl (by exact sizeOf27) (by decide) rfl (rfl : _ = 30)) ?_
                refine .q rfl rfl rfl rfl (q_ia_ab rfl underlying27 sizeOf3 rfl rfl (by omega) (by omega)) ?_
                refine .q rfl rfl rfl rfl (q_load_b1 rfl isAgg3 rfl (by exact bsb) (stC_game_ix hg.1 hg.2)) ?_
                refine .q rfl rfl rfl rfl (q_fa_i rfl underlying129 rfl (by exact sizeOf3) (by decide) rfl (rfl : _ = List.drop 3 _)) ?_
                refine .q rfl rfl rfl rfl (q_load_i1 rfl isAgg3 rfl rfl) ?_
                refine .q rfl rfl rfl rfl (q_ne rfl rfl rfl) ?_
                refine AOrd.nil ?_
                refine AW.cond rfl (fun c9 => ?_) (fun c9 => ?_)
                · skip
                  refine .seq <|
                    .region ?_
                  refine .u rfl rfl rfl (q_buildS rfl zeroValue29 underlying29 (pl29 underlying29) rfl rfl) ?_
                  refine AOps.s0 rfl rfl (a_storeA rfl sizeOf29 rfl (by exact (Hp.box_setBox_ne _ _ ne47).trans (Hp.box_setBox _ _ _)) (rfl : _ = V.agg _) rfl (by first | decide | exact Nat.le_of_ble_eq_true rfl) ?_)
                  refine .aI rfl rfl <|
                    .nil ?_
                  refine AW.ret ?_
                  exact retQ.mk' (Res.cellB1 isAgg29 sizeOf29 rfl (by exact bsb) rfl) (app_err (n := 20) (by rw [do_4 hc hk (by simpa using c3) (by simpa using c5) (by simpa using c7), if_pos (by simpa using c9)]) (by decide)) (over2 hid4 f7) ⟨rfl, rfl⟩
                · skip
                  refine AW.skip ?_
                  refine .region <|
                    .fi rfl f129_2 rfl <|
                    .li rfl isAgg3 rfl rfl <|
                    .fi rfl f129_4 rfl <|
                    .li rfl isAgg3 rfl rfl <|
                    .fb rfl f29_30 rfl rfl ?_
                  refine .u rfl rfl rfl (q_ia_ab rfl underlying27 sizeOf3 rfl rfl (by omega) (by omega)) ?_
                  refine AOps.s0 rfl rfl (a_store1 rfl sizeOf3 rfl (by exact bsb) (rfl : _ = V.int _ _) rfl rfl (by simp [cState]; omega) ?_)
                  refine .nil ?_
                  first | exact Wk.mk (TLe.put (d := 7) (VLe.refl _) (TLe.put (d := 4) (VLe.refl _) (TLe.zero _))) (HLe.refl _) ⟨_, by rw [do_3 hc e3, if_neg (by simpa using c8)], rfl, by rw [Hp.setBox_setBox, stC_pl_set hp.1 hp.2.1 hp.2.2.1 hp.2.2.2]; rfl⟩ | exact Wk.mk (TLe.put (d := 7) (VLe.refl _) (TLe.put (d := 4) (VLe.refl _) (TLe.zero _))) (HLe.refl _) ⟨_, by rw [do_4 hc hk (by simpa using c3) (by simpa using c5) (by simpa using c7), if_neg (by simpa using c9)], rfl, by rw [Hp.setBox_setBox, stC_game_set hg.1 hg.2]; rfl⟩
    · rintro T h1 ⟨s', hs', rfl, rfl⟩
      refine .seq <|
        .region ?_
      refine .u rfl rfl rfl (q_load_bW rfl isAgg29 sizeOf29 (by decide) rfl (by exact bsb) (by rfl)) ?_
      refine AOps.s0 rfl rfl (a_storeA rfl sizeOf29 rfl (by exact (Hp.box_setBox_ne _ _ ne47).trans (Hp.box_setBox _ _ _)) (rfl : _ = V.agg _) rfl (by first | decide | exact Nat.le_of_ble_eq_true rfl) ?_)
      refine .aI rfl rfl <|
        .nil ?_
      refine AW.ret ?_
      exact retQ.mk' (Res.cellB1 isAgg29 sizeOf29 rfl (by exact bsb) rfl) (app_ok hs') (over2 hid4 f7) ⟨rfl, rfl⟩

theorem refApplyA (s : St) (x : Ev) (hc : evCheck x = 0) (hk : x.k = 1 ∨ x.k = 2) (hlt : x.a < s.objs.length) (hb : s.objs.length ≤ 1000000) (hl : ∀ z, (s.lists z).length ≤ 1000000) (h : Hp) : ACalls prog G 118 [eState s, eEv x] h fun r h' => r = .tup [eState (appSt s x), .int .i64 (evDo s x).2] ∧ h' = h := by
  have ok := evCheck_ok hc
  have hxa : 0 ≤ x.a := by
    rcases hk with e | e
    · exact (ok.2.1 e).a
    · exact (ok.2.2.1 e).1
  have hn : 0 < s.objs.length := by omega
  refine ACalls.enter func118 rfl ntmps118 results118 rfl ?_
  refine .seq <|
    .region <|
    .bx rfl rfl <|
    .bx rfl rfl ?_
  refine AOps.s rfl rfl rfl (a_alloc rfl zeroValue29 rfl (fun id4 hid4 => ?_))
  refine .aI rfl rfl <|
    .nil <|
    .seq <|
    .seq <|
    .region <|
    .lw rfl isAgg129 sizeOf129 rfl rfl ?_
  refine .u rfl rfl rfl (QOp.call rfl call90 fun h' hl' => by exact refEv_calls x h') ?_
  refine .aI rfl rfl <|
    .nil <|
    .seq <|
    .region <|
    .mI rfl rfl <|
    .qn rfl rfl rfl <|
    .nil ?_
  refine AW.cond rfl (fun c0 => ?_) (fun c0 => ?_)
  · exact absurd hc (by simpa using c0)
  · skip
    refine AW.skip ?_
    refine .seq <|
      .region <|
      .lw rfl isAgg29 sizeOf29 rfl rfl ?_
    refine AOps.s rfl rfl rfl ((AStep.call rfl (by exact call47) (numCopyM_calls s hb hn hl _)).mono ?_)
    rintro x1 h1 ⟨idc, slack, hidc, rfl, rfl⟩
    refine AOps.s rfl rfl rfl (a_alloc rfl zeroValue29 rfl (fun id7 hid7 => ?_))
    refine .sw sizeOf29 rfl rfl rfl rfl <|
      .nil <|
      .seq ?_
    have ne47 : id4 ≠ id7 := Hp.ne_of_box ((Hp.box_setBox_ne _ _ (fresh_ne hidc)).trans (Hp.box_setBox _ _ _)) hid7.1
    have ne4c : id4 ≠ idc := fresh_ne hidc
    have nec7 : idc ≠ id7 := Hp.ne_of_box (Hp.box_setBox _ _ _) hid7.1
    have fc : h.fresh idc := (fresh_pair (d := []) hid4 hidc).1
    have f7 : h.fresh id7 := (fresh_pair (d := []) hid4 (fresh_pair (d := []) hidc hid7).1).1
    refine .region <|
      .fb rfl f29_0 rfl rfl <|
      .lb rfl isAgg22 rfl rfl <|
      .ln rfl underlying22 rfl <|
      .aI rfl rfl <|
      .nil ?_
    refine AW.cut (fun T h1 => ∃ s', evDo s x = (s', 0) ∧ s'.objs.length = s.objs.length ∧ T = put (put T0 4 (V.ptr id4 0)) 7 (V.ptr id7 0) ∧ h1 = ((h.setBox id4 zState).setBox id7 (stX (.msl idc 0 s.objs.length) s')).setBox idc (cObjs s'.objs ++ slack)) ?_ ?_
    · skip
      refine .seq <|
        .region <|
        .fi rfl f129_0 rfl <|
        .li rfl isAgg3 rfl rfl <|
        .nil <|
        .block <|
        .seq <|
        .region <|
        .qe rfl rfl rfl <|
        .aB rfl rfl <|
        .nil ?_
      refine AW.cond rfl (fun c1 => ?_) (fun c1 => ?_)
      · have e0 : x.k = 0 := by simpa using c1
        omega
      · skip
        refine .seq <|
          .region <|
          .qe rfl rfl rfl <|
          .aB rfl rfl <|
          .nil ?_
        refine AW.cond rfl (fun c2 => ?_) (fun c2 => ?_)
        · have e0 : x.k = 5 := by simpa using c2
          omega
        · skip
          refine .seq <|
            .region <|
            .qe rfl rfl rfl <|
            .aB rfl rfl <|
            .nil ?_
          refine AW.cond rfl (fun c3 => ?_) (fun c3 => ?_)
          · have e1 : x.k = 1 := by simpa using c3
            obtain ⟨_, hxb, hxc, hxd, hxe⟩ := ok.2.1 e1
            refine .seq <|
              .seq <|
              .region <|
              .fi rfl f129_1 rfl <|
              .li rfl isAgg3 rfl rfl <|
              .mI rfl rfl <|
              .qg rfl rfl rfl <|
              .nil ?_
            refine AW.cond rfl (fun c4 => ?_) (fun c4 => ?_)
            · exact absurd hlt (by simpa using c4)
            · skip
              refine AW.skip ?_
              refine .seq <|
                .seq ?_
              refine AW.draw [] [] [(0, true), (1, true), (2, true), (3, true), (4, true), (5, true), (6, true), (7, true), (8, true), (9, true), (10, true), (11, true), (12, true), (13, true), (14, true), (15, true), (16, true), (17, true), (18, true), (19, true), (20, true), (21, true), (22, true)] mixed (by kernel_rfl) rfl (by kernel_rfl) ?_
              refine .q rfl rfl rfl rfl (q_fa_i rfl underlying129 rfl (by exact sizeOf3) (by decide) rfl (rfl : _ = List.drop 3 _)) ?_
              refine .q rfl rfl rfl rfl (q_load_i1 rfl isAgg3 rfl rfl) ?_
              refine .q rfl rfl rfl rfl (q_fa_i rfl underlying129 rfl (by exact sizeOf3) (by decide) rfl (rfl : _ = List.drop 2 _)) ?_
              refine .q rfl rfl rfl rfl (q_load_i1 rfl isAgg3 rfl rfl) ?_
              refine .q rfl rfl rfl rfl (q_fa_b rfl underlying29 rfl (by exact sizeOf24) (by decide) rfl (rfl : _ = 1)) ?_
              refine .q rfl rfl rfl rfl (q_ia_ab rfl underlying24 sizeOf23 rfl rfl (by omega) (by omega)) ?_
              refine .q rfl rfl rfl rfl (q_load_b1 rfl isAgg23 rfl (by exact bsb) (stX_list_ix hxb.1 hxb.2)) ?_
              refine .q rfl rfl rfl rfl (q_len rfl underlying23 rfl) ?_
              refine .q rfl rfl rfl rfl (q_ge rfl rfl rfl) ?_
              refine .q rfl rfl rfl rfl (q_mv rfl (rfl : _ = V.bool _)) ?_
              refine AOrd.g rfl rfl (wanted_f rfl rfl) rfl (fun _ => tl0) (fun hc => q_fa_i rfl underlying129 rfl (by exact sizeOf3) (by decide) rfl (rfl : _ = List.drop 2 _)) ?_
              refine AOrd.g rfl rfl (wanted_f rfl rfl) rfl (fun hc => tl1 155 (.opt hc)) (fun hc => q_load_i1 rfl isAgg3 rfl rfl) ?_
              refine AOrd.g rfl rfl (wanted_f rfl rfl) rfl (fun _ => tl0) (fun hc => q_fa_b rfl underlying29 rfl (by exact sizeOf24) (by decide) rfl (rfl : _ = 1)) ?_
              refine AOrd.g rfl rfl (wanted_f rfl rfl) rfl (fun hc => tl2 157 156 (.opt hc) (.opt hc)) (fun hc => q_ia_ab rfl underlying24 sizeOf23 rfl rfl (by omega) (by omega)) ?_
              refine AOrd.g rfl rfl (wanted_f rfl rfl) rfl (fun hc => tl1 158 (.opt hc)) (fun hc => q_load_b1 rfl isAgg23 rfl (by exact bsb) (stX_list_ix hxb.1 hxb.2)) ?_
              refine AOrd.g rfl rfl (wanted_f rfl rfl) rfl (fun _ => tl0) (fun hc => q_fa_i rfl underlying129 rfl (by exact sizeOf3) (by decide) rfl (rfl : _ = List.drop 3 _)) ?_
              refine AOrd.g rfl rfl (wanted_f rfl rfl) rfl (fun hc => tl1 160 (.opt hc)) (fun hc => q_load_i1 rfl isAgg3 rfl rfl) ?_
              refine AOrd.g rfl rfl (wanted_f rfl rfl) rfl (fun hc => tl2 161 159 (.opt hc) (.opt hc)) (fun hc => q_ia_s rfl underlying23 sizeOf3 rfl rfl (ge_no hc hxc).1 (ge_no hc hxc).2 (cInts_elem (ge_no hc hxc).1 (ge_no hc hxc).2)) ?_
              refine AOrd.g rfl rfl (wanted_f rfl rfl) rfl (fun hc => tl1 162 (.opt hc)) (fun hc => q_load_i1 rfl isAgg3 rfl rfl) ?_
              refine AOrd.g rfl rfl (wanted_f rfl rfl) rfl (fun _ => tl0) (fun hc => q_fa_i rfl underlying129 rfl (by exact sizeOf3) (by decide) rfl (rfl : _ = List.drop 1 _)) ?_
              refine AOrd.g rfl rfl (wanted_f rfl rfl) rfl (fun hc => tl1 164 (.opt hc)) (fun hc => q_load_i1 rfl isAgg3 rfl rfl) ?_
              refine AOrd.g rfl rfl (wanted_f rfl rfl) rfl (fun hc => tl2 165 163 (.opt hc) (.opt hc)) (fun hc => q_ne rfl rfl rfl) ?_
              refine .q rfl rfl rfl rfl (q_pickg rfl rfl (fun hp => by exact VLe.refl _) (fun hp => by first | exact VLe.opt hp | exact VLe.opt (by rw [hp]; rfl) | exact VLe.opt (by simp_all))) ?_
              refine AOrd.nil ?_
              refine AW.cond rfl (fun c5 => ?_) (fun c5 => ?_)
              · skip
                refine .seq <|
                  .region ?_
                refine .u rfl rfl rfl (q_buildS rfl zeroValue29 underlying29 (pl29 underlying29) rfl rfl) ?_
                refine AOps.s0 rfl rfl (a_storeA rfl sizeOf29 rfl (by exact (Hp.box_setBox_ne _ _ ne47).trans ((Hp.box_setBox_ne _ _ ne4c).trans (Hp.box_setBox _ _ _))) (rfl : _ = V.agg _) rfl (by first | decide | exact Nat.le_of_ble_eq_true rfl) ?_)
                refine .aI rfl rfl <|
                  .nil ?_
                refine AW.ret ?_
                exact retQ.mk' (Res.cellB1 isAgg29 sizeOf29 rfl (by exact bsb) rfl) (app_err (n := 20) (by rw [rm_bits hxc] at c5; rw [do_1 hc e1, move_bad (by omega) c5]) (by decide)) (over3 hid4 fc f7) ⟨rfl, rfl⟩
              · have hin := rm_in hxc c5
                rw [rm_bits hxc] at c5
                have hr1 : (removeF (s.lists x.b.toNat) x.c).1.length ≤ 1000000 := Nat.le_trans removeF_len (hl _)
                refine AW.skip ?_
                refine .seq ?_
                refine AW.draw [12] [10] [(0, true), (1, true), (2, true), (3, true), (4, true), (5, true), (6, true), (7, true), (8, true), (9, true), (10, true), (11, true), (12, false)] mixed (by kernel_rfl) rfl (by kernel_rfl) ?_
                refine .q rfl rfl rfl rfl (q_fa_i rfl underlying129 rfl (by exact sizeOf3) (by decide) rfl (rfl : _ = List.drop 2 _)) ?_
                refine .q rfl rfl rfl rfl (q_load_i1 rfl isAgg3 rfl rfl) ?_
                refine .q rfl rfl rfl rfl (q_fa_i rfl underlying129 rfl (by exact sizeOf3) (by decide) rfl (rfl : _ = List.drop 2 _)) ?_
                refine .q rfl rfl rfl rfl (q_load_i1 rfl isAgg3 rfl rfl) ?_
                refine .q rfl rfl rfl rfl (q_fa_b rfl underlying29 rfl (by exact sizeOf24) (by decide) rfl (rfl : _ = 1)) ?_
                refine .q rfl rfl rfl rfl (q_ia_ab rfl underlying24 sizeOf23 rfl rfl (by omega) (by omega)) ?_
                refine .q rfl rfl rfl rfl (q_load_b1 rfl isAgg23 rfl (by exact bsb) (stX_list_ix hxb.1 hxb.2)) ?_
                refine .q rfl rfl rfl rfl (q_fa_i rfl underlying129 rfl (by exact sizeOf3) (by decide) rfl (rfl : _ = List.drop 3 _)) ?_
                refine .q rfl rfl rfl rfl (q_load_i1 rfl isAgg3 rfl rfl) ?_
                refine .q rfl rfl rfl rfl (QOp.call rfl (by exact call136) fun h' hl' => by exact refRemove_calls _ _ hin (hl _) h') ?_
                refine .p rfl rfl rfl (fun _ => q_fa_b rfl underlying29 rfl (by exact sizeOf24) (by decide) rfl (rfl : _ = 1)) ?_
                refine .q rfl rfl rfl rfl (q_ia_ab rfl underlying24 sizeOf23 rfl rfl (by omega) (by omega)) ?_
                refine AOrd.s0 rfl rfl rfl rfl (a_store1 rfl sizeOf23 rfl (by exact bsb) (rfl : _ = V.sl _ _ _ _) rfl rfl (by simp [stX, cState]; omega) ?_)
                refine AOrd.nil ?_
                refine .seq <|
                  .seq ?_
                refine AW.hp (by rw [Hp.setBox_setBox, stX_list_set hxb.1 hxb.2]) ?_
                refine AW.draw [] [] [(0, true), (1, true), (2, true), (3, true), (4, true), (5, true), (6, true), (7, true), (8, true)] mixed (by kernel_rfl) rfl (by kernel_rfl) ?_
                refine .q rfl rfl rfl rfl (q_fa_i rfl underlying129 rfl (by exact sizeOf3) (by decide) rfl (rfl : _ = List.drop 5 _)) ?_
                refine .q rfl rfl rfl rfl (q_load_i1 rfl isAgg3 rfl rfl) ?_
                refine .q rfl rfl rfl rfl (q_fa_i rfl underlying129 rfl (by exact sizeOf3) (by decide) rfl (rfl : _ = List.drop 4 _)) ?_
                refine .q rfl rfl rfl rfl (q_load_i1 rfl isAgg3 rfl rfl) ?_
                refine .q rfl rfl rfl rfl (q_fa_b rfl underlying29 rfl (by exact sizeOf24) (by decide) rfl (rfl : _ = 1)) ?_
                refine .q rfl rfl rfl rfl (q_ia_ab rfl underlying24 sizeOf23 rfl rfl (by omega) (by omega)) ?_
                refine .q rfl rfl rfl rfl (q_load_b1 rfl isAgg23 rfl (by exact bsb) (stX_list_ix hxd.1 hxd.2)) ?_
                refine .q rfl rfl rfl rfl (q_len rfl underlying23 rfl) ?_
                refine .q rfl rfl rfl rfl (q_gt rfl rfl rfl) ?_
                refine AOrd.nil ?_
                refine AW.cond rfl (fun c6 => ?_) (fun c6 => ?_)
                · have hlong : ((upd s.lists x.b.toNat (removeF (s.lists x.b.toNat) x.c).1 x.d.toNat).length : Int) < x.e := by simpa using c6
                  refine .seq <|
                    .region ?_
                  refine .u rfl rfl rfl (q_buildS rfl zeroValue29 underlying29 (pl29 underlying29) rfl rfl) ?_
                  refine AOps.s0 rfl rfl (a_storeA rfl sizeOf29 rfl (by exact (Hp.box_setBox_ne _ _ ne47).trans ((Hp.box_setBox_ne _ _ ne4c).trans (Hp.box_setBox _ _ _))) (rfl : _ = V.agg _) rfl (by first | decide | exact Nat.le_of_ble_eq_true rfl) ?_)
                  refine .aI rfl rfl <|
                    .nil ?_
                  refine AW.ret ?_
                  exact retQ.mk' (Res.cellB1 isAgg29 sizeOf29 rfl (by exact bsb) rfl) (app_err (n := 1) (by rw [do_1 hc e1, move_err (to := upd s.lists x.b.toNat (removeF (s.lists x.b.toNat) x.c).1 x.d.toNat) (by omega) c5 (upd_to hxb.1 hxd.1).symm (by rw [ins_long hlong]; decide)]; exact ins_long hlong) (by decide)) (over3 hid4 fc f7) ⟨rfl, rfl⟩
                · have hshort : ¬ ((upd s.lists x.b.toNat (removeF (s.lists x.b.toNat) x.c).1 x.d.toNat).length : Int) < x.e := by simpa using c6
                  have hfit : 0 ≤ x.e ∧ x.e ≤ (upd s.lists x.b.toNat (removeF (s.lists x.b.toNat) x.c).1 x.d.toNat).length := by omega
                  have hlt2 : (upd s.lists x.b.toNat (removeF (s.lists x.b.toNat) x.c).1 x.d.toNat).length ≤ 1000000 := by
                    unfold upd; split
                    · exact hr1
                    · exact hl _
                  refine AW.skip ?_
                  refine .seq ?_
                  refine AW.draw [14] [12] [(0, true), (1, true), (2, true), (3, true), (4, true), (5, true), (6, true), (7, true), (8, true), (9, true), (10, true), (11, true), (12, true), (13, true), (14, false)] mixed (by kernel_rfl) rfl (by kernel_rfl) ?_
                  refine .q rfl rfl rfl rfl (q_fa_i rfl underlying129 rfl (by exact sizeOf3) (by decide) rfl (rfl : _ = List.drop 4 _)) ?_
                  refine .q rfl rfl rfl rfl (q_load_i1 rfl isAgg3 rfl rfl) ?_
                  refine .q rfl rfl rfl rfl (q_fa_i rfl underlying129 rfl (by exact sizeOf3) (by decide) rfl (rfl : _ = List.drop 4 _)) ?_
                  refine .q rfl rfl rfl rfl (q_load_i1 rfl isAgg3 rfl rfl) ?_
                  refine .q rfl rfl rfl rfl (q_fa_b rfl underlying29 rfl (by exact sizeOf24) (by decide) rfl (rfl : _ = 1)) ?_
                  refine .q rfl rfl rfl rfl (q_ia_ab rfl underlying24 sizeOf23 rfl rfl (by omega) (by omega)) ?_
                  refine .q rfl rfl rfl rfl (q_load_b1 rfl isAgg23 rfl (by exact bsb) (stX_list_ix hxd.1 hxd.2)) ?_
                  refine .q rfl rfl rfl rfl (q_fa_i rfl underlying129 rfl (by exact sizeOf3) (by decide) rfl (rfl : _ = List.drop 5 _)) ?_
                  refine .q rfl rfl rfl rfl (q_load_i1 rfl isAgg3 rfl rfl) ?_
                  refine .q rfl rfl rfl rfl (q_fa_i rfl underlying129 rfl (by exact sizeOf3) (by decide) rfl (rfl : _ = List.drop 1 _)) ?_
                  refine .q rfl rfl rfl rfl (q_load_i1 rfl isAgg3 rfl rfl) ?_
                  refine .q rfl rfl rfl rfl (QOp.call rfl (by exact call137) fun h' hl' => by exact refInsert_calls _ _ _ hfit hlt2 h') ?_
                  refine .p rfl rfl rfl (fun _ => q_fa_b rfl underlying29 rfl (by exact sizeOf24) (by decide) rfl (rfl : _ = 1)) ?_
                  refine .q rfl rfl rfl rfl (q_ia_ab rfl underlying24 sizeOf23 rfl rfl (by omega) (by omega)) ?_
                  refine AOrd.s0 rfl rfl rfl rfl (a_store1 rfl sizeOf23 rfl (by exact bsb) (rfl : _ = V.sl _ _ _ _) rfl rfl (by simp [stX, cState]; omega) ?_)
                  refine AOrd.nil ?_
                  refine AW.hp (by rw [Hp.setBox_setBox, stX_list_set hxd.1 hxd.2]) ?_
                  refine AW.draw [8] [6] [(0, true), (1, true), (2, true), (3, true), (4, true), (5, true), (6, true), (7, true), (8, false)] mixed (by kernel_rfl) rfl (by kernel_rfl) ?_
                  refine .q rfl rfl rfl rfl (q_fa_b rfl underlying29 rfl (by exact sizeOf22) (by decide) rfl (rfl : _ = 0)) ?_
                  refine .q rfl rfl rfl rfl (q_load_b1 rfl isAgg22 rfl (by exact bsb) rfl) ?_
                  refine .q rfl rfl rfl rfl (q_fa_i rfl underlying129 rfl (by exact sizeOf3) (by decide) rfl (rfl : _ = List.drop 1 _)) ?_
                  refine .q rfl rfl rfl rfl (q_load_i1 rfl isAgg3 rfl rfl) ?_
                  refine .q rfl rfl rfl rfl (q_fa_i rfl underlying129 rfl (by exact sizeOf3) (by decide) rfl (rfl : _ = List.drop 4 _)) ?_
                  refine .q rfl rfl rfl rfl (q_load_i1 rfl isAgg3 rfl rfl) ?_
                  refine .p rfl rfl rfl (fun _ => q_ia_m rfl underlying22 sizeOf58 rfl rfl (by omega) (by omega)) ?_
                  refine .q rfl rfl rfl rfl (q_ia_ab rfl underlying58 sizeOf3 rfl rfl (by decide) (by decide)) ?_
                  refine AOrd.s0 rfl rfl rfl rfl (a_store1 rfl sizeOf3 rfl (by exact (Hp.box_setBox_ne _ _ nec7).trans (Hp.box_setBox _ _ _)) (rfl : _ = V.int _ _) rfl rfl (by exact objs_lt (by omega) (by omega) (by decide) (by decide)) ?_)
                  refine AOrd.nil ?_
                  first | exact Wk.mk (TLe.put (d := 7) (VLe.refl _) (TLe.put (d := 4) (VLe.refl _) (TLe.zero _))) (HLe.refl _) ⟨_, by rw [do_1 hc e1]; exact move_ok (to := upd s.lists x.b.toNat (removeF (s.lists x.b.toNat) x.c).1 x.d.toNat) (by omega) c5 (upd_to hxb.1 hxd.1).symm (ins_fits hxe hshort), by simp, rfl, by rw [swap_out nec7, objs_set (by omega) (by omega) (by decide) (by decide)]; rfl⟩ | exact Wk.mk (TLe.put (d := 7) (VLe.refl _) (TLe.put (d := 4) (VLe.refl _) (TLe.zero _))) (HLe.refl _) ⟨_, by rw [do_2 hc e2, if_neg (by omega), if_neg (by simpa using c9)], by simp, rfl, by rw [swap_out nec7, objs_set (by omega) (by omega) (by omega) (by omega)]; rfl⟩
          · have e2 : x.k = 2 := by
              have : x.k ≠ 1 := by simpa using c3
              omega
            obtain ⟨_, hx1, hx2⟩ := ok.2.2.1 e2
            refine .seq <|
              .region <|
              .qe rfl rfl rfl <|
              .aB rfl rfl <|
              .nil ?_
            refine AW.cond rfl (fun c7 => ?_) (fun c7 => ?_)
            · skip
              refine .seq <|
                .seq <|
                .region <|
                .fi rfl f129_1 rfl <|
                .li rfl isAgg3 rfl rfl <|
                .mI rfl rfl <|
                .qg rfl rfl rfl <|
                .nil ?_
              refine AW.cond rfl (fun c8 => ?_) (fun c8 => ?_)
              · exact absurd hlt (by simpa using c8)
              · skip
                refine AW.skip ?_
                refine .seq <|
                  .seq ?_
                refine AW.draw [] [] [(0, true), (1, true), (2, true), (3, true), (4, true), (5, true), (6, true), (7, true), (8, true), (9, true), (10, true), (11, true)] mixed (by kernel_rfl) rfl (by kernel_rfl) ?_
                refine .q rfl rfl rfl rfl (q_fa_b rfl underlying29 rfl (by exact sizeOf22) (by decide) rfl (rfl : _ = 0)) ?_
                refine .q rfl rfl rfl rfl (q_load_b1 rfl isAgg22 rfl (by exact bsb) rfl) ?_
                refine .q rfl rfl rfl rfl (q_fa_i rfl underlying129 rfl (by exact sizeOf3) (by decide) rfl (rfl : _ = List.drop 1 _)) ?_
                refine .q rfl rfl rfl rfl (q_load_i1 rfl isAgg3 rfl rfl) ?_
                refine .q rfl rfl rfl rfl (q_fa_i rfl underlying129 rfl (by exact sizeOf3) (by decide) rfl (rfl : _ = List.drop 2 _)) ?_
                refine .q rfl rfl rfl rfl (q_load_i1 rfl isAgg3 rfl rfl) ?_
                refine .q rfl rfl rfl rfl (q_ia_m rfl underlying22 sizeOf58 rfl rfl (by omega) (by omega)) ?_
                refine .q rfl rfl rfl rfl (q_ia_ab rfl underlying58 sizeOf3 rfl rfl (by omega) (by omega)) ?_
                refine .q rfl rfl rfl rfl (q_load_b1 rfl isAgg3 rfl (by exact (Hp.box_setBox_ne _ _ nec7).trans (Hp.box_setBox _ _ _)) (objs_ix (by omega) (by omega) (by omega) (by omega))) ?_
                refine .q rfl rfl rfl rfl (q_fa_i rfl underlying129 rfl (by exact sizeOf3) (by decide) rfl (rfl : _ = List.drop 3 _)) ?_
                refine .q rfl rfl rfl rfl (q_load_i1 rfl isAgg3 rfl rfl) ?_
                refine .q rfl rfl rfl rfl (q_ne rfl rfl rfl) ?_
                refine AOrd.nil ?_
                refine AW.cond rfl (fun c9 => ?_) (fun c9 => ?_)
                · skip
                  refine .seq <|
                    .region ?_
                  refine .u rfl rfl rfl (q_buildS rfl zeroValue29 underlying29 (pl29 underlying29) rfl rfl) ?_
                  refine AOps.s0 rfl rfl (a_storeA rfl sizeOf29 rfl (by exact (Hp.box_setBox_ne _ _ ne47).trans ((Hp.box_setBox_ne _ _ ne4c).trans (Hp.box_setBox _ _ _))) (rfl : _ = V.agg _) rfl (by first | decide | exact Nat.le_of_ble_eq_true rfl) ?_)
                  refine .aI rfl rfl <|
                    .nil ?_
                  refine AW.ret ?_
                  exact retQ.mk' (Res.cellB1 isAgg29 sizeOf29 rfl (by exact bsb) rfl) (app_err (n := 20) (by rw [do_2 hc e2, if_neg (by omega), if_pos (by simpa using c9)]) (by decide)) (over3 hid4 fc f7) ⟨rfl, rfl⟩
                · skip
                  refine AW.skip ?_
                  refine AW.draw [10] [8] [(0, true), (1, true), (2, true), (3, true), (4, true), (5, true), (6, true), (7, true), (8, true), (9, true), (10, false)] mixed (by kernel_rfl) rfl (by kernel_rfl) ?_
                  refine .q rfl rfl rfl rfl (q_fa_b rfl underlying29 rfl (by exact sizeOf22) (by decide) rfl (rfl : _ = 0)) ?_
                  refine .q rfl rfl rfl rfl (q_load_b1 rfl isAgg22 rfl (by exact bsb) rfl) ?_
                  refine .q rfl rfl rfl rfl (q_fa_i rfl underlying129 rfl (by exact sizeOf3) (by decide) rfl (rfl : _ = List.drop 1 _)) ?_
                  refine .q rfl rfl rfl rfl (q_load_i1 rfl isAgg3 rfl rfl) ?_
                  refine .q rfl rfl rfl rfl (q_fa_i rfl underlying129 rfl (by exact sizeOf3) (by decide) rfl (rfl : _ = List.drop 2 _)) ?_
                  refine .q rfl rfl rfl rfl (q_load_i1 rfl isAgg3 rfl rfl) ?_
                  refine .q rfl rfl rfl rfl (q_fa_i rfl underlying129 rfl (by exact sizeOf3) (by decide) rfl (rfl : _ = List.drop 4 _)) ?_
                  refine .q rfl rfl rfl rfl (q_load_i1 rfl isAgg3 rfl rfl) ?_
                  refine .p rfl rfl rfl (fun _ => q_ia_m rfl underlying22 sizeOf58 rfl rfl (by omega) (by omega)) ?_
                  refine .q rfl rfl rfl rfl (q_ia_ab rfl underlying58 sizeOf3 rfl rfl (by omega) (by omega)) ?_
                  refine AOrd.s0 rfl rfl rfl rfl (a_store1 rfl sizeOf3 rfl (by exact (Hp.box_setBox_ne _ _ nec7).trans (Hp.box_setBox _ _ _)) (rfl : _ = V.int _ _) rfl rfl (by exact objs_lt (by omega) (by omega) (by omega) (by omega)) ?_)
                  refine AOrd.nil ?_
                  first | exact Wk.mk (TLe.put (d := 7) (VLe.refl _) (TLe.put (d := 4) (VLe.refl _) (TLe.zero _))) (HLe.refl _) ⟨_, by rw [do_1 hc e1]; exact move_ok (to := upd s.lists x.b.toNat (removeF (s.lists x.b.toNat) x.c).1 x.d.toNat) (by omega) c5 (upd_to hxb.1 hxd.1).symm (ins_fits hxe hshort), by simp, rfl, by rw [swap_out nec7, objs_set (by omega) (by omega) (by decide) (by decide)]; rfl⟩ | exact Wk.mk (TLe.put (d := 7) (VLe.refl _) (TLe.put (d := 4) (VLe.refl _) (TLe.zero _))) (HLe.refl _) ⟨_, by rw [do_2 hc e2, if_neg (by omega), if_neg (by simpa using c9)], by simp, rfl, by rw [swap_out nec7, objs_set (by omega) (by omega) (by omega) (by omega)]; rfl⟩
            · exact absurd e2 (by simpa using c7)
    · rintro T h1 ⟨s', hs', hso, rfl, rfl⟩
      have g7 : (h.setBox id4 zState).fresh id7 := fresh_up f7 ne47.symm
      have gc : ((h.setBox id4 zState).setBox id7 (stX (.msl idc 0 s.objs.length) s')).fresh idc := fresh_up hidc nec7
      refine .seq ?_
      refine AW.sealIn2 (T' := put (put T0 4 (V.ptr id4 0)) 7 (V.ptr id7 0)) (cs' := cState s') g7 gc rfl (fun j => match j with | 0 => .inr (objs_sealed hso) | j + 1 => .inl (.refl _)) (fun i => .inl (.refl _)) ?_
      refine .region ?_
      refine .u rfl rfl rfl (q_load_bW rfl isAgg29 sizeOf29 (by decide) rfl (by exact bsb) (by rfl)) ?_
      refine AOps.s0 rfl rfl (a_storeA rfl sizeOf29 rfl (by exact (Hp.box_setBox_ne _ _ ne47).trans (Hp.box_setBox _ _ _)) (rfl : _ = V.agg _) rfl (by first | decide | exact Nat.le_of_ble_eq_true rfl) ?_)
      refine .aI rfl rfl <|
        .nil ?_
      refine AW.ret ?_
      exact retQ.mk' (Res.cellB1 isAgg29 sizeOf29 rfl (by exact bsb) rfl) (app_ok hs') (over2 hid4 f7) ⟨rfl, rfl⟩

theorem refApply_calls (s : St) (x : Ev) (hk : x.k ≠ 0 ∧ x.k ≠ 5) (hb : s.objs.length ≤ 1000000) (hl : ∀ z, (s.lists z).length ≤ 1000000) (h : Hp) : ACalls prog G 118 [eState s, eEv x] h fun r h' => r = .tup [eState (appSt s x), .int .i64 (evDo s x).2] ∧ h' = h := by
  by_cases hA : evCheck x = 0 ∧ (x.k = 1 ∨ x.k = 2) ∧ x.a < s.objs.length
  · exact refApplyA s x hA.1 hA.2.1 hA.2.2 hb hl h
  · exact refApplyI s x hk (fun h1 h2 => by
      by_cases h3 : x.a < s.objs.length
      · exact absurd ⟨h1, h2, h3⟩ hA
      · omega) hb hl h

end Go.Proofs.YtijhmlkffkedeaaGreatDoor
/- Walks: creatures that fight: who may. -/
namespace Go.Proofs.YtijhmlkffkedeaaGreatDoor
open Go Go.AV Go.Proofs.Tryz
set_option maxRecDepth 100000
set_option maxHeartbeats 1000000
theorem cnd_and (a b : Bool) : (bif a then b else false) = (a && b) := by cases a <;> rfl
theorem cnd_or (a b : Bool) : (bif a then true else b) = (a || b) := by cases a <;> rfl
/-- Is there such a creature, in a right state? -/
def isF (s : St) (i : Int) : Bool := bif checkF s == 0 then creatureF s i else false
theorem is_in {s : St} {i : Int} (h : isF s i = true) : 0 ≤ i ∧ i < s.objs.length := by
  unfold isF at h
  cases e : checkF s == 0
  · rw [e] at h; cases h
  · rw [e] at h; exact creature_in h
/-- Has a creature a word? -/
def hasF (s : St) (i n : Int) : Bool := (ofF s i).2 == 0 && (decide (1 ≤ n) && decide (n ≤ 255)) && bitop .and .i64 (ofF s i).1.w n == n
def attacksF (s : St) (i : Int) : Bool := isF s i && s.objs.getD i.toNat noObj 11 == 1
def foeF (p : Int) : Int := if p = 0 ∨ p = 1 then 1 - p else -1
def stopsF (s : St) (i a : Int) : Bool := isF s i && attacksF s a && s.objs.getD i.toNat noObj 2 == foeF (s.game 1) && s.objs.getD i.toNat noObj 4 != 1 && (!hasF s a 1 || hasF s i 1 || hasF s i 2)
def atF (i : Int) : Int := if i < 0 ∨ i = 9223372036854775807 then 0 else i + 1

theorem isS_calls (s : St) (i : Int) (hb : s.objs.length ≤ 1000000) (hl : ∀ z, (s.lists z).length ≤ 1000000) (h : Hp) : ACalls prog G 40 [eState s, .int .i64 i] h fun r h' => r = .bool (isF s i) ∧ h' = h := by
  refine ACalls.enter func40 rfl ntmps40 results40 rfl ?_
  refine .seq <|
    .region <|
    .bx rfl rfl <|
    .aB rfl rfl <|
    .nil <|
    .seq <|
    .region <|
    .lw rfl isAgg29 sizeOf29 rfl rfl ?_
  refine .u rfl rfl rfl (QOp.call rfl call32 fun h' hl' => by exact check_calls s hb hl h') ?_
  refine .u rfl rfl rfl (q_eqerr underlying54 rfl rfl) ?_
  refine .mB rfl rfl ?_
  refine .gt rfl rfl rfl (fun _ => tl0) (fun hc => q_load_iW rfl isAgg29 sizeOf29 rfl (by rfl)) ?_
  refine .gt rfl rfl rfl (fun _ => tl0) (fun hc => q_mv rfl (rfl : _ = V.int _ _)) ?_
  refine .gt rfl rfl rfl (fun hc => tl2 10 9 (.opt hc) (.opt hc)) (fun hc => QOp.call rfl (by exact call82) fun h' hl' => by exact creature_calls s i h') ?_
  refine .pt rfl rfl rfl rfl <|
    .aB rfl rfl <|
    .nil ?_
  refine AW.ret ?_
  exact retQ.mk' (.one _) (VLe.of_eq (congrArg V.bool (rfl))) (HLe.refl _) ⟨rfl, rfl⟩

theorem has'_calls (s : St) (i n : Int) (hb : s.objs.length ≤ 1000000) (hl : ∀ z, (s.lists z).length ≤ 1000000) (h : Hp) : ACalls prog G 31 [eState s, .int .i64 i, .int .i64 n] h fun r h' => r = .bool (hasF s i n) ∧ h' = h := by
  refine ACalls.enter func31 rfl ntmps31 results31 rfl ?_
  refine .seq <|
    .region <|
    .bx rfl rfl <|
    .aB rfl rfl <|
    .nil <|
    .seq <|
    .region <|
    .lw rfl isAgg29 sizeOf29 rfl rfl <|
    .mI rfl rfl ?_
  refine .u rfl rfl rfl (QOp.call rfl call66 fun h' hl' => by exact of_calls s i hb hl h') ?_
  refine .u rfl rfl rfl (q_mv rfl (rfl : _ = V.tup _)) ?_
  refine .u rfl rfl rfl (q_extract rfl rfl rfl) ?_
  refine .u rfl rfl rfl (q_extract rfl rfl rfl) ?_
  refine AOps.s rfl rfl rfl (a_alloc rfl zeroValue100 rfl (fun id7 hid7 => ?_))
  refine .sw sizeOf100 rfl rfl rfl rfl ?_
  refine AOps.done 7 rfl hid7 ?_
  refine .u rfl rfl rfl (q_as rfl (rfl : _ = eErr _ _)) ?_
  refine .nil <|
    .seq <|
    .region ?_
  refine .u rfl rfl rfl (q_mv rfl (rfl : _ = eErr _ _)) ?_
  refine .u rfl rfl rfl (q_eqerr underlying54 rfl rfl) ?_
  refine .mB rfl rfl ?_
  refine .gt rfl rfl rfl (fun _ => tl0) (fun hc => q_mv rfl (rfl : _ = V.int _ _)) ?_
  refine .gt rfl rfl rfl (fun hc => tl1 18 (.opt hc)) (fun hc => q_ge rfl rfl rfl) ?_
  refine .pt rfl rfl rfl rfl <|
    .mB rfl rfl ?_
  refine .gt rfl rfl rfl (fun _ => tl0) (fun hc => q_mv rfl (rfl : _ = V.int _ _)) ?_
  refine .gt rfl rfl rfl (fun hc => tl1 22 (.opt hc)) (fun hc => q_le rfl rfl rfl) ?_
  refine .pt rfl rfl rfl rfl <|
    .mB rfl rfl ?_
  refine .gt rfl rfl rfl (fun _ => tl0) (fun hc => q_fa_i rfl underlying100 rfl (by exact sizeOf3) (by decide) rfl (rfl : _ = List.drop 2 _)) ?_
  refine .gt rfl rfl rfl (fun hc => tl1 26 (.opt hc)) (fun hc => q_load_i1 rfl isAgg3 rfl rfl) ?_
  refine .gt rfl rfl rfl (fun _ => tl0) (fun hc => q_mv rfl (rfl : _ = V.int _ _)) ?_
  refine .gt rfl rfl rfl (fun hc => tl2 28 27 (.opt hc) (.opt hc)) (fun hc => q_bit rfl rfl rfl rfl) ?_
  refine .gt rfl rfl rfl (fun _ => tl0) (fun hc => q_mv rfl (rfl : _ = V.int _ _)) ?_
  refine .gt rfl rfl rfl (fun hc => tl2 30 29 (.opt hc) (.opt hc)) (fun hc => q_eq rfl rfl rfl) ?_
  refine .pt rfl rfl rfl rfl <|
    .aB rfl rfl <|
    .nil ?_
  refine AW.ret ?_
  exact retQ.mk' (.one _) (VLe.of_eq (congrArg V.bool (by unfold hasF; cases (ofF s i).2 == 0 <;> cases decide (1 ≤ n) <;> cases decide (n ≤ 255) <;> rfl))) (HLe.refl _) ⟨rfl, rfl⟩

theorem field_calls (s : St) (i f : Int) (hi : 0 ≤ i ∧ i < s.objs.length) (hf : 0 ≤ f ∧ f < 18) (h : Hp) : ACalls prog G 41 [eState s, .int .i64 i, .int .i64 f] h fun r h' => r = .int .i64 (s.objs.getD i.toNat noObj f.toNat) ∧ h' = h := by
  refine ACalls.enter func41 rfl ntmps41 results41 rfl ?_
  refine .seq <|
    .region <|
    .bx rfl rfl <|
    .aI rfl rfl <|
    .nil <|
    .seq <|
    .region <|
    .fi rfl f29_0 rfl <|
    .li rfl isAgg22 rfl rfl <|
    .mI rfl rfl <|
    .mI rfl rfl ?_
  refine .u rfl rfl rfl (q_ia_s rfl underlying22 sizeOf58 rfl rfl (by omega) (by omega) (cObjs_elem' (by omega) (by omega))) ?_
  refine .u rfl rfl rfl (q_ia_ai rfl underlying58 sizeOf3 rfl rfl (by omega) (by omega) rfl) ?_
  refine .u rfl rfl rfl (q_load_i1 rfl isAgg3 rfl (objp_ix hf.1 hf.2)) ?_
  refine .aI rfl rfl <|
    .nil ?_
  refine AW.ret ?_
  exact retQ.mk' (.one _) (VLe.of_eq (congrArg (V.int .i64) (rfl))) (HLe.refl _) ⟨rfl, rfl⟩

theorem foe_calls (p : Int) (h : Hp) : ACalls prog G 42 [.int .i64 p] h fun r h' => r = .int .i64 (foeF p) ∧ h' = h := by
  refine ACalls.enter func42 rfl ntmps42 results42 rfl ?_
  refine .seq <|
    .region <|
    .aI rfl rfl <|
    .nil <|
    .seq <|
    .seq <|
    .region <|
    .mI rfl rfl <|
    .qn rfl rfl rfl <|
    .mB rfl rfl ?_
  refine .gt rfl rfl rfl (fun _ => tl0) (fun hc => q_mv rfl (rfl : _ = V.int _ _)) ?_
  refine .gt rfl rfl rfl (fun hc => tl1 6 (.opt hc)) (fun hc => q_ne rfl rfl rfl) ?_
  refine .pt rfl rfl rfl rfl <|
    .nil ?_
  refine AW.cond rfl (fun c0 => ?_) (fun c0 => ?_)
  · have hp : ¬ (p = 0 ∨ p = 1) := by simp at c0; omega
    refine .seq <|
      .region <|
      .aI rfl rfl <|
      .nil ?_
    refine AW.ret ?_
    exact retQ.mk' (.one _) (VLe.of_eq (congrArg (V.int .i64) (by rw [foeF, if_neg hp]))) (HLe.refl _) ⟨rfl, rfl⟩
  · have hp : p = 0 ∨ p = 1 := by simp at c0; omega
    refine AW.skip ?_
    refine .seq <|
      .region <|
      .mI rfl rfl ?_
    refine .u rfl rfl rfl (q_sub' rfl rfl rfl (by omega)) ?_
    refine .aI rfl rfl <|
      .nil ?_
    refine AW.ret ?_
    exact retQ.mk' (.one _) (VLe.of_eq (congrArg (V.int .i64) (by rw [foeF, if_pos hp]))) (HLe.refl _) ⟨rfl, rfl⟩

theorem at_calls (i : Int) (hi : i ≤ 9223372036854775807) (h : Hp) : ACalls prog G 75 [.int .i64 i] h fun r h' => r = .int .i64 (atF i) ∧ h' = h := by
  refine ACalls.enter func75 rfl ntmps75 results75 rfl ?_
  refine .seq <|
    .region <|
    .aI rfl rfl <|
    .nil <|
    .seq <|
    .seq <|
    .region <|
    .mI rfl rfl <|
    .ql rfl rfl rfl <|
    .mB rfl rfl ?_
  refine .gf rfl rfl rfl (fun _ => tl0) (fun hc => q_mv rfl (rfl : _ = V.int _ _)) ?_
  refine .gf rfl rfl rfl (fun hc => tl1 6 (.opt hc)) (fun hc => q_eq rfl rfl rfl) ?_
  refine .pf rfl rfl rfl rfl <|
    .nil ?_
  refine AW.cond rfl (fun c0 => ?_) (fun c0 => ?_)
  · have hp : i < 0 ∨ i = 9223372036854775807 := by simp at c0; omega
    refine .seq <|
      .region <|
      .aI rfl rfl <|
      .nil ?_
    refine AW.ret ?_
    exact retQ.mk' (.one _) (VLe.of_eq (congrArg (V.int .i64) (by rw [atF, if_pos hp]))) (HLe.refl _) ⟨rfl, rfl⟩
  · have hp : ¬ (i < 0 ∨ i = 9223372036854775807) := by simp at c0; omega
    refine AW.skip ?_
    refine .seq <|
      .region <|
      .mI rfl rfl <|
      .ad rfl rfl rfl (by omega) <|
      .aI rfl rfl <|
      .nil ?_
    refine AW.ret ?_
    exact retQ.mk' (.one _) (VLe.of_eq (congrArg (V.int .i64) (by rw [atF, if_neg hp]))) (HLe.refl _) ⟨rfl, rfl⟩

theorem tplayer_calls (n : Int) (h : Hp) : ACalls prog G 84 [.int .i64 n] h fun r h' => r = .tup (if n = -1 ∨ n = -2 then [.int .i64 (-1 - n), .bool true] else [.int .i64 0, .bool false]) ∧ h' = h := by
  refine ACalls.enter func84 rfl ntmps84 results84 rfl ?_
  refine .seq <|
    .region <|
    .aI rfl rfl <|
    .aB rfl rfl <|
    .nil <|
    .seq <|
    .seq <|
    .region <|
    .mI rfl rfl <|
    .qn rfl rfl rfl <|
    .mB rfl rfl ?_
  refine .gt rfl rfl rfl (fun _ => tl0) (fun hc => q_mv rfl (rfl : _ = V.int _ _)) ?_
  refine .gt rfl rfl rfl (fun hc => tl1 7 (.opt hc)) (fun hc => q_ne rfl rfl rfl) ?_
  refine .pt rfl rfl rfl rfl <|
    .nil ?_
  refine AW.cond rfl (fun c0 => ?_) (fun c0 => ?_)
  · have hp : ¬ (n = -1 ∨ n = -2) := by simp at c0; omega
    refine .seq <|
      .region <|
      .aI rfl rfl <|
      .aB rfl rfl <|
      .nil ?_
    refine AW.ret ?_
    exact retQ.mk' (.two _ _) (VLe.of_eq (by rw [if_neg hp]; rfl)) (HLe.refl _) ⟨rfl, rfl⟩
  · have hp : n = -1 ∨ n = -2 := by simp at c0; omega
    refine AW.skip ?_
    refine .seq <|
      .region <|
      .mI rfl rfl ?_
    refine .u rfl rfl rfl (q_sub' rfl rfl rfl (by omega)) ?_
    refine .aI rfl rfl <|
      .aB rfl rfl <|
      .nil ?_
    refine AW.ret ?_
    exact retQ.mk' (.two _ _) (VLe.of_eq (by rw [if_pos hp]; rfl)) (HLe.refl _) ⟨rfl, rfl⟩

theorem tobject_calls (n : Int) (hn : -9223372036854775807 ≤ n ∧ n ≤ 9223372036854775807) (h : Hp) : ACalls prog G 86 [.int .i64 n] h fun r h' => r = .tup (if n ≤ 0 then [.int .i64 0, .bool false] else [.int .i64 (n - 1), .bool true]) ∧ h' = h := by
  refine ACalls.enter func86 rfl ntmps86 results86 rfl ?_
  refine .seq <|
    .region <|
    .aI rfl rfl <|
    .aB rfl rfl <|
    .nil <|
    .seq <|
    .seq <|
    .region <|
    .mI rfl rfl ?_
  refine .u rfl rfl rfl (q_le rfl rfl rfl) ?_
  refine .nil ?_
  refine AW.cond rfl (fun c0 => ?_) (fun c0 => ?_)
  · have hp : n ≤ 0 := by simpa using c0
    refine .seq <|
      .region <|
      .aI rfl rfl <|
      .aB rfl rfl <|
      .nil ?_
    refine AW.ret ?_
    exact retQ.mk' (.two _ _) (VLe.of_eq (by rw [if_pos hp]; rfl)) (HLe.refl _) ⟨rfl, rfl⟩
  · have hp : ¬ n ≤ 0 := by simpa using c0
    refine AW.skip ?_
    refine .seq <|
      .region <|
      .mI rfl rfl ?_
    refine .u rfl rfl rfl (q_sub' rfl rfl rfl (by omega)) ?_
    refine .aI rfl rfl <|
      .aB rfl rfl <|
      .nil ?_
    refine AW.ret ?_
    exact retQ.mk' (.two _ _) (VLe.of_eq (by rw [if_neg hp]; rfl)) (HLe.refl _) ⟨rfl, rfl⟩

theorem attacks_calls (s : St) (i : Int) (hb : s.objs.length ≤ 1000000) (hl : ∀ z, (s.lists z).length ≤ 1000000) (h : Hp) : ACalls prog G 39 [eState s, .int .i64 i] h fun r h' => r = .bool (attacksF s i) ∧ h' = h := by
  refine ACalls.enter func39 rfl ntmps39 results39 rfl ?_
  refine .seq <|
    .region <|
    .bx rfl rfl <|
    .aB rfl rfl <|
    .nil <|
    .seq <|
    .region <|
    .lw rfl isAgg29 sizeOf29 rfl rfl <|
    .mI rfl rfl ?_
  refine .u rfl rfl rfl (QOp.call rfl call40 fun h' hl' => by exact isS_calls _ _ hb hl h') ?_
  refine .mB rfl rfl ?_
  refine .gt rfl rfl rfl (fun _ => tl0) (fun hc => q_load_iW rfl isAgg29 sizeOf29 rfl (by rfl)) ?_
  refine .gt rfl rfl rfl (fun _ => tl0) (fun hc => q_mv rfl (rfl : _ = V.int _ _)) ?_
  refine .gt rfl rfl rfl (fun hc => tl2 10 9 (.opt hc) (.opt hc)) (fun hc => QOp.call rfl (by exact call41) fun h' hl' => by exact field_calls s i 11 (is_in hc) (by decide) h') ?_
  refine .gt rfl rfl rfl (fun hc => tl1 11 (.opt hc)) (fun hc => q_eq rfl rfl rfl) ?_
  refine .pt rfl rfl rfl rfl <|
    .aB rfl rfl <|
    .nil ?_
  refine AW.ret ?_
  exact retQ.mk' (.one _) (VLe.of_eq (congrArg V.bool (by rw [attacksF]; simp only [cnd_and]; rfl))) (HLe.refl _) ⟨rfl, rfl⟩

theorem stops_calls (s : St) (i a : Int) (hb : s.objs.length ≤ 1000000) (hl : ∀ z, (s.lists z).length ≤ 1000000) (h : Hp) : ACalls prog G 13 [eState s, .int .i64 i, .int .i64 a] h fun r h' => r = .bool (stopsF s i a) ∧ h' = h := by
  refine ACalls.enter func13 rfl ntmps13 results13 rfl ?_
  refine .seq <|
    .region <|
    .bx rfl rfl <|
    .aB rfl rfl <|
    .nil <|
    .seq <|
    .seq ?_
  refine AW.draw [] [] [(0, true), (1, true), (2, true), (3, true), (4, true), (5, true), (6, true), (7, true), (8, true), (9, true), (10, true), (11, true), (12, true), (13, true), (14, true), (15, true), (16, true), (17, true), (18, true), (19, true), (20, true), (21, true), (22, true), (23, true), (24, true), (25, true)] mixed (by kernel_rfl) rfl (by kernel_rfl) ?_
  refine .q rfl rfl rfl rfl (q_load_iW rfl isAgg29 sizeOf29 rfl (by rfl)) ?_
  refine .q rfl rfl rfl rfl (q_mv rfl (rfl : _ = V.int _ _)) ?_
  refine .q rfl rfl rfl rfl (QOp.call rfl (by exact call40) fun h' hl' => by exact isS_calls _ _ hb hl h') ?_
  refine .q rfl rfl rfl rfl (q_not rfl rfl) ?_
  refine .q rfl rfl rfl rfl (q_mv rfl (rfl : _ = V.bool _)) ?_
  refine AOrd.g rfl rfl (wanted_f rfl rfl) rfl (fun _ => tl0) (fun hc => q_load_iW rfl isAgg29 sizeOf29 rfl (by rfl)) ?_
  refine AOrd.g rfl rfl (wanted_f rfl rfl) rfl (fun _ => tl0) (fun hc => q_mv rfl (rfl : _ = V.int _ _)) ?_
  refine AOrd.g rfl rfl (wanted_f rfl rfl) rfl (fun hc => tl2 13 12 (.opt hc) (.opt hc)) (fun hc => QOp.call rfl (by exact call39) fun h' hl' => by exact attacks_calls _ _ hb hl h') ?_
  refine AOrd.g rfl rfl (wanted_f rfl rfl) rfl (fun hc => tl1 14 (.opt hc)) (fun hc => q_not rfl rfl) ?_
  refine .q rfl rfl rfl rfl (q_pickg rfl rfl (fun hp => by exact VLe.refl _) (fun hp => by first | exact VLe.opt hp | exact VLe.opt (by rw [hp]; rfl) | exact VLe.opt (by simp_all))) ?_
  refine .q rfl rfl rfl rfl (q_mv rfl (rfl : _ = V.bool _)) ?_
  refine AOrd.g rfl rfl (wanted_f rfl rfl) rfl (fun _ => tl0) (fun hc => q_load_iW rfl isAgg29 sizeOf29 rfl (by rfl)) ?_
  refine AOrd.g rfl rfl (wanted_f rfl rfl) rfl (fun _ => tl0) (fun hc => q_mv rfl (rfl : _ = V.int _ _)) ?_
  refine AOrd.g rfl rfl (wanted_f rfl rfl) rfl (fun hc => tl2 19 18 (.opt hc) (.opt hc)) (fun hc => QOp.call rfl (by exact call41) fun h' hl' => by exact field_calls s i 2 (is_in (by cases e : isF s i <;> simp_all)) (by decide) h') ?_
  refine AOrd.g rfl rfl (wanted_f rfl rfl) rfl (fun _ => tl0) (fun hc => q_fa_i rfl underlying29 rfl (by exact sizeOf27) (by decide) rfl (rfl : _ = List.drop 30 _)) ?_
  refine AOrd.g rfl rfl (wanted_f rfl rfl) rfl (fun hc => tl1 21 (.opt hc)) (fun hc => q_ia_ai rfl underlying27 sizeOf3 rfl rfl (by decide) (by decide) rfl) ?_
  refine AOrd.g rfl rfl (wanted_f rfl rfl) rfl (fun hc => tl1 22 (.opt hc)) (fun hc => q_load_i1 rfl isAgg3 rfl rfl) ?_
  refine AOrd.g rfl rfl (wanted_f rfl rfl) rfl (fun hc => tl1 23 (.opt hc)) (fun hc => QOp.call rfl (by exact call42) fun h' hl' => by exact foe_calls _ h') ?_
  refine AOrd.g rfl rfl (wanted_f rfl rfl) rfl (fun hc => tl2 24 20 (.opt hc) (.opt hc)) (fun hc => q_ne rfl rfl rfl) ?_
  refine .q rfl rfl rfl rfl (q_pickg rfl rfl (fun hp => by exact VLe.refl _) (fun hp => by first | exact VLe.opt hp | exact VLe.opt (by rw [hp]; rfl) | exact VLe.opt (by simp_all))) ?_
  refine .q rfl rfl rfl rfl (q_mv rfl (rfl : _ = V.bool _)) ?_
  refine AOrd.g rfl rfl (wanted_f rfl rfl) rfl (fun _ => tl0) (fun hc => q_load_iW rfl isAgg29 sizeOf29 rfl (by rfl)) ?_
  refine AOrd.g rfl rfl (wanted_f rfl rfl) rfl (fun _ => tl0) (fun hc => q_mv rfl (rfl : _ = V.int _ _)) ?_
  refine AOrd.g rfl rfl (wanted_f rfl rfl) rfl (fun hc => tl2 29 28 (.opt hc) (.opt hc)) (fun hc => QOp.call rfl (by exact call41) fun h' hl' => by exact field_calls s i 4 (is_in (by cases e : isF s i <;> simp_all)) (by decide) h') ?_
  refine AOrd.g rfl rfl (wanted_f rfl rfl) rfl (fun hc => tl1 30 (.opt hc)) (fun hc => q_eq rfl rfl rfl) ?_
  refine .q rfl rfl rfl rfl (q_pickg rfl rfl (fun hp => by exact VLe.refl _) (fun hp => by first | exact VLe.opt hp | exact VLe.opt (by rw [hp]; rfl) | exact VLe.opt (by simp_all))) ?_
  refine AOrd.nil ?_
  refine AW.cond rfl (fun c0 => ?_) (fun c0 => ?_)
  · skip
    refine .seq <|
      .region <|
      .aB rfl rfl <|
      .nil ?_
    refine AW.ret ?_
    exact retQ.mk' (.one _) (VLe.of_eq (congrArg V.bool (by rw [stopsF]; cases e : isF s i <;> cases e2 : attacksF s a <;> simp_all <;> (intro x y; rcases c0 with z | z; exact absurd x z; exact absurd z y)))) (HLe.refl _) ⟨rfl, rfl⟩
  · skip
    refine AW.skip ?_
    refine .seq <|
      .region <|
      .lw rfl isAgg29 sizeOf29 rfl rfl <|
      .mI rfl rfl ?_
    refine .u rfl rfl rfl (QOp.call rfl call31 fun h' hl' => by exact has'_calls _ _ _ hb hl h') ?_
    refine .nt rfl rfl <|
      .mB rfl rfl ?_
    refine .gf rfl rfl rfl (fun _ => tl0) (fun hc => q_load_iW rfl isAgg29 sizeOf29 rfl (by rfl)) ?_
    refine .gf rfl rfl rfl (fun _ => tl0) (fun hc => q_mv rfl (rfl : _ = V.int _ _)) ?_
    refine .gf rfl rfl rfl (fun hc => tl2 39 38 (.opt hc) (.opt hc)) (fun hc => QOp.call rfl (by exact call31) fun h' hl' => by exact has'_calls _ _ _ hb hl h') ?_
    refine .pf rfl rfl rfl rfl <|
      .mB rfl rfl ?_
    refine .gf rfl rfl rfl (fun _ => tl0) (fun hc => q_load_iW rfl isAgg29 sizeOf29 rfl (by rfl)) ?_
    refine .gf rfl rfl rfl (fun _ => tl0) (fun hc => q_mv rfl (rfl : _ = V.int _ _)) ?_
    refine .gf rfl rfl rfl (fun hc => tl2 44 43 (.opt hc) (.opt hc)) (fun hc => QOp.call rfl (by exact call31) fun h' hl' => by exact has'_calls _ _ _ hb hl h') ?_
    refine .pf rfl rfl rfl rfl <|
      .aB rfl rfl <|
      .nil ?_
    refine AW.ret ?_
    exact retQ.mk' (.one _) (VLe.of_eq (congrArg V.bool (by rw [stopsF]; cases e : isF s i <;> cases e2 : attacksF s a <;> simp_all [Bool.or_assoc]))) (HLe.refl _) ⟨rfl, rfl⟩

end Go.Proofs.YtijhmlkffkedeaaGreatDoor
/- A creature's words: by the document and by the program the same. -/
namespace Go.Proofs.YtijhmlkffkedeaaGreatDoor
open Go Go.AV Go.Proofs.Tryz
set_option maxRecDepth 100000
set_option maxHeartbeats 1000000
theorem bit_nat {x j : Nat} : bitF (x : Int) j = x.testBit j := by
  rw [Nat.testBit_eq_decide_div_mod_eq]
  unfold bitF
  have : ((x : Int) / 2 ^ j % 2 : Int) = ((x / 2 ^ j % 2 : Nat) : Int) := by norm_cast
  rw [this]
  by_cases h : x / 2 ^ j % 2 = 1
  · simp [h]
  · have : x / 2 ^ j % 2 = 0 := by omega
    simp [this]
theorem ofUp_nat (b : Nat → Bool) : ∀ k, ∃ y : Nat, ofUp b k = y ∧ y < 2 ^ k ∧ ∀ j, j < k → y.testBit j = b j
  | 0 => ⟨0, rfl, by decide, fun j h => by omega⟩
  | k + 1 => by
    obtain ⟨y, e, hy, hb⟩ := ofUp_nat b k
    rw [ofUp, e]
    by_cases hk : b k = true
    · refine ⟨2 ^ k + y, by rw [if_pos hk]; push_cast; omega, by rw [Nat.pow_succ]; omega, fun j hj => ?_⟩
      by_cases hjk : j < k
      · rw [Nat.testBit_two_pow_add_gt hjk, hb j hjk]
      · have : j = k := by omega
        subst this
        rw [Nat.testBit_two_pow_add_eq, Nat.testBit_lt_two_pow hy, hk]; rfl
    · have hk : b k = false := by simpa using hk
      refine ⟨y, by rw [hk]; rfl, by rw [Nat.pow_succ]; omega, fun j hj => ?_⟩
      by_cases hjk : j < k
      · exact hb j hjk
      · have : j = k := by omega
        subst this
        rw [Nat.testBit_lt_two_pow hy, hk]
theorem turned_nat {w n : Nat} {is : Bool} (hw : w < 2 ^ 64) : ∀ k, k ≤ 8 → ∃ y : Nat, turnedUp w n is k = y ∧ y < 2 ^ 64 ∧ ∀ j, j < 64 → y.testBit j = if j < k ∧ n.testBit j = true then is else w.testBit j
  | 0, _ => ⟨w, rfl, hw, fun j _ => by simp⟩
  | k + 1, hk => by
    obtain ⟨y, e, hy, hb⟩ := turned_nat (n := n) (is := is) hw k (by omega)
    rw [turnedUp, e]
    by_cases hn : bitF (n : Int) k = true
    · rw [if_pos hn, setB, if_pos (by omega)]
      obtain ⟨z, e2, hz, hb2⟩ := ofUp_nat (upd (bitF (y : Int)) (Int.toNat (k : Int)) is) 64
      refine ⟨z, e2, hz, fun j hj => ?_⟩
      rw [hb2 j hj, Int.toNat_natCast, upd]
      rw [bit_nat] at hn
      by_cases hjk : j = k
      · subst hjk; rw [if_pos rfl, if_pos ⟨by omega, hn⟩]
      · rw [if_neg hjk, bit_nat, hb j hj]
        by_cases c : j < k
        · simp [c, Nat.lt_succ_of_lt c]
        · have c2 : ¬ j < k + 1 := by omega
          simp [c, c2]
    · rw [if_neg hn]
      refine ⟨y, rfl, hy, fun j hj => ?_⟩
      rw [bit_nat] at hn
      rw [hb j hj]
      by_cases hjk : j = k
      · subst hjk; simp [hn]
      · by_cases c : j < k
        · simp [c, Nat.lt_succ_of_lt c]
        · have c2 : ¬ j < k + 1 := by omega
          simp [c, c2]
theorem lt_256 {y : Nat} (h : ∀ j, 8 ≤ j → y.testBit j = false) : y < 256 := Nat.lt_pow_two_of_testBit (n := 8) y h
theorem hi_bit {n : Nat} (h : n < 256) {j : Nat} (hj : 8 ≤ j) : n.testBit j = false :=
  Nat.testBit_lt_two_pow (Nat.lt_of_lt_of_le h (Nat.pow_le_pow_right (n := 2) (i := 8) (by decide) hj))
theorem turned_val {w n : Nat} {is : Bool} (hw : w < 256) (hn : n < 256) : ∃ y : Nat, turnedF w n is = y ∧ y < 256 ∧ ∀ j, y.testBit j = if n.testBit j = true then is else w.testBit j := by
  obtain ⟨y, e, hy, hb⟩ := turned_nat (n := n) (is := is) (w := w) (by omega) 8 (Nat.le_refl _)
  have h8 : ∀ j, 8 ≤ j → y.testBit j = false := fun j hj => by
    by_cases c : j < 64
    · rw [hb j c, if_neg (by omega), hi_bit hw hj]
    · exact Nat.testBit_lt_two_pow (Nat.lt_of_lt_of_le hy (Nat.pow_le_pow_right (by decide) (by omega)))
  refine ⟨y, e, lt_256 h8, fun j => ?_⟩
  by_cases c : j < 8
  · rw [hb j (by omega)]; simp [c]
  · rw [h8 j (by omega), hi_bit hn (by omega), hi_bit hw (by omega)]; rfl
theorem bv_small {w : Nat} (h : w < 256) : (BitVec.ofInt 64 (w : Int)).toNat = w := by
  rw [BitVec.toNat_ofInt]; omega
theorem or_val {w n : Nat} (hw : w < 256) (hn : n < 256) : ∃ y : Nat, bitop .or .i64 w n = y ∧ y < 256 ∧ ∀ j, y.testBit j = (w.testBit j || n.testBit j) := by
  refine ⟨w ||| n, ?_, lt_256 fun j hj => by rw [Nat.testBit_or, hi_bit hw hj, hi_bit hn hj]; rfl, fun j => Nat.testBit_or ..⟩
  have hlt : w ||| n < 256 := lt_256 fun j hj => by rw [Nat.testBit_or, hi_bit hw hj, hi_bit hn hj]; rfl
  show IntKind.i64.wrap ((BitVec.ofInt 64 (w : Int) ||| BitVec.ofInt 64 (n : Int)).toNat : Nat) = _
  rw [BitVec.toNat_or, bv_small hw, bv_small hn, IntKind.wrap_i64]
  omega
theorem andNot_val {w n : Nat} (hw : w < 256) (hn : n < 256) : ∃ y : Nat, bitop .andNot .i64 w n = y ∧ y < 256 ∧ ∀ j, y.testBit j = (w.testBit j && !n.testBit j) := by
  have hb : ∀ j, (BitVec.ofInt 64 (w : Int) &&& ~~~BitVec.ofInt 64 (n : Int)).toNat.testBit j = (w.testBit j && !n.testBit j) := fun j => by
    rw [BitVec.testBit_toNat, BitVec.getLsbD_and, BitVec.getLsbD_not, ← BitVec.testBit_toNat, ← BitVec.testBit_toNat, bv_small hw, bv_small hn]
    by_cases c : j < 64
    · simp [c]
    · rw [hi_bit hw (by omega)]; simp
  have hlt := lt_256 fun j hj => by rw [hb j, hi_bit hw hj]; rfl
  refine ⟨_, ?_, hlt, hb⟩
  show IntKind.i64.wrap ((BitVec.ofInt 64 (w : Int) &&& ~~~BitVec.ofInt 64 (n : Int)).toNat : Nat) = _
  rw [IntKind.wrap_i64]
  omega
/-- Words turned on, turned off. -/
theorem on_eq {w n : Int} (hw : 0 ≤ w ∧ w < 256) (hn : 0 ≤ n ∧ n < 256) : turnedF w n true = bitop .or .i64 w n ∧ 0 ≤ turnedF w n true ∧ turnedF w n true < 256 := by
  obtain ⟨w, rfl⟩ := Int.eq_ofNat_of_zero_le hw.1
  obtain ⟨n, rfl⟩ := Int.eq_ofNat_of_zero_le hn.1
  obtain ⟨y, e, hy, hb⟩ := turned_val (w := w) (n := n) (is := true) (by omega) (by omega)
  obtain ⟨z, e2, hz, hb2⟩ := or_val (w := w) (n := n) (by omega) (by omega)
  have : y = z := Nat.eq_of_testBit_eq fun j => by rw [hb, hb2]; cases n.testBit j <;> simp
  subst this
  exact ⟨e.trans e2.symm, by omega, by omega⟩
theorem off_eq {w n : Int} (hw : 0 ≤ w ∧ w < 256) (hn : 0 ≤ n ∧ n < 256) : turnedF w n false = bitop .andNot .i64 w n ∧ 0 ≤ turnedF w n false ∧ turnedF w n false < 256 := by
  obtain ⟨w, rfl⟩ := Int.eq_ofNat_of_zero_le hw.1
  obtain ⟨n, rfl⟩ := Int.eq_ofNat_of_zero_le hn.1
  obtain ⟨y, e, hy, hb⟩ := turned_val (w := w) (n := n) (is := false) (by omega) (by omega)
  obtain ⟨z, e2, hz, hb2⟩ := andNot_val (w := w) (n := n) (by omega) (by omega)
  have : y = z := Nat.eq_of_testBit_eq fun j => by rw [hb, hb2]; cases n.testBit j <;> simp
  subst this
  exact ⟨e.trans e2.symm, by omega, by omega⟩
theorem step_w {s : St} {i : Int} {x : RStat} (h : 0 ≤ x.doo.n ∧ x.doo.n ≤ 3) (hn : (e0 x).op = 23 ∨ (e0 x).op = 25 → 0 ≤ (e0 x).n ∧ (e0 x).n < 256) {a : Sum} (ha : 0 ≤ a.out.w ∧ a.out.w < 256) : (evStep s i a (toStat s x)).out.w = worStep s i a.out.w x ∧ 0 ≤ worStep s i a.out.w x ∧ worStep s i a.out.w x < 256 := by
  unfold evStep worStep
  rw [reach_eq h]
  have e0' : (toStat s x).doo = e0 x := rfl
  rw [e0']
  cases hw : withinF s x i with
  | false => simp [ha]
  | true =>
    by_cases h3 : (e0 x).op = 23
    · have := on_eq ha (hn (.inl h3)); simp [h3, this.1]; rw [this.1] at this; exact this.2
    · by_cases h4 : (e0 x).op = 25
      · have := off_eq ha (hn (.inr h4)); simp [h4, this.1]; rw [this.1] at this; exact this.2
      · have b1 : ((e0 x).op == 23) = false := by simpa using h3
        have b2 : ((e0 x).op == 25) = false := by simpa using h4
        by_cases h1 : (e0 x).op = 24
        · simp [h1, ha]
        · by_cases h2 : (e0 x).op = 10
          · simp [h2, ha]
          · simp [h1, h2, h3, h4, b1, b2, ha]
theorem fold_w {s : St} {i : Int} : ∀ (l : List RStat) (_ : ∀ x ∈ l, (0 ≤ x.doo.n ∧ x.doo.n ≤ 3) ∧ ((e0 x).op = 23 ∨ (e0 x).op = 25 → 0 ≤ (e0 x).n ∧ (e0 x).n < 256)) (a : Sum) (_ : 0 ≤ a.out.w ∧ a.out.w < 256),
    ((l.map (toStat s)).foldl (evStep s i) a).out.w = l.foldl (worStep s i) a.out.w ∧ 0 ≤ l.foldl (worStep s i) a.out.w ∧ l.foldl (worStep s i) a.out.w < 256
  | [], _, a, ha => ⟨rfl, ha⟩
  | x :: l, h, a, ha => by
    have h1 := step_w (s := s) (i := i) (h x (by simp)).1 (h x (by simp)).2 ha
    have g1 := fold_w (s := s) (i := i) l (fun y hy => h y (by simp [hy])) (evStep s i a (toStat s x)) (by rw [h1.1]; exact h1.2)
    simp only [List.map_cons, List.foldl_cons]
    rw [h1.1] at g1
    exact g1
theorem rof_w {s : St} {i : Int} (hz : ∀ id ∈ s.lists 8, 0 ≤ id ∧ id < s.objs.length) (h10 : 0 ≤ s.objs.getD i.toNat noObj 10 ∧ s.objs.getD i.toNat noObj 10 < 256) : rofF s i = evalF s i ∧ 0 ≤ (evalF s i).w ∧ (evalF s i).w < 256 := by
  have hk : 0 ≤ (ev0 s i).out.w ∧ (ev0 s i).out.w < 256 := (cardE_words _).1
  have g := fold_w (s := s) (i := i) (rstatsF s) (fun x hx => ⟨(rstat_ok hz x hx).2.2.2.1, (rstat_ok hz x hx).2.2.2.2⟩) (ev0 s i) hk
  have ew : (evSum s i (staticsF s)).out.w = worF s i := by unfold evSum; rw [statics_eq, g.1]; rfl
  have hwr : 0 ≤ worF s i ∧ worF s i < 256 := g.2
  have ho := on_eq hwr h10
  have w1 : (rofF s i).w = IntKind.i64.wrap (turnedF (worF s i) (s.objs.getD i.toNat noObj 10) true) := rfl
  have w2 : (evalF s i).w = bitop .or .i64 (evSum s i (staticsF s)).out.w (s.objs.getD i.toNat noObj 10) := rfl
  have ew2 : (evalF s i).w = turnedF (worF s i) (s.objs.getD i.toNat noObj 10) true := by rw [w2, ew, ho.1]
  have hp := rof_eq (i := i) hz
  refine ⟨?_, by rw [ew2]; exact ho.2⟩
  have hw : (rofF s i).w = (evalF s i).w := by rw [w1, ew2, IntKind.wrap_i64]; omega
  calc rofF s i = ⟨(rofF s i).p, (rofF s i).t, (rofF s i).w⟩ := rfl
    _ = ⟨(evalF s i).p, (evalF s i).t, (evalF s i).w⟩ := by rw [hp.1, hp.2, hw]
    _ = evalF s i := rfl
theorem and_tab : ∀ k, k < 8 → ∀ w, w < 256 → (w &&& 2 ^ k == 2 ^ k) = (w / 2 ^ k % 2 == 1) := by decide
theorem and_bit {w : Int} {p k : Nat} (hp : p = 2 ^ k) (hk : k < 8) (hw : 0 ≤ w ∧ w < 256) : (1 ≤ p ∧ p ≤ 255) ∧ (bitop .and .i64 w (p : Int) == (p : Int)) = (w / (p : Int) % 2 == 1) := by
  obtain ⟨w, rfl⟩ := Int.eq_ofNat_of_zero_le hw.1
  have hk1 : 0 < 2 ^ k := Nat.pow_pos (by decide)
  have hk2 : 2 ^ k < 256 := by
    have := Nat.pow_lt_pow_right (a := 2) (by decide) hk; omega
  have h := and_tab k hk w (by omega)
  rw [← hp] at h hk1 hk2
  refine ⟨by omega, ?_⟩
  have hlt : w &&& p < 256 := Nat.lt_of_le_of_lt Nat.and_le_left (by omega)
  have e : bitop .and .i64 w (p : Int) = ((w &&& p : Nat) : Int) := by
    show IntKind.i64.wrap ((BitVec.ofInt 64 (w : Int) &&& BitVec.ofInt 64 (p : Int)).toNat : Nat) = _
    rw [BitVec.toNat_and, bv_small (by omega), bv_small hk2, IntKind.wrap_i64]
    omega
  rw [e]
  have e1 : (((w &&& p : Nat) : Int) == (p : Int)) = (w &&& p == p) := by
    rw [Bool.eq_iff_iff]; simp only [beq_iff_eq]; omega
  have e2 : ((w : Int) / (p : Int) % 2 == 1) = (w / p % 2 == 1) := by
    have : (w : Int) / (p : Int) % 2 = ((w / p % 2 : Nat) : Int) := by norm_cast
    rw [this, Bool.eq_iff_iff]; simp only [beq_iff_eq]; omega
  rw [e1, e2, h]
/-- A word of a creature, by its worth. -/
theorem word_eq {s : St} {i : Int} {p k : Nat} (hp : p = 2 ^ k) (hk : k < 8) (hc : checkF s = 0) (hcr : creatureF s i = true) (hz : ∀ id ∈ s.lists 8, 0 ≤ id ∧ id < s.objs.length) (h10 : 0 ≤ s.objs.getD i.toNat noObj 10 ∧ s.objs.getD i.toNat noObj 10 < 256) : hasF s i (p : Int) = ((rofF s i).w / (p : Int) % 2 == 1) := by
  have e := rof_w (i := i) hz h10
  have eo : ofF s i = (evalF s i, 0) := by rw [ofF, if_neg (by simpa using hc), if_neg (by rw [hcr]; decide)]
  have hb := and_bit hp hk e.2
  rw [e.1, hasF, eo, hb.2]
  have d1 : decide ((1 : Int) ≤ (p : Int)) = true := by simp only [decide_eq_true_eq]; omega
  have d2 : decide ((p : Int) ≤ 255) = true := by simp only [decide_eq_true_eq]; omega
  rw [d1, d2]; rfl
end Go.Proofs.YtijhmlkffkedeaaGreatDoor
