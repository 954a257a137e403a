/- Walks: what an emitter sets. -/
import Derived.Test.YtnbmcbkokaoapaaGreatDoorEm2
namespace Go.Proofs.YtnbmcbkokaoapaaGreatDoor
open Go Go.AV
set_option maxRecDepth 100000
set_option maxHeartbeats 400000
def Em.set (m : Em) (e : Ev) (was n : Int) : Em := if was = n then m.fail (evCheck ⟨e.k, e.a, e.b, was, n, e.e⟩) else m.doL [⟨e.k, e.a, e.b, was, n, e.e⟩]
theorem fail_inv {m : Em} {e : Int} (h : EmI m) : EmI (m.fail e) := by
  unfold Em.fail; split
  · rename_i h0; exact ⟨fun _ => h.sz h0, h.evs⟩
  · exact h
theorem fail_at {h0 : Hp} {id : Nat} {m : Em} {ve vp : V} (hr : EmR h0 id m ve vp) (e : Int) : EmAt h0 id (m.fail e) ((addTok ve (addTok vp h0)).setBox id (emCells (m.fail e) ve vp)) := by
  refine ⟨ve, vp, ?_, rfl⟩
  unfold Em.fail; split
  · exact ⟨hr.ae, hr.ap, hr.fp, hr.fe, hr.fi⟩
  · exact hr

theorem set_calls (e : Ev) (was n : Int) (hk : e.k ≠ 0 ∧ e.k ≠ 5) {h0 : Hp} {id : Nat} {m : Em} {h : Hp} (he : EmAt h0 id m h) (hI : EmI m) : ACalls Tryz.prog G 58 [.ptr id 0, eEv e, .int .i64 was, .int .i64 n] h fun r h' => r = .tup [] ∧ EmAt h0 id (m.set e was n) h' := by
  refine ACalls.enter Tryz.func58 rfl Tryz.ntmps58 Tryz.results58 rfl ?_
  refine AW.seq ?_
  refine AW.region ?_
  refine AOps.s rfl rfl rfl (a_boxa rfl (rfl : _ = V.agg _) (fun id5 hid5 => ?_))
  refine AOps.nil ?_
  refine AW.seq ?_
  refine AW.seq ?_
  refine AW.region ?_
  refine AOps.q rfl rfl rfl (q_mv rfl (rfl : _ = V.int _ _)) ?_
  refine AOps.q rfl rfl rfl (q_mv rfl (rfl : _ = V.int _ _)) ?_
  refine AOps.q rfl rfl rfl (q_fa_b rfl Tryz.underlying84 rfl (by exact Tryz.sizeOf3) (by decide) rfl (rfl : _ = 3)) ?_
  refine AOps.s0 rfl rfl (a_store1 rfl Tryz.sizeOf3 rfl (by exact Hp.box_setBox _ _ _) (rfl : _ = V.int _ _) rfl rfl (by first | decide | exact Nat.le_of_ble_eq_true rfl) ?_)
  refine AOps.q rfl rfl rfl (q_fa_b rfl Tryz.underlying84 rfl (by exact Tryz.sizeOf3) (by decide) rfl (rfl : _ = 4)) ?_
  refine AOps.s0 rfl rfl (a_store1 rfl Tryz.sizeOf3 rfl (by exact Hp.box_setBox _ _ _) (rfl : _ = V.int _ _) rfl rfl (by first | decide | exact Nat.le_of_ble_eq_true rfl) ?_)
  refine AOps.nil ?_
  refine AW.seq ?_
  refine AW.hp (h' := h.setBox id5 (cEv ⟨e.k, e.a, e.b, was, n, e.e⟩)) (by rw [Hp.setBox_setBox, Hp.setBox_setBox]; rfl) ?_
  refine AW.done 5 rfl hid5 ?_
  refine AW.region ?_
  refine AOps.q rfl rfl rfl (q_mv rfl (rfl : _ = V.int _ _)) ?_
  refine AOps.q rfl rfl rfl (q_mv rfl (rfl : _ = V.int _ _)) ?_
  refine AOps.q rfl rfl rfl (q_eq rfl rfl rfl) ?_
  refine AOps.nil ?_
  refine AW.cond rfl (fun c0 => ?_) (fun c0 => ?_)
  · obtain ⟨ve, vp, hr, rfl⟩ := he
    refine AW.seq ?_
    refine AW.region ?_
    refine AOps.q rfl rfl rfl (q_mv rfl (rfl : _ = V.ptr _ _)) ?_
    refine AOps.q rfl rfl rfl (q_load_iW rfl Tryz.isAgg84 Tryz.sizeOf84 rfl (by rfl)) ?_
    refine AOps.q rfl rfl rfl (QOp.call rfl (by exact Tryz.call56) fun h' hl' => by exact evCheck_calls ⟨e.k, e.a, e.b, was, n, e.e⟩ h') ?_
    refine AOps.s rfl rfl rfl ((AStep.call rfl (by exact Tryz.call31) (fail_calls _ ve vp _ id _)).mono ?_)
    rintro x3 h3 ⟨rfl, rfl⟩
    refine AOps.nil ?_
    refine AW.ret ?_
    exact retQ.mk .none ⟨rfl, by rw [Em.set, if_pos (by simpa using c0)]; exact fail_at hr _⟩
  · skip
    refine AW.skip ?_
    refine AW.region ?_
    refine AOps.q rfl rfl rfl (q_mv rfl (rfl : _ = V.ptr _ _)) ?_
    refine AOps.q rfl rfl rfl (q_load_iW rfl Tryz.isAgg84 Tryz.sizeOf84 rfl (by rfl)) ?_
    refine AOps.q rfl rfl rfl (q_buildSl rfl Tryz.underlying54 Tryz.sizeOf84 Tryz.zeroValue84 rfl rfl rfl rfl rfl) ?_
    refine AOps.s rfl rfl rfl ((AStep.call rfl (by exact Tryz.call57) (doL_calls [⟨e.k, e.a, e.b, was, n, e.e⟩] (by simpa using hk) (by simp) (k := .full) he hI)).mono ?_)
    rintro x3 h3 ⟨rfl, he3⟩
    refine AOps.nil ?_
    exact retQ.mk .none ⟨rfl, by rw [Em.set, if_neg (by simpa using c0)]; exact he3⟩

def Em.setF (m : Em) (i f n : Int) : Em :=
  if m.err ≠ 0 then m
  else if evCheck ⟨2, i, f, 0, n, 0⟩ ≠ 0 ∨ (m.now.objs.length : Int) ≤ i then m.doL [⟨2, i, f, 0, n, 0⟩]
  else m.set ⟨2, i, f, 0, n, 0⟩ (m.now.objs.getD i.toNat noObj f.toNat) n
def Em.gameF (m : Em) (f n : Int) : Em :=
  if m.err ≠ 0 then m
  else if evCheck ⟨4, 0, f, 0, 0, 0⟩ ≠ 0 then m.doL [⟨4, 0, f, 0, 0, 0⟩]
  else m.set ⟨4, 0, f, 0, 0, 0⟩ (m.now.game f.toNat) n

theorem game'_calls (f n : Int) {h0 : Hp} {id : Nat} {m : Em} {h : Hp} (he : EmAt h0 id m h) (hI : EmI m) : ACalls Tryz.prog G 34 [.ptr id 0, .int .i64 f, .int .i64 n] h fun r h' => r = .tup [] ∧ EmAt h0 id (m.gameF f n) h' := by
  obtain ⟨ve, vp, hr, rfl⟩ := he
  refine ACalls.enter Tryz.func34 rfl Tryz.ntmps34 Tryz.results34 rfl ?_
  refine AW.seq ?_
  refine AW.seq ?_
  refine AW.region ?_
  refine AOps.q rfl rfl rfl (q_mv rfl (rfl : _ = V.ptr _ _)) ?_
  refine AOps.q rfl rfl rfl (QOp.call rfl (by exact Tryz.call13) fun h' hl' => by exact err_calls (hl'.box _ _ (Hp.box_setBox _ _ _))) ?_
  refine AOps.q rfl rfl rfl (q_neerr Tryz.underlying38 rfl rfl) ?_
  refine AOps.nil ?_
  refine AW.cond rfl (fun c0 => ?_) (fun c0 => ?_)
  · skip
    refine AW.ret ?_
    exact retQ.mk .none ⟨rfl, by rw [Em.gameF, if_pos (by simpa using c0)]; exact ⟨ve, vp, hr, rfl⟩⟩
  · skip
    refine AW.skip ?_
    refine AW.seq ?_
    refine AW.region ?_
    refine AOps.q rfl rfl rfl (q_mv rfl (rfl : _ = V.int _ _)) ?_
    refine AOps.q rfl rfl rfl (q_buildS (ds := cEv ⟨4, 0, f, 0, 0, 0⟩) rfl Tryz.zeroValue84 Tryz.underlying84 (pl84 Tryz.underlying84) rfl (by kernel_rfl)) ?_
    refine AOps.s rfl rfl rfl (a_alloc rfl Tryz.zeroValue84 rfl (fun id6 hid6 => ?_))
    refine AOps.s0 rfl rfl (a_storeWA rfl Tryz.sizeOf84 rfl rfl (rfl : _ = V.agg _) rfl rfl ?_)
    refine AOps.done 6 rfl hid6 ?_
    refine AOps.nil ?_
    refine AW.seq ?_
    refine AW.seq ?_
    refine AW.region ?_
    refine AOps.q rfl rfl rfl (q_load_iW rfl Tryz.isAgg84 Tryz.sizeOf84 rfl (by rfl)) ?_
    refine AOps.q rfl rfl rfl (QOp.call rfl (by exact Tryz.call56) fun h' hl' => by exact evCheck_calls ⟨4, 0, f, 0, 0, 0⟩ h') ?_
    refine AOps.q rfl rfl rfl (q_neerr Tryz.underlying38 rfl rfl) ?_
    refine AOps.nil ?_
    refine AW.cond rfl (fun c1 => ?_) (fun c1 => ?_)
    · skip
      refine AW.seq ?_
      refine AW.region ?_
      refine AOps.q rfl rfl rfl (q_mv rfl (rfl : _ = V.ptr _ _)) ?_
      refine AOps.q rfl rfl rfl (q_load_iW rfl Tryz.isAgg84 Tryz.sizeOf84 rfl (by rfl)) ?_
      refine AOps.q rfl rfl rfl (q_buildSl rfl Tryz.underlying54 Tryz.sizeOf84 Tryz.zeroValue84 rfl rfl rfl rfl rfl) ?_
      refine AOps.s rfl rfl rfl ((AStep.call rfl (by exact Tryz.call57) (doL_calls [⟨4, 0, f, 0, 0, 0⟩] (by simp) (by simp) (k := .full) ⟨ve, vp, hr, rfl⟩ hI)).mono ?_)
      rintro x3 h3 ⟨rfl, he3⟩
      refine AOps.nil ?_
      refine AW.ret ?_
      exact retQ.mk .none ⟨rfl, by rw [Em.gameF, if_neg (by simpa using c0), if_pos (by simpa using c1)]; exact he3⟩
    · have hc : evCheck ⟨4, 0, f, 0, 0, 0⟩ = 0 := by simpa using c1
      have ok := (evCheck_ok hc).2.2.2.2 (by simp)
      have ok1 : 0 ≤ f := ok.1
      have ok2 : f < 7 := ok.2
      refine AW.skip ?_
      refine AW.draw [10] [2, 3, 4, 5, 6, 7] [(0, true), (1, true), (2, true), (3, true), (4, true), (5, true), (6, true), (7, true), (8, true), (9, true), (10, false)] mixed (by kernel_rfl) rfl (by kernel_rfl) ?_
      refine AOrd.q rfl rfl rfl rfl (q_mv rfl (rfl : _ = V.ptr _ _)) ?_
      refine AOrd.q rfl rfl rfl rfl (q_load_iW rfl Tryz.isAgg84 Tryz.sizeOf84 rfl (by rfl)) ?_
      refine AOrd.p rfl rfl rfl (fun _ => q_mv rfl (rfl : _ = V.ptr _ _)) ?_
      refine AOrd.p rfl rfl rfl (fun _ => q_mv rfl (rfl : _ = V.int _ _)) ?_
      refine AOrd.p rfl rfl rfl (fun _ => q_nc rfl (rfl : _ = V.ptr _ _) rfl) ?_
      refine AOrd.p rfl rfl rfl (fun _ => q_fa_b rfl Tryz.underlying57 rfl (by exact Tryz.sizeOf29) (by decide) rfl (rfl : _ = 0)) ?_
      refine AOrd.p rfl rfl rfl (fun _ => q_fa_b rfl Tryz.underlying29 rfl (by exact Tryz.sizeOf27) (by decide) rfl (rfl : _ = 30)) ?_
      refine AOrd.p rfl rfl rfl (fun _ => q_ia_ab rfl Tryz.underlying27 Tryz.sizeOf3 rfl rfl (by omega) (by omega)) ?_
      refine AOrd.q rfl rfl rfl rfl (q_load_b1 rfl Tryz.isAgg3 rfl (by exact Hp.box_setBox _ _ _) (st_game_ix ok1 ok2)) ?_
      refine AOrd.q rfl rfl rfl rfl (q_mv rfl (rfl : _ = V.int _ _)) ?_
      refine AOrd.s rfl rfl rfl rfl ((AStep.call rfl (by exact Tryz.call58) (set_calls ⟨4, 0, f, 0, 0, 0⟩ _ n (by simp) ⟨ve, vp, hr, rfl⟩ hI)).mono ?_)
      rintro x3 h3 ⟨rfl, he3⟩
      refine AOrd.nil ?_
      exact retQ.mk .none ⟨rfl, by rw [Em.gameF, if_neg (by simpa using c0), if_neg (by simpa using c1)]; exact he3⟩

theorem setF_yes {e i n : Int} (h : (bif e != 0 then true else decide (n ≤ i)) = true) : e ≠ 0 ∨ n ≤ i := by
  by_cases h0 : e = 0
  · subst h0; exact .inr (by simpa using h)
  · exact .inl h0
theorem setF_no {e i n : Int} (h : (bif e != 0 then true else decide (n ≤ i)) = false) : e = 0 ∧ i < n := by
  by_cases h0 : e = 0
  · subst h0; exact ⟨rfl, by simpa using h⟩
  · have : (e != 0) = true := by simpa using h0
    rw [this] at h; cases h

theorem setF_calls (i f n : Int) {h0 : Hp} {id : Nat} {m : Em} {h : Hp} (he : EmAt h0 id m h) (hI : EmI m) : ACalls Tryz.prog G 86 [.ptr id 0, .int .i64 i, .int .i64 f, .int .i64 n] h fun r h' => r = .tup [] ∧ EmAt h0 id (m.setF i f n) h' := by
  obtain ⟨ve, vp, hr, rfl⟩ := he
  refine ACalls.enter Tryz.func86 rfl Tryz.ntmps86 Tryz.results86 rfl ?_
  refine AW.seq ?_
  refine AW.seq ?_
  refine AW.region ?_
  refine AOps.q rfl rfl rfl (q_mv rfl (rfl : _ = V.ptr _ _)) ?_
  refine AOps.q rfl rfl rfl (QOp.call rfl (by exact Tryz.call13) fun h' hl' => by exact err_calls (hl'.box _ _ (Hp.box_setBox _ _ _))) ?_
  refine AOps.q rfl rfl rfl (q_neerr Tryz.underlying38 rfl rfl) ?_
  refine AOps.nil ?_
  refine AW.cond rfl (fun c0 => ?_) (fun c0 => ?_)
  · skip
    refine AW.ret ?_
    exact retQ.mk .none ⟨rfl, by rw [Em.setF, if_pos (by simpa using c0)]; exact ⟨ve, vp, hr, rfl⟩⟩
  · skip
    refine AW.skip ?_
    refine AW.seq ?_
    refine AW.region ?_
    refine AOps.q rfl rfl rfl (q_mv rfl (rfl : _ = V.int _ _)) ?_
    refine AOps.q rfl rfl rfl (q_mv rfl (rfl : _ = V.int _ _)) ?_
    refine AOps.q rfl rfl rfl (q_mv rfl (rfl : _ = V.int _ _)) ?_
    refine AOps.q rfl rfl rfl (q_buildS (ds := cEv ⟨2, i, f, 0, n, 0⟩) rfl Tryz.zeroValue84 Tryz.underlying84 (pl84 Tryz.underlying84) rfl (by kernel_rfl)) ?_
    refine AOps.s rfl rfl rfl (a_alloc rfl Tryz.zeroValue84 rfl (fun id8 hid8 => ?_))
    refine AOps.s0 rfl rfl (a_storeWA rfl Tryz.sizeOf84 rfl rfl (rfl : _ = V.agg _) rfl rfl ?_)
    refine AOps.done 8 rfl hid8 ?_
    refine AOps.nil ?_
    refine AW.seq ?_
    refine AW.seq ?_
    refine AW.region ?_
    refine AOps.q rfl rfl rfl (q_load_iW rfl Tryz.isAgg84 Tryz.sizeOf84 rfl (by rfl)) ?_
    refine AOps.q rfl rfl rfl (QOp.call rfl (by exact Tryz.call56) fun h' hl' => by exact evCheck_calls ⟨2, i, f, 0, n, 0⟩ h') ?_
    refine AOps.q rfl rfl rfl (q_neerr Tryz.underlying38 rfl rfl) ?_
    refine AOps.q rfl rfl rfl (q_mv rfl (rfl : _ = V.bool _)) ?_
    refine AOps.g (wanted_f rfl rfl) rfl rfl (fun hc => TLe.refl _) (fun hc => q_mv rfl (rfl : _ = V.int _ _)) ?_
    refine AOps.g (wanted_f rfl rfl) rfl rfl (fun hc => TLe.refl _) (fun hc => q_mv rfl (rfl : _ = V.ptr _ _)) ?_
    refine AOps.g (wanted_f rfl rfl) rfl rfl (fun hc => TLe.put (d := 21) (VLe.opt hc) (TLe.refl _)) (fun hc => q_nc rfl (rfl : _ = V.ptr _ _) rfl) ?_
    refine AOps.g (wanted_f rfl rfl) rfl rfl (fun hc => TLe.put (d := 22) (VLe.opt hc) (TLe.refl _)) (fun hc => q_fa_b rfl Tryz.underlying57 rfl (by exact Tryz.sizeOf29) (by decide) rfl (rfl : _ = 0)) ?_
    refine AOps.g (wanted_f rfl rfl) rfl rfl (fun hc => TLe.put (d := 23) (VLe.opt hc) (TLe.refl _)) (fun hc => q_fa_b rfl Tryz.underlying29 rfl (by exact Tryz.sizeOf22) (by decide) rfl (rfl : _ = 0)) ?_
    refine AOps.g (wanted_f rfl rfl) rfl rfl (fun hc => TLe.put (d := 24) (VLe.opt hc) (TLe.refl _)) (fun hc => q_load_b1 rfl Tryz.isAgg22 rfl (by exact Hp.box_setBox _ _ _) rfl) ?_
    refine AOps.g (wanted_f rfl rfl) rfl rfl (fun hc => TLe.put (d := 25) (VLe.opt hc) (TLe.refl _)) (fun hc => q_len rfl Tryz.underlying22 rfl) ?_
    refine AOps.g (wanted_f rfl rfl) rfl rfl (fun hc => TLe.put (d := 26) (VLe.opt hc) (TLe.put (d := 20) (VLe.opt hc) (TLe.refl _))) (fun hc => q_ge rfl rfl rfl) ?_
    refine AOps.q rfl rfl rfl (q_pickg rfl rfl (fun hp => by exact VLe.refl _) (fun hp => by first | exact VLe.opt hp | exact VLe.opt (by rw [hp]; rfl) | exact VLe.opt (by simp_all))) ?_
    refine AOps.nil ?_
    refine AW.cond rfl (fun c1 => ?_) (fun c1 => ?_)
    · skip
      refine AW.seq ?_
      refine AW.region ?_
      refine AOps.q rfl rfl rfl (q_mv rfl (rfl : _ = V.ptr _ _)) ?_
      refine AOps.q rfl rfl rfl (q_load_iW rfl Tryz.isAgg84 Tryz.sizeOf84 rfl (by rfl)) ?_
      refine AOps.q rfl rfl rfl (q_buildSl rfl Tryz.underlying54 Tryz.sizeOf84 Tryz.zeroValue84 rfl rfl rfl rfl rfl) ?_
      refine AOps.s rfl rfl rfl ((AStep.call rfl (by exact Tryz.call57) (doL_calls [⟨2, i, f, 0, n, 0⟩] (by simp) (by simp) (k := .full) ⟨ve, vp, hr, rfl⟩ hI)).mono ?_)
      rintro x3 h3 ⟨rfl, he3⟩
      refine AOps.nil ?_
      refine AW.ret ?_
      exact retQ.mk .none ⟨rfl, by rw [Em.setF, if_neg (by simpa using c0), if_pos (setF_yes c1)]; exact he3⟩
    · have hc := setF_no c1
      have ok := (evCheck_ok hc.1).2.2.1 rfl
      have ok1 : 0 ≤ i := ok.1
      have ok2 : 0 ≤ f := ok.2.1
      have ok3 : f < 18 := ok.2.2
      have hlt := hc.2
      refine AW.skip ?_
      refine AW.draw [13] [2, 3, 4, 5, 7, 8, 9, 10] [(0, true), (1, true), (2, true), (3, true), (4, true), (5, true), (7, true), (8, true), (12, true), (6, false), (9, true), (10, true), (11, true), (13, false)] mixed (by kernel_rfl) rfl (by kernel_rfl) ?_
      refine AOrd.q rfl rfl rfl rfl (q_mv rfl (rfl : _ = V.ptr _ _)) ?_
      refine AOrd.q rfl rfl rfl rfl (q_load_iW rfl Tryz.isAgg84 Tryz.sizeOf84 rfl (by rfl)) ?_
      refine AOrd.p rfl rfl rfl (fun _ => q_mv rfl (rfl : _ = V.ptr _ _)) ?_
      refine AOrd.p rfl rfl rfl (fun _ => q_nc rfl (rfl : _ = V.ptr _ _) rfl) ?_
      refine AOrd.p rfl rfl rfl (fun _ => q_fa_b rfl Tryz.underlying57 rfl (by exact Tryz.sizeOf29) (by decide) rfl (rfl : _ = 0)) ?_
      refine AOrd.p rfl rfl rfl (fun _ => q_fa_b rfl Tryz.underlying29 rfl (by exact Tryz.sizeOf22) (by decide) rfl (rfl : _ = 0)) ?_
      refine AOrd.p rfl rfl rfl (fun _ => q_mv rfl (rfl : _ = V.int _ _)) ?_
      refine AOrd.p rfl rfl rfl (fun _ => q_mv rfl (rfl : _ = V.int _ _)) ?_
      refine AOrd.q rfl rfl rfl rfl (q_mv rfl (rfl : _ = V.int _ _)) ?_
      refine AOrd.qf rfl rfl rfl (q_load_b1 rfl Tryz.isAgg22 rfl (by exact Hp.box_setBox _ _ _) rfl) ?_
      refine AOrd.p rfl rfl rfl (fun _ => q_ia_s rfl Tryz.underlying22 Tryz.sizeOf49 rfl rfl (by omega) (by omega) (cObjs_elem' (by omega) (by omega))) ?_
      refine AOrd.p rfl rfl rfl (fun _ => q_ia_ai rfl Tryz.underlying49 Tryz.sizeOf3 rfl rfl (by omega) (by omega) rfl) ?_
      refine AOrd.q rfl rfl rfl rfl (q_load_i1 rfl Tryz.isAgg3 rfl (objp_ix ok2 ok3)) ?_
      refine AOrd.s rfl rfl rfl rfl ((AStep.call rfl (by exact Tryz.call58) (set_calls ⟨2, i, f, 0, n, 0⟩ _ n (by simp) ⟨ve, vp, hr, rfl⟩ hI)).mono ?_)
      rintro x3 h3 ⟨rfl, he3⟩
      refine AOrd.nil ?_
      exact retQ.mk .none ⟨rfl, by rw [Em.setF, if_neg (by simpa using c0), if_neg (by have := setF_no c1; omega)]; exact he3⟩

end Go.Proofs.YtnbmcbkokaoapaaGreatDoor
