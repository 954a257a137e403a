/- Walks: an emitter's errors, and what it answers. -/
import Derived.Test.YtnbmcbkokaoapaaGreatDoorEv
import Derived.Test.YtnbmcbkokaoapaaGreatDoorAcc
namespace Go.Proofs.YtnbmcbkokaoapaaGreatDoor
open Go Go.AV
set_option maxRecDepth 100000
set_option maxHeartbeats 400000
/-- An emitter. -/
structure Em where
  now : St
  draws : List Int
  evs : List Ev
  pend : List Pd
  err : Int
/-- An emitter's cells; 've', 'vp': its events, and what is pending. -/
def emCells (m : Em) (ve vp : V) : List V := cState m.now ++ [eInts m.draws, ve, vp, eE m.err]
/-- What holds of an emitter's parts. -/
structure EmR (h0 : Hp) (id : Nat) (m : Em) (ve vp : V) : Prop where
  ae : AccV 6 m.evs.length (cEvs m.evs) ve
  ap : AccV 3 m.pend.length (cPds m.pend) vp
  fp : vFresh vp h0
  fe : vFresh ve (addTok vp h0)
  fi : (addTok ve (addTok vp h0)).fresh id
/-- An emitter in memory. -/
def EmAt (h0 : Hp) (id : Nat) (m : Em) (h : Hp) : Prop := ∃ ve vp, EmR h0 id m ve vp ∧ h = (addTok ve (addTok vp h0)).setBox id (emCells m ve vp)
theorem EmR.le {h0 : Hp} {id : Nat} {m : Em} {ve vp : V} (r : EmR h0 id m ve vp) (cs : List V) : HLe ((addTok ve (addTok vp h0)).setBox id cs) h0 := (HLe.setBox r.fi.1).trans ((addTok_le r.fe).trans (addTok_le r.fp))
theorem EmAt.le {h0 : Hp} {id : Nat} {m : Em} {h : Hp} (e : EmAt h0 id m h) : HLe h h0 := by
  obtain ⟨ve, vp, r, rfl⟩ := e; exact r.le _
def Em.fail (m : Em) (e : Int) : Em := if m.err = 0 then ⟨m.now, m.draws, m.evs, m.pend, e⟩ else m
def Em.must (m : Em) (ok : Bool) (e : Int) : Em := if m.err = 0 ∧ ok = false then ⟨m.now, m.draws, m.evs, m.pend, e⟩ else m
def noSt : St := ⟨[], fun _ => [], fun _ _ => 0, fun _ => 0⟩
def Em.state (m : Em) : St := if m.err = 0 then m.now else noSt
def Em.events (m : Em) : List Ev := if m.err = 0 then m.evs else []
def Em.pending (m : Em) : List Pd := if m.err = 0 then m.pend else []
theorem em_err (m : Em) (ve vp : V) (e : Int) : splice (emCells m ve vp) 40 [eE e] = emCells ⟨m.now, m.draws, m.evs, m.pend, e⟩ ve vp := rfl
abbrev eEvs (l : List Ev) : V := .sl .imm 6 l.length (cEvs l)
abbrev ePds (l : List Pd) : V := .sl .imm 3 l.length (cPds l)

theorem err_calls {m : Em} {ve vp : V} {id : Nat} {h : Hp} (hb : h.box id = some (emCells m ve vp)) : ACalls Tryz.prog G 13 [.ptr id 0] h fun r h' => r = eE m.err ∧ h' = h := by
  refine ACalls.enter Tryz.func13 rfl Tryz.ntmps13 Tryz.results13 rfl ?_
  refine AW.seq ?_
  refine AW.region ?_
  refine AOps.q rfl rfl rfl (q_as rfl (rfl : _ = V.inil)) ?_
  refine AOps.nil ?_
  refine AW.seq ?_
  refine AW.seq ?_
  refine AW.region ?_
  refine AOps.q rfl rfl rfl (q_mv rfl (rfl : _ = V.ptr _ _)) ?_
  refine AOps.q rfl rfl rfl (q_eqnil Tryz.underlying33 rfl rfl rfl) ?_
  refine AOps.nil ?_
  refine AW.cond rfl (fun c0 => ?_) (fun c0 => ?_)
  · cases c0
  · skip
    refine AW.skip ?_
    refine AW.seq ?_
    refine AW.region ?_
    refine AOps.q rfl rfl rfl (q_mv rfl (rfl : _ = V.ptr _ _)) ?_
    refine AOps.q rfl rfl rfl (q_nc rfl (rfl : _ = V.ptr _ _) rfl) ?_
    refine AOps.q rfl rfl rfl (q_fa_b rfl Tryz.underlying57 rfl (by exact Tryz.sizeOf38) (by decide) rfl (rfl : _ = 40)) ?_
    refine AOps.q rfl rfl rfl (q_load_b1 rfl Tryz.isAgg38 rfl (hb) rfl) ?_
    refine AOps.q rfl rfl rfl (q_as rfl (rfl : _ = eErr _ _)) ?_
    refine AOps.nil ?_
    refine AW.ret ?_
    exact retQ.mk (.one _) ⟨rfl, rfl⟩

theorem fail_calls (m : Em) (ve vp : V) (e : Int) (id : Nat) (h : Hp) : ACalls Tryz.prog G 31 [.ptr id 0, eE e] (h.setBox id (emCells m ve vp)) fun r h' => r = .tup [] ∧ h' = h.setBox id (emCells (m.fail e) ve vp) := by
  refine ACalls.enter Tryz.func31 rfl Tryz.ntmps31 Tryz.results31 rfl ?_
  refine AW.seq ?_
  refine AW.region ?_
  refine AOps.q rfl rfl rfl (q_mv rfl (rfl : _ = V.ptr _ _)) ?_
  refine AOps.q rfl rfl rfl (q_nenil Tryz.underlying33 rfl rfl rfl) ?_
  refine AOps.q rfl rfl rfl (q_mv rfl (rfl : _ = V.bool _)) ?_
  refine AOps.g (wanted_t rfl rfl) rfl rfl (fun hc => TLe.refl _) (fun hc => q_mv rfl (rfl : _ = V.ptr _ _)) ?_
  refine AOps.g (wanted_t rfl rfl) rfl rfl (fun hc => TLe.put (d := 7) (VLe.opt hc) (TLe.refl _)) (fun hc => q_nc rfl (rfl : _ = V.ptr _ _) rfl) ?_
  refine AOps.g (wanted_t rfl rfl) rfl rfl (fun hc => TLe.put (d := 8) (VLe.opt hc) (TLe.refl _)) (fun hc => q_fa_b rfl Tryz.underlying57 rfl (by exact Tryz.sizeOf38) (by decide) rfl (rfl : _ = 40)) ?_
  refine AOps.g (wanted_t rfl rfl) rfl rfl (fun hc => TLe.put (d := 9) (VLe.opt hc) (TLe.refl _)) (fun hc => q_load_b1 rfl Tryz.isAgg38 rfl (by exact Hp.box_setBox _ _ _) rfl) ?_
  refine AOps.g (wanted_t rfl rfl) rfl rfl (fun hc => TLe.put (d := 10) (VLe.opt hc) (TLe.refl _)) (fun hc => q_eqerr Tryz.underlying38 rfl rfl) ?_
  refine AOps.q rfl rfl rfl (q_pickg rfl rfl (fun hp => by exact VLe.opt hp) (fun hp => by exact VLe.refl _)) ?_
  refine AOps.nil ?_
  refine AW.cond rfl (fun c0 => ?_) (fun c0 => ?_)
  · skip
    refine AW.region ?_
    refine AOps.q rfl rfl rfl (q_mv rfl (rfl : _ = V.ptr _ _)) ?_
    refine AOps.q rfl rfl rfl (q_mv rfl (rfl : _ = eErr _ _)) ?_
    refine AOps.q rfl rfl rfl (q_nc rfl (rfl : _ = V.ptr _ _) rfl) ?_
    refine AOps.q rfl rfl rfl (q_fa_b rfl Tryz.underlying57 rfl (by exact Tryz.sizeOf38) (by decide) rfl (rfl : _ = 40)) ?_
    refine AOps.s0 rfl rfl (a_store1 rfl Tryz.sizeOf38 rfl (by exact Hp.box_setBox _ _ _) (rfl : _ = eErr _ _) (eErr_solid _ _).2 (eErr_solid _ _).1 (by first | decide | exact Nat.le_of_ble_eq_true rfl) ?_)
    refine AOps.nil ?_
    exact retQ.mk .none ⟨rfl, by rw [Hp.setBox_setBox, em_err, Em.fail, if_pos (by simpa using c0)]⟩
  · skip
    refine AW.skip ?_
    exact retQ.mk .none ⟨rfl, by rw [Em.fail, if_neg (by simpa using c0)]⟩

theorem must_calls (m : Em) (ve vp : V) (ok : Bool) (e : Int) (he : e ≠ 0) (id : Nat) (h : Hp) : ACalls Tryz.prog G 82 [.ptr id 0, .bool ok, .int .i64 e] (h.setBox id (emCells m ve vp)) fun r h' => r = .bool (m.err == 0 && ok) ∧ h' = h.setBox id (emCells (m.must ok e) ve vp) := by
  refine ACalls.enter Tryz.func82 rfl Tryz.ntmps82 Tryz.results82 rfl ?_
  refine AW.seq ?_
  refine AW.region ?_
  refine AOps.q rfl rfl rfl (q_as rfl (rfl : _ = V.bool _)) ?_
  refine AOps.nil ?_
  refine AW.seq ?_
  refine AW.seq ?_
  refine AW.region ?_
  refine AOps.q rfl rfl rfl (q_mv rfl (rfl : _ = V.ptr _ _)) ?_
  refine AOps.q rfl rfl rfl (QOp.call rfl (by exact Tryz.call13) fun h' hl' => by exact err_calls (hl'.box _ _ (Hp.box_setBox _ _ _))) ?_
  refine AOps.q rfl rfl rfl (q_neerr Tryz.underlying38 rfl rfl) ?_
  refine AOps.nil ?_
  refine AW.cond rfl (fun c0 => ?_) (fun c0 => ?_)
  · skip
    refine AW.seq ?_
    refine AW.region ?_
    refine AOps.q rfl rfl rfl (q_as rfl (rfl : _ = V.bool _)) ?_
    refine AOps.nil ?_
    refine AW.ret ?_
    exact retQ.mk (.one _) ⟨congrArg V.bool (by have h0 : m.err ≠ 0 := by simpa using c0
                                                simp [h0]), by rw [Em.must, if_neg (fun h1 => by simp [h1.1] at c0)]⟩
  · skip
    refine AW.skip ?_
    refine AW.seq ?_
    refine AW.seq ?_
    refine AW.region ?_
    refine AOps.q rfl rfl rfl (q_mv rfl (rfl : _ = V.bool _)) ?_
    refine AOps.q rfl rfl rfl (q_not rfl rfl) ?_
    refine AOps.nil ?_
    refine AW.cond rfl (fun c1 => ?_) (fun c1 => ?_)
    · skip
      refine AW.region ?_
      refine AOps.q rfl rfl rfl (q_mv rfl (rfl : _ = V.ptr _ _)) ?_
      refine AOps.q rfl rfl rfl (q_mv rfl (rfl : _ = V.int _ _)) ?_
      refine AOps.q rfl rfl rfl (q_mkerr rfl Tryz.underlying62 rfl rfl he) ?_
      refine AOps.q rfl rfl rfl (q_nc rfl (rfl : _ = V.ptr _ _) rfl) ?_
      refine AOps.q rfl rfl rfl (q_fa_b rfl Tryz.underlying57 rfl (by exact Tryz.sizeOf38) (by decide) rfl (rfl : _ = 40)) ?_
      refine AOps.s0 rfl rfl (a_store1 rfl Tryz.sizeOf38 rfl (by exact Hp.box_setBox _ _ _) (rfl : _ = eErr _ _) (eErr_solid _ _).2 (eErr_solid _ _).1 (by first | decide | exact Nat.le_of_ble_eq_true rfl) ?_)
      refine AOps.nil ?_
      refine AW.seq ?_
      refine AW.region ?_
      refine AOps.q rfl rfl rfl (q_mv rfl (rfl : _ = V.bool _)) ?_
      refine AOps.q rfl rfl rfl (q_as rfl (rfl : _ = V.bool _)) ?_
      refine AOps.nil ?_
      refine AW.ret ?_
      have h0 : m.err = 0 := by simpa using c0
      obtain rfl : ok = false := by simpa using c1
      exact retQ.mk (.one _) ⟨congrArg V.bool (by simp), by rw [Hp.setBox_setBox, em_err, Em.must, if_pos ⟨h0, rfl⟩]⟩
    · skip
      refine AW.skip ?_
      refine AW.seq ?_
      refine AW.region ?_
      refine AOps.q rfl rfl rfl (q_mv rfl (rfl : _ = V.bool _)) ?_
      refine AOps.q rfl rfl rfl (q_as rfl (rfl : _ = V.bool _)) ?_
      refine AOps.nil ?_
      refine AW.ret ?_
      have h0 : m.err = 0 := by simpa using c0
      obtain rfl : ok = true := by simpa using c1
      exact retQ.mk (.one _) ⟨congrArg V.bool (by simp [h0]), by rw [Em.must, if_neg (by simp)]⟩

theorem zState_le : LLe zState (cState noSt) := by
  refine .cons .nilimm (.cons .nilimm (.cons .nilimm (.cons .nilimm (.cons .nilimm (.cons .nilimm (.cons .nilimm (.cons .nilimm (.cons .nilimm (.cons .nilimm (.cons .nilimm (.cons .nilimm ?_)))))))))))
  exact .refl _

theorem state_calls {m : Em} {ve vp : V} {id : Nat} {h : Hp} (hb : h.box id = some (emCells m ve vp)) (ho : m.err = 0 → m.now.objs.length ≤ 1000000 ∧ ∀ z, (m.now.lists z).length ≤ 1000000) : ACalls Tryz.prog G 12 [.ptr id 0] h fun r h' => r = eState m.state ∧ h' = h := by
  refine ACalls.enter Tryz.func12 rfl Tryz.ntmps12 Tryz.results12 rfl ?_
  refine AW.seq ?_
  refine AW.region ?_
  refine AOps.s rfl rfl rfl (a_alloc rfl Tryz.zeroValue29 rfl (fun id2 hid2 => ?_))
  refine AOps.nil ?_
  refine AW.seq ?_
  refine AW.seq ?_
  have hb2 := (HLe.setBox (cs := zState) hid2.1).box _ _ hb
  refine AW.region ?_
  refine AOps.q rfl rfl rfl (q_mv rfl (rfl : _ = V.ptr _ _)) ?_
  refine AOps.q rfl rfl rfl (QOp.call rfl (by exact Tryz.call13) fun h' hl' => by exact err_calls (hl'.box _ _ hb2)) ?_
  refine AOps.q rfl rfl rfl (q_neerr Tryz.underlying38 rfl rfl) ?_
  refine AOps.nil ?_
  refine AW.cond rfl (fun c0 => ?_) (fun c0 => ?_)
  · skip
    refine AW.seq ?_
    refine AW.region ?_
    refine AOps.q rfl rfl rfl (q_buildS (ds := zState) rfl Tryz.zeroValue29 Tryz.underlying29 (pl29 Tryz.underlying29) rfl (by kernel_rfl)) ?_
    refine AOps.s0 rfl rfl (a_storeWA rfl Tryz.sizeOf29 rfl rfl (rfl : _ = V.agg _) rfl rfl ?_)
    refine AOps.nil ?_
    refine AW.ret ?_
    exact retQ.mk' (Res.cellB Tryz.isAgg29 Tryz.sizeOf29 rfl (by exact Hp.box_setBox _ _ _) rfl) (by rw [Em.state, if_neg (by simpa using c0)]; exact zState_le.agg) (.setBox hid2.1) ⟨rfl, rfl⟩
  · skip
    refine AW.skip ?_
    refine AW.seq ?_
    refine AW.region ?_
    refine AOps.q rfl rfl rfl (q_mv rfl (rfl : _ = V.ptr _ _)) ?_
    refine AOps.q rfl rfl rfl (q_nc rfl (rfl : _ = V.ptr _ _) rfl) ?_
    refine AOps.q rfl rfl rfl (q_fa_b rfl Tryz.underlying57 rfl (by exact Tryz.sizeOf29) (by decide) rfl (rfl : _ = 0)) ?_
    refine AOps.q rfl rfl rfl (q_load_bN (ds := cState m.now) rfl Tryz.isAgg29 Tryz.sizeOf29 (by decide) rfl (hb2) rfl rfl) ?_
    refine AOps.q rfl rfl rfl (QOp.call rfl (by exact Tryz.call28) fun h' hl' => by exact copy_calls _ (ho (by simpa using c0)).1 (ho (by simpa using c0)).2 h') ?_
    refine AOps.s0 rfl rfl (a_storeWA rfl Tryz.sizeOf29 rfl rfl (rfl : _ = V.agg _) rfl rfl ?_)
    refine AOps.nil ?_
    refine AW.ret ?_
    exact retQ.mk' (Res.cellB Tryz.isAgg29 Tryz.sizeOf29 rfl (by exact Hp.box_setBox _ _ _) rfl) (by rw [Em.state, if_pos (by simpa using c0)]; exact VLe.refl _) (.setBox hid2.1) ⟨rfl, rfl⟩

theorem events_calls {m : Em} {ve vp : V} {id : Nat} {h : Hp} (hb : h.box id = some (emCells m ve vp)) (hve : AccV 6 m.evs.length (cEvs m.evs) ve) (ho : m.evs.length ≤ 1000000) : ACalls Tryz.prog G 44 [.ptr id 0] h fun r h' => r = eEvs m.events ∧ h' = h := by
  refine ACalls.enter Tryz.func44 rfl Tryz.ntmps44 Tryz.results44 rfl ?_
  refine AW.seq ?_
  refine AW.region ?_
  refine AOps.q rfl rfl rfl (q_as rfl (rfl : _ = V.snil)) ?_
  refine AOps.nil ?_
  refine AW.seq ?_
  refine AW.seq ?_
  refine AW.region ?_
  refine AOps.q rfl rfl rfl (q_mv rfl (rfl : _ = V.ptr _ _)) ?_
  refine AOps.q rfl rfl rfl (QOp.call rfl (by exact Tryz.call13) fun h' hl' => by exact err_calls (hl'.box _ _ hb)) ?_
  refine AOps.q rfl rfl rfl (q_neerr Tryz.underlying38 rfl rfl) ?_
  refine AOps.nil ?_
  refine AW.cond rfl (fun c0 => ?_) (fun c0 => ?_)
  · skip
    refine AW.seq ?_
    refine AW.region ?_
    refine AOps.q rfl rfl rfl (q_as rfl (rfl : _ = V.snil)) ?_
    refine AOps.nil ?_
    refine AW.ret ?_
    exact retQ.mk' (.one _) (by rw [Em.events, if_neg (by simpa using c0)]; exact VLe.nilimm) (.refl _) ⟨rfl, rfl⟩
  · skip
    refine AW.skip ?_
    refine AW.seq ?_
    refine AW.region ?_
    refine AOps.q rfl rfl rfl (q_mv rfl (rfl : _ = V.ptr _ _)) ?_
    refine AOps.q rfl rfl rfl (q_nc rfl (rfl : _ = V.ptr _ _) rfl) ?_
    refine AOps.q rfl rfl rfl (q_fa_b rfl Tryz.underlying57 rfl (by exact Tryz.sizeOf54) (by decide) rfl (rfl : _ = 38)) ?_
    refine AOps.q rfl rfl rfl (q_load_b1 rfl Tryz.isAgg54 rfl (hb) rfl) ?_
    refine AOps.q rfl rfl rfl (QOp.call rfl (by exact Tryz.call68) fun h' hl' => by exact ACalls.args (bs := [eEvs m.evs]) rfl (fun j => match j with | 0 => hve.imm | j + 1 => .refl _) (cloneE_calls .imm m.evs ho h')) ?_
    refine AOps.q rfl rfl rfl (q_as rfl (rfl : _ = V.sl _ _ _ _)) ?_
    refine AOps.nil ?_
    refine AW.ret ?_
    exact retQ.mk' (.one _) (by rw [Em.events, if_pos (by simpa using c0)]; exact VLe.refl _) (.refl _) ⟨rfl, rfl⟩

theorem pending_calls {m : Em} {ve vp : V} {id : Nat} {h : Hp} (hb : h.box id = some (emCells m ve vp)) (hvp : AccV 3 m.pend.length (cPds m.pend) vp) (ho : m.pend.length ≤ 1000000) : ACalls Tryz.prog G 45 [.ptr id 0] h fun r h' => r = ePds m.pending ∧ h' = h := by
  refine ACalls.enter Tryz.func45 rfl Tryz.ntmps45 Tryz.results45 rfl ?_
  refine AW.seq ?_
  refine AW.region ?_
  refine AOps.q rfl rfl rfl (q_as rfl (rfl : _ = V.snil)) ?_
  refine AOps.nil ?_
  refine AW.seq ?_
  refine AW.seq ?_
  refine AW.region ?_
  refine AOps.q rfl rfl rfl (q_mv rfl (rfl : _ = V.ptr _ _)) ?_
  refine AOps.q rfl rfl rfl (QOp.call rfl (by exact Tryz.call13) fun h' hl' => by exact err_calls (hl'.box _ _ hb)) ?_
  refine AOps.q rfl rfl rfl (q_neerr Tryz.underlying38 rfl rfl) ?_
  refine AOps.nil ?_
  refine AW.cond rfl (fun c0 => ?_) (fun c0 => ?_)
  · skip
    refine AW.seq ?_
    refine AW.region ?_
    refine AOps.q rfl rfl rfl (q_as rfl (rfl : _ = V.snil)) ?_
    refine AOps.nil ?_
    refine AW.ret ?_
    exact retQ.mk' (.one _) (by rw [Em.pending, if_neg (by simpa using c0)]; exact VLe.nilimm) (.refl _) ⟨rfl, rfl⟩
  · skip
    refine AW.skip ?_
    refine AW.seq ?_
    refine AW.region ?_
    refine AOps.q rfl rfl rfl (q_mv rfl (rfl : _ = V.ptr _ _)) ?_
    refine AOps.q rfl rfl rfl (q_nc rfl (rfl : _ = V.ptr _ _) rfl) ?_
    refine AOps.q rfl rfl rfl (q_fa_b rfl Tryz.underlying57 rfl (by exact Tryz.sizeOf55) (by decide) rfl (rfl : _ = 39)) ?_
    refine AOps.q rfl rfl rfl (q_load_b1 rfl Tryz.isAgg55 rfl (hb) rfl) ?_
    refine AOps.q rfl rfl rfl (QOp.call rfl (by exact Tryz.call69) fun h' hl' => by exact ACalls.args (bs := [ePds m.pend]) rfl (fun j => match j with | 0 => hvp.imm | j + 1 => .refl _) (cloneP_calls .imm m.pend ho h')) ?_
    refine AOps.q rfl rfl rfl (q_as rfl (rfl : _ = V.sl _ _ _ _)) ?_
    refine AOps.nil ?_
    refine AW.ret ?_
    exact retQ.mk' (.one _) (by rw [Em.pending, if_pos (by simpa using c0)]; exact VLe.refl _) (.refl _) ⟨rfl, rfl⟩

end Go.Proofs.YtnbmcbkokaoapaaGreatDoor
