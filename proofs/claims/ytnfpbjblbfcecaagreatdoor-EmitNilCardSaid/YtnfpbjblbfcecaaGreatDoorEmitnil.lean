/- Walks: an emitter that is nil, or in error. -/
import Derived.Test.YtnfpbjblbfcecaaGreatDoorLaw19a
import Derived.Test.YtnfpbjblbfcecaaGreatDoorPlain3
namespace Go.Proofs.YtnfpbjblbfcecaaGreatDoor
open Go Go.AV
set_option maxRecDepth 100000
set_option maxHeartbeats 1000000

theorem newBox_calls (s : St) (draws : List Int) (hb : s.objs.length ≤ 1000000) (hl : ∀ z, (s.lists z).length ≤ 1000000) (hd : draws.length ≤ 1000000) (h : Hp) : ACalls Tryz.prog G 9 [eState s, eInts draws] h fun r h' => ∃ id, r = .ptr id 0 ∧ h.fresh id ∧ h' = h.setBox id (emCells (newF s draws) .snil .snil) := by
  refine ACalls.enter Tryz.func9 rfl Tryz.ntmps9 Tryz.results9 rfl ?_
  refine AW.seq ?_
  refine AW.region ?_
  refine AOps.q rfl rfl rfl (q_boxa rfl (rfl : _ = V.agg _)) ?_
  refine AOps.q rfl rfl rfl (q_as rfl (rfl : _ = V.pnil)) ?_
  refine AOps.nil ?_
  refine AW.seq ?_
  refine AW.draw [] [] [(0, true), (1, true), (2, true), (3, true), (4, true), (5, true), (6, true), (7, false), (8, true)] mixed (by kernel_rfl) rfl (by kernel_rfl) ?_
  refine AOrd.q rfl rfl rfl rfl (q_load_iW rfl Tryz.isAgg29 Tryz.sizeOf29 rfl (by rfl)) ?_
  refine AOrd.q rfl rfl rfl rfl (QOp.call rfl (by exact Tryz.call26) fun h' hl' => by exact copy_calls _ (by assumption) (by assumption) h') ?_
  refine AOrd.q rfl rfl rfl rfl (q_mv rfl (rfl : _ = V.sl _ _ _ _)) ?_
  refine AOrd.q rfl rfl rfl rfl (QOp.call rfl (by exact Tryz.call27) fun h' hl' => by exact cloneI_calls _ _ (by assumption) h') ?_
  refine AOrd.q rfl rfl rfl rfl (q_load_iW rfl Tryz.isAgg29 Tryz.sizeOf29 rfl (by rfl)) ?_
  refine AOrd.q rfl rfl rfl rfl (QOp.call rfl (by exact Tryz.call28) fun h' hl' => by exact check_calls _ (by assumption) (by assumption) h') ?_
  refine AOrd.q rfl rfl rfl rfl (q_buildS (ds := emCells ⟨s, draws, [], [], checkF s⟩ .snil .snil) rfl Tryz.zeroValue69 Tryz.underlying69 (pl69 Tryz.underlying69) rfl (by exact new_fill rfl s draws (checkF s) rfl)) ?_
  refine AOrd.s' rfl rfl rfl (a_boxa rfl (rfl : _ = V.agg _) (fun id13 hid13 => ⟨?_, HLe.setBox hid13.1⟩))
  refine AOrd.q rfl rfl rfl rfl (q_as rfl (rfl : _ = V.ptr _ _)) ?_
  refine AOrd.nil ?_
  refine AW.seq ?_
  refine AW.region ?_
  refine AOps.q rfl rfl rfl (q_mv rfl (rfl : _ = V.ptr _ _)) ?_
  refine AOps.q rfl rfl rfl (q_mv rfl (rfl : _ = V.sl _ _ _ _)) ?_
  refine AOps.q rfl rfl rfl (QOp.call rfl (by exact Tryz.call29) fun h' hl' => by exact randCheck_calls _ h') ?_
  refine AOps.s rfl rfl rfl ((AStep.call rfl (by exact Tryz.call17) (fail_calls _ .snil .snil _ id13 _)).mono ?_)
  rintro x3 h3 ⟨rfl, rfl⟩
  refine AOps.nil ?_
  refine AW.seq ?_
  refine AW.region ?_
  refine AOps.q rfl rfl rfl (q_mv rfl (rfl : _ = V.ptr _ _)) ?_
  refine AOps.q rfl rfl rfl (q_as rfl (rfl : _ = V.ptr _ _)) ?_
  refine AOps.nil ?_
  refine AW.ret ?_
  exact retQ.mk (.one _) ⟨id13, rfl, hid13, rfl⟩

theorem newBox_nil (s : St) (hb : s.objs.length ≤ 1000000) (hl : ∀ z, (s.lists z).length ≤ 1000000) (h : Hp) : ACalls Tryz.prog G 9 [eState s, .snil] h fun r h' => ∃ id, r = .ptr id 0 ∧ h.fresh id ∧ h' = h.setBox id (emCells (newF s []) .snil .snil) :=
  .args (bs := [eState s, eInts []]) rfl (fun j => match j with | 0 => .refl _ | 1 => .nilimm | _ + 2 => .refl _) (newBox_calls s [] hb hl (by simp) h)
theorem failNone_calls {m : Em} {ve vp : V} {id : Nat} {h : Hp} (hb : h.box id = some (emCells m ve vp)) : ACalls Tryz.prog G 17 [.ptr id 0, .inil] h fun r h' => r = .tup [] ∧ h' = h := by
  have e1 : h = h.setBox id (emCells m ve vp) := (setBox_self hb).symm
  have e2 : m.fail 0 = m := by
    by_cases e : m.err = 0
    · exact fail_zero e
    · unfold Em.fail; rw [if_neg e]
  have := fail_calls m ve vp 0 id h
  rw [e2, ← e1, show eE 0 = V.inil from eErr_zero _] at this
  exact this
theorem long19_nil (s : St) (n2 : Nat) (c2 : List V) (h : Hp) : ACalls Tryz.prog G 7 [eState s, .snil, .sl .imm 4 n2 c2] h fun r h' => r = .bool (bif longF s 30 then true else decide ((n2 : Int) > 20)) ∧ h' = h := by
  have := long19_calls s .imm .imm 0 n2 [] c2 h
  have e : (bif (bif longF s 30 then true else decide (((0 : Nat) : Int) > 5000)) then true else decide ((n2 : Int) > 20)) = (bif longF s 30 then true else decide ((n2 : Int) > 20)) := by cases longF s 30 <;> rfl
  rw [e] at this
  exact .args (bs := [eState s, .sl .imm 1 0 [], .sl .imm 4 n2 c2]) rfl (fun j => match j with | 0 => .refl _ | 1 => .nilimm | 2 => .refl _ | _ + 3 => .refl _) this
theorem states_nil (h : Hp) : ACalls Tryz.prog G 15 [eState noSt, .agg zState] h fun r h' => r = .bool true ∧ h' = h := by
  have := states_calls noSt noSt (fun z => by simp [noSt]) (by simp [noSt]) h
  rw [statesF_refl] at this
  exact .args (bs := [eState noSt, eState noSt]) rfl (fun j => match j with | 0 => .refl _ | 1 => zState_le.agg | _ + 2 => .refl _) this
/-- A number from 0 to 19, out of any. -/
def remF (c : Int) : Int := IntKind.i64.wrap ((IntKind.u64.wrap c).tmod 20)
theorem rem_in (c : Int) : 0 ≤ remF c ∧ remF c ≤ 19 := by
  have h0 : 0 ≤ IntKind.u64.wrap c := by
    simp only [IntKind.wrap, IntKind.signed, IntKind.bits]; simp; omega
  have h1 : 0 ≤ (IntKind.u64.wrap c).tmod 20 := by rw [Int.tmod_eq_emod_of_nonneg h0]; omega
  have h2 : (IntKind.u64.wrap c).tmod 20 ≤ 19 := by rw [Int.tmod_eq_emod_of_nonneg h0]; omega
  unfold remF
  rw [IntWalk.i64_in _ (by omega)]; exact ⟨h1, h2⟩
def wantF (s : St) (c : Int) : Int := if checkF s = 0 then 1 + remF c else checkF s
theorem want_ne (s : St) (c : Int) : wantF s c ≠ 0 := by
  unfold wantF; split
  · have := rem_in c; omega
  · assumption
theorem long19_no {s : St} {n : Int} (h : (bif longF s 30 then true else decide (n > 20)) = false) : longF s 30 = false ∧ n ≤ 20 := by
  cases e : longF s 30
  · rw [e] at h; simp at h; exact ⟨rfl, h⟩
  · rw [e] at h; cases h
theorem long30_hb {s : St} (hf : Few s) (h : longF s 30 = false) : s.objs.length ≤ 1000000 ∧ ∀ z, (s.lists z).length ≤ 1000000 := by
  simp only [longF, Bool.or_eq_false_iff, decide_eq_false_iff_not, List.any_eq_false, List.mem_range] at h
  refine ⟨by omega, fun z => ?_⟩
  by_cases hz : z < 11
  · have := h.2 z hz; simp at this; omega
  · rw [hf z (by omega)]; simp

theorem emitNil_calls (s : St) (acts : List Act) (code : Int) (hf : Few s) (h : Hp) : ACalls Tryz.prog G 5 [eState s, .sl .imm 4 acts.length (cActs acts), .int .i64 code] h fun r h' => r = .bool true ∧ h' = h := by
  refine ACalls.enter Tryz.func5 rfl Tryz.ntmps5 Tryz.results5 rfl ?_
  refine AW.seq ?_
  refine AW.region ?_
  refine AOps.q rfl rfl rfl (q_boxa rfl (rfl : _ = V.agg _)) ?_
  refine AOps.q rfl rfl rfl (q_as rfl (rfl : _ = V.bool _)) ?_
  refine AOps.nil ?_
  refine AW.seq ?_
  refine AW.seq ?_
  refine AW.region ?_
  refine AOps.q rfl rfl rfl (QOp.call rfl (by exact Tryz.call6) fun h' hl' => by exact alive19_calls h') ?_
  refine AOps.q rfl rfl rfl (q_not rfl rfl) ?_
  refine AOps.nil ?_
  refine AW.cond rfl (fun c0 => ?_) (fun c0 => ?_)
  · cases c0
  · skip
    refine AW.skip ?_
    refine AW.seq ?_
    refine AW.seq ?_
    refine AW.region ?_
    refine AOps.q rfl rfl rfl (q_load_iW rfl Tryz.isAgg29 Tryz.sizeOf29 rfl (by rfl)) ?_
    refine AOps.q rfl rfl rfl (q_mv rfl (rfl : _ = V.sl _ _ _ _)) ?_
    refine AOps.q rfl rfl rfl (QOp.call rfl (by exact Tryz.call7) fun h' hl' => by exact long19_nil s _ _ h') ?_
    refine AOps.nil ?_
    refine AW.cond rfl (fun c1 => ?_) (fun c1 => ?_)
    · skip
      refine AW.seq ?_
      refine AW.region ?_
      refine AOps.q rfl rfl rfl (q_as rfl (rfl : _ = V.bool _)) ?_
      refine AOps.nil ?_
      refine AW.ret ?_
      exact retQ.mk' (.one _) (VLe.refl _) (HLe.refl _) ⟨rfl, rfl⟩
    · obtain ⟨hlo, hna⟩ := long19_no c1
      have hsb := long30_hb hf hlo
      have hrem : 0 ≤ IntKind.i64.wrap ((IntKind.u64.wrap code).tmod 20) ∧ IntKind.i64.wrap ((IntKind.u64.wrap code).tmod 20) ≤ 19 := rem_in code
      refine AW.skip ?_
      refine AW.seq ?_
      refine AW.region ?_
      refine AOps.q rfl rfl rfl (q_as rfl (rfl : _ = V.pnil)) ?_
      refine AOps.nil ?_
      refine AW.seq ?_
      refine AW.region ?_
      refine AOps.q rfl rfl rfl (q_load_iW rfl Tryz.isAgg29 Tryz.sizeOf29 rfl (by rfl)) ?_
      refine AOps.s rfl rfl rfl ((AStep.call rfl (by exact Tryz.call9) (newBox_nil s hsb.1 hsb.2 _)).mono ?_)
      rintro x3 h3 ⟨id, rfl, hid, rfl⟩
      have hbx : (h.setBox id (emCells (newF s []) .snil .snil)).box id = some (emCells (newF s []) .snil .snil) := Hp.box_setBox _ _ _
      refine AOps.q rfl rfl rfl (q_as rfl (rfl : _ = V.ptr _ _)) ?_
      refine AOps.nil ?_
      refine AW.seq ?_
      refine AW.region ?_
      refine AOps.q rfl rfl rfl (q_mv rfl (rfl : _ = V.ptr _ _)) ?_
      refine AOps.q rfl rfl rfl (QOp.call rfl (by exact Tryz.call17) fun h' hl' => by exact failNone_calls (hl'.box _ _ hbx)) ?_
      refine AOps.nil ?_
      refine AW.seq ?_
      refine AW.seq ?_
      refine AW.draw [] [] [(0, true), (1, true), (2, true), (3, true), (4, true), (5, true)] mixed (by kernel_rfl) rfl (by kernel_rfl) ?_
      refine AOrd.q rfl rfl rfl rfl (q_mv rfl (rfl : _ = V.ptr _ _)) ?_
      refine AOrd.q rfl rfl rfl rfl (QOp.call rfl (by exact Tryz.call11) fun h' hl' => by exact err_calls (hl'.box _ _ hbx)) ?_
      refine AOrd.q rfl rfl rfl rfl (QOp.call rfl (by exact Tryz.call18) fun h' hl' => by exact num_calls _ h') ?_
      refine AOrd.q rfl rfl rfl rfl (q_load_iW rfl Tryz.isAgg29 Tryz.sizeOf29 rfl (by rfl)) ?_
      refine AOrd.q rfl rfl rfl rfl (QOp.call rfl (by exact Tryz.call8) fun h' hl' => by exact refCheck_calls s hsb.1 hsb.2 h') ?_
      refine AOrd.q rfl rfl rfl rfl (q_ne rfl rfl rfl) ?_
      refine AOrd.nil ?_
      refine AW.cond rfl (fun c2 => ?_) (fun c2 => ?_)
      · rw [new_eq, refCheck_eq] at c2; simp at c2
      · skip
        refine AW.skip ?_
        refine AW.seq ?_
        refine AW.region ?_
        refine AOps.q rfl rfl rfl (q_mv rfl (rfl : _ = V.ptr _ _)) ?_
        refine AOps.q rfl rfl rfl (QOp.call rfl (by exact Tryz.call11) fun h' hl' => by exact err_calls (hl'.box _ _ hbx)) ?_
        refine AOps.q rfl rfl rfl (QOp.call rfl (by exact Tryz.call18) fun h' hl' => by exact num_calls _ h') ?_
        refine AOps.q rfl rfl rfl (q_as rfl (rfl : _ = V.int _ _)) ?_
        refine AOps.nil ?_
        refine AW.cut (fun T h1 => T = put (put (put (put (put (put T0 1 (V.sl .imm 4 acts.length (cActs acts))) 2 (V.int .i64 code)) 3 (V.iptr (cState s))) 7 V.pnil) 8 (V.ptr id 0)) 9 (V.int .i64 (wantF s code)) ∧ (h.setBox id (emCells (newF s []) .snil .snil)) = h1) ?_ ?_
        · skip
          refine AW.seq ?_
          refine AW.region ?_
          refine AOps.q rfl rfl rfl (q_mv rfl (rfl : _ = V.int _ _)) ?_
          refine AOps.q rfl rfl rfl (q_eq rfl rfl rfl) ?_
          refine AOps.nil ?_
          refine AW.cond rfl (fun c3 => ?_) (fun c3 => ?_)
          · skip
            refine AW.region ?_
            refine AOps.q rfl rfl rfl (q_mv rfl (rfl : _ = V.int _ _)) ?_
            refine AOps.q rfl rfl rfl (q_conv rfl Tryz.underlying3 Tryz.underlying51 rfl) ?_
            refine AOps.q rfl rfl rfl (q_rem rfl rfl rfl (by decide)) ?_
            refine AOps.q rfl rfl rfl (q_conv rfl Tryz.underlying51 Tryz.underlying3 rfl) ?_
            refine AOps.q rfl rfl rfl (q_add' rfl rfl rfl (by omega)) ?_
            refine AOps.q rfl rfl rfl (q_as rfl (rfl : _ = V.int _ _)) ?_
            refine AOps.nil ?_
            exact Wk.mk (TLe.put (d := 9) (VLe.of_eq (congrArg (V.int .i64) (by rw [new_eq] at c3; first | (rw [wantF, if_pos (by simpa using c3)]; rfl) | (rw [new_eq, wantF, if_neg (by simpa using c3)])))) (TLe.put (d := 8) (VLe.refl _) (TLe.put (d := 7) (VLe.refl _) (TLe.put (d := 3) (VLe.refl _) (TLe.put (d := 2) (VLe.refl _) (TLe.put (d := 1) (VLe.refl _) (TLe.zero _))))))) (HLe.refl _) ⟨rfl, rfl⟩
          · skip
            refine AW.skip ?_
            exact Wk.mk (TLe.put (d := 9) (VLe.of_eq (congrArg (V.int .i64) (by rw [new_eq] at c3; first | (rw [wantF, if_pos (by simpa using c3)]; rfl) | (rw [new_eq, wantF, if_neg (by simpa using c3)])))) (TLe.put (d := 8) (VLe.refl _) (TLe.put (d := 7) (VLe.refl _) (TLe.put (d := 3) (VLe.refl _) (TLe.put (d := 2) (VLe.refl _) (TLe.put (d := 1) (VLe.refl _) (TLe.zero _))))))) (HLe.refl _) ⟨rfl, rfl⟩
        · rintro T h1 ⟨rfl, rfl⟩
          refine AW.seq ?_
          refine AW.region ?_
          refine AOps.q rfl rfl rfl (q_mv rfl (rfl : _ = V.ptr _ _)) ?_
          refine AOps.q rfl rfl rfl (q_mv rfl (rfl : _ = V.int _ _)) ?_
          refine AOps.q rfl rfl rfl (q_conv rfl Tryz.underlying3 Tryz.underlying51 rfl) ?_
          refine AOps.q rfl rfl rfl (q_rem rfl rfl rfl (by decide)) ?_
          refine AOps.q rfl rfl rfl (q_conv rfl Tryz.underlying51 Tryz.underlying3 rfl) ?_
          refine AOps.q rfl rfl rfl (q_add' rfl rfl rfl (by omega)) ?_
          refine AOps.q rfl rfl rfl (q_mkerr (e := 1 + remF code) rfl Tryz.underlying52 rfl rfl (by have := rem_in code; omega)) ?_
          refine AOps.s rfl rfl rfl ((AStep.call rfl (by exact Tryz.call17) (fail_calls _ .snil .snil _ id _)).mono ?_)
          rintro x4 h4 ⟨rfl, rfl⟩
          have hme : ((newF s []).fail (1 + remF code)).err = wantF s code := by rw [new_eq]; unfold Em.fail wantF; split <;> rfl
          have hd : Dead (.ptr id 0) (wantF s code) (h.setBox id (emCells ((newF s []).fail (1 + remF code)) .snil .snil)) := ⟨want_ne s code, .inr ⟨id, _, .snil, rfl, Hp.box_setBox _ _ _, hme⟩⟩
          have hn : Dead .pnil 4 (h.setBox id (emCells ((newF s []).fail (1 + remF code)) .snil .snil)) := ⟨by decide, .inl ⟨rfl, rfl⟩⟩
          refine AOps.nil ?_
          refine AW.seq ?_
          refine AW.seq ?_
          refine AW.region ?_
          refine AOps.q rfl rfl rfl (q_mv rfl (rfl : _ = V.sl _ _ _ _)) ?_
          refine AOps.q rfl rfl rfl (q_len rfl Tryz.underlying30 rfl) ?_
          refine AOps.q rfl rfl rfl (q_mv rfl (rfl : _ = V.int _ _)) ?_
          refine AOps.nil ?_
          refine AW.block ?_
          refine AW.loop (fun n T hh => ∃ (k : Nat) , k ≤ acts.length ∧ n = acts.length - k ∧ T = put (put (put (put (put (put (T0) 47 (V.int .i64 (k : Nat))) 46 (V.int .i64 acts.length)) 45 (V.sl .imm 4 acts.length (cActs acts))) 9 (V.int .i64 (wantF s code))) 8 (V.ptr id 0)) 7 (V.pnil) ∧ hh = h.setBox id (emCells ((newF s []).fail (1 + remF code)) .snil .snil)) (acts.length) ?_ ?_
          · skip
            refine Wk.mk (TLe.put (d := 7) (VLe.refl _) (TLe.put (d := 8) (VLe.refl _) (TLe.put (d := 9) (VLe.refl _) (TLe.put (d := 45) (VLe.refl _) (TLe.put (d := 46) (VLe.refl _) (TLe.put (d := 47) (by exact VLe.of_eq (congrArg (V.int .i64) (by first | rfl | omega))) (TLe.zero _))))))) (HLe.refl _) ⟨0, Nat.zero_le _, rfl, rfl, rfl⟩
          · skip
            rintro n T h' ⟨k, hk, rfl, rfl, rfl⟩
            refine AW.seq ?_
            refine AW.region ?_
            refine AOps.q rfl rfl rfl (q_lt rfl rfl rfl) ?_
            refine AOps.nil ?_
            refine AW.seq ?_
            refine AW.cond rfl (fun c4 => ?_) (fun c4 => ?_)
            · have hltk : k < acts.length := by have := of_decide_eq_true c4; omega
              refine AW.skip ?_
              refine AW.seq ?_
              refine AW.block ?_
              refine AW.seq ?_
              refine AW.region ?_
              refine AOps.q rfl rfl rfl (q_ia_s rfl Tryz.underlying30 Tryz.sizeOf37 rfl rfl (by omega) (by omega) (act_at hltk)) ?_
              refine AOps.q rfl rfl rfl (q_load_iW rfl Tryz.isAgg37 Tryz.sizeOf37 rfl (by rfl)) ?_
              refine AOps.s rfl rfl rfl (a_alloc rfl Tryz.zeroValue37 rfl (fun id11 hid11 => ?_))
              refine AOps.s0 rfl rfl (a_storeWA rfl Tryz.sizeOf37 rfl rfl (rfl : _ = V.agg _) rfl rfl ?_)
              refine AOps.done 11 rfl hid11 ?_
              refine AOps.nil ?_
              refine AW.seq ?_
              refine AW.seq ?_
              refine AW.region ?_
              refine AOps.q rfl rfl rfl (q_mv rfl (rfl : _ = V.ptr _ _)) ?_
              refine AOps.q rfl rfl rfl (q_load_iW rfl Tryz.isAgg37 Tryz.sizeOf37 rfl (by rfl)) ?_
              refine AOps.q rfl rfl rfl (QOp.call rfl (by exact Tryz.call10) fun h' hl' => by exact ddo_calls _ (hd.le hl')) ?_
              refine AOps.q rfl rfl rfl (q_ne rfl rfl rfl) ?_
              refine AOps.q rfl rfl rfl (q_mv rfl (rfl : _ = V.bool _)) ?_
              refine AOps.g (wanted_f rfl rfl) rfl rfl (fun hc => TLe.refl _) (fun hc => q_mv rfl (rfl : _ = V.pnil)) ?_
              refine AOps.g (wanted_f rfl rfl) rfl rfl (fun hc => TLe.refl _) (fun hc => q_load_iW rfl Tryz.isAgg37 Tryz.sizeOf37 rfl (by rfl)) ?_
              refine AOps.g (wanted_f rfl rfl) rfl rfl (fun hc => TLe.put (d := 57) (VLe.opt hc) (TLe.put (d := 56) (VLe.opt hc) (TLe.refl _))) (fun hc => QOp.call rfl (by exact Tryz.call10) fun h' hl' => by exact ddo_calls _ (hn.le hl')) ?_
              refine AOps.g (wanted_f rfl rfl) rfl rfl (fun hc => TLe.put (d := 58) (VLe.opt hc) (TLe.refl _)) (fun hc => q_ne rfl rfl rfl) ?_
              refine AOps.q rfl rfl rfl (q_pickg rfl rfl (fun hp => by exact VLe.refl _) (fun hp => by first | exact VLe.opt hp | exact VLe.opt (by rw [hp]; rfl) | exact VLe.opt (by simp_all))) ?_
              refine AOps.nil ?_
              refine AW.cond rfl (fun c5 => ?_) (fun c5 => ?_)
              · simp at c5
              · skip
                refine AW.skip ?_
                refine AW.seq ?_
                refine AW.region ?_
                refine AOps.q rfl rfl rfl (q_mv rfl (rfl : _ = V.ptr _ _)) ?_
                refine AOps.q rfl rfl rfl (q_mkerr (e := 14) rfl Tryz.underlying52 rfl rfl (by decide)) ?_
                refine AOps.q rfl rfl rfl (QOp.call rfl (by exact Tryz.call17) fun h' hl' => by exact dfail_calls (hd.le hl')) ?_
                refine AOps.nil ?_
                refine AW.region ?_
                refine AOps.q rfl rfl rfl (q_mv rfl (rfl : _ = V.pnil)) ?_
                refine AOps.q rfl rfl rfl (q_mkerr (e := 14) rfl Tryz.underlying52 rfl rfl (by decide)) ?_
                refine AOps.q rfl rfl rfl (QOp.call rfl (by exact Tryz.call17) fun h' hl' => by exact dfail_calls (hn.le hl')) ?_
                refine AOps.nil ?_
                refine AW.region ?_
                refine AOps.q rfl rfl rfl (q_add' rfl rfl rfl (by omega)) ?_
                refine AOps.q rfl rfl rfl (q_mv rfl (rfl : _ = V.int _ _)) ?_
                refine AOps.nil ?_
                refine Wk.mk (TLe.put (d := 7) (VLe.refl _) (TLe.put (d := 8) (VLe.refl _) (TLe.put (d := 9) (VLe.refl _) (TLe.put (d := 45) (VLe.refl _) (TLe.put (d := 46) (VLe.refl _) (TLe.put (d := 47) (by exact VLe.of_eq (congrArg (V.int .i64) (by first | rfl | omega))) (TLe.zero _))))))) (HLe.refl _) ⟨_, ?_, k + 1, ?_, rfl, rfl, rfl⟩
                · omega
                · omega
            · obtain rfl : k = acts.length := by have := of_decide_eq_false c4; omega
              refine AW.exit ?_
              refine AW.seq ?_
              refine AW.region ?_
              refine AOps.q rfl rfl rfl (q_mv rfl (rfl : _ = V.ptr _ _)) ?_
              refine AOps.q rfl rfl rfl (QOp.call rfl (by exact Tryz.call11) fun h' hl' => by exact derr_calls (hd.le hl')) ?_
              refine AOps.q rfl rfl rfl (QOp.call rfl (by exact Tryz.call18) fun h' hl' => by exact num_calls _ h') ?_
              refine AOps.q rfl rfl rfl (q_mv rfl (rfl : _ = V.int _ _)) ?_
              refine AOps.q rfl rfl rfl (q_eq rfl rfl rfl) ?_
              refine AOps.q rfl rfl rfl (q_mv rfl (rfl : _ = V.bool _)) ?_
              refine AOps.g (wanted_t rfl rfl) rfl rfl (fun hc => TLe.refl _) (fun hc => q_mv rfl (rfl : _ = V.pnil)) ?_
              refine AOps.g (wanted_t rfl rfl) rfl rfl (fun hc => TLe.put (d := 74) (VLe.opt hc) (TLe.refl _)) (fun hc => QOp.call rfl (by exact Tryz.call11) fun h' hl' => by exact derr_calls (hn.le hl')) ?_
              refine AOps.g (wanted_t rfl rfl) rfl rfl (fun hc => TLe.put (d := 75) (VLe.opt hc) (TLe.refl _)) (fun hc => QOp.call rfl (by exact Tryz.call19) fun h' hl' => by exact numIs_calls 4 4 h') ?_
              refine AOps.q rfl rfl rfl (q_pickg rfl rfl (fun hp => by first | exact VLe.opt hp | exact VLe.opt (by rw [hp]; rfl) | exact VLe.opt (by simp_all)) (fun hp => by exact VLe.refl _)) ?_
              refine AOps.q rfl rfl rfl (q_mv rfl (rfl : _ = V.bool _)) ?_
              refine AOps.g (wanted_t rfl rfl) rfl rfl (fun hc => TLe.refl _) (fun hc => q_mv rfl (rfl : _ = V.pnil)) ?_
              refine AOps.g (wanted_t rfl rfl) rfl rfl (fun hc => TLe.put (d := 79) (VLe.opt hc) (TLe.refl _)) (fun hc => QOp.call rfl (by exact Tryz.call13) fun h' hl' => by exact devents_calls (hn.le hl')) ?_
              refine AOps.g (wanted_t rfl rfl) rfl rfl (fun hc => TLe.put (d := 80) (VLe.opt hc) (TLe.refl _)) (fun hc => q_len rfl Tryz.underlying43 rfl) ?_
              refine AOps.g (wanted_t rfl rfl) rfl rfl (fun hc => TLe.refl _) (fun hc => q_mv rfl (rfl : _ = V.pnil)) ?_
              refine AOps.g (wanted_t rfl rfl) rfl rfl (fun hc => TLe.put (d := 82) (VLe.opt hc) (TLe.refl _)) (fun hc => QOp.call rfl (by exact Tryz.call20) fun h' hl' => by exact dpending_calls (hn.le hl')) ?_
              refine AOps.g (wanted_t rfl rfl) rfl rfl (fun hc => TLe.put (d := 83) (VLe.opt hc) (TLe.refl _)) (fun hc => q_len rfl Tryz.underlying54 rfl) ?_
              refine AOps.g (wanted_t rfl rfl) rfl rfl (fun hc => TLe.put (d := 84) (VLe.opt hc) (TLe.put (d := 81) (VLe.opt hc) (TLe.refl _))) (fun hc => q_add' rfl rfl rfl (by decide)) ?_
              refine AOps.g (wanted_t rfl rfl) rfl rfl (fun hc => TLe.refl _) (fun hc => q_mv rfl (rfl : _ = V.ptr _ _)) ?_
              refine AOps.g (wanted_t rfl rfl) rfl rfl (fun hc => TLe.put (d := 86) (VLe.opt hc) (TLe.refl _)) (fun hc => QOp.call rfl (by exact Tryz.call13) fun h' hl' => by exact devents_calls (hd.le hl')) ?_
              refine AOps.g (wanted_t rfl rfl) rfl rfl (fun hc => TLe.put (d := 87) (VLe.opt hc) (TLe.refl _)) (fun hc => q_len rfl Tryz.underlying43 rfl) ?_
              refine AOps.g (wanted_t rfl rfl) rfl rfl (fun hc => TLe.put (d := 88) (VLe.opt hc) (TLe.put (d := 85) (VLe.opt hc) (TLe.refl _))) (fun hc => q_add' rfl rfl rfl (by decide)) ?_
              refine AOps.g (wanted_t rfl rfl) rfl rfl (fun hc => TLe.put (d := 89) (VLe.opt hc) (TLe.refl _)) (fun hc => q_eq rfl rfl rfl) ?_
              refine AOps.q rfl rfl rfl (q_pickg rfl rfl (fun hp => by first | exact VLe.opt hp | exact VLe.opt (by rw [hp]; rfl) | exact VLe.opt (by simp_all)) (fun hp => by exact VLe.refl _)) ?_
              refine AOps.q rfl rfl rfl (q_mv rfl (rfl : _ = V.bool _)) ?_
              refine AOps.g (wanted_t rfl rfl) rfl rfl (fun hc => TLe.refl _) (fun hc => q_mv rfl (rfl : _ = V.pnil)) ?_
              refine AOps.g (wanted_t rfl rfl) rfl rfl (fun hc => TLe.put (d := 93) (VLe.opt hc) (TLe.refl _)) (fun hc => QOp.call rfl (by exact Tryz.call12) fun h' hl' => by exact dstate_calls (hn.le hl')) ?_
              refine AOps.g (wanted_t rfl rfl) rfl rfl (fun hc => TLe.refl _) (fun hc => q_buildS (ds := zState) rfl Tryz.zeroValue29 Tryz.underlying29 (pl29 Tryz.underlying29) rfl (by kernel_rfl)) ?_
              refine AOps.g (wanted_t rfl rfl) rfl rfl (fun hc => TLe.put (d := 95) (VLe.opt hc) (TLe.put (d := 94) (VLe.opt hc) (TLe.refl _))) (fun hc => QOp.call rfl (by exact Tryz.call15) fun h' hl' => by exact states_nil h') ?_
              refine AOps.q rfl rfl rfl (q_pickg rfl rfl (fun hp => by first | exact VLe.opt hp | exact VLe.opt (by rw [hp]; rfl) | exact VLe.opt (by simp_all)) (fun hp => by exact VLe.refl _)) ?_
              refine AOps.q rfl rfl rfl (q_as rfl (rfl : _ = V.bool _)) ?_
              refine AOps.nil ?_
              refine AW.ret ?_
              exact retQ.mk' (.one _) (VLe.of_eq (congrArg V.bool (by simp))) (HLe.setBox hid.1) ⟨rfl, rfl⟩

end Go.Proofs.YtnfpbjblbfcecaaGreatDoor
