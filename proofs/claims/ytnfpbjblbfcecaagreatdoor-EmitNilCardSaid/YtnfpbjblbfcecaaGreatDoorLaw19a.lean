/- Walks: layer 19's fixed fact. -/
import Derived.Test.YtnfpbjblbfcecaaGreatDoorNil2
import Derived.Test.YtnfpbjblbfcecaaGreatDoorLawa
namespace Go.Proofs.YtnfpbjblbfcecaaGreatDoor
open Go Go.AV
set_option maxRecDepth 100000
set_option maxHeartbeats 1000000
def alive19O : Obj := fun f => match f with | 0 => 10 | 3 => 2 | _ => 0
def alive19St : St := ⟨[alive19O], fun z => if z = 2 then [0] else [], fun _ _ => 0, fun _ => 0⟩
def alive19E : Em := (newF alive19St []).putF 0 8
theorem alive19_a : alive19E.err = 0 ∧ alive19E.state.objs.length = 1 ∧ alive19E.state.objs.getD 0 noObj 5 = 1 ∧ alive19E.state.objs.getD 0 noObj 17 = 3 ∧ (alive19E.state.lists 8).length = 1 ∧ alive19E.pending.length = 1 ∧ ((alive19E.pending.getD 0 ⟨1, 1, 1⟩).id = 0 ∧ (alive19E.pending.getD 0 ⟨1, 1, 1⟩).ab = 0 ∧ (alive19E.pending.getD 0 ⟨1, 1, 1⟩).ctl = 0) := by decide +kernel
theorem alive19_few : Few alive19St := fun z hz => by simp only [alive19St]; rw [if_neg (by omega)]
theorem alive19_le : VLe (V.agg ([V.sl .full 18 1 (cObj alive19O), .snil, .snil, V.sl .full 1 1 [.int .i64 0], .snil, .snil, .snil, .snil, .snil, .snil, .snil, .snil] ++ (cState alive19St).drop 12)) (eState alive19St) := by
  refine LLe.agg (LLe.append (d := (cState alive19St).drop 12) (b := (cState alive19St).take 12) ?_ (LLe.refl _))
  exact .cons .fullimm (.cons .nilimm (.cons .nilimm (.cons .fullimm (.cons .nilimm (.cons .nilimm (.cons .nilimm (.cons .nilimm (.cons .nilimm (.cons .nilimm (.cons .nilimm (.cons .nilimm .nil)))))))))))

theorem pds_at {l : List Pd} {i : Nat} (h : i < l.length) : ((cPds l).drop ((i : Int).toNat * 3)).take 3 = cPd (l.getD i ⟨1, 1, 1⟩) := by
  rw [Int.toNat_natCast]; exact flat_at (f := cPd) (n := 3) (fun _ => rfl) ⟨1, 1, 1⟩ h

theorem alive19_calls (h : Hp) : ACalls Tryz.prog G 6 [] h fun r h' => r = .bool true ∧ h' = h := by
  refine ACalls.enter Tryz.func6 rfl Tryz.ntmps6 Tryz.results6 rfl ?_
  refine AW.seq ?_
  refine AW.region ?_
  refine AOps.q rfl rfl rfl (q_as rfl (rfl : _ = V.bool _)) ?_
  refine AOps.nil ?_
  refine AW.seq ?_
  refine AW.region ?_
  refine AOps.q rfl rfl rfl (q_buildA (ds := cObj alive19O) rfl Tryz.zeroValue58 Tryz.underlying58 Tryz.sizeOf3 rfl (by kernel_rfl)) ?_
  refine AOps.q rfl rfl rfl (q_buildSl rfl Tryz.underlying22 Tryz.sizeOf58 Tryz.zeroValue58 rfl rfl rfl rfl rfl) ?_
  refine AOps.q rfl rfl rfl (q_buildS (ds := [V.sl .full 18 1 (cObj alive19O), .snil, .snil, .snil, .snil, .snil, .snil, .snil, .snil, .snil, .snil, .snil] ++ zState.drop 12) rfl Tryz.zeroValue29 Tryz.underlying29 (pl29 Tryz.underlying29) rfl (by kernel_rfl)) ?_
  refine AOps.s rfl rfl rfl (a_alloc rfl Tryz.zeroValue29 rfl (fun id1 hid1 => ?_))
  refine AOps.s0 rfl rfl (a_storeWA rfl Tryz.sizeOf29 rfl rfl (rfl : _ = V.agg _) rfl rfl ?_)
  refine AOps.nil ?_
  refine AW.seq ?_
  refine AW.region ?_
  refine AOps.q rfl rfl rfl (q_buildSl rfl Tryz.underlying23 Tryz.sizeOf3 Tryz.zeroValue3 rfl rfl rfl rfl rfl) ?_
  refine AOps.q rfl rfl rfl (q_fa_b rfl Tryz.underlying29 rfl (by exact Tryz.sizeOf24) (by decide) rfl (rfl : _ = 1)) ?_
  refine AOps.q rfl rfl rfl (q_ia_ab rfl Tryz.underlying24 Tryz.sizeOf23 rfl rfl (by decide) (by decide)) ?_
  refine AOps.s0 rfl rfl (a_store1 rfl Tryz.sizeOf23 rfl (by exact Hp.box_setBox _ _ _) (rfl : _ = V.sl _ _ _ _) rfl rfl (by first | decide | exact Nat.le_of_ble_eq_true rfl) ?_)
  refine AOps.nil ?_
  refine AW.seq ?_
  rw [Hp.setBox_setBox]
  refine AW.done 1 rfl hid1 ?_
  refine AW.region ?_
  refine AOps.q rfl rfl rfl (q_load_iW rfl Tryz.isAgg29 Tryz.sizeOf29 rfl (by rfl)) ?_
  refine AOps.wkn (T' := put _ 11 (eState alive19St)) (TLe.put (d := 11) (by exact alive19_le) (TLe.refl _)) (HLe.refl _) ?_
  refine AOps.s rfl rfl rfl ((AStep.call rfl (by exact Tryz.call9) (new_nil alive19St (by decide) (fun z => by by_cases e : z = 2 <;> simp [alive19St, e]) _)).mono ?_)
  rintro x3 h3 ⟨id, rfl, he⟩
  refine AOps.q rfl rfl rfl (q_as rfl (rfl : _ = V.ptr _ _)) ?_
  refine AOps.nil ?_
  refine AW.seq ?_
  refine AW.region ?_
  refine AOps.q rfl rfl rfl (q_mv rfl (rfl : _ = V.ptr _ _)) ?_
  refine AOps.s rfl rfl rfl ((AStep.call rfl (by exact Tryz.call21) (putF_calls 0 8 he (new_p alive19_few).inv (by rw [new_eq]; decide))).mono ?_)
  rintro x4 h4 ⟨rfl, he2⟩
  have hI2 : EmI alive19E := putF_inv (new_p alive19_few).inv
  have he2' := he2
  obtain ⟨ve, vp, hr2, hh⟩ := he2'
  have hbx : h4.box id = some (emCells alive19E ve vp) := by rw [hh]; exact Hp.box_setBox _ _ _
  have hpp : alive19E.pend.length ≤ 1000000 := by decide +kernel
  refine AOps.nil ?_
  refine AW.seq ?_
  refine AW.region ?_
  refine AOps.q rfl rfl rfl (q_mv rfl (rfl : _ = V.ptr _ _)) ?_
  refine AOps.q rfl rfl rfl (QOp.call rfl (by exact Tryz.call12) fun h' hl' => by exact state_calls (hl'.box _ _ hbx) hI2.st) ?_
  refine AOps.q rfl rfl rfl (q_mv rfl (rfl : _ = V.ptr _ _)) ?_
  refine AOps.q rfl rfl rfl (QOp.call rfl (by exact Tryz.call20) fun h' hl' => by exact pending_calls (hl'.box _ _ hbx) hr2.ap hpp) ?_
  refine AOps.s rfl rfl rfl (a_alloc rfl Tryz.zeroValue29 rfl (fun id3 hid3 => ?_))
  refine AOps.s0 rfl rfl (a_storeWA rfl Tryz.sizeOf29 rfl rfl (rfl : _ = V.agg _) rfl rfl ?_)
  refine AOps.done 3 rfl hid3 ?_
  refine AOps.q rfl rfl rfl (q_as rfl (rfl : _ = V.sl _ _ _ _)) ?_
  refine AOps.nil ?_
  refine AW.seq ?_
  refine AW.region ?_
  refine AOps.q rfl rfl rfl (q_mv rfl (rfl : _ = V.ptr _ _)) ?_
  refine AOps.q rfl rfl rfl (QOp.call rfl (by exact Tryz.call11) fun h' hl' => by exact err_calls (hl'.box _ _ hbx)) ?_
  refine AOps.q rfl rfl rfl (q_eqerr Tryz.underlying40 rfl rfl) ?_
  refine AOps.q rfl rfl rfl (q_mv rfl (rfl : _ = V.bool _)) ?_
  refine AOps.g (wanted_t rfl rfl) rfl rfl (fun hc => TLe.refl _) (fun hc => q_fa_i rfl Tryz.underlying29 rfl (by exact Tryz.sizeOf22) (by decide) rfl (rfl : _ = List.drop 0 _)) ?_
  refine AOps.g (wanted_t rfl rfl) rfl rfl (fun hc => TLe.put (d := 23) (VLe.opt hc) (TLe.refl _)) (fun hc => q_load_i1 rfl Tryz.isAgg22 rfl rfl) ?_
  refine AOps.g (wanted_t rfl rfl) rfl rfl (fun hc => TLe.put (d := 24) (VLe.opt hc) (TLe.refl _)) (fun hc => q_len rfl Tryz.underlying22 rfl) ?_
  refine AOps.g (wanted_t rfl rfl) rfl rfl (fun hc => TLe.put (d := 25) (VLe.opt hc) (TLe.refl _)) (fun hc => q_eq rfl rfl rfl) ?_
  refine AOps.q rfl rfl rfl (q_pickg rfl rfl (fun hp => by first | exact VLe.opt hp | exact VLe.opt (by rw [hp]; rfl) | exact VLe.opt (by simp_all)) (fun hp => by exact VLe.refl _)) ?_
  refine AOps.q rfl rfl rfl (q_mv rfl (rfl : _ = V.bool _)) ?_
  refine AOps.g (wanted_t rfl rfl) rfl rfl (fun hc => TLe.refl _) (fun hc => q_fa_i rfl Tryz.underlying29 rfl (by exact Tryz.sizeOf22) (by decide) rfl (rfl : _ = List.drop 0 _)) ?_
  refine AOps.g (wanted_t rfl rfl) rfl rfl (fun hc => TLe.put (d := 29) (VLe.opt hc) (TLe.refl _)) (fun hc => q_load_i1 rfl Tryz.isAgg22 rfl rfl) ?_
  refine AOps.g (wanted_t rfl rfl) rfl rfl (fun hc => TLe.put (d := 30) (VLe.opt hc) (TLe.refl _)) (fun hc => q_ia_s rfl Tryz.underlying22 Tryz.sizeOf58 rfl rfl (by decide) (by rw [alive19_a.2.1]; decide) (cObjs_elem' (by decide) (by rw [alive19_a.2.1]; decide))) ?_
  refine AOps.g (wanted_t rfl rfl) rfl rfl (fun hc => TLe.put (d := 31) (VLe.opt hc) (TLe.refl _)) (fun hc => q_ia_ai rfl Tryz.underlying58 Tryz.sizeOf3 rfl rfl (by decide) (by decide) rfl) ?_
  refine AOps.g (wanted_t rfl rfl) rfl rfl (fun hc => TLe.put (d := 32) (VLe.opt hc) (TLe.refl _)) (fun hc => q_load_i1 rfl Tryz.isAgg3 rfl rfl) ?_
  refine AOps.g (wanted_t rfl rfl) rfl rfl (fun hc => TLe.put (d := 33) (VLe.opt hc) (TLe.refl _)) (fun hc => q_eq rfl rfl rfl) ?_
  refine AOps.q rfl rfl rfl (q_pickg rfl rfl (fun hp => by first | exact VLe.opt hp | exact VLe.opt (by rw [hp]; rfl) | exact VLe.opt (by simp_all)) (fun hp => by exact VLe.refl _)) ?_
  refine AOps.q rfl rfl rfl (q_mv rfl (rfl : _ = V.bool _)) ?_
  refine AOps.g (wanted_t rfl rfl) rfl rfl (fun hc => TLe.refl _) (fun hc => q_fa_i rfl Tryz.underlying29 rfl (by exact Tryz.sizeOf22) (by decide) rfl (rfl : _ = List.drop 0 _)) ?_
  refine AOps.g (wanted_t rfl rfl) rfl rfl (fun hc => TLe.put (d := 37) (VLe.opt hc) (TLe.refl _)) (fun hc => q_load_i1 rfl Tryz.isAgg22 rfl rfl) ?_
  refine AOps.g (wanted_t rfl rfl) rfl rfl (fun hc => TLe.put (d := 38) (VLe.opt hc) (TLe.refl _)) (fun hc => q_ia_s rfl Tryz.underlying22 Tryz.sizeOf58 rfl rfl (by decide) (by rw [alive19_a.2.1]; decide) (cObjs_elem' (by decide) (by rw [alive19_a.2.1]; decide))) ?_
  refine AOps.g (wanted_t rfl rfl) rfl rfl (fun hc => TLe.put (d := 39) (VLe.opt hc) (TLe.refl _)) (fun hc => q_ia_ai rfl Tryz.underlying58 Tryz.sizeOf3 rfl rfl (by decide) (by decide) rfl) ?_
  refine AOps.g (wanted_t rfl rfl) rfl rfl (fun hc => TLe.put (d := 40) (VLe.opt hc) (TLe.refl _)) (fun hc => q_load_i1 rfl Tryz.isAgg3 rfl rfl) ?_
  refine AOps.g (wanted_t rfl rfl) rfl rfl (fun hc => TLe.put (d := 41) (VLe.opt hc) (TLe.refl _)) (fun hc => q_eq rfl rfl rfl) ?_
  refine AOps.q rfl rfl rfl (q_pickg rfl rfl (fun hp => by first | exact VLe.opt hp | exact VLe.opt (by rw [hp]; rfl) | exact VLe.opt (by simp_all)) (fun hp => by exact VLe.refl _)) ?_
  refine AOps.q rfl rfl rfl (q_mv rfl (rfl : _ = V.bool _)) ?_
  refine AOps.g (wanted_t rfl rfl) rfl rfl (fun hc => TLe.refl _) (fun hc => q_fa_i rfl Tryz.underlying29 rfl (by exact Tryz.sizeOf24) (by decide) rfl (rfl : _ = List.drop 1 _)) ?_
  refine AOps.g (wanted_t rfl rfl) rfl rfl (fun hc => TLe.put (d := 45) (VLe.opt hc) (TLe.refl _)) (fun hc => q_ia_ai rfl Tryz.underlying24 Tryz.sizeOf23 rfl rfl (by decide) (by decide) rfl) ?_
  refine AOps.g (wanted_t rfl rfl) rfl rfl (fun hc => TLe.put (d := 46) (VLe.opt hc) (TLe.refl _)) (fun hc => q_load_i1 rfl Tryz.isAgg23 rfl rfl) ?_
  refine AOps.g (wanted_t rfl rfl) rfl rfl (fun hc => TLe.put (d := 47) (VLe.opt hc) (TLe.refl _)) (fun hc => q_len rfl Tryz.underlying23 rfl) ?_
  refine AOps.g (wanted_t rfl rfl) rfl rfl (fun hc => TLe.put (d := 48) (VLe.opt hc) (TLe.refl _)) (fun hc => q_eq rfl rfl rfl) ?_
  refine AOps.q rfl rfl rfl (q_pickg rfl rfl (fun hp => by first | exact VLe.opt hp | exact VLe.opt (by rw [hp]; rfl) | exact VLe.opt (by simp_all)) (fun hp => by exact VLe.refl _)) ?_
  refine AOps.q rfl rfl rfl (q_mv rfl (rfl : _ = V.bool _)) ?_
  refine AOps.g (wanted_t rfl rfl) rfl rfl (fun hc => TLe.refl _) (fun hc => q_mv rfl (rfl : _ = V.sl _ _ _ _)) ?_
  refine AOps.g (wanted_t rfl rfl) rfl rfl (fun hc => TLe.put (d := 52) (VLe.opt hc) (TLe.refl _)) (fun hc => q_len rfl Tryz.underlying54 rfl) ?_
  refine AOps.g (wanted_t rfl rfl) rfl rfl (fun hc => TLe.put (d := 53) (VLe.opt hc) (TLe.refl _)) (fun hc => q_eq rfl rfl rfl) ?_
  refine AOps.q rfl rfl rfl (q_pickg rfl rfl (fun hp => by first | exact VLe.opt hp | exact VLe.opt (by rw [hp]; rfl) | exact VLe.opt (by simp_all)) (fun hp => by exact VLe.refl _)) ?_
  refine AOps.q rfl rfl rfl (q_mv rfl (rfl : _ = V.bool _)) ?_
  refine AOps.g (wanted_t rfl rfl) rfl rfl (fun hc => TLe.refl _) (fun hc => q_mv rfl (rfl : _ = V.sl _ _ _ _)) ?_
  refine AOps.g (wanted_t rfl rfl) rfl rfl (fun hc => TLe.put (d := 57) (VLe.opt hc) (TLe.refl _)) (fun hc => q_ia_s rfl Tryz.underlying54 Tryz.sizeOf61 rfl rfl (by decide) (by rw [alive19_a.2.2.2.2.2.1]; decide) (pds_at (i := 0) (by rw [alive19_a.2.2.2.2.2.1]; decide))) ?_
  refine AOps.g (wanted_t rfl rfl) rfl rfl (fun hc => TLe.put (d := 58) (VLe.opt hc) (TLe.refl _)) (fun hc => q_load_iW rfl Tryz.isAgg61 Tryz.sizeOf61 rfl (by rfl)) ?_
  refine AOps.g (wanted_t rfl rfl) rfl rfl (fun hc => TLe.refl _) (fun hc => q_buildS rfl Tryz.zeroValue61 Tryz.underlying61 (pl61 Tryz.underlying61) rfl rfl) ?_
  refine AOps.g (wanted_t rfl rfl) rfl rfl (fun hc => TLe.put (d := 60) (VLe.opt hc) (TLe.put (d := 59) (VLe.opt hc) (TLe.refl _))) (fun hc => q_eqI (EqI.struct Tryz.isAgg61 Tryz.underlying61 Tryz.sizeOf61 (by kernel_rfl) Tryz.isAgg3 Tryz.underlying3 rfl (by decide)) Tryz.isAgg61 Tryz.sizeOf61 (by kernel_rfl) rfl (a := [(alive19E.pending.getD 0 ⟨1, 1, 1⟩).id, (alive19E.pending.getD 0 ⟨1, 1, 1⟩).ab, (alive19E.pending.getD 0 ⟨1, 1, 1⟩).ctl]) (b := [0, 0, 0]) rfl rfl rfl rfl) ?_
  refine AOps.q rfl rfl rfl (q_pickg rfl rfl (fun hp => by first | exact VLe.opt hp | exact VLe.opt (by rw [hp]; rfl) | exact VLe.opt (by simp_all)) (fun hp => by exact VLe.refl _)) ?_
  refine AOps.q rfl rfl rfl (q_as rfl (rfl : _ = V.bool _)) ?_
  refine AOps.nil ?_
  refine AW.ret ?_
  obtain ⟨b1, b2, b3, b4, b5, b6, b7, b8, b9⟩ := alive19_a
  exact retQ.mk' (.one _) (VLe.of_eq (congrArg V.bool (by show (bif (bif (bif (bif (bif (bif _ then _ else _) then (alive19E.state.objs.getD 0 noObj 5 == 1) else _) then (alive19E.state.objs.getD 0 noObj 17 == 3) else _) then _ else _) then _ else _) then _ else _) = _; rw [b1, b2, b3, b4, b5, b6, b7, b8, b9]; rfl))) he2.le ⟨rfl, rfl⟩

end Go.Proofs.YtnfpbjblbfcecaaGreatDoor
