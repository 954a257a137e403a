/- Walks: who has lost, what is dying, whether that is settled. -/
import Derived.Test.YtnbmcbkokaoapaaGreatDoorReftell
import Derived.Test.YtnbmcbkokaoapaaGreatDoorLawa
namespace Go.Proofs.YtnbmcbkokaoapaaGreatDoor
open Go Go.AV
set_option maxRecDepth 100000
set_option maxHeartbeats 1000000
theorem tells_settled {s : St} (h : refCheck s = 0) : (bif (s.game 6 != 0) then true else (bif (bif (((refDyingF s).length : Int) == 0) then !lostF s 0 else false) then !lostF s 1 else false)) = settledF s := by
  rw [refCheck_eq] at h
  rw [settledF, quietF, resultF, h, refDying_eq]
  cases s.game 6 != 0 <;> cases lostF s 0 <;> cases lostF s 1 <;> cases (((dyingF s).length : Int) == 0) <;> rfl
theorem tells_no {s : St} (h : refCheck s ≠ 0) : false = settledF s := by
  rw [refCheck_eq] at h
  rw [settledF]; simp [h]
theorem tells_all {s : St} {n : Int} : (bif (bif (bif (lostF s n == lostF s n) then intsF (dyingF s) (refDyingF s) else false) then (settledF s == settledF s) else false) then (((s.objs.length : Int) + 1) == ((s.objs.length : Int) + 1)) else false) = true := by
  rw [refDying_eq]; simp [intsF]

theorem checkTells_calls (s : St) (hf : Few s) (v : Int) (h : Hp) : ACalls Tryz.prog G 4 [eState s, .int .i64 v] h fun r h' => r = .bool true ∧ h' = h := by
  refine ACalls.enter Tryz.func4 rfl Tryz.ntmps4 Tryz.results4 rfl ?_
  refine AW.seq ?_
  refine AW.region ?_
  refine AOps.q rfl rfl rfl (q_boxa rfl (rfl : _ = V.agg _)) ?_
  refine AOps.q rfl rfl rfl (q_as rfl (rfl : _ = V.bool _)) ?_
  refine AOps.nil ?_
  refine AW.seq ?_
  refine AW.seq ?_
  refine AW.region ?_
  refine AOps.q rfl rfl rfl (QOp.call rfl (by exact Tryz.call7) fun h' hl' => by exact alive_calls h') ?_
  refine AOps.q rfl rfl rfl (q_not rfl rfl) ?_
  refine AOps.nil ?_
  refine AW.cond rfl (fun c0 => ?_) (fun c0 => ?_)
  · cases c0
  · skip
    refine AW.skip ?_
    refine AW.seq ?_
    refine AW.seq ?_
    refine AW.region ?_
    refine AOps.q rfl rfl rfl (q_load_iW rfl Tryz.isAgg29 Tryz.sizeOf29 rfl (by rfl)) ?_
    refine AOps.q rfl rfl rfl (QOp.call rfl (by exact Tryz.call8) fun h' hl' => by exact long_calls s 40 (by decide) h') ?_
    refine AOps.nil ?_
    refine AW.cond rfl (fun c1 => ?_) (fun c1 => ?_)
    · skip
      refine AW.seq ?_
      refine AW.region ?_
      refine AOps.q rfl rfl rfl (q_as rfl (rfl : _ = V.bool _)) ?_
      refine AOps.nil ?_
      refine AW.ret ?_
      exact retQ.mk' (.one _) (VLe.refl _) (HLe.refl _) ⟨rfl, rfl⟩
    · have hb := long_hb hf c1
      obtain ⟨hb1, hb2⟩ := id hb
      have hdl : (dyingF s).length ≤ 1000000 := Nat.le_trans (List.length_filter_le _ _) (hb2 8)
      refine AW.skip ?_
      refine AW.seq ?_
      refine AW.region ?_
      refine AOps.q rfl rfl rfl (q_buildSl (ds := []) rfl Tryz.underlying23 Tryz.sizeOf3 Tryz.zeroValue3 rfl rfl rfl rfl rfl) ?_
      refine AOps.q rfl rfl rfl (q_as rfl (rfl : _ = V.sl _ _ _ _)) ?_
      refine AOps.q rfl rfl rfl (q_as rfl (rfl : _ = V.bool _)) ?_
      refine AOps.nil ?_
      refine AW.cut (fun T h1 => T = put (put (put (put T0 1 (V.int .i64 v)) 2 (V.iptr (cState s))) 5 (eInts (refDyingF s))) 6 (V.bool (settledF s)) ∧ h = h1) ?_ ?_
      · skip
        refine AW.seq ?_
        refine AW.region ?_
        refine AOps.q rfl rfl rfl (q_load_iW rfl Tryz.isAgg29 Tryz.sizeOf29 rfl (by rfl)) ?_
        refine AOps.q rfl rfl rfl (QOp.call rfl (by exact Tryz.call9) fun h' hl' => by exact refCheck_calls s hb.1 hb.2 h') ?_
        refine AOps.q rfl rfl rfl (q_eq rfl rfl rfl) ?_
        refine AOps.nil ?_
        refine AW.cond rfl (fun c2 => ?_) (fun c2 => ?_)
        · have hrc : refCheck s = 0 := by simpa using c2
          refine AW.seq ?_
          refine AW.region ?_
          refine AOps.q rfl rfl rfl (q_load_iW rfl Tryz.isAgg29 Tryz.sizeOf29 rfl (by rfl)) ?_
          refine AOps.q rfl rfl rfl (QOp.call rfl (by exact Tryz.call16) fun h' hl' => by exact refDying_calls s hb.1 hb.2 h') ?_
          refine AOps.q rfl rfl rfl (q_as rfl (rfl : _ = V.sl _ _ _ _)) ?_
          refine AOps.nil ?_
          refine AW.region ?_
          refine AOps.q rfl rfl rfl (q_fa_i rfl Tryz.underlying29 rfl (by exact Tryz.sizeOf27) (by decide) rfl (rfl : _ = List.drop 30 _)) ?_
          refine AOps.q rfl rfl rfl (q_ia_ai rfl Tryz.underlying27 Tryz.sizeOf3 rfl rfl (by decide) (by decide) rfl) ?_
          refine AOps.q rfl rfl rfl (q_load_i1 rfl Tryz.isAgg3 rfl rfl) ?_
          refine AOps.q rfl rfl rfl (q_ne rfl rfl rfl) ?_
          refine AOps.q rfl rfl rfl (q_mv rfl (rfl : _ = V.bool _)) ?_
          refine AOps.g (wanted_f rfl rfl) rfl rfl (fun hc => TLe.refl _) (fun hc => q_mv rfl (rfl : _ = V.sl _ _ _ _)) ?_
          refine AOps.g (wanted_f rfl rfl) rfl rfl (fun hc => TLe.put (d := 22) (VLe.opt hc) (TLe.refl _)) (fun hc => q_len rfl Tryz.underlying23 rfl) ?_
          refine AOps.g (wanted_f rfl rfl) rfl rfl (fun hc => TLe.put (d := 23) (VLe.opt hc) (TLe.refl _)) (fun hc => q_eq rfl rfl rfl) ?_
          refine AOps.g (wanted_f rfl rfl) rfl rfl (fun hc => TLe.put (d := 24) (VLe.opt hc) (TLe.refl _)) (fun hc => q_mv rfl (rfl : _ = V.bool _)) ?_
          refine AOps.g (wanted_to rfl rfl) rfl rfl (fun hc => TLe.refl _) (fun hc => q_load_iW rfl Tryz.isAgg29 Tryz.sizeOf29 rfl (by rfl)) ?_
          refine AOps.g (wanted_to rfl rfl) rfl rfl (fun hc => TLe.put (d := 26) (VLe.opt hc) (TLe.refl _)) (fun hc => QOp.call rfl (by exact Tryz.call17) fun h' hl' => by exact refLost_calls _ _ h') ?_
          refine AOps.g (wanted_to rfl rfl) rfl rfl (fun hc => TLe.put (d := 27) (VLe.opt hc) (TLe.refl _)) (fun hc => q_not rfl rfl) ?_
          refine AOps.g (wanted_f rfl rfl) rfl rfl (fun hc => TLe.put (d := 25) (VLe.opt hc) (TLe.refl _)) (fun hc => q_pickg rfl rfl (fun hp => by first | exact VLe.opt hp | exact VLe.opt (by rw [hp]; rfl) | exact VLe.opt (by simp_all)) (fun hp => by exact VLe.refl _)) ?_
          refine AOps.g (wanted_f rfl rfl) rfl rfl (fun hc => TLe.put (d := 29) (VLe.opt hc) (TLe.refl _)) (fun hc => q_mv rfl (rfl : _ = V.bool _)) ?_
          refine AOps.g (wanted_to rfl rfl) rfl rfl (fun hc => TLe.refl _) (fun hc => q_load_iW rfl Tryz.isAgg29 Tryz.sizeOf29 rfl (by rfl)) ?_
          refine AOps.g (wanted_to rfl rfl) rfl rfl (fun hc => TLe.put (d := 31) (VLe.opt hc) (TLe.refl _)) (fun hc => QOp.call rfl (by exact Tryz.call17) fun h' hl' => by exact refLost_calls _ _ h') ?_
          refine AOps.g (wanted_to rfl rfl) rfl rfl (fun hc => TLe.put (d := 32) (VLe.opt hc) (TLe.refl _)) (fun hc => q_not rfl rfl) ?_
          refine AOps.g (wanted_f rfl rfl) rfl rfl (fun hc => TLe.put (d := 30) (VLe.opt hc) (TLe.refl _)) (fun hc => q_pickg rfl rfl (fun hp => by first | exact VLe.opt hp | exact VLe.opt (by rw [hp]; rfl) | exact VLe.opt (by simp_all)) (fun hp => by exact VLe.refl _)) ?_
          refine AOps.q rfl rfl rfl (q_pickg rfl rfl (fun hp => by exact VLe.refl _) (fun hp => by first | exact VLe.opt hp | exact VLe.opt (by rw [hp]; rfl) | exact VLe.opt (by simp_all))) ?_
          refine AOps.q rfl rfl rfl (q_as rfl (rfl : _ = V.bool _)) ?_
          refine AOps.nil ?_
          first | exact Wk.mk (TLe.put (d := 6) (VLe.of_eq (congrArg V.bool (tells_settled hrc))) (TLe.put (d := 5) (VLe.refl _) (TLe.put (d := 2) (VLe.refl _) (TLe.put (d := 1) (VLe.refl _) (TLe.zero _))))) (HLe.refl _) ⟨rfl, rfl⟩ | exact Wk.mk (TLe.put (d := 6) (VLe.of_eq (congrArg V.bool (tells_no hrc))) (TLe.put (d := 5) (by rw [refDyingF, if_pos hrc]; exact .fullimm) (TLe.put (d := 2) (VLe.refl _) (TLe.put (d := 1) (VLe.refl _) (TLe.zero _))))) (HLe.refl _) ⟨rfl, rfl⟩
        · have hrc : refCheck s ≠ 0 := by simpa using c2
          refine AW.skip ?_
          first | exact Wk.mk (TLe.put (d := 6) (VLe.of_eq (congrArg V.bool (tells_settled hrc))) (TLe.put (d := 5) (VLe.refl _) (TLe.put (d := 2) (VLe.refl _) (TLe.put (d := 1) (VLe.refl _) (TLe.zero _))))) (HLe.refl _) ⟨rfl, rfl⟩ | exact Wk.mk (TLe.put (d := 6) (VLe.of_eq (congrArg V.bool (tells_no hrc))) (TLe.put (d := 5) (by rw [refDyingF, if_pos hrc]; exact .fullimm) (TLe.put (d := 2) (VLe.refl _) (TLe.put (d := 1) (VLe.refl _) (TLe.zero _))))) (HLe.refl _) ⟨rfl, rfl⟩
      · rintro T h1 ⟨rfl, rfl⟩
        refine AW.seq ?_
        refine AW.draw [] [] [(0, true), (1, true), (2, true), (3, true), (4, true), (5, true), (6, true), (7, true), (8, true), (9, true), (10, true), (11, true), (12, true), (13, true), (14, true), (15, true), (16, true), (17, true), (18, true), (19, true), (20, true), (21, true), (22, true), (23, true), (24, true), (25, true), (26, true), (27, true), (28, true)] mixed (by kernel_rfl) rfl (by kernel_rfl) ?_
        refine AOrd.q rfl rfl rfl rfl (q_load_iW rfl Tryz.isAgg29 Tryz.sizeOf29 rfl (by rfl)) ?_
        refine AOrd.q rfl rfl rfl rfl (q_mv rfl (rfl : _ = V.int _ _)) ?_
        refine AOrd.q rfl rfl rfl rfl (QOp.call rfl (by exact Tryz.call18) fun h' hl' => by exact lost_calls _ _ h') ?_
        refine AOrd.q rfl rfl rfl rfl (q_load_iW rfl Tryz.isAgg29 Tryz.sizeOf29 rfl (by rfl)) ?_
        refine AOrd.q rfl rfl rfl rfl (q_mv rfl (rfl : _ = V.int _ _)) ?_
        refine AOrd.q rfl rfl rfl rfl (QOp.call rfl (by exact Tryz.call17) fun h' hl' => by exact refLost_calls _ _ h') ?_
        refine AOrd.q rfl rfl rfl rfl (q_eqb Tryz.underlying4 rfl rfl rfl) ?_
        refine AOrd.q rfl rfl rfl rfl (q_mv rfl (rfl : _ = V.bool _)) ?_
        refine AOrd.g rfl rfl (wanted_t rfl rfl) rfl (fun hc => TLe.refl _) (fun hc => q_load_iW rfl Tryz.isAgg29 Tryz.sizeOf29 rfl (by rfl)) ?_
        refine AOrd.g rfl rfl (wanted_t rfl rfl) rfl (fun hc => TLe.put (d := 44) (VLe.opt hc) (TLe.refl _)) (fun hc => QOp.call rfl (by exact Tryz.call20) fun h' hl' => by exact dying_calls s hb.1 hb.2 h') ?_
        refine AOrd.g rfl rfl (wanted_t rfl rfl) rfl (fun hc => TLe.refl _) (fun hc => q_mv rfl (rfl : _ = V.sl _ _ _ _)) ?_
        refine AOrd.g rfl rfl (wanted_t rfl rfl) rfl (fun hc => TLe.put (d := 46) (VLe.opt hc) (TLe.put (d := 45) (VLe.opt hc) (TLe.refl _))) (fun hc => QOp.call rfl (by exact Tryz.call19) fun h' hl' => by exact ints_calls _ _ hdl h') ?_
        refine AOrd.q rfl rfl rfl rfl (q_pickg rfl rfl (fun hp => by first | exact VLe.opt hp | exact VLe.opt (by rw [hp]; rfl) | exact VLe.opt (by simp_all)) (fun hp => by exact VLe.refl _)) ?_
        refine AOrd.q rfl rfl rfl rfl (q_mv rfl (rfl : _ = V.bool _)) ?_
        refine AOrd.g rfl rfl (wanted_t rfl rfl) rfl (fun hc => TLe.refl _) (fun hc => q_load_iW rfl Tryz.isAgg29 Tryz.sizeOf29 rfl (by rfl)) ?_
        refine AOrd.g rfl rfl (wanted_t rfl rfl) rfl (fun hc => TLe.put (d := 50) (VLe.opt hc) (TLe.refl _)) (fun hc => QOp.call rfl (by exact Tryz.call15) fun h' hl' => by exact settled_calls s hb.1 hb.2 h') ?_
        refine AOrd.g rfl rfl (wanted_t rfl rfl) rfl (fun hc => TLe.refl _) (fun hc => q_mv rfl (rfl : _ = V.bool _)) ?_
        refine AOrd.g rfl rfl (wanted_t rfl rfl) rfl (fun hc => TLe.put (d := 52) (VLe.opt hc) (TLe.put (d := 51) (VLe.opt hc) (TLe.refl _))) (fun hc => q_eqb Tryz.underlying4 rfl rfl rfl) ?_
        refine AOrd.q rfl rfl rfl rfl (q_pickg rfl rfl (fun hp => by first | exact VLe.opt hp | exact VLe.opt (by rw [hp]; rfl) | exact VLe.opt (by simp_all)) (fun hp => by exact VLe.refl _)) ?_
        refine AOrd.q rfl rfl rfl rfl (q_mv rfl (rfl : _ = V.bool _)) ?_
        refine AOrd.g rfl rfl (wanted_t rfl rfl) rfl (fun hc => TLe.refl _) (fun hc => q_load_iW rfl Tryz.isAgg29 Tryz.sizeOf29 rfl (by rfl)) ?_
        refine AOrd.g rfl rfl (wanted_t rfl rfl) rfl (fun hc => TLe.put (d := 56) (VLe.opt hc) (TLe.refl _)) (fun hc => QOp.call rfl (by exact Tryz.call21) fun h' hl' => by exact fuel_calls s hb.1 h') ?_
        refine AOrd.g rfl rfl (wanted_t rfl rfl) rfl (fun hc => TLe.refl _) (fun hc => q_fa_i rfl Tryz.underlying29 rfl (by exact Tryz.sizeOf22) (by decide) rfl (rfl : _ = List.drop 0 _)) ?_
        refine AOrd.g rfl rfl (wanted_t rfl rfl) rfl (fun hc => TLe.put (d := 58) (VLe.opt hc) (TLe.refl _)) (fun hc => q_load_i1 rfl Tryz.isAgg22 rfl rfl) ?_
        refine AOrd.g rfl rfl (wanted_t rfl rfl) rfl (fun hc => TLe.put (d := 59) (VLe.opt hc) (TLe.refl _)) (fun hc => q_len rfl Tryz.underlying22 rfl) ?_
        refine AOrd.g rfl rfl (wanted_t rfl rfl) rfl (fun hc => TLe.put (d := 60) (VLe.opt hc) (TLe.refl _)) (fun hc => q_add' rfl rfl rfl (by omega)) ?_
        refine AOrd.g rfl rfl (wanted_t rfl rfl) rfl (fun hc => TLe.put (d := 61) (VLe.opt hc) (TLe.put (d := 57) (VLe.opt hc) (TLe.refl _))) (fun hc => q_eq rfl rfl rfl) ?_
        refine AOrd.q rfl rfl rfl rfl (q_pickg rfl rfl (fun hp => by first | exact VLe.opt hp | exact VLe.opt (by rw [hp]; rfl) | exact VLe.opt (by simp_all)) (fun hp => by exact VLe.refl _)) ?_
        refine AOrd.q rfl rfl rfl rfl (q_as rfl (rfl : _ = V.bool _)) ?_
        refine AOrd.nil ?_
        refine AW.ret ?_
        exact retQ.mk' (.one _) (VLe.of_eq (congrArg V.bool (tells_all))) (HLe.refl _) ⟨rfl, rfl⟩

end Go.Proofs.YtnbmcbkokaoapaaGreatDoor
