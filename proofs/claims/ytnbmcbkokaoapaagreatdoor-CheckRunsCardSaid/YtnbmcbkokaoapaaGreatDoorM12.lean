/- Walks: the document's events: are they right; lists. -/
import Derived.Test.YtnbmcbkokaoapaaGreatDoorM11
namespace Go.Proofs.YtnbmcbkokaoapaaGreatDoor
open Go Go.AV Go.Proofs.Tryz
set_option maxRecDepth 100000
set_option maxHeartbeats 1000000
def evOk (x : Ev) : Bool :=
  if x.k = 0 ∨ x.k = 5 then inN x.a 120 && inN x.b 2 && inN x.c 3
  else if x.k = 1 then decide (0 ≤ x.a) && inN x.b 11 && inN x.d 11 && decide (0 ≤ x.c) && decide (0 ≤ x.e)
  else if x.k = 2 then decide (0 ≤ x.a) && inN x.b 18 && x.b != 3
  else if x.k = 3 then inN x.a 2 && inN x.b 9
  else inN x.b 7
theorem evRanges_eq {x : Ev} (h : 0 ≤ x.k ∧ x.k ≤ 5) : evRanges x = (evOk x && !(decide (2 ≤ x.k) && decide (x.k ≤ 4) && (decide (1073741824 < x.d) || decide (x.d < -1073741824)))) := by
  have hk : x.k = 0 ∨ x.k = 1 ∨ x.k = 2 ∨ x.k = 3 ∨ x.k = 4 ∨ x.k = 5 := by omega
  have hs : small x.d = !(decide (1073741824 < x.d) || decide (x.d < -1073741824)) := by
    rw [Bool.eq_iff_iff]; simp [small]; omega
  rcases hk with e | e | e | e | e | e <;> simp [evRanges, evOk, e, hs, Bool.and_assoc]

theorem refEv_calls (x : Ev) (h : Hp) : ACalls prog G 66 [eEv x] h fun r h' => r = .int .i64 (evCheck x) ∧ h' = h := by
  refine ACalls.enter func66 rfl ntmps66 results66 rfl ?_
  refine .seq <|
    .region <|
    .bx rfl rfl <|
    .aI rfl rfl <|
    .nil <|
    .seq <|
    .seq <|
    .region <|
    .fi rfl f84_0 rfl <|
    .li rfl isAgg3 rfl rfl <|
    .ql rfl rfl rfl <|
    .mB rfl rfl ?_
  refine .gf rfl rfl rfl (fun _ => tl0) (fun hc => q_fa_i rfl underlying84 rfl (by exact sizeOf3) (by decide) rfl (rfl : _ = List.drop 0 _)) ?_
  refine .gf rfl rfl rfl (fun hc => tl1 9 (.opt hc)) (fun hc => q_load_i1 rfl isAgg3 rfl rfl) ?_
  refine .gf rfl rfl rfl (fun hc => tl1 10 (.opt hc)) (fun hc => q_gt rfl rfl rfl) ?_
  refine .pf rfl rfl rfl rfl <|
    .nil ?_
  refine AW.cond rfl (fun c0 => ?_) (fun c0 => ?_)
  · skip
    refine .seq <|
      .region <|
      .aI rfl rfl <|
      .nil ?_
    refine AW.ret ?_
    exact retQ.mk' (.one _) (VLe.of_eq (congrArg (V.int .i64) (by simp at c0; unfold evCheck; rw [if_pos (by simp [inN]; omega)]))) (HLe.refl _) ⟨rfl, rfl⟩
  · skip
    refine AW.skip ?_
    refine .seq <|
      .region <|
      .fi rfl f84_0 rfl <|
      .li rfl isAgg3 rfl rfl <|
      .qe rfl rfl rfl <|
      .mB rfl rfl ?_
    refine .gf rfl rfl rfl (fun _ => tl0) (fun hc => q_fa_i rfl underlying84 rfl (by exact sizeOf3) (by decide) rfl (rfl : _ = List.drop 0 _)) ?_
    refine .gf rfl rfl rfl (fun hc => tl1 17 (.opt hc)) (fun hc => q_load_i1 rfl isAgg3 rfl rfl) ?_
    refine .gf rfl rfl rfl (fun hc => tl1 18 (.opt hc)) (fun hc => q_eq rfl rfl rfl) ?_
    refine .pf rfl rfl rfl rfl <|
      .aB rfl rfl <|
      .nil <|
      .seq <|
      .seq <|
      .region <|
      .mB rfl rfl <|
      .mB rfl rfl ?_
    refine .gt rfl rfl rfl (fun _ => tl0) (fun hc => q_fa_i rfl underlying84 rfl (by exact sizeOf3) (by decide) rfl (rfl : _ = List.drop 4 _)) ?_
    refine .gt rfl rfl rfl (fun hc => tl1 23 (.opt hc)) (fun hc => q_load_i1 rfl isAgg3 rfl rfl) ?_
    refine .gt rfl rfl rfl (fun hc => tl1 24 (.opt hc)) (fun hc => q_ne rfl rfl rfl) ?_
    refine .gt rfl rfl rfl (fun hc => tl1 25 (.opt hc)) (fun hc => q_mv rfl (rfl : _ = V.bool _)) ?_
    refine AOps.g (wanted_fo rfl rfl) rfl rfl (fun _ => tl0) (fun hc => q_fa_i rfl underlying84 rfl (by exact sizeOf3) (by decide) rfl (rfl : _ = List.drop 5 _)) ?_
    refine AOps.g (wanted_fo rfl rfl) rfl rfl (fun hc => tl1 27 (.opt hc)) (fun hc => q_load_i1 rfl isAgg3 rfl rfl) ?_
    refine AOps.g (wanted_fo rfl rfl) rfl rfl (fun hc => tl1 28 (.opt hc)) (fun hc => q_ne rfl rfl rfl) ?_
    refine .gt rfl rfl rfl (fun hc => tl1 26 (.opt hc)) (fun hc => q_pickg rfl rfl (fun hp => by exact VLe.refl _) (fun hp => by first | exact VLe.opt hp | exact VLe.opt (by rw [hp]; rfl) | exact VLe.opt (by simp_all))) ?_
    refine .pt rfl rfl rfl rfl <|
      .mB rfl rfl ?_
    refine .gf rfl rfl rfl (fun _ => tl0) (fun hc => q_fa_i rfl underlying84 rfl (by exact sizeOf3) (by decide) rfl (rfl : _ = List.drop 0 _)) ?_
    refine .gf rfl rfl rfl (fun hc => tl1 33 (.opt hc)) (fun hc => q_load_i1 rfl isAgg3 rfl rfl) ?_
    refine .gf rfl rfl rfl (fun hc => tl1 34 (.opt hc)) (fun hc => q_ge rfl rfl rfl) ?_
    refine .gf rfl rfl rfl (fun hc => tl1 35 (.opt hc)) (fun hc => q_mv rfl (rfl : _ = V.bool _)) ?_
    refine AOps.g (wanted_to rfl rfl) rfl rfl (fun _ => tl0) (fun hc => q_fa_i rfl underlying84 rfl (by exact sizeOf3) (by decide) rfl (rfl : _ = List.drop 0 _)) ?_
    refine AOps.g (wanted_to rfl rfl) rfl rfl (fun hc => tl1 37 (.opt hc)) (fun hc => q_load_i1 rfl isAgg3 rfl rfl) ?_
    refine AOps.g (wanted_to rfl rfl) rfl rfl (fun hc => tl1 38 (.opt hc)) (fun hc => q_le rfl rfl rfl) ?_
    refine .gf rfl rfl rfl (fun hc => tl1 36 (.opt hc)) (fun hc => q_pickg rfl rfl (fun hp => by first | exact VLe.opt hp | exact VLe.opt (by rw [hp]; rfl) | exact VLe.opt (by simp_all)) (fun hp => by exact VLe.refl _)) ?_
    refine .gf rfl rfl rfl (fun hc => tl1 40 (.opt hc)) (fun hc => q_mv rfl (rfl : _ = V.bool _)) ?_
    refine AOps.g (wanted_to rfl rfl) rfl rfl (fun _ => tl0) (fun hc => q_fa_i rfl underlying84 rfl (by exact sizeOf3) (by decide) rfl (rfl : _ = List.drop 5 _)) ?_
    refine AOps.g (wanted_to rfl rfl) rfl rfl (fun hc => tl1 42 (.opt hc)) (fun hc => q_load_i1 rfl isAgg3 rfl rfl) ?_
    refine AOps.g (wanted_to rfl rfl) rfl rfl (fun hc => tl1 43 (.opt hc)) (fun hc => q_ne rfl rfl rfl) ?_
    refine .gf rfl rfl rfl (fun hc => tl1 41 (.opt hc)) (fun hc => q_pickg rfl rfl (fun hp => by first | exact VLe.opt hp | exact VLe.opt (by rw [hp]; rfl) | exact VLe.opt (by simp_all)) (fun hp => by exact VLe.refl _)) ?_
    refine .pf rfl rfl rfl rfl <|
      .mB rfl rfl ?_
    refine .gf rfl rfl rfl (fun _ => tl0) (fun hc => q_fa_i rfl underlying84 rfl (by exact sizeOf3) (by decide) rfl (rfl : _ = List.drop 0 _)) ?_
    refine .gf rfl rfl rfl (fun hc => tl1 48 (.opt hc)) (fun hc => q_load_i1 rfl isAgg3 rfl rfl) ?_
    refine .gf rfl rfl rfl (fun hc => tl1 49 (.opt hc)) (fun hc => q_eq rfl rfl rfl) ?_
    refine .gf rfl rfl rfl (fun hc => tl1 50 (.opt hc)) (fun hc => q_mv rfl (rfl : _ = V.bool _)) ?_
    refine AOps.g (wanted_to rfl rfl) rfl rfl (fun _ => tl0) (fun hc => q_fa_i rfl underlying84 rfl (by exact sizeOf3) (by decide) rfl (rfl : _ = List.drop 1 _)) ?_
    refine AOps.g (wanted_to rfl rfl) rfl rfl (fun hc => tl1 52 (.opt hc)) (fun hc => q_load_i1 rfl isAgg3 rfl rfl) ?_
    refine AOps.g (wanted_to rfl rfl) rfl rfl (fun hc => tl1 53 (.opt hc)) (fun hc => q_ne rfl rfl rfl) ?_
    refine .gf rfl rfl rfl (fun hc => tl1 51 (.opt hc)) (fun hc => q_pickg rfl rfl (fun hp => by first | exact VLe.opt hp | exact VLe.opt (by rw [hp]; rfl) | exact VLe.opt (by simp_all)) (fun hp => by exact VLe.refl _)) ?_
    refine .pf rfl rfl rfl rfl <|
      .nil ?_
    refine AW.cond rfl (fun c1 => ?_) (fun c1 => ?_)
    · skip
      refine .seq <|
        .region <|
        .aI rfl rfl <|
        .nil ?_
      refine AW.ret ?_
      exact retQ.mk' (.one _) (VLe.of_eq (congrArg (V.int .i64) (by simp at c0 c1; unfold evCheck; rw [if_neg (by simp [inN]; omega), if_pos (by simp [evSpare, evMakes]; grind)]))) (HLe.refl _) ⟨rfl, rfl⟩
    · skip
      refine AW.skip ?_
      refine .seq <|
        .region <|
        .aB rfl rfl <|
        .nil ?_
      refine AW.cut (fun T h1 => T = put (put T0 1 (V.iptr (cEv x))) 4 (V.bool (evOk x)) ∧ h = h1) ?_ ?_
      · skip
        refine .seq <|
          .region <|
          .fi rfl f84_0 rfl <|
          .li rfl isAgg3 rfl rfl <|
          .nil <|
          .block <|
          .seq <|
          .seq <|
          .region <|
          .qe rfl rfl rfl <|
          .aB rfl rfl <|
          .nil ?_
        refine AW.cond rfl (fun c2 => ?_) (fun c2 => ?_)
        · skip
          refine AW.skip ?_
          refine AW.condT rfl c2 ?_
          refine .region <|
            .fi rfl f84_1 rfl <|
            .li rfl isAgg3 rfl rfl <|
            .qg rfl rfl rfl <|
            .mB rfl rfl ?_
          refine .gt rfl rfl rfl (fun _ => tl0) (fun hc => q_fa_i rfl underlying84 rfl (by exact sizeOf3) (by decide) rfl (rfl : _ = List.drop 1 _)) ?_
          refine .gt rfl rfl rfl (fun hc => tl1 74 (.opt hc)) (fun hc => q_load_i1 rfl isAgg3 rfl rfl) ?_
          refine .gt rfl rfl rfl (fun hc => tl1 75 (.opt hc)) (fun hc => q_le rfl rfl rfl) ?_
          refine .pt rfl rfl rfl rfl <|
            .mB rfl rfl ?_
          refine .gt rfl rfl rfl (fun _ => tl0) (fun hc => q_fa_i rfl underlying84 rfl (by exact sizeOf3) (by decide) rfl (rfl : _ = List.drop 2 _)) ?_
          refine .gt rfl rfl rfl (fun hc => tl1 79 (.opt hc)) (fun hc => q_load_i1 rfl isAgg3 rfl rfl) ?_
          refine .gt rfl rfl rfl (fun hc => tl1 80 (.opt hc)) (fun hc => q_ge rfl rfl rfl) ?_
          refine .pt rfl rfl rfl rfl <|
            .mB rfl rfl ?_
          refine .gt rfl rfl rfl (fun _ => tl0) (fun hc => q_fa_i rfl underlying84 rfl (by exact sizeOf3) (by decide) rfl (rfl : _ = List.drop 2 _)) ?_
          refine .gt rfl rfl rfl (fun hc => tl1 84 (.opt hc)) (fun hc => q_load_i1 rfl isAgg3 rfl rfl) ?_
          refine .gt rfl rfl rfl (fun hc => tl1 85 (.opt hc)) (fun hc => q_le rfl rfl rfl) ?_
          refine .pt rfl rfl rfl rfl <|
            .mB rfl rfl ?_
          refine .gt rfl rfl rfl (fun _ => tl0) (fun hc => q_fa_i rfl underlying84 rfl (by exact sizeOf3) (by decide) rfl (rfl : _ = List.drop 3 _)) ?_
          refine .gt rfl rfl rfl (fun hc => tl1 89 (.opt hc)) (fun hc => q_load_i1 rfl isAgg3 rfl rfl) ?_
          refine .gt rfl rfl rfl (fun hc => tl1 90 (.opt hc)) (fun hc => q_ge rfl rfl rfl) ?_
          refine .pt rfl rfl rfl rfl <|
            .mB rfl rfl ?_
          refine .gt rfl rfl rfl (fun _ => tl0) (fun hc => q_fa_i rfl underlying84 rfl (by exact sizeOf3) (by decide) rfl (rfl : _ = List.drop 3 _)) ?_
          refine .gt rfl rfl rfl (fun hc => tl1 94 (.opt hc)) (fun hc => q_load_i1 rfl isAgg3 rfl rfl) ?_
          refine .gt rfl rfl rfl (fun hc => tl1 95 (.opt hc)) (fun hc => q_le rfl rfl rfl) ?_
          refine .pt rfl rfl rfl rfl <|
            .aB rfl rfl <|
            .nil ?_
          exact Wk.mk (TLe.put (d := 4) (VLe.of_eq (congrArg V.bool (by simp only [beq_iff_eq, beq_eq_false_iff_ne] at *; simp_all [evOk, inN]; try grind))) (TLe.put (d := 1) (VLe.refl _) (TLe.zero _))) (HLe.refl _) ⟨rfl, rfl⟩
        · skip
          refine .region <|
            .qe rfl rfl rfl <|
            .aB rfl rfl <|
            .nil ?_
          refine AW.cond rfl (fun c3 => ?_) (fun c3 => ?_)
          · skip
            refine .region <|
              .fi rfl f84_1 rfl <|
              .li rfl isAgg3 rfl rfl <|
              .qg rfl rfl rfl <|
              .mB rfl rfl ?_
            refine .gt rfl rfl rfl (fun _ => tl0) (fun hc => q_fa_i rfl underlying84 rfl (by exact sizeOf3) (by decide) rfl (rfl : _ = List.drop 1 _)) ?_
            refine .gt rfl rfl rfl (fun hc => tl1 74 (.opt hc)) (fun hc => q_load_i1 rfl isAgg3 rfl rfl) ?_
            refine .gt rfl rfl rfl (fun hc => tl1 75 (.opt hc)) (fun hc => q_le rfl rfl rfl) ?_
            refine .pt rfl rfl rfl rfl <|
              .mB rfl rfl ?_
            refine .gt rfl rfl rfl (fun _ => tl0) (fun hc => q_fa_i rfl underlying84 rfl (by exact sizeOf3) (by decide) rfl (rfl : _ = List.drop 2 _)) ?_
            refine .gt rfl rfl rfl (fun hc => tl1 79 (.opt hc)) (fun hc => q_load_i1 rfl isAgg3 rfl rfl) ?_
            refine .gt rfl rfl rfl (fun hc => tl1 80 (.opt hc)) (fun hc => q_ge rfl rfl rfl) ?_
            refine .pt rfl rfl rfl rfl <|
              .mB rfl rfl ?_
            refine .gt rfl rfl rfl (fun _ => tl0) (fun hc => q_fa_i rfl underlying84 rfl (by exact sizeOf3) (by decide) rfl (rfl : _ = List.drop 2 _)) ?_
            refine .gt rfl rfl rfl (fun hc => tl1 84 (.opt hc)) (fun hc => q_load_i1 rfl isAgg3 rfl rfl) ?_
            refine .gt rfl rfl rfl (fun hc => tl1 85 (.opt hc)) (fun hc => q_le rfl rfl rfl) ?_
            refine .pt rfl rfl rfl rfl <|
              .mB rfl rfl ?_
            refine .gt rfl rfl rfl (fun _ => tl0) (fun hc => q_fa_i rfl underlying84 rfl (by exact sizeOf3) (by decide) rfl (rfl : _ = List.drop 3 _)) ?_
            refine .gt rfl rfl rfl (fun hc => tl1 89 (.opt hc)) (fun hc => q_load_i1 rfl isAgg3 rfl rfl) ?_
            refine .gt rfl rfl rfl (fun hc => tl1 90 (.opt hc)) (fun hc => q_ge rfl rfl rfl) ?_
            refine .pt rfl rfl rfl rfl <|
              .mB rfl rfl ?_
            refine .gt rfl rfl rfl (fun _ => tl0) (fun hc => q_fa_i rfl underlying84 rfl (by exact sizeOf3) (by decide) rfl (rfl : _ = List.drop 3 _)) ?_
            refine .gt rfl rfl rfl (fun hc => tl1 94 (.opt hc)) (fun hc => q_load_i1 rfl isAgg3 rfl rfl) ?_
            refine .gt rfl rfl rfl (fun hc => tl1 95 (.opt hc)) (fun hc => q_le rfl rfl rfl) ?_
            refine .pt rfl rfl rfl rfl <|
              .aB rfl rfl <|
              .nil ?_
            exact Wk.mk (TLe.put (d := 4) (VLe.of_eq (congrArg V.bool (by simp only [beq_iff_eq, beq_eq_false_iff_ne] at *; simp_all [evOk, inN]; try grind))) (TLe.put (d := 1) (VLe.refl _) (TLe.zero _))) (HLe.refl _) ⟨rfl, rfl⟩
          · skip
            refine .seq <|
              .region <|
              .qe rfl rfl rfl <|
              .aB rfl rfl <|
              .nil ?_
            refine AW.cond rfl (fun c4 => ?_) (fun c4 => ?_)
            · skip
              refine .region <|
                .fi rfl f84_1 rfl <|
                .li rfl isAgg3 rfl rfl <|
                .qg rfl rfl rfl <|
                .mB rfl rfl ?_
              refine .gt rfl rfl rfl (fun _ => tl0) (fun hc => q_fa_i rfl underlying84 rfl (by exact sizeOf3) (by decide) rfl (rfl : _ = List.drop 2 _)) ?_
              refine .gt rfl rfl rfl (fun hc => tl1 104 (.opt hc)) (fun hc => q_load_i1 rfl isAgg3 rfl rfl) ?_
              refine .gt rfl rfl rfl (fun hc => tl1 105 (.opt hc)) (fun hc => q_ge rfl rfl rfl) ?_
              refine .pt rfl rfl rfl rfl <|
                .mB rfl rfl ?_
              refine .gt rfl rfl rfl (fun _ => tl0) (fun hc => q_fa_i rfl underlying84 rfl (by exact sizeOf3) (by decide) rfl (rfl : _ = List.drop 2 _)) ?_
              refine .gt rfl rfl rfl (fun hc => tl1 109 (.opt hc)) (fun hc => q_load_i1 rfl isAgg3 rfl rfl) ?_
              refine .gt rfl rfl rfl (fun hc => tl1 110 (.opt hc)) (fun hc => q_le rfl rfl rfl) ?_
              refine .pt rfl rfl rfl rfl <|
                .mB rfl rfl ?_
              refine .gt rfl rfl rfl (fun _ => tl0) (fun hc => q_fa_i rfl underlying84 rfl (by exact sizeOf3) (by decide) rfl (rfl : _ = List.drop 3 _)) ?_
              refine .gt rfl rfl rfl (fun hc => tl1 114 (.opt hc)) (fun hc => q_load_i1 rfl isAgg3 rfl rfl) ?_
              refine .gt rfl rfl rfl (fun hc => tl1 115 (.opt hc)) (fun hc => q_ge rfl rfl rfl) ?_
              refine .pt rfl rfl rfl rfl <|
                .mB rfl rfl ?_
              refine .gt rfl rfl rfl (fun _ => tl0) (fun hc => q_fa_i rfl underlying84 rfl (by exact sizeOf3) (by decide) rfl (rfl : _ = List.drop 4 _)) ?_
              refine .gt rfl rfl rfl (fun hc => tl1 119 (.opt hc)) (fun hc => q_load_i1 rfl isAgg3 rfl rfl) ?_
              refine .gt rfl rfl rfl (fun hc => tl1 120 (.opt hc)) (fun hc => q_ge rfl rfl rfl) ?_
              refine .pt rfl rfl rfl rfl <|
                .mB rfl rfl ?_
              refine .gt rfl rfl rfl (fun _ => tl0) (fun hc => q_fa_i rfl underlying84 rfl (by exact sizeOf3) (by decide) rfl (rfl : _ = List.drop 4 _)) ?_
              refine .gt rfl rfl rfl (fun hc => tl1 124 (.opt hc)) (fun hc => q_load_i1 rfl isAgg3 rfl rfl) ?_
              refine .gt rfl rfl rfl (fun hc => tl1 125 (.opt hc)) (fun hc => q_le rfl rfl rfl) ?_
              refine .pt rfl rfl rfl rfl <|
                .mB rfl rfl ?_
              refine .gt rfl rfl rfl (fun _ => tl0) (fun hc => q_fa_i rfl underlying84 rfl (by exact sizeOf3) (by decide) rfl (rfl : _ = List.drop 5 _)) ?_
              refine .gt rfl rfl rfl (fun hc => tl1 129 (.opt hc)) (fun hc => q_load_i1 rfl isAgg3 rfl rfl) ?_
              refine .gt rfl rfl rfl (fun hc => tl1 130 (.opt hc)) (fun hc => q_ge rfl rfl rfl) ?_
              refine .pt rfl rfl rfl rfl <|
                .aB rfl rfl <|
                .nil ?_
              exact Wk.mk (TLe.put (d := 4) (VLe.of_eq (congrArg V.bool (by simp only [beq_iff_eq, beq_eq_false_iff_ne] at *; simp_all [evOk, inN]; try grind))) (TLe.put (d := 1) (VLe.refl _) (TLe.zero _))) (HLe.refl _) ⟨rfl, rfl⟩
            · skip
              refine .seq <|
                .region <|
                .qe rfl rfl rfl <|
                .aB rfl rfl <|
                .nil ?_
              refine AW.cond rfl (fun c5 => ?_) (fun c5 => ?_)
              · skip
                refine .region <|
                  .fi rfl f84_1 rfl <|
                  .li rfl isAgg3 rfl rfl <|
                  .qg rfl rfl rfl <|
                  .mB rfl rfl ?_
                refine .gt rfl rfl rfl (fun _ => tl0) (fun hc => q_fa_i rfl underlying84 rfl (by exact sizeOf3) (by decide) rfl (rfl : _ = List.drop 2 _)) ?_
                refine .gt rfl rfl rfl (fun hc => tl1 139 (.opt hc)) (fun hc => q_load_i1 rfl isAgg3 rfl rfl) ?_
                refine .gt rfl rfl rfl (fun hc => tl1 140 (.opt hc)) (fun hc => q_ge rfl rfl rfl) ?_
                refine .pt rfl rfl rfl rfl <|
                  .mB rfl rfl ?_
                refine .gt rfl rfl rfl (fun _ => tl0) (fun hc => q_fa_i rfl underlying84 rfl (by exact sizeOf3) (by decide) rfl (rfl : _ = List.drop 2 _)) ?_
                refine .gt rfl rfl rfl (fun hc => tl1 144 (.opt hc)) (fun hc => q_load_i1 rfl isAgg3 rfl rfl) ?_
                refine .gt rfl rfl rfl (fun hc => tl1 145 (.opt hc)) (fun hc => q_le rfl rfl rfl) ?_
                refine .pt rfl rfl rfl rfl <|
                  .mB rfl rfl ?_
                refine .gt rfl rfl rfl (fun _ => tl0) (fun hc => q_fa_i rfl underlying84 rfl (by exact sizeOf3) (by decide) rfl (rfl : _ = List.drop 2 _)) ?_
                refine .gt rfl rfl rfl (fun hc => tl1 149 (.opt hc)) (fun hc => q_load_i1 rfl isAgg3 rfl rfl) ?_
                refine .gt rfl rfl rfl (fun hc => tl1 150 (.opt hc)) (fun hc => q_ne rfl rfl rfl) ?_
                refine .pt rfl rfl rfl rfl <|
                  .aB rfl rfl <|
                  .nil ?_
                exact Wk.mk (TLe.put (d := 4) (VLe.of_eq (congrArg V.bool (by simp only [beq_iff_eq, beq_eq_false_iff_ne] at *; simp_all [evOk, inN]; try grind))) (TLe.put (d := 1) (VLe.refl _) (TLe.zero _))) (HLe.refl _) ⟨rfl, rfl⟩
              · skip
                refine .seq <|
                  .region <|
                  .qe rfl rfl rfl <|
                  .aB rfl rfl <|
                  .nil ?_
                refine AW.cond rfl (fun c6 => ?_) (fun c6 => ?_)
                · skip
                  refine .region <|
                    .fi rfl f84_1 rfl <|
                    .li rfl isAgg3 rfl rfl <|
                    .qg rfl rfl rfl <|
                    .mB rfl rfl ?_
                  refine .gt rfl rfl rfl (fun _ => tl0) (fun hc => q_fa_i rfl underlying84 rfl (by exact sizeOf3) (by decide) rfl (rfl : _ = List.drop 1 _)) ?_
                  refine .gt rfl rfl rfl (fun hc => tl1 159 (.opt hc)) (fun hc => q_load_i1 rfl isAgg3 rfl rfl) ?_
                  refine .gt rfl rfl rfl (fun hc => tl1 160 (.opt hc)) (fun hc => q_le rfl rfl rfl) ?_
                  refine .pt rfl rfl rfl rfl <|
                    .mB rfl rfl ?_
                  refine .gt rfl rfl rfl (fun _ => tl0) (fun hc => q_fa_i rfl underlying84 rfl (by exact sizeOf3) (by decide) rfl (rfl : _ = List.drop 2 _)) ?_
                  refine .gt rfl rfl rfl (fun hc => tl1 164 (.opt hc)) (fun hc => q_load_i1 rfl isAgg3 rfl rfl) ?_
                  refine .gt rfl rfl rfl (fun hc => tl1 165 (.opt hc)) (fun hc => q_ge rfl rfl rfl) ?_
                  refine .pt rfl rfl rfl rfl <|
                    .mB rfl rfl ?_
                  refine .gt rfl rfl rfl (fun _ => tl0) (fun hc => q_fa_i rfl underlying84 rfl (by exact sizeOf3) (by decide) rfl (rfl : _ = List.drop 2 _)) ?_
                  refine .gt rfl rfl rfl (fun hc => tl1 169 (.opt hc)) (fun hc => q_load_i1 rfl isAgg3 rfl rfl) ?_
                  refine .gt rfl rfl rfl (fun hc => tl1 170 (.opt hc)) (fun hc => q_le rfl rfl rfl) ?_
                  refine .pt rfl rfl rfl rfl <|
                    .aB rfl rfl <|
                    .nil ?_
                  exact Wk.mk (TLe.put (d := 4) (VLe.of_eq (congrArg V.bool (by simp only [beq_iff_eq, beq_eq_false_iff_ne] at *; simp_all [evOk, inN]; try grind))) (TLe.put (d := 1) (VLe.refl _) (TLe.zero _))) (HLe.refl _) ⟨rfl, rfl⟩
                · skip
                  refine .region <|
                    .fi rfl f84_2 rfl <|
                    .li rfl isAgg3 rfl rfl <|
                    .qg rfl rfl rfl <|
                    .mB rfl rfl ?_
                  refine .gt rfl rfl rfl (fun _ => tl0) (fun hc => q_fa_i rfl underlying84 rfl (by exact sizeOf3) (by decide) rfl (rfl : _ = List.drop 2 _)) ?_
                  refine .gt rfl rfl rfl (fun hc => tl1 63 (.opt hc)) (fun hc => q_load_i1 rfl isAgg3 rfl rfl) ?_
                  refine .gt rfl rfl rfl (fun hc => tl1 64 (.opt hc)) (fun hc => q_le rfl rfl rfl) ?_
                  refine .pt rfl rfl rfl rfl <|
                    .aB rfl rfl <|
                    .nil ?_
                  exact Wk.mk (TLe.put (d := 4) (VLe.of_eq (congrArg V.bool (by simp only [beq_iff_eq, beq_eq_false_iff_ne] at *; simp_all [evOk, inN]; try grind))) (TLe.put (d := 1) (VLe.refl _) (TLe.zero _))) (HLe.refl _) ⟨rfl, rfl⟩
      · rintro T h1 ⟨rfl, rfl⟩
        refine .seq <|
          .seq <|
          .region <|
          .mB rfl rfl <|
          .nt rfl rfl <|
          .mB rfl rfl ?_
        refine .gf rfl rfl rfl (fun _ => tl0) (fun hc => q_fa_i rfl underlying84 rfl (by exact sizeOf3) (by decide) rfl (rfl : _ = List.drop 0 _)) ?_
        refine .gf rfl rfl rfl (fun hc => tl1 176 (.opt hc)) (fun hc => q_load_i1 rfl isAgg3 rfl rfl) ?_
        refine .gf rfl rfl rfl (fun hc => tl1 177 (.opt hc)) (fun hc => q_ge rfl rfl rfl) ?_
        refine .gf rfl rfl rfl (fun hc => tl1 178 (.opt hc)) (fun hc => q_mv rfl (rfl : _ = V.bool _)) ?_
        refine AOps.g (wanted_to rfl rfl) rfl rfl (fun _ => tl0) (fun hc => q_fa_i rfl underlying84 rfl (by exact sizeOf3) (by decide) rfl (rfl : _ = List.drop 0 _)) ?_
        refine AOps.g (wanted_to rfl rfl) rfl rfl (fun hc => tl1 180 (.opt hc)) (fun hc => q_load_i1 rfl isAgg3 rfl rfl) ?_
        refine AOps.g (wanted_to rfl rfl) rfl rfl (fun hc => tl1 181 (.opt hc)) (fun hc => q_le rfl rfl rfl) ?_
        refine .gf rfl rfl rfl (fun hc => tl1 179 (.opt hc)) (fun hc => q_pickg rfl rfl (fun hp => by first | exact VLe.opt hp | exact VLe.opt (by rw [hp]; rfl) | exact VLe.opt (by simp_all)) (fun hp => by exact VLe.refl _)) ?_
        refine .gf rfl rfl rfl (fun hc => tl1 183 (.opt hc)) (fun hc => q_mv rfl (rfl : _ = V.bool _)) ?_
        refine AOps.g (wanted_to rfl rfl) rfl rfl (fun _ => tl0) (fun hc => q_fa_i rfl underlying84 rfl (by exact sizeOf3) (by decide) rfl (rfl : _ = List.drop 4 _)) ?_
        refine AOps.g (wanted_to rfl rfl) rfl rfl (fun hc => tl1 185 (.opt hc)) (fun hc => q_load_i1 rfl isAgg3 rfl rfl) ?_
        refine AOps.g (wanted_to rfl rfl) rfl rfl (fun hc => tl1 186 (.opt hc)) (fun hc => q_gt rfl rfl rfl) ?_
        refine AOps.g (wanted_to rfl rfl) rfl rfl (fun hc => tl1 187 (.opt hc)) (fun hc => q_mv rfl (rfl : _ = V.bool _)) ?_
        refine AOps.g (wanted_fo rfl rfl) rfl rfl (fun _ => tl0) (fun hc => q_fa_i rfl underlying84 rfl (by exact sizeOf3) (by decide) rfl (rfl : _ = List.drop 4 _)) ?_
        refine AOps.g (wanted_fo rfl rfl) rfl rfl (fun hc => tl1 189 (.opt hc)) (fun hc => q_load_i1 rfl isAgg3 rfl rfl) ?_
        refine AOps.g (wanted_fo rfl rfl) rfl rfl (fun hc => tl1 190 (.opt hc)) (fun hc => q_lt rfl rfl rfl) ?_
        refine AOps.g (wanted_to rfl rfl) rfl rfl (fun hc => tl1 188 (.opt hc)) (fun hc => q_pickg rfl rfl (fun hp => by exact VLe.refl _) (fun hp => by first | exact VLe.opt hp | exact VLe.opt (by rw [hp]; rfl) | exact VLe.opt (by simp_all))) ?_
        refine .gf rfl rfl rfl (fun hc => tl1 184 (.opt hc)) (fun hc => q_pickg rfl rfl (fun hp => by first | exact VLe.opt hp | exact VLe.opt (by rw [hp]; rfl) | exact VLe.opt (by simp_all)) (fun hp => by exact VLe.refl _)) ?_
        refine .pf rfl rfl rfl rfl <|
          .nil ?_
        refine AW.cond rfl (fun c7 => ?_) (fun c7 => ?_)
        · skip
          refine .seq <|
            .region <|
            .aI rfl rfl <|
            .nil ?_
          refine AW.ret ?_
          exact retQ.mk' (.one _) (VLe.of_eq (congrArg (V.int .i64) (by simp at c0 c1; unfold evCheck; rw [if_neg (by simp [inN]; omega), if_neg (by simp [evSpare, evMakes]; grind), if_pos (by rw [evRanges_eq (by omega)]; revert c7; cases evOk x <;> simp <;> (intros; omega))]))) (HLe.refl _) ⟨rfl, rfl⟩
        · skip
          refine AW.skip ?_
          refine .seq <|
            .region <|
            .aI rfl rfl <|
            .nil ?_
          refine AW.ret ?_
          exact retQ.mk' (.one _) (VLe.of_eq (congrArg (V.int .i64) (by simp at c0 c1; unfold evCheck; rw [if_neg (by simp [inN]; omega), if_neg (by simp [evSpare, evMakes]; grind), if_neg (by rw [evRanges_eq (by omega)]; revert c7; cases evOk x <;> simp)]))) (HLe.refl _) ⟨rfl, rfl⟩

theorem refIndex_calls (l : List Int) (x : Int) (hb : l.length ≤ 1000000) (h : Hp) : ACalls prog G 96 [eInts l, .int .i64 x] h fun r h' => r = .int .i64 (idxF l x) ∧ h' = h := by
  refine ACalls.enter func96 rfl ntmps96 results96 rfl ?_
  refine .seq <|
    .region <|
    .aI rfl rfl <|
    .nil <|
    .seq <|
    .seq <|
    .region <|
    .aI rfl rfl <|
    .nil <|
    .block ?_
  refine AW.loop (fun n T hh => ∃ (i : Nat) , i ≤ l.length ∧ n = l.length - i ∧ T = put (put (put (T0) 5 (V.int .i64 (i : Nat))) 1 (V.int .i64 x)) 0 (eInts l) ∧ hh = h ∧ ∀ j, j < i → l.getD j 0 ≠ x) (l.length) ?_ ?_
  · skip
    refine Wk.mk (TLe.put (d := 0) (VLe.refl _) (TLe.put (d := 1) (VLe.refl _) (TLe.put (d := 5) (by exact VLe.of_eq (congrArg (V.int .i64) (by first | rfl | omega))) (TLe.zero _)))) (HLe.refl _) ⟨0, Nat.zero_le _, rfl, rfl, rfl, fun j hj => by omega⟩
  · skip
    rintro n T h' ⟨i, hi, rfl, rfl, rfl, hn⟩
    refine .seq <|
      .seq <|
      .region <|
      .mI rfl rfl <|
      .mS rfl rfl <|
      .ln rfl underlying23 rfl <|
      .ql rfl rfl rfl <|
      .nil ?_
    refine AW.cond rfl (fun c0 => ?_) (fun c0 => ?_)
    · have hlt : i < l.length := by have := of_decide_eq_true c0; omega
      refine AW.skip ?_
      refine .seq <|
        .block <|
        .seq <|
        .region <|
        .mS rfl rfl <|
        .mI rfl rfl ?_
      refine .u rfl rfl rfl (q_ia_s rfl underlying23 sizeOf3 rfl rfl (by omega) (by omega) (cInts_at hlt)) ?_
      refine .li rfl isAgg3 rfl rfl <|
        .mI rfl rfl <|
        .qe rfl rfl rfl <|
        .nil ?_
      refine AW.cond rfl (fun c1 => ?_) (fun c1 => ?_)
      · skip
        refine .seq <|
          .region <|
          .mI rfl rfl <|
          .aI rfl rfl <|
          .nil ?_
        refine AW.ret ?_
        exact retQ.mk' (.one _) (VLe.of_eq (congrArg (V.int .i64) (by rw [idxF_some hlt (by simpa using c1) hn]))) (HLe.refl _) ⟨rfl, rfl⟩
      · skip
        refine AW.skip ?_
        refine .region <|
          .mI rfl rfl <|
          .ad rfl rfl rfl (by omega) <|
          .aI rfl rfl <|
          .nil ?_
        refine Wk.mk (TLe.put (d := 0) (VLe.refl _) (TLe.put (d := 1) (VLe.refl _) (TLe.put (d := 5) (by exact VLe.of_eq (congrArg (V.int .i64) (by first | rfl | omega))) (TLe.zero _)))) (HLe.refl _) ⟨_, ?_, i + 1, ?_, rfl, rfl, rfl, all_ne hn (fun e => by rw [e] at c1; simp at c1)⟩
        · omega
        · omega
    · obtain rfl : i = l.length := by have := of_decide_eq_false c0; omega
      refine AW.exit ?_
      refine .seq <|
        .region <|
        .aI rfl rfl <|
        .nil ?_
      refine AW.ret ?_
      exact retQ.mk' (.one _) (VLe.of_eq (congrArg (V.int .i64) ((idxF_none hn).symm))) (HLe.refl _) ⟨rfl, rfl⟩

def remUp (l : List Int) (i k : Nat) : List Int := if k ≤ i then l.take k else l.take i ++ (l.take k).drop (i + 1)
theorem remUp_next {l : List Int} {i k : Nat} (hk : k < l.length) : remUp l i (k + 1) = if k = i then remUp l i k else remUp l i k ++ [l.getD k 0] := by
  have e : l.take (k + 1) = l.take k ++ [l.getD k 0] := by rw [List.take_add_one, List.getElem?_eq_getElem hk, getD_of hk]; rfl
  unfold remUp
  by_cases h1 : k < i
  · rw [if_pos (by omega), if_neg (by omega), if_pos (by omega), e]
  · by_cases h2 : k = i
    · subst h2
      rw [if_neg (by omega), if_pos rfl, if_pos (Nat.le_refl _), List.drop_eq_nil_of_le (by rw [List.length_take]; omega), List.append_nil]
    · rw [if_neg (by omega), if_neg h2, if_neg (by omega), e, List.drop_append_of_le_length (by rw [List.length_take]; omega), List.append_assoc]
theorem remUp_all {l : List Int} {i : Int} (h : 0 ≤ i ∧ i < l.length) : remUp l i.toNat l.length = (removeF l i).1 := by
  rw [remUp, if_neg (by omega), List.take_length, removeF, if_pos (by simp [inN]; omega)]
theorem remUp_len {l : List Int} {i k : Nat} (h : k ≤ l.length) : (remUp l i k).length ≤ k := by
  unfold remUp; split
  · rw [List.length_take]; omega
  · rw [List.length_append, List.length_drop, List.length_take, List.length_take]; omega
def insUp (l : List Int) (i : Nat) (x : Int) (k : Nat) : List Int := if k ≤ i then l.take k else l.take i ++ x :: (l.take k).drop i
theorem insUp_next {l : List Int} {i k : Nat} {x : Int} (hk : k < l.length) : insUp l i x (k + 1) = (if k = i then insUp l i x k ++ [x] else insUp l i x k) ++ [l.getD k 0] := by
  have e : l.take (k + 1) = l.take k ++ [l.getD k 0] := by rw [List.take_add_one, List.getElem?_eq_getElem hk, getD_of hk]; rfl
  unfold insUp
  by_cases h1 : k < i
  · rw [if_pos (by omega), if_neg (by omega), if_pos (by omega), e]
  · by_cases h2 : k = i
    · subst h2
      rw [if_neg (by omega), if_pos rfl, if_pos (Nat.le_refl _), e, List.drop_append_of_le_length (by rw [List.length_take]; omega), List.drop_eq_nil_of_le (by rw [List.length_take]; omega)]; simp
    · rw [if_neg (by omega), if_neg h2, if_neg (by omega), e, List.drop_append_of_le_length (by rw [List.length_take]; omega)]; simp
theorem insUp_last {l : List Int} {i : Nat} {x : Int} (hi : i ≤ l.length) : insUp l i x (l.length + 1) = if l.length = i then insUp l i x l.length ++ [x] else insUp l i x l.length := by
  unfold insUp
  rw [if_neg (by omega), List.take_of_length_le (i := l.length + 1) (l := l) (by omega)]
  by_cases h : l.length = i
  · subst h; rw [if_pos rfl, if_pos (Nat.le_refl _), List.take_length, List.drop_length]
  · rw [if_neg h, if_neg (by omega), List.take_length]
theorem insUp_all {l : List Int} {i x : Int} (h : 0 ≤ i ∧ i ≤ l.length) : insUp l i.toNat x (l.length + 1) = (insertF l i x).1 := by
  rw [insUp, if_neg (by omega), List.take_of_length_le (i := l.length + 1) (l := l) (by omega), insertF, if_pos (by simp [inN]; omega)]
theorem insUp_len {l : List Int} {i k : Nat} {x : Int} : (insUp l i x k).length ≤ k + 1 := by
  unfold insUp; split
  · rw [List.length_take]; omega
  · rw [List.length_append, List.length_cons, List.length_drop, List.length_take, List.length_take]; omega

theorem refRemove_calls (l : List Int) (a : Int) (ha : 0 ≤ a ∧ a < l.length) (hb : l.length ≤ 1000000) (h : Hp) : ACalls prog G 126 [eInts l, .int .i64 a] h fun r h' => r = eInts (removeF l a).1 ∧ h' = h := by
  refine ACalls.enter func126 rfl ntmps126 results126 rfl ?_
  refine .seq <|
    .region <|
    .aN rfl rfl <|
    .nil <|
    .seq <|
    .region ?_
  refine .u rfl rfl rfl (q_buildSl (ds := []) rfl underlying23 sizeOf3 zeroValue3 rfl rfl rfl rfl rfl) ?_
  refine .aS rfl rfl <|
    .nil <|
    .seq <|
    .seq <|
    .region <|
    .aI rfl rfl <|
    .nil <|
    .block ?_
  refine AW.loop (fun n T hh => ∃ (i : Nat) (v : V), i ≤ l.length ∧ n = l.length - i ∧ T = put (put (put (put (T0) 6 (V.int .i64 (i : Nat))) 5 (v)) 1 (V.int .i64 a)) 0 (eInts l) ∧ Go.AV.Acc h 1 (remUp l a.toNat i).length (cInts (remUp l a.toNat i)) v hh) (l.length) ?_ ?_
  · skip
    refine Wk.mk (TLe.put (d := 0) (VLe.refl _) (TLe.put (d := 1) (VLe.refl _) (TLe.put (d := 5) (VLe.refl _) (TLe.put (d := 6) (by exact VLe.of_eq (congrArg (V.int .i64) (by first | rfl | omega))) (TLe.zero _))))) (HLe.refl _) ⟨0, _, Nat.zero_le _, rfl, rfl, by exact Go.AV.Acc.full rfl⟩
  · skip
    rintro n T h' ⟨i, v, hi, rfl, rfl, hem⟩
    refine .seq <|
      .seq <|
      .region <|
      .mI rfl rfl <|
      .mS rfl rfl <|
      .ln rfl underlying23 rfl <|
      .ql rfl rfl rfl <|
      .nil ?_
    refine AW.cond rfl (fun c0 => ?_) (fun c0 => ?_)
    · have hlt : i < l.length := by have := of_decide_eq_true c0; omega
      have hul := remUp_len (l := l) (i := a.toNat) (k := i) (by omega)
      refine AW.skip ?_
      refine .seq <|
        .block <|
        .seq <|
        .region <|
        .mI rfl rfl <|
        .mI rfl rfl <|
        .qn rfl rfl rfl <|
        .nil ?_
      refine AW.cond rfl (fun c1 => ?_) (fun c1 => ?_)
      · skip
        refine .region ?_
        refine .u rfl rfl rfl (q_mv rfl (rfl : _ = _)) ?_
        refine .mS rfl rfl <|
          .mI rfl rfl ?_
        refine .u rfl rfl rfl (q_ia_s rfl underlying23 sizeOf3 rfl rfl (by omega) (by omega) (cInts_at hlt)) ?_
        refine .li rfl isAgg3 rfl rfl ?_
        refine .u rfl rfl rfl (q_buildSl rfl underlying23 sizeOf3 zeroValue3 rfl rfl rfl rfl rfl) ?_
        refine AOps.s rfl rfl rfl (a_append rfl underlying23 (i := t3) (by kernel_rfl) rfl (n := 1) (by' := 8) rfl rfl rfl rfl hem rfl rfl (by decide) (by omega) (by omega) rfl (fun v2 h2 acc => ?_))
        refine .u rfl rfl rfl (q_as rfl (rfl : _ = _)) ?_
        refine .nil <|
          .region <|
          .mI rfl rfl <|
          .ad rfl rfl rfl (by omega) <|
          .aI rfl rfl <|
          .nil ?_
        refine Wk.mk (TLe.put (d := 0) (VLe.refl _) (TLe.put (d := 1) (VLe.refl _) (TLe.put (d := 5) (VLe.refl _) (TLe.put (d := 6) (by exact VLe.of_eq (congrArg (V.int .i64) (by first | rfl | omega))) (TLe.zero _))))) (HLe.refl _) ⟨_, ?_, i + 1, _, ?_, rfl, rfl, by first | (rw [remUp_next hlt, if_neg (by have : ¬ (i : Int) = a := (by simpa using c1); omega), cInts_app, List.length_append]; exact acc) | (rw [remUp_next hlt, if_pos (by have : (i : Int) = a := (by simpa using c1); omega)]; exact hem)⟩
        · omega
        · omega
      · skip
        refine AW.skip ?_
        refine .region <|
          .mI rfl rfl <|
          .ad rfl rfl rfl (by omega) <|
          .aI rfl rfl <|
          .nil ?_
        refine Wk.mk (TLe.put (d := 0) (VLe.refl _) (TLe.put (d := 1) (VLe.refl _) (TLe.put (d := 5) (VLe.refl _) (TLe.put (d := 6) (by exact VLe.of_eq (congrArg (V.int .i64) (by first | rfl | omega))) (TLe.zero _))))) (HLe.refl _) ⟨_, ?_, i + 1, _, ?_, rfl, rfl, by first | (rw [remUp_next hlt, if_neg (by have : ¬ (i : Int) = a := (by simpa using c1); omega), cInts_app, List.length_append]; exact acc) | (rw [remUp_next hlt, if_pos (by have : (i : Int) = a := (by simpa using c1); omega)]; exact hem)⟩
        · omega
        · omega
    · obtain rfl : i = l.length := by have := of_decide_eq_false c0; omega
      rw [remUp_all ha] at hem
      refine AW.exit ?_
      refine .seq <|
        .region ?_
      refine .u rfl rfl rfl (q_mv rfl (rfl : _ = _)) ?_
      refine .u rfl rfl rfl (q_as rfl (rfl : _ = _)) ?_
      refine .nil ?_
      refine AW.ret ?_
      exact retQ.mk' (.one _) hem.vle hem.hle ⟨rfl, rfl⟩

theorem refInsert_calls (l : List Int) (a x : Int) (ha : 0 ≤ a ∧ a ≤ l.length) (hb : l.length ≤ 1000000) (h : Hp) : ACalls prog G 127 [eInts l, .int .i64 a, .int .i64 x] h fun r h' => r = eInts (insertF l a x).1 ∧ h' = h := by
  refine ACalls.enter func127 rfl ntmps127 results127 rfl ?_
  refine .seq <|
    .region <|
    .aN rfl rfl <|
    .nil <|
    .seq <|
    .region ?_
  refine .u rfl rfl rfl (q_buildSl (ds := []) rfl underlying23 sizeOf3 zeroValue3 rfl rfl rfl rfl rfl) ?_
  refine .aS rfl rfl <|
    .nil <|
    .seq <|
    .seq <|
    .region <|
    .aI rfl rfl <|
    .nil <|
    .block ?_
  refine AW.loop (fun n T hh => ∃ (i : Nat) (v : V), i ≤ l.length + 1 ∧ n = l.length + 1 - i ∧ T = put (put (put (put (put (T0) 8 (V.int .i64 (i : Nat))) 7 (v)) 2 (V.int .i64 x)) 1 (V.int .i64 a)) 0 (eInts l) ∧ Go.AV.Acc h 1 (insUp l a.toNat x i).length (cInts (insUp l a.toNat x i)) v hh) (l.length + 1) ?_ ?_
  · skip
    refine Wk.mk (TLe.put (d := 0) (VLe.refl _) (TLe.put (d := 1) (VLe.refl _) (TLe.put (d := 2) (VLe.refl _) (TLe.put (d := 7) (VLe.refl _) (TLe.put (d := 8) (by exact VLe.of_eq (congrArg (V.int .i64) (by first | rfl | omega))) (TLe.zero _)))))) (HLe.refl _) ⟨0, _, Nat.zero_le _, rfl, rfl, by exact Go.AV.Acc.full rfl⟩
  · skip
    rintro n T h' ⟨i, v, hi, rfl, rfl, hem⟩
    refine .seq <|
      .seq <|
      .region <|
      .mI rfl rfl <|
      .mS rfl rfl <|
      .ln rfl underlying23 rfl ?_
    refine .u rfl rfl rfl (q_le rfl rfl rfl) ?_
    refine .nil ?_
    refine AW.cond rfl (fun c0 => ?_) (fun c0 => ?_)
    · have hle1 : i ≤ l.length := by have := of_decide_eq_true c0; omega
      have hul := insUp_len (l := l) (i := a.toNat) (k := i) (x := x)
      refine AW.skip ?_
      refine .seq <|
        .block ?_
      refine AW.cut (fun T h1 => ∃ v2, T = put (put (put (put (put T0 0 (eInts l)) 1 (V.int .i64 a)) 2 (V.int .i64 x)) 7 v2) 8 (V.int .i64 (i : Nat)) ∧ Go.AV.Acc h 1 (if i = a.toNat then insUp l a.toNat x i ++ [x] else insUp l a.toNat x i).length (cInts (if i = a.toNat then insUp l a.toNat x i ++ [x] else insUp l a.toNat x i)) v2 h1) ?_ ?_
      · skip
        refine .seq <|
          .region <|
          .mI rfl rfl <|
          .mI rfl rfl <|
          .qe rfl rfl rfl <|
          .nil ?_
        refine AW.cond rfl (fun c1 => ?_) (fun c1 => ?_)
        · have e1 : (i : Int) = a := by simpa using c1
          refine .region ?_
          refine .u rfl rfl rfl (q_mv rfl (rfl : _ = _)) ?_
          refine .mI rfl rfl ?_
          refine .u rfl rfl rfl (q_buildSl rfl underlying23 sizeOf3 zeroValue3 rfl rfl rfl rfl rfl) ?_
          refine AOps.s rfl rfl rfl (a_append rfl underlying23 (i := t3) (by kernel_rfl) rfl (n := 1) (by' := 8) rfl rfl rfl rfl hem rfl rfl (by decide) (by omega) (by omega) rfl (fun v2 h2 acc => ?_))
          refine .u rfl rfl rfl (q_as rfl (rfl : _ = _)) ?_
          refine .nil ?_
          exact Wk.mk (TLe.put (d := 8) (.refl _) (TLe.put (d := 7) (.refl _) (TLe.put (d := 2) (.refl _) (TLe.put (d := 1) (.refl _) (TLe.put (d := 0) (.refl _) (TLe.zero _)))))) (HLe.refl _) ⟨_, rfl, by first | (rw [if_pos (by omega), cInts_app, List.length_append]; exact acc) | (rw [if_neg (by omega)]; exact hem)⟩
        · have e1 : ¬ (i : Int) = a := by simpa using c1
          refine AW.skip ?_
          exact Wk.mk (TLe.put (d := 8) (.refl _) (TLe.put (d := 7) (.refl _) (TLe.put (d := 2) (.refl _) (TLe.put (d := 1) (.refl _) (TLe.put (d := 0) (.refl _) (TLe.zero _)))))) (HLe.refl _) ⟨_, rfl, by first | (rw [if_pos (by omega), cInts_app, List.length_append]; exact acc) | (rw [if_neg (by omega)]; exact hem)⟩
      · rintro T h1 ⟨v2, rfl, hem2⟩
        have hul2 : (if i = a.toNat then insUp l a.toNat x i ++ [x] else insUp l a.toNat x i).length ≤ i + 2 := by
          split
          · rw [List.length_append]; simp; omega
          · omega
        refine .seq <|
          .region <|
          .mI rfl rfl <|
          .mS rfl rfl <|
          .ln rfl underlying23 rfl <|
          .ql rfl rfl rfl <|
          .nil ?_
        refine AW.cond rfl (fun c2 => ?_) (fun c2 => ?_)
        · have hlt : i < l.length := by have := of_decide_eq_true c2; omega
          refine .region ?_
          refine .u rfl rfl rfl (q_mv rfl (rfl : _ = _)) ?_
          refine .mS rfl rfl <|
            .mI rfl rfl ?_
          refine .u rfl rfl rfl (q_ia_s rfl underlying23 sizeOf3 rfl rfl (by omega) (by omega) (cInts_at hlt)) ?_
          refine .li rfl isAgg3 rfl rfl ?_
          refine .u rfl rfl rfl (q_buildSl rfl underlying23 sizeOf3 zeroValue3 rfl rfl rfl rfl rfl) ?_
          refine AOps.s rfl rfl rfl (a_append rfl underlying23 (i := t3) (by kernel_rfl) rfl (n := 1) (by' := 8) rfl rfl rfl rfl hem2 rfl rfl (by decide) (by omega) (by omega) rfl (fun v3 h3 acc3 => ?_))
          refine .u rfl rfl rfl (q_as rfl (rfl : _ = _)) ?_
          refine .nil <|
            .region <|
            .mI rfl rfl <|
            .ad rfl rfl rfl (by omega) <|
            .aI rfl rfl <|
            .nil ?_
          refine Wk.mk (TLe.put (d := 0) (VLe.refl _) (TLe.put (d := 1) (VLe.refl _) (TLe.put (d := 2) (VLe.refl _) (TLe.put (d := 7) (VLe.refl _) (TLe.put (d := 8) (by exact VLe.of_eq (congrArg (V.int .i64) (by first | rfl | omega))) (TLe.zero _)))))) (HLe.refl _) ⟨_, ?_, i + 1, _, ?_, rfl, rfl, by first | (rw [insUp_next (by omega), cInts_app, List.length_append]; exact acc3) | (have e2 : i = l.length := (by omega); subst e2; have e3 := insUp_last (x := x) (show a.toNat ≤ l.length by omega); rw [e3]; exact hem2)⟩
          · omega
          · omega
        · have hge : ¬ i < l.length := by have := of_decide_eq_false c2; omega
          refine AW.skip ?_
          refine .region <|
            .mI rfl rfl <|
            .ad rfl rfl rfl (by omega) <|
            .aI rfl rfl <|
            .nil ?_
          refine Wk.mk (TLe.put (d := 0) (VLe.refl _) (TLe.put (d := 1) (VLe.refl _) (TLe.put (d := 2) (VLe.refl _) (TLe.put (d := 7) (VLe.refl _) (TLe.put (d := 8) (by exact VLe.of_eq (congrArg (V.int .i64) (by first | rfl | omega))) (TLe.zero _)))))) (HLe.refl _) ⟨_, ?_, i + 1, _, ?_, rfl, rfl, by first | (rw [insUp_next (by omega), cInts_app, List.length_append]; exact acc3) | (have e2 : i = l.length := (by omega); subst e2; have e3 := insUp_last (x := x) (show a.toNat ≤ l.length by omega); rw [e3]; exact hem2)⟩
          · omega
          · omega
    · obtain rfl : i = l.length + 1 := by have := of_decide_eq_false c0; omega
      rw [insUp_all ha] at hem
      refine AW.exit ?_
      refine .seq <|
        .region ?_
      refine .u rfl rfl rfl (q_mv rfl (rfl : _ = _)) ?_
      refine .u rfl rfl rfl (q_as rfl (rfl : _ = _)) ?_
      refine .nil ?_
      refine AW.ret ?_
      exact retQ.mk' (.one _) hem.vle hem.hle ⟨rfl, rfl⟩

end Go.Proofs.YtnbmcbkokaoapaaGreatDoor
/- Walks: a state's copy, and an event that is applied, by the document. -/
namespace Go.Proofs.YtnbmcbkokaoapaaGreatDoor
open Go Go.AV Go.Proofs.Tryz
set_option maxRecDepth 100000
set_option maxHeartbeats 1000000
/-- A state's cells, the first one being another. -/
def stX (x : V) (s : St) : List V := x :: (cState s).drop 1
theorem stX_self {s : St} : stX (eObjs s.objs) s = cState s := rfl
theorem stX_again {x : V} {s : St} {i : Nat} (h : i < 11) : splice (stX x s) (1 + (i : Int).toNat * 1) [eInts (s.lists i)] = stX x s := by
  match i, h with
  | 0, _ | 1, _ | 2, _ | 3, _ | 4, _ | 5, _ | 6, _ | 7, _ | 8, _ | 9, _ | 10, _ => rfl
theorem stX_at {x : V} {s : St} {i : Nat} (h : i < 11) : (stX x s)[1 + (i : Int).toNat * 1]? = some (eInts (s.lists i)) := by
  match i, h with
  | 0, _ | 1, _ | 2, _ | 3, _ | 4, _ | 5, _ | 6, _ | 7, _ | 8, _ | 9, _ | 10, _ => rfl
theorem stX_list_ix {x : V} {s : St} {i : Int} (h0 : 0 ≤ i) (h1 : i < 11) : (stX x s)[1 + i.toNat * 1]? = some (eInts (s.lists i.toNat)) := by
  obtain ⟨n, rfl⟩ := Int.eq_ofNat_of_zero_le h0
  exact stX_at (by omega)
theorem stX_list_set {x : V} {s : St} {i : Int} {l : List Int} (h0 : 0 ≤ i) (h1 : i < 11) : splice (stX x s) (1 + i.toNat * 1) [eInts l] = stX x ⟨s.objs, upd s.lists i.toNat l, s.pl, s.game⟩ := by
  obtain ⟨n, rfl⟩ := Int.eq_ofNat_of_zero_le h0
  match n, h1 with
  | 0, _ | 1, _ | 2, _ | 3, _ | 4, _ | 5, _ | 6, _ | 7, _ | 8, _ | 9, _ | 10, _ => rfl
theorem fresh3 {h : Hp} {i j k : Nat} {a b : List V} (f2 : h.fresh j) (f1 : (h.setBox j a).fresh i) (fk : ((h.setBox j a).setBox i b).fresh k) : h.fresh k ∧ i ≠ k ∧ j ≠ k := by
  have g1 := fresh_ne fk
  have g2 := (fresh_pair (d := []) f1 fk).1
  exact ⟨(fresh_pair (d := []) f2 g2).1, g1, fresh_ne g2⟩
theorem fresh_up {h : Hp} {i j : Nat} {c : List V} (f : h.fresh i) (n : i ≠ j) : (h.setBox j c).fresh i := fresh_setBox f n

theorem numCopy_calls (s : St) (hb : s.objs.length ≤ 1000000) (hl : ∀ z, (s.lists z).length ≤ 1000000) (h : Hp) : ACalls prog G 39 [eState s] h fun r h' => r = eState s ∧ h' = h := by
  refine ACalls.enter func39 rfl ntmps39 results39 rfl ?_
  refine .seq <|
    .region ?_
  refine AOps.s rfl rfl rfl (a_boxa rfl (rfl : _ = V.agg _) (fun id1 hid1 => ?_))
  refine AOps.s rfl rfl rfl (a_alloc rfl zeroValue29 rfl (fun id2 hid2 => ?_))
  refine .nil <|
    .seq ?_
  have ne : id1 ≠ id2 := Hp.ne_of_box (Hp.box_setBox _ _ _) hid2.1
  have f2 : h.fresh id2 := ⟨by have := hid2.1; rwa [Hp.box_setBox_ne _ _ ne.symm] at this, hid2.2⟩
  have f1 := fresh_setBox (cs := zState) hid1 ne
  rw [Hp.setBox_comm _ _ _ ne]
  refine .region ?_
  refine .u rfl rfl rfl (q_buildSl (ds := []) rfl underlying22 sizeOf49 zeroValue49 rfl rfl rfl rfl rfl) ?_
  refine .fb rfl f29_0 rfl rfl <|
    .lb rfl isAgg22 rfl rfl ?_
  refine AOps.s rfl rfl rfl (a_append rfl underlying22 (i := t49) (by kernel_rfl) rfl (n := 18) (by' := 144) rfl rfl rfl rfl (Go.AV.Acc.full rfl) rfl (by simp [cObjs_len]) (by decide) (by omega) (by omega) rfl (fun v2 h2 acc => ?_))
  rw [List.nil_append, Nat.zero_add] at acc
  refine AOps.wkn (T' := put _ 7 (eObjs s.objs)) (TLe.put (d := 7) acc.vle (TLe.refl _)) acc.hle ?_
  refine .fb rfl f29_0 rfl rfl ?_
  refine AOps.s0 rfl rfl (a_store1 rfl sizeOf22 rfl (by exact bsb) (rfl : _ = V.sl _ _ _ _) rfl rfl (by exact Nat.le_of_ble_eq_true rfl) ?_)
  rw [Hp.setBox_setBox]
  show AOps _ _ _ _ _ _ _ ((h.setBox id2 zState).setBox id1 (stX (eObjs s.objs) s))
  refine .nil <|
    .seq <|
    .seq <|
    .region <|
    .mI rfl rfl <|
    .nil <|
    .block ?_
  refine AW.loop (fun n T hh => ∃ (i : Nat) , i ≤ 11 ∧ n = 11 - i ∧ T = put (put (put (T0) 9 (V.int .i64 (i : Nat))) 2 (V.ptr id2 0)) 1 (V.ptr id1 0) ∧ hh = (h.setBox id2 zState).setBox id1 (stX (eObjs s.objs) s)) (11) ?_ ?_
  · skip
    refine Wk.mk (TLe.put (d := 1) (VLe.refl _) (TLe.put (d := 2) (VLe.refl _) (TLe.put (d := 9) (by exact VLe.of_eq (congrArg (V.int .i64) (by first | rfl | omega))) (TLe.zero _)))) (HLe.refl _) ⟨0, Nat.zero_le _, rfl, rfl, rfl⟩
  · skip
    rintro n T h' ⟨i, hi, rfl, rfl, rfl⟩
    refine .seq <|
      .region <|
      .ql rfl rfl rfl <|
      .nil <|
      .seq ?_
    refine AW.cond rfl (fun c0 => ?_) (fun c0 => ?_)
    · have hlt : i < 11 := by have := of_decide_eq_true c0; omega
      have hli := hl i
      refine AW.skip ?_
      refine .seq <|
        .block <|
        .seq <|
        .region <|
        .mI rfl rfl <|
        .aI rfl rfl <|
        .nil <|
        .region <|
        .mI rfl rfl ?_
      refine .u rfl rfl rfl (q_buildSl (ds := []) rfl underlying23 sizeOf3 zeroValue3 rfl rfl rfl rfl rfl) ?_
      refine .mI rfl rfl <|
        .fb rfl f29_1 rfl rfl ?_
      refine .u rfl rfl rfl (q_ia_ab rfl underlying24 sizeOf23 rfl rfl (by omega) (by omega)) ?_
      refine .u rfl rfl rfl (q_load_b1 rfl isAgg23 rfl (by exact bsb) (stX_at hlt)) ?_
      refine AOps.s rfl rfl rfl (a_append rfl underlying23 (i := t3) (by kernel_rfl) rfl (n := 1) (by' := 8) rfl rfl rfl rfl (Go.AV.Acc.full rfl) rfl (by simp [cInts_len]) (by decide) (by omega) (by omega) rfl (fun v2 h2 acc => ?_))
      rw [List.nil_append, Nat.zero_add] at acc
      refine AOps.wkn (T' := put _ 18 (eInts (s.lists i))) (TLe.put (d := 18) acc.vle (TLe.refl _)) acc.hle ?_
      refine .fb rfl f29_1 rfl rfl ?_
      refine .u rfl rfl rfl (q_ia_ab rfl underlying24 sizeOf23 rfl rfl (by omega) (by omega)) ?_
      refine AOps.s0 rfl rfl (a_store1 rfl sizeOf23 rfl (by exact bsb) (rfl : _ = V.sl _ _ _ _) rfl rfl (by first | decide | exact Nat.le_of_ble_eq_true rfl | (simp only [stX, cState, List.drop_succ_cons, List.drop_zero, List.length_cons, List.length_nil]; omega)) ?_)
      refine .nil <|
        .region <|
        .ad rfl rfl rfl (by omega) <|
        .mI rfl rfl <|
        .nil ?_
      refine Wk.mk (TLe.put (d := 1) (VLe.refl _) (TLe.put (d := 2) (VLe.refl _) (TLe.put (d := 9) (by exact VLe.of_eq (congrArg (V.int .i64) (by first | rfl | omega))) (TLe.zero _)))) (HLe.refl _) ⟨_, ?_, i + 1, ?_, rfl, rfl, by rw [Hp.setBox_setBox, stX_again hlt]⟩
      · omega
      · omega
    · obtain rfl : i = 11 := by have := of_decide_eq_false c0; omega
      refine AW.exit ?_
      refine .seq ?_
      refine AW.done 1 rfl f1 ?_
      refine .region <|
        .lw rfl isAgg29 sizeOf29 rfl rfl <|
        .sw sizeOf29 rfl rfl rfl rfl <|
        .nil ?_
      refine AW.ret ?_
      exact retQ.mk' (Res.cellB isAgg29 sizeOf29 rfl (by exact bsb) rfl) (VLe.refl _) (HLe.setBox f2.1) ⟨rfl, rfl⟩

theorem numCopyM_calls (s : St) (hb : s.objs.length ≤ 1000000) (hn : 0 < s.objs.length) (hl : ∀ z, (s.lists z).length ≤ 1000000) (h : Hp) : ACalls prog G 39 [eState s] h fun r h' => ∃ idc slack, h.fresh idc ∧ r = .agg (stX (.msl idc 0 s.objs.length) s) ∧ h' = h.setBox idc (cObjs s.objs ++ slack) := by
  refine ACalls.enter func39 rfl ntmps39 results39 rfl ?_
  refine .seq <|
    .region ?_
  refine AOps.s rfl rfl rfl (a_boxa rfl (rfl : _ = V.agg _) (fun id1 hid1 => ?_))
  refine AOps.s rfl rfl rfl (a_alloc rfl zeroValue29 rfl (fun id2 hid2 => ?_))
  refine .nil <|
    .seq ?_
  have ne : id1 ≠ id2 := Hp.ne_of_box (Hp.box_setBox _ _ _) hid2.1
  have f2 : h.fresh id2 := ⟨by have := hid2.1; rwa [Hp.box_setBox_ne _ _ ne.symm] at this, hid2.2⟩
  have f1 := fresh_setBox (cs := zState) hid1 ne
  rw [Hp.setBox_comm _ _ _ ne]
  refine .region ?_
  refine .u rfl rfl rfl (q_buildSl (ds := []) rfl underlying22 sizeOf49 zeroValue49 rfl rfl rfl rfl rfl) ?_
  refine .fb rfl f29_0 rfl rfl <|
    .lb rfl isAgg22 rfl rfl ?_
  refine AOps.s rfl rfl rfl (a_append_box rfl underlying22 (i := t49) (by kernel_rfl) rfl (n := 18) (by' := 144) rfl rfl rfl rfl rfl (by simp [cObjs_len]) hn (by decide) (by omega) (by omega) rfl (fun idc hidc slack => ?_))
  obtain ⟨fc1, fc2, fc3⟩ := fresh3 f2 f1 hidc
  refine AOps.hp (h' := ((h.setBox idc (cObjs s.objs ++ slack)).setBox id2 zState).setBox id1 (cState s)) (by rw [Hp.setBox_comm _ _ _ fc2, Hp.setBox_comm h _ _ fc3]; rfl) ?_
  have g2 : (h.setBox idc (cObjs s.objs ++ slack)).fresh id2 := fresh_up f2 fc3
  have g1 : ((h.setBox idc (cObjs s.objs ++ slack)).setBox id2 zState).fresh id1 := fresh_up (fresh_up hid1 fc2) ne
  refine .fb rfl f29_0 rfl rfl ?_
  refine AOps.s0 rfl rfl (a_store1 rfl sizeOf22 rfl (by exact bsb) (rfl : _ = V.msl _ _ _) rfl rfl (by exact Nat.le_of_ble_eq_true rfl) ?_)
  rw [Hp.setBox_setBox]
  show AOps _ _ _ _ _ _ _ (((h.setBox idc (cObjs s.objs ++ slack)).setBox id2 zState).setBox id1 (stX (.msl idc 0 s.objs.length) s))
  refine .nil <|
    .seq <|
    .seq <|
    .region <|
    .mI rfl rfl <|
    .nil <|
    .block ?_
  refine AW.loop (fun n T hh => ∃ (i : Nat) , i ≤ 11 ∧ n = 11 - i ∧ T = put (put (put (T0) 9 (V.int .i64 (i : Nat))) 2 (V.ptr id2 0)) 1 (V.ptr id1 0) ∧ hh = ((h.setBox idc (cObjs s.objs ++ slack)).setBox id2 zState).setBox id1 (stX (.msl idc 0 s.objs.length) s)) (11) ?_ ?_
  · skip
    refine Wk.mk (TLe.put (d := 1) (VLe.refl _) (TLe.put (d := 2) (VLe.refl _) (TLe.put (d := 9) (by exact VLe.of_eq (congrArg (V.int .i64) (by first | rfl | omega))) (TLe.zero _)))) (HLe.refl _) ⟨0, Nat.zero_le _, rfl, rfl, rfl⟩
  · skip
    rintro n T h' ⟨i, hi, rfl, rfl, rfl⟩
    refine .seq <|
      .region <|
      .ql rfl rfl rfl <|
      .nil <|
      .seq ?_
    refine AW.cond rfl (fun c0 => ?_) (fun c0 => ?_)
    · have hlt : i < 11 := by have := of_decide_eq_true c0; omega
      have hli := hl i
      refine AW.skip ?_
      refine .seq <|
        .block <|
        .seq <|
        .region <|
        .mI rfl rfl <|
        .aI rfl rfl <|
        .nil <|
        .region <|
        .mI rfl rfl ?_
      refine .u rfl rfl rfl (q_buildSl (ds := []) rfl underlying23 sizeOf3 zeroValue3 rfl rfl rfl rfl rfl) ?_
      refine .mI rfl rfl <|
        .fb rfl f29_1 rfl rfl ?_
      refine .u rfl rfl rfl (q_ia_ab rfl underlying24 sizeOf23 rfl rfl (by omega) (by omega)) ?_
      refine .u rfl rfl rfl (q_load_b1 rfl isAgg23 rfl (by exact bsb) (stX_at hlt)) ?_
      refine AOps.s rfl rfl rfl (a_append rfl underlying23 (i := t3) (by kernel_rfl) rfl (n := 1) (by' := 8) rfl rfl rfl rfl (Go.AV.Acc.full rfl) rfl (by simp [cInts_len]) (by decide) (by omega) (by omega) rfl (fun v2 h2 acc => ?_))
      rw [List.nil_append, Nat.zero_add] at acc
      refine AOps.wkn (T' := put _ 18 (eInts (s.lists i))) (TLe.put (d := 18) acc.vle (TLe.refl _)) acc.hle ?_
      refine .fb rfl f29_1 rfl rfl ?_
      refine .u rfl rfl rfl (q_ia_ab rfl underlying24 sizeOf23 rfl rfl (by omega) (by omega)) ?_
      refine AOps.s0 rfl rfl (a_store1 rfl sizeOf23 rfl (by exact bsb) (rfl : _ = V.sl _ _ _ _) rfl rfl (by first | decide | exact Nat.le_of_ble_eq_true rfl | (simp only [stX, cState, List.drop_succ_cons, List.drop_zero, List.length_cons, List.length_nil]; omega)) ?_)
      refine .nil <|
        .region <|
        .ad rfl rfl rfl (by omega) <|
        .mI rfl rfl <|
        .nil ?_
      refine Wk.mk (TLe.put (d := 1) (VLe.refl _) (TLe.put (d := 2) (VLe.refl _) (TLe.put (d := 9) (by exact VLe.of_eq (congrArg (V.int .i64) (by first | rfl | omega))) (TLe.zero _)))) (HLe.refl _) ⟨_, ?_, i + 1, ?_, rfl, rfl, by rw [Hp.setBox_setBox, stX_again hlt]⟩
      · omega
      · omega
    · obtain rfl : i = 11 := by have := of_decide_eq_false c0; omega
      refine AW.exit ?_
      refine .seq ?_
      refine AW.done 1 rfl g1 ?_
      refine .region <|
        .lw rfl isAgg29 sizeOf29 rfl rfl <|
        .sw sizeOf29 rfl rfl rfl rfl <|
        .nil ?_
      refine AW.ret ?_
      exact retQ.mk' (Res.cellB isAgg29 sizeOf29 rfl (by exact bsb) rfl) (VLe.refl _) (HLe.setBox g2.1) ⟨idc, slack, fc1, rfl, rfl⟩

/-- The state behind an event that is applied. -/
def appSt (s : St) (x : Ev) : St := if (evDo s x).2 = 0 then (evDo s x).1 else noSt
theorem app_err {s : St} {x : Ev} {n : Int} (h : (evDo s x).2 = n) (hn : n ≠ 0) : VLe (.tup [.agg zState, .int .i64 n]) (.tup [eState (appSt s x), .int .i64 (evDo s x).2]) := by
  rw [appSt, h, if_neg hn]; exact LLe.tup (.cons zState_le.agg (.cons (.refl _) .nil))
theorem app_ok {s s' : St} {x : Ev} (h : evDo s x = (s', 0)) : VLe (.tup [eState s', .int .i64 0]) (.tup [eState (appSt s x), .int .i64 (evDo s x).2]) := by
  rw [appSt, h, if_pos rfl]; exact .refl _
theorem rm_bits {l : List Int} {c a : Int} (h0 : 0 ≤ c) : (bif decide ((l.length : Int) ≤ c) then true else l.getD c.toNat 0 != a) = (bif (removeF l c).2.2 != 0 then true else (removeF l c).2.1 != a) := by
  unfold removeF
  by_cases h : (l.length : Int) ≤ c
  · have : inN c l.length = false := by simp [inN]; omega
    simp [h, this]
  · have : inN c l.length = true := by simp [inN]; omega
    simp [h, this]
theorem rm_in {l : List Int} {c a : Int} (h0 : 0 ≤ c) (h : (bif decide ((l.length : Int) ≤ c) then true else l.getD c.toNat 0 != a) = false) : 0 ≤ c ∧ c < l.length := by
  by_cases g : (l.length : Int) ≤ c
  · simp [g] at h
  · omega
theorem ge_no {a b : Int} (h : (!decide (b ≤ a)) = true) (ha : 0 ≤ a) : 0 ≤ a ∧ a < b := ⟨ha, by simpa using h⟩
theorem ins_long {l : List Int} {e a : Int} (h : (l.length : Int) < e) : (insertF l e a).2 = 1 := by
  rw [insertF, if_neg (by simp [inN]; omega)]
theorem ins_fits {l : List Int} {e a : Int} (h0 : 0 ≤ e) (h : ¬ (l.length : Int) < e) : (insertF l e a).2 = 0 := by
  rw [insertF, if_pos (by simp [inN]; omega)]
theorem upd_to {f : Nat → List Int} {b d : Int} {l : List Int} (hb : 0 ≤ b) (hd : 0 ≤ d) : upd f b.toNat l d.toNat = if d = b then l else f d.toNat := by
  unfold upd
  by_cases e : d = b
  · subst e; simp
  · rw [if_neg (by omega), if_neg e]
theorem swap_out {h : Hp} {i j : Nat} {a b c : List V} (n : i ≠ j) : ((h.setBox i a).setBox j b).setBox i c = (h.setBox j b).setBox i c := by
  rw [Hp.setBox_comm _ _ _ n, Hp.setBox_setBox]
theorem over3 {h : Hp} {i j k : Nat} {a b c d : List V} (fi : h.fresh i) (fj : h.fresh j) (fk : h.fresh k) : HLe ((((h.setBox i a).setBox j b).setBox k c).setBox i d) h :=
  HLe.over (HLe.over (HLe.over (HLe.setBox fi.1) fj.1) fk.1) fi.1
theorem over2 {h : Hp} {i k : Nat} {a c d : List V} (fi : h.fresh i) (fk : h.fresh k) : HLe (((h.setBox i a).setBox k c).setBox i d) h :=
  HLe.over (HLe.over (HLe.setBox fi.1) fk.1) fi.1
theorem stX_pl_ix {x : V} {s : St} {p i : Int} (hp0 : 0 ≤ p) (hp1 : p < 2) (h0 : 0 ≤ i) (h1 : i < 9) : (stX x s)[12 + p.toNat * 9 + i.toNat * 1]? = some (.int .i64 (s.pl p.toNat i.toNat)) := by
  obtain ⟨n, rfl⟩ := Int.eq_ofNat_of_zero_le h0
  obtain ⟨m, rfl⟩ := Int.eq_ofNat_of_zero_le hp0
  match m, hp1, n, h1 with
  | 0, _, 0, _ | 0, _, 1, _ | 0, _, 2, _ | 0, _, 3, _ | 0, _, 4, _ | 0, _, 5, _ | 0, _, 6, _ | 0, _, 7, _ | 0, _, 8, _ => rfl
  | 1, _, 0, _ | 1, _, 1, _ | 1, _, 2, _ | 1, _, 3, _ | 1, _, 4, _ | 1, _, 5, _ | 1, _, 6, _ | 1, _, 7, _ | 1, _, 8, _ => rfl
theorem stC_pl_set {s : St} {p i v : Int} (hp0 : 0 ≤ p) (hp1 : p < 2) (h0 : 0 ≤ i) (h1 : i < 9) : splice (cState s) (12 + p.toNat * 9 + i.toNat * 1) [.int .i64 v] = cState ⟨s.objs, s.lists, upd s.pl p.toNat (upd (s.pl p.toNat) i.toNat v), s.game⟩ := by
  obtain ⟨n, rfl⟩ := Int.eq_ofNat_of_zero_le h0
  obtain ⟨m, rfl⟩ := Int.eq_ofNat_of_zero_le hp0
  match m, hp1, n, h1 with
  | 0, _, 0, _ | 0, _, 1, _ | 0, _, 2, _ | 0, _, 3, _ | 0, _, 4, _ | 0, _, 5, _ | 0, _, 6, _ | 0, _, 7, _ | 0, _, 8, _ => rfl
  | 1, _, 0, _ | 1, _, 1, _ | 1, _, 2, _ | 1, _, 3, _ | 1, _, 4, _ | 1, _, 5, _ | 1, _, 6, _ | 1, _, 7, _ | 1, _, 8, _ => rfl
theorem stC_game_ix {s : St} {i : Int} (h0 : 0 ≤ i) (h1 : i < 7) : (cState s)[30 + i.toNat * 1]? = some (.int .i64 (s.game i.toNat)) := by
  obtain ⟨n, rfl⟩ := Int.eq_ofNat_of_zero_le h0
  match n, h1 with
  | 0, _ | 1, _ | 2, _ | 3, _ | 4, _ | 5, _ | 6, _ => rfl
theorem stC_game_set {s : St} {i v : Int} (h0 : 0 ≤ i) (h1 : i < 7) : splice (cState s) (30 + i.toNat * 1) [.int .i64 v] = cState ⟨s.objs, s.lists, s.pl, upd s.game i.toNat v⟩ := by
  obtain ⟨n, rfl⟩ := Int.eq_ofNat_of_zero_le h0
  match n, h1 with
  | 0, _ | 1, _ | 2, _ | 3, _ | 4, _ | 5, _ | 6, _ => rfl

theorem refApplyI (s : St) (x : Ev) (hk : x.k ≠ 0 ∧ x.k ≠ 5) (hI : evCheck x = 0 → x.k = 1 ∨ x.k = 2 → (s.objs.length : Int) ≤ x.a) (hb : s.objs.length ≤ 1000000) (hl : ∀ z, (s.lists z).length ≤ 1000000) (h : Hp) : ACalls prog G 101 [eState s, eEv x] h fun r h' => r = .tup [eState (appSt s x), .int .i64 (evDo s x).2] ∧ h' = h := by
  refine ACalls.enter func101 rfl ntmps101 results101 rfl ?_
  refine .seq <|
    .region <|
    .bx rfl rfl <|
    .bx rfl rfl ?_
  refine AOps.s rfl rfl rfl (a_alloc rfl zeroValue29 rfl (fun id4 hid4 => ?_))
  refine .aI rfl rfl <|
    .nil <|
    .seq <|
    .seq <|
    .region <|
    .lw rfl isAgg84 sizeOf84 rfl rfl ?_
  refine .u rfl rfl rfl (QOp.call rfl call66 fun h' hl' => by exact refEv_calls x h') ?_
  refine .aI rfl rfl <|
    .nil <|
    .seq <|
    .region <|
    .mI rfl rfl <|
    .qn rfl rfl rfl <|
    .nil ?_
  refine AW.cond rfl (fun c0 => ?_) (fun c0 => ?_)
  · skip
    refine .seq <|
      .region ?_
    refine .u rfl rfl rfl (q_buildS rfl zeroValue29 underlying29 (pl29 underlying29) rfl rfl) ?_
    refine .mI rfl rfl <|
      .sw sizeOf29 rfl rfl rfl rfl <|
      .aI rfl rfl <|
      .nil ?_
    refine AW.ret ?_
    exact retQ.mk' (Res.cellB1 isAgg29 sizeOf29 rfl (by exact bsb) rfl) (app_err (n := evCheck x) (by rw [do_bad (by simpa using c0)]) (by simpa using c0)) (HLe.setBox hid4.1) ⟨rfl, rfl⟩
  · have hc : evCheck x = 0 := by simpa using c0
    have ok := evCheck_ok hc
    refine AW.skip ?_
    refine .seq <|
      .region <|
      .lw rfl isAgg29 sizeOf29 rfl rfl ?_
    refine .u rfl rfl rfl (QOp.call rfl call39 fun h' hl' => by exact numCopy_calls s hb hl h') ?_
    refine AOps.s rfl rfl rfl (a_alloc rfl zeroValue29 rfl (fun id7 hid7 => ?_))
    refine .sw sizeOf29 rfl rfl rfl rfl <|
      .nil <|
      .seq ?_
    have ne47 : id4 ≠ id7 := Hp.ne_of_box (Hp.box_setBox _ _ _) hid7.1
    have f7 : h.fresh id7 := (fresh_pair (d := []) hid4 hid7).1
    refine .region <|
      .fb rfl f29_0 rfl rfl <|
      .lb rfl isAgg22 rfl rfl <|
      .ln rfl underlying22 rfl <|
      .aI rfl rfl <|
      .nil ?_
    refine AW.cut (fun T h1 => ∃ s', evDo s x = (s', 0) ∧ T = put (put T0 4 (V.ptr id4 0)) 7 (V.ptr id7 0) ∧ h1 = (h.setBox id4 zState).setBox id7 (cState s')) ?_ ?_
    · skip
      refine .seq <|
        .region <|
        .fi rfl f84_0 rfl <|
        .li rfl isAgg3 rfl rfl <|
        .nil <|
        .block <|
        .seq <|
        .region <|
        .qe rfl rfl rfl <|
        .aB rfl rfl <|
        .nil ?_
      refine AW.cond rfl (fun c1 => ?_) (fun c1 => ?_)
      · exact absurd (by simpa using c1) hk.1
      · skip
        refine .seq <|
          .region <|
          .qe rfl rfl rfl <|
          .aB rfl rfl <|
          .nil ?_
        refine AW.cond rfl (fun c2 => ?_) (fun c2 => ?_)
        · exact absurd (by simpa using c2) hk.2
        · skip
          refine .seq <|
            .region <|
            .qe rfl rfl rfl <|
            .aB rfl rfl <|
            .nil ?_
          refine AW.cond rfl (fun c3 => ?_) (fun c3 => ?_)
          · have e1 : x.k = 1 := by simpa using c3
            have hn := hI hc (.inl e1)
            refine .seq <|
              .seq <|
              .region <|
              .fi rfl f84_1 rfl <|
              .li rfl isAgg3 rfl rfl <|
              .mI rfl rfl <|
              .qg rfl rfl rfl <|
              .nil ?_
            refine AW.cond rfl (fun c4 => ?_) (fun c4 => ?_)
            · skip
              refine .seq <|
                .region ?_
              refine .u rfl rfl rfl (q_buildS rfl zeroValue29 underlying29 (pl29 underlying29) rfl rfl) ?_
              refine AOps.s0 rfl rfl (a_storeA rfl sizeOf29 rfl (by exact (Hp.box_setBox_ne _ _ ne47).trans (Hp.box_setBox _ _ _)) (rfl : _ = V.agg _) rfl (by first | decide | exact Nat.le_of_ble_eq_true rfl) ?_)
              refine .aI rfl rfl <|
                .nil ?_
              refine AW.ret ?_
              exact retQ.mk' (Res.cellB1 isAgg29 sizeOf29 rfl (by exact bsb) rfl) (app_err (n := 4) (by rw [do_1 hc e1, moveF, if_pos hn]) (by decide)) (over2 hid4 f7) ⟨rfl, rfl⟩
            · exact absurd hn (by simpa using c4)
          · skip
            refine .seq <|
              .region <|
              .qe rfl rfl rfl <|
              .aB rfl rfl <|
              .nil ?_
            refine AW.cond rfl (fun c5 => ?_) (fun c5 => ?_)
            · have e2 : x.k = 2 := by simpa using c5
              have hn := hI hc (.inr e2)
              refine .seq <|
                .seq <|
                .region <|
                .fi rfl f84_1 rfl <|
                .li rfl isAgg3 rfl rfl <|
                .mI rfl rfl <|
                .qg rfl rfl rfl <|
                .nil ?_
              refine AW.cond rfl (fun c6 => ?_) (fun c6 => ?_)
              · skip
                refine .seq <|
                  .region ?_
                refine .u rfl rfl rfl (q_buildS rfl zeroValue29 underlying29 (pl29 underlying29) rfl rfl) ?_
                refine AOps.s0 rfl rfl (a_storeA rfl sizeOf29 rfl (by exact (Hp.box_setBox_ne _ _ ne47).trans (Hp.box_setBox _ _ _)) (rfl : _ = V.agg _) rfl (by first | decide | exact Nat.le_of_ble_eq_true rfl) ?_)
                refine .aI rfl rfl <|
                  .nil ?_
                refine AW.ret ?_
                exact retQ.mk' (Res.cellB1 isAgg29 sizeOf29 rfl (by exact bsb) rfl) (app_err (n := 4) (by rw [do_2 hc e2, if_pos hn]) (by decide)) (over2 hid4 f7) ⟨rfl, rfl⟩
              · exact absurd hn (by simpa using c6)
            · skip
              refine .seq <|
                .region <|
                .qe rfl rfl rfl <|
                .aB rfl rfl <|
                .nil ?_
              refine AW.cond rfl (fun c7 => ?_) (fun c7 => ?_)
              · have e3 : x.k = 3 := by simpa using c7
                obtain ⟨h1, h2, h3, h4⟩ := ok.2.2.2.1 e3
                have hp : 0 ≤ x.a ∧ x.a < 2 ∧ 0 ≤ x.b ∧ x.b < 9 := ⟨h1, h2, h3, h4⟩
                refine .seq <|
                  .seq ?_
                refine AW.draw [] [] [(0, true), (1, true), (2, true), (3, true), (4, true), (5, true), (6, true), (7, true), (8, true), (9, true), (10, true)] mixed (by kernel_rfl) rfl (by kernel_rfl) ?_
                refine .q rfl rfl rfl rfl (q_fa_i rfl underlying84 rfl (by exact sizeOf3) (by decide) rfl (rfl : _ = List.drop 1 _)) ?_
                refine .q rfl rfl rfl rfl (q_load_i1 rfl isAgg3 rfl rfl) ?_
                refine .q rfl rfl rfl rfl (q_fa_i rfl underlying84 rfl (by exact sizeOf3) (by decide) rfl (rfl : _ = List.drop 2 _)) ?_
                refine .q rfl rfl rfl rfl (q_load_i1 rfl isAgg3 rfl rfl) ?_
                refine .q rfl rfl rfl rfl (q_fa_b rfl underlying29 rfl (by exact sizeOf26) (by decide) rfl (rfl : _ = 12)) ?_
                refine .q rfl rfl rfl rfl (q_ia_ab rfl underlying26 sizeOf25 rfl rfl (by omega) (by omega)) ?_
                refine .q rfl rfl rfl rfl (q_ia_ab rfl underlying25 sizeOf3 rfl rfl (by omega) (by omega)) ?_
                refine .q rfl rfl rfl rfl (q_load_b1 rfl isAgg3 rfl (by exact bsb) (stX_pl_ix hp.1 hp.2.1 hp.2.2.1 hp.2.2.2)) ?_
                refine .q rfl rfl rfl rfl (q_fa_i rfl underlying84 rfl (by exact sizeOf3) (by decide) rfl (rfl : _ = List.drop 3 _)) ?_
                refine .q rfl rfl rfl rfl (q_load_i1 rfl isAgg3 rfl rfl) ?_
                refine .q rfl rfl rfl rfl (q_ne rfl rfl rfl) ?_
                refine AOrd.nil ?_
                refine AW.cond rfl (fun c8 => ?_) (fun c8 => ?_)
                · skip
                  refine .seq <|
                    .region ?_
                  refine .u rfl rfl rfl (q_buildS rfl zeroValue29 underlying29 (pl29 underlying29) rfl rfl) ?_
                  refine AOps.s0 rfl rfl (a_storeA rfl sizeOf29 rfl (by exact (Hp.box_setBox_ne _ _ ne47).trans (Hp.box_setBox _ _ _)) (rfl : _ = V.agg _) rfl (by first | decide | exact Nat.le_of_ble_eq_true rfl) ?_)
                  refine .aI rfl rfl <|
                    .nil ?_
                  refine AW.ret ?_
                  exact retQ.mk' (Res.cellB1 isAgg29 sizeOf29 rfl (by exact bsb) rfl) (app_err (n := 20) (by rw [do_3 hc e3, if_pos (by simpa using c8)]) (by decide)) (over2 hid4 f7) ⟨rfl, rfl⟩
                · skip
                  refine AW.skip ?_
                  refine AW.draw [9] [6, 7] [(0, true), (1, true), (2, true), (3, true), (4, true), (5, true), (6, true), (7, true), (8, true), (9, false)] mixed (by kernel_rfl) rfl (by kernel_rfl) ?_
                  refine .q rfl rfl rfl rfl (q_fa_i rfl underlying84 rfl (by exact sizeOf3) (by decide) rfl (rfl : _ = List.drop 1 _)) ?_
                  refine .q rfl rfl rfl rfl (q_load_i1 rfl isAgg3 rfl rfl) ?_
                  refine .q rfl rfl rfl rfl (q_fa_i rfl underlying84 rfl (by exact sizeOf3) (by decide) rfl (rfl : _ = List.drop 2 _)) ?_
                  refine .q rfl rfl rfl rfl (q_load_i1 rfl isAgg3 rfl rfl) ?_
                  refine .q rfl rfl rfl rfl (q_fa_i rfl underlying84 rfl (by exact sizeOf3) (by decide) rfl (rfl : _ = List.drop 4 _)) ?_
                  refine .q rfl rfl rfl rfl (q_load_i1 rfl isAgg3 rfl rfl) ?_
                  refine .p rfl rfl rfl (fun _ => q_fa_b rfl underlying29 rfl (by exact sizeOf26) (by decide) rfl (rfl : _ = 12)) ?_
                  refine .p rfl rfl rfl (fun _ => q_ia_ab rfl underlying26 sizeOf25 rfl rfl (by omega) (by omega)) ?_
                  refine .q rfl rfl rfl rfl (q_ia_ab rfl underlying25 sizeOf3 rfl rfl (by omega) (by omega)) ?_
                  refine AOrd.s0 rfl rfl rfl rfl (a_store1 rfl sizeOf3 rfl (by exact bsb) (rfl : _ = V.int _ _) rfl rfl (by simp [cState]; omega) ?_)
                  refine AOrd.nil ?_
                  first | exact Wk.mk (TLe.put (d := 7) (VLe.refl _) (TLe.put (d := 4) (VLe.refl _) (TLe.zero _))) (HLe.refl _) ⟨_, by rw [do_3 hc e3, if_neg (by simpa using c8)], rfl, by rw [Hp.setBox_setBox, stC_pl_set hp.1 hp.2.1 hp.2.2.1 hp.2.2.2]; rfl⟩ | exact Wk.mk (TLe.put (d := 7) (VLe.refl _) (TLe.put (d := 4) (VLe.refl _) (TLe.zero _))) (HLe.refl _) ⟨_, by rw [do_4 hc hk (by simpa using c3) (by simpa using c5) (by simpa using c7), if_neg (by simpa using c9)], rfl, by rw [Hp.setBox_setBox, stC_game_set hg.1 hg.2]; rfl⟩
              · have hg := ok.2.2.2.2 ⟨hk.1, hk.2, by simpa using c3, by simpa using c5, by simpa using c7⟩
                have h1 := hg.1
                have h2 := hg.2
                refine .seq <|
                  .seq ?_
                refine AW.draw [] [] [(0, true), (1, true), (2, true), (3, true), (4, true), (5, true), (6, true), (7, true)] mixed (by kernel_rfl) rfl (by kernel_rfl) ?_
                refine .q rfl rfl rfl rfl (q_fa_i rfl underlying84 rfl (by exact sizeOf3) (by decide) rfl (rfl : _ = List.drop 2 _)) ?_
                refine .q rfl rfl rfl rfl (q_load_i1 rfl isAgg3 rfl rfl) ?_
                refine .q rfl rfl rfl rfl (q_fa_b rfl underlying29 rfl (by exact sizeOf27) (by decide) rfl (rfl : _ = 30)) ?_
                refine .q rfl rfl rfl rfl (q_ia_ab rfl underlying27 sizeOf3 rfl rfl (by omega) (by omega)) ?_
                refine .q rfl rfl rfl rfl (q_load_b1 rfl isAgg3 rfl (by exact bsb) (stC_game_ix hg.1 hg.2)) ?_
                refine .q rfl rfl rfl rfl (q_fa_i rfl underlying84 rfl (by exact sizeOf3) (by decide) rfl (rfl : _ = List.drop 3 _)) ?_
                refine .q rfl rfl rfl rfl (q_load_i1 rfl isAgg3 rfl rfl) ?_
                refine .q rfl rfl rfl rfl (q_ne rfl rfl rfl) ?_
                refine AOrd.nil ?_
                refine AW.cond rfl (fun c9 => ?_) (fun c9 => ?_)
                · skip
                  refine .seq <|
                    .region ?_
                  refine .u rfl rfl rfl (q_buildS rfl zeroValue29 underlying29 (pl29 underlying29) rfl rfl) ?_
                  refine AOps.s0 rfl rfl (a_storeA rfl sizeOf29 rfl (by exact (Hp.box_setBox_ne _ _ ne47).trans (Hp.box_setBox _ _ _)) (rfl : _ = V.agg _) rfl (by first | decide | exact Nat.le_of_ble_eq_true rfl) ?_)
                  refine .aI rfl rfl <|
                    .nil ?_
                  refine AW.ret ?_
                  exact retQ.mk' (Res.cellB1 isAgg29 sizeOf29 rfl (by exact bsb) rfl) (app_err (n := 20) (by rw [do_4 hc hk (by simpa using c3) (by simpa using c5) (by simpa using c7), if_pos (by simpa using c9)]) (by decide)) (over2 hid4 f7) ⟨rfl, rfl⟩
                · skip
                  refine AW.skip ?_
                  refine .region <|
                    .fi rfl f84_2 rfl <|
                    .li rfl isAgg3 rfl rfl <|
                    .fi rfl f84_4 rfl <|
                    .li rfl isAgg3 rfl rfl <|
                    .fb rfl f29_30 rfl rfl ?_
                  refine .u rfl rfl rfl (q_ia_ab rfl underlying27 sizeOf3 rfl rfl (by omega) (by omega)) ?_
                  refine AOps.s0 rfl rfl (a_store1 rfl sizeOf3 rfl (by exact bsb) (rfl : _ = V.int _ _) rfl rfl (by simp [cState]; omega) ?_)
                  refine .nil ?_
                  first | exact Wk.mk (TLe.put (d := 7) (VLe.refl _) (TLe.put (d := 4) (VLe.refl _) (TLe.zero _))) (HLe.refl _) ⟨_, by rw [do_3 hc e3, if_neg (by simpa using c8)], rfl, by rw [Hp.setBox_setBox, stC_pl_set hp.1 hp.2.1 hp.2.2.1 hp.2.2.2]; rfl⟩ | exact Wk.mk (TLe.put (d := 7) (VLe.refl _) (TLe.put (d := 4) (VLe.refl _) (TLe.zero _))) (HLe.refl _) ⟨_, by rw [do_4 hc hk (by simpa using c3) (by simpa using c5) (by simpa using c7), if_neg (by simpa using c9)], rfl, by rw [Hp.setBox_setBox, stC_game_set hg.1 hg.2]; rfl⟩
    · rintro T h1 ⟨s', hs', rfl, rfl⟩
      refine .seq <|
        .region ?_
      refine .u rfl rfl rfl (q_load_bW rfl isAgg29 sizeOf29 (by decide) rfl (by exact bsb) (by rfl)) ?_
      refine AOps.s0 rfl rfl (a_storeA rfl sizeOf29 rfl (by exact (Hp.box_setBox_ne _ _ ne47).trans (Hp.box_setBox _ _ _)) (rfl : _ = V.agg _) rfl (by first | decide | exact Nat.le_of_ble_eq_true rfl) ?_)
      refine .aI rfl rfl <|
        .nil ?_
      refine AW.ret ?_
      exact retQ.mk' (Res.cellB1 isAgg29 sizeOf29 rfl (by exact bsb) rfl) (app_ok hs') (over2 hid4 f7) ⟨rfl, rfl⟩

theorem refApplyA (s : St) (x : Ev) (hc : evCheck x = 0) (hk : x.k = 1 ∨ x.k = 2) (hlt : x.a < s.objs.length) (hb : s.objs.length ≤ 1000000) (hl : ∀ z, (s.lists z).length ≤ 1000000) (h : Hp) : ACalls prog G 101 [eState s, eEv x] h fun r h' => r = .tup [eState (appSt s x), .int .i64 (evDo s x).2] ∧ h' = h := by
  have ok := evCheck_ok hc
  have hxa : 0 ≤ x.a := by
    rcases hk with e | e
    · exact (ok.2.1 e).a
    · exact (ok.2.2.1 e).1
  have hn : 0 < s.objs.length := by omega
  refine ACalls.enter func101 rfl ntmps101 results101 rfl ?_
  refine .seq <|
    .region <|
    .bx rfl rfl <|
    .bx rfl rfl ?_
  refine AOps.s rfl rfl rfl (a_alloc rfl zeroValue29 rfl (fun id4 hid4 => ?_))
  refine .aI rfl rfl <|
    .nil <|
    .seq <|
    .seq <|
    .region <|
    .lw rfl isAgg84 sizeOf84 rfl rfl ?_
  refine .u rfl rfl rfl (QOp.call rfl call66 fun h' hl' => by exact refEv_calls x h') ?_
  refine .aI rfl rfl <|
    .nil <|
    .seq <|
    .region <|
    .mI rfl rfl <|
    .qn rfl rfl rfl <|
    .nil ?_
  refine AW.cond rfl (fun c0 => ?_) (fun c0 => ?_)
  · exact absurd hc (by simpa using c0)
  · skip
    refine AW.skip ?_
    refine .seq <|
      .region <|
      .lw rfl isAgg29 sizeOf29 rfl rfl ?_
    refine AOps.s rfl rfl rfl ((AStep.call rfl (by exact call39) (numCopyM_calls s hb hn hl _)).mono ?_)
    rintro x1 h1 ⟨idc, slack, hidc, rfl, rfl⟩
    refine AOps.s rfl rfl rfl (a_alloc rfl zeroValue29 rfl (fun id7 hid7 => ?_))
    refine .sw sizeOf29 rfl rfl rfl rfl <|
      .nil <|
      .seq ?_
    have ne47 : id4 ≠ id7 := Hp.ne_of_box ((Hp.box_setBox_ne _ _ (fresh_ne hidc)).trans (Hp.box_setBox _ _ _)) hid7.1
    have ne4c : id4 ≠ idc := fresh_ne hidc
    have nec7 : idc ≠ id7 := Hp.ne_of_box (Hp.box_setBox _ _ _) hid7.1
    have fc : h.fresh idc := (fresh_pair (d := []) hid4 hidc).1
    have f7 : h.fresh id7 := (fresh_pair (d := []) hid4 (fresh_pair (d := []) hidc hid7).1).1
    refine .region <|
      .fb rfl f29_0 rfl rfl <|
      .lb rfl isAgg22 rfl rfl <|
      .ln rfl underlying22 rfl <|
      .aI rfl rfl <|
      .nil ?_
    refine AW.cut (fun T h1 => ∃ s', evDo s x = (s', 0) ∧ s'.objs.length = s.objs.length ∧ T = put (put T0 4 (V.ptr id4 0)) 7 (V.ptr id7 0) ∧ h1 = ((h.setBox id4 zState).setBox id7 (stX (.msl idc 0 s.objs.length) s')).setBox idc (cObjs s'.objs ++ slack)) ?_ ?_
    · skip
      refine .seq <|
        .region <|
        .fi rfl f84_0 rfl <|
        .li rfl isAgg3 rfl rfl <|
        .nil <|
        .block <|
        .seq <|
        .region <|
        .qe rfl rfl rfl <|
        .aB rfl rfl <|
        .nil ?_
      refine AW.cond rfl (fun c1 => ?_) (fun c1 => ?_)
      · have e0 : x.k = 0 := by simpa using c1
        omega
      · skip
        refine .seq <|
          .region <|
          .qe rfl rfl rfl <|
          .aB rfl rfl <|
          .nil ?_
        refine AW.cond rfl (fun c2 => ?_) (fun c2 => ?_)
        · have e0 : x.k = 5 := by simpa using c2
          omega
        · skip
          refine .seq <|
            .region <|
            .qe rfl rfl rfl <|
            .aB rfl rfl <|
            .nil ?_
          refine AW.cond rfl (fun c3 => ?_) (fun c3 => ?_)
          · have e1 : x.k = 1 := by simpa using c3
            obtain ⟨_, hxb, hxc, hxd, hxe⟩ := ok.2.1 e1
            refine .seq <|
              .seq <|
              .region <|
              .fi rfl f84_1 rfl <|
              .li rfl isAgg3 rfl rfl <|
              .mI rfl rfl <|
              .qg rfl rfl rfl <|
              .nil ?_
            refine AW.cond rfl (fun c4 => ?_) (fun c4 => ?_)
            · exact absurd hlt (by simpa using c4)
            · skip
              refine AW.skip ?_
              refine .seq <|
                .seq ?_
              refine AW.draw [] [] [(0, true), (1, true), (2, true), (3, true), (4, true), (5, true), (6, true), (7, true), (8, true), (9, true), (10, true), (11, true), (12, true), (13, true), (14, true), (15, true), (16, true), (17, true), (18, true), (19, true), (20, true), (21, true), (22, true)] mixed (by kernel_rfl) rfl (by kernel_rfl) ?_
              refine .q rfl rfl rfl rfl (q_fa_i rfl underlying84 rfl (by exact sizeOf3) (by decide) rfl (rfl : _ = List.drop 3 _)) ?_
              refine .q rfl rfl rfl rfl (q_load_i1 rfl isAgg3 rfl rfl) ?_
              refine .q rfl rfl rfl rfl (q_fa_i rfl underlying84 rfl (by exact sizeOf3) (by decide) rfl (rfl : _ = List.drop 2 _)) ?_
              refine .q rfl rfl rfl rfl (q_load_i1 rfl isAgg3 rfl rfl) ?_
              refine .q rfl rfl rfl rfl (q_fa_b rfl underlying29 rfl (by exact sizeOf24) (by decide) rfl (rfl : _ = 1)) ?_
              refine .q rfl rfl rfl rfl (q_ia_ab rfl underlying24 sizeOf23 rfl rfl (by omega) (by omega)) ?_
              refine .q rfl rfl rfl rfl (q_load_b1 rfl isAgg23 rfl (by exact bsb) (stX_list_ix hxb.1 hxb.2)) ?_
              refine .q rfl rfl rfl rfl (q_len rfl underlying23 rfl) ?_
              refine .q rfl rfl rfl rfl (q_ge rfl rfl rfl) ?_
              refine .q rfl rfl rfl rfl (q_mv rfl (rfl : _ = V.bool _)) ?_
              refine AOrd.g rfl rfl (wanted_f rfl rfl) rfl (fun _ => tl0) (fun hc => q_fa_i rfl underlying84 rfl (by exact sizeOf3) (by decide) rfl (rfl : _ = List.drop 2 _)) ?_
              refine AOrd.g rfl rfl (wanted_f rfl rfl) rfl (fun hc => tl1 155 (.opt hc)) (fun hc => q_load_i1 rfl isAgg3 rfl rfl) ?_
              refine AOrd.g rfl rfl (wanted_f rfl rfl) rfl (fun _ => tl0) (fun hc => q_fa_b rfl underlying29 rfl (by exact sizeOf24) (by decide) rfl (rfl : _ = 1)) ?_
              refine AOrd.g rfl rfl (wanted_f rfl rfl) rfl (fun hc => tl2 157 156 (.opt hc) (.opt hc)) (fun hc => q_ia_ab rfl underlying24 sizeOf23 rfl rfl (by omega) (by omega)) ?_
              refine AOrd.g rfl rfl (wanted_f rfl rfl) rfl (fun hc => tl1 158 (.opt hc)) (fun hc => q_load_b1 rfl isAgg23 rfl (by exact bsb) (stX_list_ix hxb.1 hxb.2)) ?_
              refine AOrd.g rfl rfl (wanted_f rfl rfl) rfl (fun _ => tl0) (fun hc => q_fa_i rfl underlying84 rfl (by exact sizeOf3) (by decide) rfl (rfl : _ = List.drop 3 _)) ?_
              refine AOrd.g rfl rfl (wanted_f rfl rfl) rfl (fun hc => tl1 160 (.opt hc)) (fun hc => q_load_i1 rfl isAgg3 rfl rfl) ?_
              refine AOrd.g rfl rfl (wanted_f rfl rfl) rfl (fun hc => tl2 161 159 (.opt hc) (.opt hc)) (fun hc => q_ia_s rfl underlying23 sizeOf3 rfl rfl (ge_no hc hxc).1 (ge_no hc hxc).2 (cInts_elem (ge_no hc hxc).1 (ge_no hc hxc).2)) ?_
              refine AOrd.g rfl rfl (wanted_f rfl rfl) rfl (fun hc => tl1 162 (.opt hc)) (fun hc => q_load_i1 rfl isAgg3 rfl rfl) ?_
              refine AOrd.g rfl rfl (wanted_f rfl rfl) rfl (fun _ => tl0) (fun hc => q_fa_i rfl underlying84 rfl (by exact sizeOf3) (by decide) rfl (rfl : _ = List.drop 1 _)) ?_
              refine AOrd.g rfl rfl (wanted_f rfl rfl) rfl (fun hc => tl1 164 (.opt hc)) (fun hc => q_load_i1 rfl isAgg3 rfl rfl) ?_
              refine AOrd.g rfl rfl (wanted_f rfl rfl) rfl (fun hc => tl2 165 163 (.opt hc) (.opt hc)) (fun hc => q_ne rfl rfl rfl) ?_
              refine .q rfl rfl rfl rfl (q_pickg rfl rfl (fun hp => by exact VLe.refl _) (fun hp => by first | exact VLe.opt hp | exact VLe.opt (by rw [hp]; rfl) | exact VLe.opt (by simp_all))) ?_
              refine AOrd.nil ?_
              refine AW.cond rfl (fun c5 => ?_) (fun c5 => ?_)
              · skip
                refine .seq <|
                  .region ?_
                refine .u rfl rfl rfl (q_buildS rfl zeroValue29 underlying29 (pl29 underlying29) rfl rfl) ?_
                refine AOps.s0 rfl rfl (a_storeA rfl sizeOf29 rfl (by exact (Hp.box_setBox_ne _ _ ne47).trans ((Hp.box_setBox_ne _ _ ne4c).trans (Hp.box_setBox _ _ _))) (rfl : _ = V.agg _) rfl (by first | decide | exact Nat.le_of_ble_eq_true rfl) ?_)
                refine .aI rfl rfl <|
                  .nil ?_
                refine AW.ret ?_
                exact retQ.mk' (Res.cellB1 isAgg29 sizeOf29 rfl (by exact bsb) rfl) (app_err (n := 20) (by rw [rm_bits hxc] at c5; rw [do_1 hc e1, move_bad (by omega) c5]) (by decide)) (over3 hid4 fc f7) ⟨rfl, rfl⟩
              · have hin := rm_in hxc c5
                rw [rm_bits hxc] at c5
                have hr1 : (removeF (s.lists x.b.toNat) x.c).1.length ≤ 1000000 := Nat.le_trans removeF_len (hl _)
                refine AW.skip ?_
                refine .seq ?_
                refine AW.draw [12] [10] [(0, true), (1, true), (2, true), (3, true), (4, true), (5, true), (6, true), (7, true), (8, true), (9, true), (10, true), (11, true), (12, false)] mixed (by kernel_rfl) rfl (by kernel_rfl) ?_
                refine .q rfl rfl rfl rfl (q_fa_i rfl underlying84 rfl (by exact sizeOf3) (by decide) rfl (rfl : _ = List.drop 2 _)) ?_
                refine .q rfl rfl rfl rfl (q_load_i1 rfl isAgg3 rfl rfl) ?_
                refine .q rfl rfl rfl rfl (q_fa_i rfl underlying84 rfl (by exact sizeOf3) (by decide) rfl (rfl : _ = List.drop 2 _)) ?_
                refine .q rfl rfl rfl rfl (q_load_i1 rfl isAgg3 rfl rfl) ?_
                refine .q rfl rfl rfl rfl (q_fa_b rfl underlying29 rfl (by exact sizeOf24) (by decide) rfl (rfl : _ = 1)) ?_
                refine .q rfl rfl rfl rfl (q_ia_ab rfl underlying24 sizeOf23 rfl rfl (by omega) (by omega)) ?_
                refine .q rfl rfl rfl rfl (q_load_b1 rfl isAgg23 rfl (by exact bsb) (stX_list_ix hxb.1 hxb.2)) ?_
                refine .q rfl rfl rfl rfl (q_fa_i rfl underlying84 rfl (by exact sizeOf3) (by decide) rfl (rfl : _ = List.drop 3 _)) ?_
                refine .q rfl rfl rfl rfl (q_load_i1 rfl isAgg3 rfl rfl) ?_
                refine .q rfl rfl rfl rfl (QOp.call rfl (by exact call126) fun h' hl' => by exact refRemove_calls _ _ hin (hl _) h') ?_
                refine .p rfl rfl rfl (fun _ => q_fa_b rfl underlying29 rfl (by exact sizeOf24) (by decide) rfl (rfl : _ = 1)) ?_
                refine .q rfl rfl rfl rfl (q_ia_ab rfl underlying24 sizeOf23 rfl rfl (by omega) (by omega)) ?_
                refine AOrd.s0 rfl rfl rfl rfl (a_store1 rfl sizeOf23 rfl (by exact bsb) (rfl : _ = V.sl _ _ _ _) rfl rfl (by simp [stX, cState]; omega) ?_)
                refine AOrd.nil ?_
                refine .seq <|
                  .seq ?_
                refine AW.hp (by rw [Hp.setBox_setBox, stX_list_set hxb.1 hxb.2]) ?_
                refine AW.draw [] [] [(0, true), (1, true), (2, true), (3, true), (4, true), (5, true), (6, true), (7, true), (8, true)] mixed (by kernel_rfl) rfl (by kernel_rfl) ?_
                refine .q rfl rfl rfl rfl (q_fa_i rfl underlying84 rfl (by exact sizeOf3) (by decide) rfl (rfl : _ = List.drop 5 _)) ?_
                refine .q rfl rfl rfl rfl (q_load_i1 rfl isAgg3 rfl rfl) ?_
                refine .q rfl rfl rfl rfl (q_fa_i rfl underlying84 rfl (by exact sizeOf3) (by decide) rfl (rfl : _ = List.drop 4 _)) ?_
                refine .q rfl rfl rfl rfl (q_load_i1 rfl isAgg3 rfl rfl) ?_
                refine .q rfl rfl rfl rfl (q_fa_b rfl underlying29 rfl (by exact sizeOf24) (by decide) rfl (rfl : _ = 1)) ?_
                refine .q rfl rfl rfl rfl (q_ia_ab rfl underlying24 sizeOf23 rfl rfl (by omega) (by omega)) ?_
                refine .q rfl rfl rfl rfl (q_load_b1 rfl isAgg23 rfl (by exact bsb) (stX_list_ix hxd.1 hxd.2)) ?_
                refine .q rfl rfl rfl rfl (q_len rfl underlying23 rfl) ?_
                refine .q rfl rfl rfl rfl (q_gt rfl rfl rfl) ?_
                refine AOrd.nil ?_
                refine AW.cond rfl (fun c6 => ?_) (fun c6 => ?_)
                · have hlong : ((upd s.lists x.b.toNat (removeF (s.lists x.b.toNat) x.c).1 x.d.toNat).length : Int) < x.e := by simpa using c6
                  refine .seq <|
                    .region ?_
                  refine .u rfl rfl rfl (q_buildS rfl zeroValue29 underlying29 (pl29 underlying29) rfl rfl) ?_
                  refine AOps.s0 rfl rfl (a_storeA rfl sizeOf29 rfl (by exact (Hp.box_setBox_ne _ _ ne47).trans ((Hp.box_setBox_ne _ _ ne4c).trans (Hp.box_setBox _ _ _))) (rfl : _ = V.agg _) rfl (by first | decide | exact Nat.le_of_ble_eq_true rfl) ?_)
                  refine .aI rfl rfl <|
                    .nil ?_
                  refine AW.ret ?_
                  exact retQ.mk' (Res.cellB1 isAgg29 sizeOf29 rfl (by exact bsb) rfl) (app_err (n := 1) (by rw [do_1 hc e1, move_err (to := upd s.lists x.b.toNat (removeF (s.lists x.b.toNat) x.c).1 x.d.toNat) (by omega) c5 (upd_to hxb.1 hxd.1).symm (by rw [ins_long hlong]; decide)]; exact ins_long hlong) (by decide)) (over3 hid4 fc f7) ⟨rfl, rfl⟩
                · have hshort : ¬ ((upd s.lists x.b.toNat (removeF (s.lists x.b.toNat) x.c).1 x.d.toNat).length : Int) < x.e := by simpa using c6
                  have hfit : 0 ≤ x.e ∧ x.e ≤ (upd s.lists x.b.toNat (removeF (s.lists x.b.toNat) x.c).1 x.d.toNat).length := by omega
                  have hlt2 : (upd s.lists x.b.toNat (removeF (s.lists x.b.toNat) x.c).1 x.d.toNat).length ≤ 1000000 := by
                    unfold upd; split
                    · exact hr1
                    · exact hl _
                  refine AW.skip ?_
                  refine .seq ?_
                  refine AW.draw [14] [12] [(0, true), (1, true), (2, true), (3, true), (4, true), (5, true), (6, true), (7, true), (8, true), (9, true), (10, true), (11, true), (12, true), (13, true), (14, false)] mixed (by kernel_rfl) rfl (by kernel_rfl) ?_
                  refine .q rfl rfl rfl rfl (q_fa_i rfl underlying84 rfl (by exact sizeOf3) (by decide) rfl (rfl : _ = List.drop 4 _)) ?_
                  refine .q rfl rfl rfl rfl (q_load_i1 rfl isAgg3 rfl rfl) ?_
                  refine .q rfl rfl rfl rfl (q_fa_i rfl underlying84 rfl (by exact sizeOf3) (by decide) rfl (rfl : _ = List.drop 4 _)) ?_
                  refine .q rfl rfl rfl rfl (q_load_i1 rfl isAgg3 rfl rfl) ?_
                  refine .q rfl rfl rfl rfl (q_fa_b rfl underlying29 rfl (by exact sizeOf24) (by decide) rfl (rfl : _ = 1)) ?_
                  refine .q rfl rfl rfl rfl (q_ia_ab rfl underlying24 sizeOf23 rfl rfl (by omega) (by omega)) ?_
                  refine .q rfl rfl rfl rfl (q_load_b1 rfl isAgg23 rfl (by exact bsb) (stX_list_ix hxd.1 hxd.2)) ?_
                  refine .q rfl rfl rfl rfl (q_fa_i rfl underlying84 rfl (by exact sizeOf3) (by decide) rfl (rfl : _ = List.drop 5 _)) ?_
                  refine .q rfl rfl rfl rfl (q_load_i1 rfl isAgg3 rfl rfl) ?_
                  refine .q rfl rfl rfl rfl (q_fa_i rfl underlying84 rfl (by exact sizeOf3) (by decide) rfl (rfl : _ = List.drop 1 _)) ?_
                  refine .q rfl rfl rfl rfl (q_load_i1 rfl isAgg3 rfl rfl) ?_
                  refine .q rfl rfl rfl rfl (QOp.call rfl (by exact call127) fun h' hl' => by exact refInsert_calls _ _ _ hfit hlt2 h') ?_
                  refine .p rfl rfl rfl (fun _ => q_fa_b rfl underlying29 rfl (by exact sizeOf24) (by decide) rfl (rfl : _ = 1)) ?_
                  refine .q rfl rfl rfl rfl (q_ia_ab rfl underlying24 sizeOf23 rfl rfl (by omega) (by omega)) ?_
                  refine AOrd.s0 rfl rfl rfl rfl (a_store1 rfl sizeOf23 rfl (by exact bsb) (rfl : _ = V.sl _ _ _ _) rfl rfl (by simp [stX, cState]; omega) ?_)
                  refine AOrd.nil ?_
                  refine AW.hp (by rw [Hp.setBox_setBox, stX_list_set hxd.1 hxd.2]) ?_
                  refine AW.draw [8] [6] [(0, true), (1, true), (2, true), (3, true), (4, true), (5, true), (6, true), (7, true), (8, false)] mixed (by kernel_rfl) rfl (by kernel_rfl) ?_
                  refine .q rfl rfl rfl rfl (q_fa_b rfl underlying29 rfl (by exact sizeOf22) (by decide) rfl (rfl : _ = 0)) ?_
                  refine .q rfl rfl rfl rfl (q_load_b1 rfl isAgg22 rfl (by exact bsb) rfl) ?_
                  refine .q rfl rfl rfl rfl (q_fa_i rfl underlying84 rfl (by exact sizeOf3) (by decide) rfl (rfl : _ = List.drop 1 _)) ?_
                  refine .q rfl rfl rfl rfl (q_load_i1 rfl isAgg3 rfl rfl) ?_
                  refine .q rfl rfl rfl rfl (q_fa_i rfl underlying84 rfl (by exact sizeOf3) (by decide) rfl (rfl : _ = List.drop 4 _)) ?_
                  refine .q rfl rfl rfl rfl (q_load_i1 rfl isAgg3 rfl rfl) ?_
                  refine .p rfl rfl rfl (fun _ => q_ia_m rfl underlying22 sizeOf49 rfl rfl (by omega) (by omega)) ?_
                  refine .q rfl rfl rfl rfl (q_ia_ab rfl underlying49 sizeOf3 rfl rfl (by decide) (by decide)) ?_
                  refine AOrd.s0 rfl rfl rfl rfl (a_store1 rfl sizeOf3 rfl (by exact (Hp.box_setBox_ne _ _ nec7).trans (Hp.box_setBox _ _ _)) (rfl : _ = V.int _ _) rfl rfl (by exact objs_lt (by omega) (by omega) (by decide) (by decide)) ?_)
                  refine AOrd.nil ?_
                  first | exact Wk.mk (TLe.put (d := 7) (VLe.refl _) (TLe.put (d := 4) (VLe.refl _) (TLe.zero _))) (HLe.refl _) ⟨_, by rw [do_1 hc e1]; exact move_ok (to := upd s.lists x.b.toNat (removeF (s.lists x.b.toNat) x.c).1 x.d.toNat) (by omega) c5 (upd_to hxb.1 hxd.1).symm (ins_fits hxe hshort), by simp, rfl, by rw [swap_out nec7, objs_set (by omega) (by omega) (by decide) (by decide)]; rfl⟩ | exact Wk.mk (TLe.put (d := 7) (VLe.refl _) (TLe.put (d := 4) (VLe.refl _) (TLe.zero _))) (HLe.refl _) ⟨_, by rw [do_2 hc e2, if_neg (by omega), if_neg (by simpa using c9)], by simp, rfl, by rw [swap_out nec7, objs_set (by omega) (by omega) (by omega) (by omega)]; rfl⟩
          · have e2 : x.k = 2 := by
              have : x.k ≠ 1 := by simpa using c3
              omega
            obtain ⟨_, hx1, hx2⟩ := ok.2.2.1 e2
            refine .seq <|
              .region <|
              .qe rfl rfl rfl <|
              .aB rfl rfl <|
              .nil ?_
            refine AW.cond rfl (fun c7 => ?_) (fun c7 => ?_)
            · skip
              refine .seq <|
                .seq <|
                .region <|
                .fi rfl f84_1 rfl <|
                .li rfl isAgg3 rfl rfl <|
                .mI rfl rfl <|
                .qg rfl rfl rfl <|
                .nil ?_
              refine AW.cond rfl (fun c8 => ?_) (fun c8 => ?_)
              · exact absurd hlt (by simpa using c8)
              · skip
                refine AW.skip ?_
                refine .seq <|
                  .seq ?_
                refine AW.draw [] [] [(0, true), (1, true), (2, true), (3, true), (4, true), (5, true), (6, true), (7, true), (8, true), (9, true), (10, true), (11, true)] mixed (by kernel_rfl) rfl (by kernel_rfl) ?_
                refine .q rfl rfl rfl rfl (q_fa_b rfl underlying29 rfl (by exact sizeOf22) (by decide) rfl (rfl : _ = 0)) ?_
                refine .q rfl rfl rfl rfl (q_load_b1 rfl isAgg22 rfl (by exact bsb) rfl) ?_
                refine .q rfl rfl rfl rfl (q_fa_i rfl underlying84 rfl (by exact sizeOf3) (by decide) rfl (rfl : _ = List.drop 1 _)) ?_
                refine .q rfl rfl rfl rfl (q_load_i1 rfl isAgg3 rfl rfl) ?_
                refine .q rfl rfl rfl rfl (q_fa_i rfl underlying84 rfl (by exact sizeOf3) (by decide) rfl (rfl : _ = List.drop 2 _)) ?_
                refine .q rfl rfl rfl rfl (q_load_i1 rfl isAgg3 rfl rfl) ?_
                refine .q rfl rfl rfl rfl (q_ia_m rfl underlying22 sizeOf49 rfl rfl (by omega) (by omega)) ?_
                refine .q rfl rfl rfl rfl (q_ia_ab rfl underlying49 sizeOf3 rfl rfl (by omega) (by omega)) ?_
                refine .q rfl rfl rfl rfl (q_load_b1 rfl isAgg3 rfl (by exact (Hp.box_setBox_ne _ _ nec7).trans (Hp.box_setBox _ _ _)) (objs_ix (by omega) (by omega) (by omega) (by omega))) ?_
                refine .q rfl rfl rfl rfl (q_fa_i rfl underlying84 rfl (by exact sizeOf3) (by decide) rfl (rfl : _ = List.drop 3 _)) ?_
                refine .q rfl rfl rfl rfl (q_load_i1 rfl isAgg3 rfl rfl) ?_
                refine .q rfl rfl rfl rfl (q_ne rfl rfl rfl) ?_
                refine AOrd.nil ?_
                refine AW.cond rfl (fun c9 => ?_) (fun c9 => ?_)
                · skip
                  refine .seq <|
                    .region ?_
                  refine .u rfl rfl rfl (q_buildS rfl zeroValue29 underlying29 (pl29 underlying29) rfl rfl) ?_
                  refine AOps.s0 rfl rfl (a_storeA rfl sizeOf29 rfl (by exact (Hp.box_setBox_ne _ _ ne47).trans ((Hp.box_setBox_ne _ _ ne4c).trans (Hp.box_setBox _ _ _))) (rfl : _ = V.agg _) rfl (by first | decide | exact Nat.le_of_ble_eq_true rfl) ?_)
                  refine .aI rfl rfl <|
                    .nil ?_
                  refine AW.ret ?_
                  exact retQ.mk' (Res.cellB1 isAgg29 sizeOf29 rfl (by exact bsb) rfl) (app_err (n := 20) (by rw [do_2 hc e2, if_neg (by omega), if_pos (by simpa using c9)]) (by decide)) (over3 hid4 fc f7) ⟨rfl, rfl⟩
                · skip
                  refine AW.skip ?_
                  refine AW.draw [10] [8] [(0, true), (1, true), (2, true), (3, true), (4, true), (5, true), (6, true), (7, true), (8, true), (9, true), (10, false)] mixed (by kernel_rfl) rfl (by kernel_rfl) ?_
                  refine .q rfl rfl rfl rfl (q_fa_b rfl underlying29 rfl (by exact sizeOf22) (by decide) rfl (rfl : _ = 0)) ?_
                  refine .q rfl rfl rfl rfl (q_load_b1 rfl isAgg22 rfl (by exact bsb) rfl) ?_
                  refine .q rfl rfl rfl rfl (q_fa_i rfl underlying84 rfl (by exact sizeOf3) (by decide) rfl (rfl : _ = List.drop 1 _)) ?_
                  refine .q rfl rfl rfl rfl (q_load_i1 rfl isAgg3 rfl rfl) ?_
                  refine .q rfl rfl rfl rfl (q_fa_i rfl underlying84 rfl (by exact sizeOf3) (by decide) rfl (rfl : _ = List.drop 2 _)) ?_
                  refine .q rfl rfl rfl rfl (q_load_i1 rfl isAgg3 rfl rfl) ?_
                  refine .q rfl rfl rfl rfl (q_fa_i rfl underlying84 rfl (by exact sizeOf3) (by decide) rfl (rfl : _ = List.drop 4 _)) ?_
                  refine .q rfl rfl rfl rfl (q_load_i1 rfl isAgg3 rfl rfl) ?_
                  refine .p rfl rfl rfl (fun _ => q_ia_m rfl underlying22 sizeOf49 rfl rfl (by omega) (by omega)) ?_
                  refine .q rfl rfl rfl rfl (q_ia_ab rfl underlying49 sizeOf3 rfl rfl (by omega) (by omega)) ?_
                  refine AOrd.s0 rfl rfl rfl rfl (a_store1 rfl sizeOf3 rfl (by exact (Hp.box_setBox_ne _ _ nec7).trans (Hp.box_setBox _ _ _)) (rfl : _ = V.int _ _) rfl rfl (by exact objs_lt (by omega) (by omega) (by omega) (by omega)) ?_)
                  refine AOrd.nil ?_
                  first | exact Wk.mk (TLe.put (d := 7) (VLe.refl _) (TLe.put (d := 4) (VLe.refl _) (TLe.zero _))) (HLe.refl _) ⟨_, by rw [do_1 hc e1]; exact move_ok (to := upd s.lists x.b.toNat (removeF (s.lists x.b.toNat) x.c).1 x.d.toNat) (by omega) c5 (upd_to hxb.1 hxd.1).symm (ins_fits hxe hshort), by simp, rfl, by rw [swap_out nec7, objs_set (by omega) (by omega) (by decide) (by decide)]; rfl⟩ | exact Wk.mk (TLe.put (d := 7) (VLe.refl _) (TLe.put (d := 4) (VLe.refl _) (TLe.zero _))) (HLe.refl _) ⟨_, by rw [do_2 hc e2, if_neg (by omega), if_neg (by simpa using c9)], by simp, rfl, by rw [swap_out nec7, objs_set (by omega) (by omega) (by omega) (by omega)]; rfl⟩
            · exact absurd e2 (by simpa using c7)
    · rintro T h1 ⟨s', hs', hso, rfl, rfl⟩
      have g7 : (h.setBox id4 zState).fresh id7 := fresh_up f7 ne47.symm
      have gc : ((h.setBox id4 zState).setBox id7 (stX (.msl idc 0 s.objs.length) s')).fresh idc := fresh_up hidc nec7
      refine .seq ?_
      refine AW.sealIn2 (T' := put (put T0 4 (V.ptr id4 0)) 7 (V.ptr id7 0)) (cs' := cState s') g7 gc rfl (fun j => match j with | 0 => .inr (objs_sealed hso) | j + 1 => .inl (.refl _)) (fun i => .inl (.refl _)) ?_
      refine .region ?_
      refine .u rfl rfl rfl (q_load_bW rfl isAgg29 sizeOf29 (by decide) rfl (by exact bsb) (by rfl)) ?_
      refine AOps.s0 rfl rfl (a_storeA rfl sizeOf29 rfl (by exact (Hp.box_setBox_ne _ _ ne47).trans (Hp.box_setBox _ _ _)) (rfl : _ = V.agg _) rfl (by first | decide | exact Nat.le_of_ble_eq_true rfl) ?_)
      refine .aI rfl rfl <|
        .nil ?_
      refine AW.ret ?_
      exact retQ.mk' (Res.cellB1 isAgg29 sizeOf29 rfl (by exact bsb) rfl) (app_ok hs') (over2 hid4 f7) ⟨rfl, rfl⟩

theorem refApply_calls (s : St) (x : Ev) (hk : x.k ≠ 0 ∧ x.k ≠ 5) (hb : s.objs.length ≤ 1000000) (hl : ∀ z, (s.lists z).length ≤ 1000000) (h : Hp) : ACalls prog G 101 [eState s, eEv x] h fun r h' => r = .tup [eState (appSt s x), .int .i64 (evDo s x).2] ∧ h' = h := by
  by_cases hA : evCheck x = 0 ∧ (x.k = 1 ∨ x.k = 2) ∧ x.a < s.objs.length
  · exact refApplyA s x hA.1 hA.2.1 hA.2.2 hb hl h
  · exact refApplyI s x hk (fun h1 h2 => by
      by_cases h3 : x.a < s.objs.length
      · exact absurd ⟨h1, h2, h3⟩ hA
      · omega) hb hl h

end Go.Proofs.YtnbmcbkokaoapaaGreatDoor
