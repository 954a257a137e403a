/- Walks: the same cards; which ability any object is, by the document; the law. -/
import Derived.Test.YtagcjkbogaoifaaGreatDoorTo10
namespace Go.Proofs.YtagcjkbogaoifaaGreatDoor
open Go Go.AV Go.Proofs.Tryz
set_option maxRecDepth 100000
set_option maxHeartbeats 1000000
def costN (c : Cost) : List Int := [c 0, c 1, c 2, c 3, c 4, c 5]
theorem eff0_at {l : List Eff0} {k : Nat} (h : k < l.length) : ((l.flatMap cEff0).drop ((k : Int).toNat * 5)).take 5 = cEff0 (l.getD k noEff0) := flat_at (f := cEff0) (n := 5) (fun _ => rfl) noEff0 h

theorem eff0_same (e : Eff0) (h : Hp) : ACalls prog G 30 [.agg (cEff0 e), .agg (cEff0 e)] h fun r h' => r = .bool true ∧ h' = h := by
  refine ACalls.enter func30 rfl ntmps30 results30 rfl ?_
  refine .seq <|
    .region <|
    .bx rfl rfl <|
    .bx rfl rfl <|
    .aB rfl rfl <|
    .nil <|
    .seq <|
    .seq <|
    .region <|
    .fi rfl f36_0 rfl <|
    .li rfl isAgg3 rfl rfl <|
    .fi rfl f36_0 rfl <|
    .li rfl isAgg3 rfl rfl <|
    .qn rfl rfl rfl <|
    .mB rfl rfl ?_
  refine .gf rfl rfl rfl (fun _ => tl0) (fun hc => q_fa_i rfl underlying36 rfl (by exact sizeOf3) (by decide) rfl (rfl : _ = List.drop 1 _)) ?_
  refine .gf rfl rfl rfl (fun hc => tl1 12 (.opt hc)) (fun hc => q_load_i1 rfl isAgg3 rfl rfl) ?_
  refine .gf rfl rfl rfl (fun _ => tl0) (fun hc => q_fa_i rfl underlying36 rfl (by exact sizeOf3) (by decide) rfl (rfl : _ = List.drop 1 _)) ?_
  refine .gf rfl rfl rfl (fun hc => tl1 14 (.opt hc)) (fun hc => q_load_i1 rfl isAgg3 rfl rfl) ?_
  refine .gf rfl rfl rfl (fun hc => tl2 15 13 (.opt hc) (.opt hc)) (fun hc => q_ne rfl rfl rfl) ?_
  refine .pf rfl rfl rfl rfl <|
    .mB rfl rfl ?_
  refine .gf rfl rfl rfl (fun _ => tl0) (fun hc => q_fa_i rfl underlying36 rfl (by exact sizeOf3) (by decide) rfl (rfl : _ = List.drop 2 _)) ?_
  refine .gf rfl rfl rfl (fun hc => tl1 19 (.opt hc)) (fun hc => q_load_i1 rfl isAgg3 rfl rfl) ?_
  refine .gf rfl rfl rfl (fun _ => tl0) (fun hc => q_fa_i rfl underlying36 rfl (by exact sizeOf3) (by decide) rfl (rfl : _ = List.drop 2 _)) ?_
  refine .gf rfl rfl rfl (fun hc => tl1 21 (.opt hc)) (fun hc => q_load_i1 rfl isAgg3 rfl rfl) ?_
  refine .gf rfl rfl rfl (fun hc => tl2 22 20 (.opt hc) (.opt hc)) (fun hc => q_ne rfl rfl rfl) ?_
  refine .pf rfl rfl rfl rfl <|
    .mB rfl rfl ?_
  refine .gf rfl rfl rfl (fun _ => tl0) (fun hc => q_fa_i rfl underlying36 rfl (by exact sizeOf3) (by decide) rfl (rfl : _ = List.drop 3 _)) ?_
  refine .gf rfl rfl rfl (fun hc => tl1 26 (.opt hc)) (fun hc => q_load_i1 rfl isAgg3 rfl rfl) ?_
  refine .gf rfl rfl rfl (fun _ => tl0) (fun hc => q_fa_i rfl underlying36 rfl (by exact sizeOf3) (by decide) rfl (rfl : _ = List.drop 3 _)) ?_
  refine .gf rfl rfl rfl (fun hc => tl1 28 (.opt hc)) (fun hc => q_load_i1 rfl isAgg3 rfl rfl) ?_
  refine .gf rfl rfl rfl (fun hc => tl2 29 27 (.opt hc) (.opt hc)) (fun hc => q_ne rfl rfl rfl) ?_
  refine .pf rfl rfl rfl rfl <|
    .mB rfl rfl ?_
  refine .gf rfl rfl rfl (fun _ => tl0) (fun hc => q_fa_i rfl underlying36 rfl (by exact sizeOf34) (by decide) rfl (rfl : _ = List.drop 4 _)) ?_
  refine .gf rfl rfl rfl (fun hc => tl1 33 (.opt hc)) (fun hc => q_load_i1 rfl isAgg34 rfl rfl) ?_
  refine .gf rfl rfl rfl (fun hc => tl1 34 (.opt hc)) (fun hc => q_len rfl underlying34 rfl) ?_
  refine .gf rfl rfl rfl (fun _ => tl0) (fun hc => q_fa_i rfl underlying36 rfl (by exact sizeOf34) (by decide) rfl (rfl : _ = List.drop 4 _)) ?_
  refine .gf rfl rfl rfl (fun hc => tl1 36 (.opt hc)) (fun hc => q_load_i1 rfl isAgg34 rfl rfl) ?_
  refine .gf rfl rfl rfl (fun hc => tl1 37 (.opt hc)) (fun hc => q_len rfl underlying34 rfl) ?_
  refine .gf rfl rfl rfl (fun hc => tl2 38 35 (.opt hc) (.opt hc)) (fun hc => q_ne rfl rfl rfl) ?_
  refine .pf rfl rfl rfl rfl <|
    .nil ?_
  refine AW.cond rfl (fun c0 => ?_) (fun c0 => ?_)
  · simp at c0
  · skip
    refine AW.skip ?_
    refine .seq <|
      .seq <|
      .region <|
      .fi rfl f36_4 rfl <|
      .li rfl isAgg34 rfl rfl <|
      .ln rfl underlying34 rfl <|
      .mI rfl rfl <|
      .nil <|
      .block ?_
    refine AW.loop (fun n T hh => ∃ (i : Nat) , i ≤ 0 ∧ n = 0 - i ∧ T = put (put (T0) 44 (V.int .i64 (i : Nat))) 43 (V.int .i64 (0 : Nat)) ∧ hh = h) (0) ?_ ?_
    · skip
      refine Wk.mk (TLe.put (d := 43) (VLe.refl _) (TLe.put (d := 44) (by exact VLe.of_eq (congrArg (V.int .i64) (by first | rfl | omega))) (TLe.zero _))) (HLe.refl _) ⟨0, Nat.zero_le _, rfl, rfl, rfl⟩
    · skip
      rintro n T h' ⟨i, hi, rfl, rfl, rfl⟩
      refine .seq <|
        .region <|
        .ql rfl rfl rfl <|
        .nil <|
        .seq ?_
      refine AW.cond rfl (fun c1 => ?_) (fun c1 => ?_)
      · have hlt : i < 0 := by have := of_decide_eq_true c1; omega
        omega
      · obtain rfl : i = 0 := by have := of_decide_eq_false c1; omega
        refine AW.exit ?_
        refine .seq <|
          .region <|
          .aB rfl rfl <|
          .nil ?_
        refine AW.ret ?_
        exact retQ.mk' (.one _) (VLe.refl _) (HLe.refl _) ⟨rfl, rfl⟩

theorem eff_same (e : Eff) (hb : e.subs.length ≤ 1000000) (h : Hp) : ACalls prog G 30 [.agg (cEff e), .agg (cEff e)] h fun r h' => r = .bool true ∧ h' = h := by
  refine ACalls.enter func30 rfl ntmps30 results30 rfl ?_
  refine .seq <|
    .region <|
    .bx rfl rfl <|
    .bx rfl rfl <|
    .aB rfl rfl <|
    .nil <|
    .seq <|
    .seq <|
    .region <|
    .fi rfl f36_0 rfl <|
    .li rfl isAgg3 rfl rfl <|
    .fi rfl f36_0 rfl <|
    .li rfl isAgg3 rfl rfl <|
    .qn rfl rfl rfl <|
    .mB rfl rfl ?_
  refine .gf rfl rfl rfl (fun _ => tl0) (fun hc => q_fa_i rfl underlying36 rfl (by exact sizeOf3) (by decide) rfl (rfl : _ = List.drop 1 _)) ?_
  refine .gf rfl rfl rfl (fun hc => tl1 12 (.opt hc)) (fun hc => q_load_i1 rfl isAgg3 rfl rfl) ?_
  refine .gf rfl rfl rfl (fun _ => tl0) (fun hc => q_fa_i rfl underlying36 rfl (by exact sizeOf3) (by decide) rfl (rfl : _ = List.drop 1 _)) ?_
  refine .gf rfl rfl rfl (fun hc => tl1 14 (.opt hc)) (fun hc => q_load_i1 rfl isAgg3 rfl rfl) ?_
  refine .gf rfl rfl rfl (fun hc => tl2 15 13 (.opt hc) (.opt hc)) (fun hc => q_ne rfl rfl rfl) ?_
  refine .pf rfl rfl rfl rfl <|
    .mB rfl rfl ?_
  refine .gf rfl rfl rfl (fun _ => tl0) (fun hc => q_fa_i rfl underlying36 rfl (by exact sizeOf3) (by decide) rfl (rfl : _ = List.drop 2 _)) ?_
  refine .gf rfl rfl rfl (fun hc => tl1 19 (.opt hc)) (fun hc => q_load_i1 rfl isAgg3 rfl rfl) ?_
  refine .gf rfl rfl rfl (fun _ => tl0) (fun hc => q_fa_i rfl underlying36 rfl (by exact sizeOf3) (by decide) rfl (rfl : _ = List.drop 2 _)) ?_
  refine .gf rfl rfl rfl (fun hc => tl1 21 (.opt hc)) (fun hc => q_load_i1 rfl isAgg3 rfl rfl) ?_
  refine .gf rfl rfl rfl (fun hc => tl2 22 20 (.opt hc) (.opt hc)) (fun hc => q_ne rfl rfl rfl) ?_
  refine .pf rfl rfl rfl rfl <|
    .mB rfl rfl ?_
  refine .gf rfl rfl rfl (fun _ => tl0) (fun hc => q_fa_i rfl underlying36 rfl (by exact sizeOf3) (by decide) rfl (rfl : _ = List.drop 3 _)) ?_
  refine .gf rfl rfl rfl (fun hc => tl1 26 (.opt hc)) (fun hc => q_load_i1 rfl isAgg3 rfl rfl) ?_
  refine .gf rfl rfl rfl (fun _ => tl0) (fun hc => q_fa_i rfl underlying36 rfl (by exact sizeOf3) (by decide) rfl (rfl : _ = List.drop 3 _)) ?_
  refine .gf rfl rfl rfl (fun hc => tl1 28 (.opt hc)) (fun hc => q_load_i1 rfl isAgg3 rfl rfl) ?_
  refine .gf rfl rfl rfl (fun hc => tl2 29 27 (.opt hc) (.opt hc)) (fun hc => q_ne rfl rfl rfl) ?_
  refine .pf rfl rfl rfl rfl <|
    .mB rfl rfl ?_
  refine .gf rfl rfl rfl (fun _ => tl0) (fun hc => q_fa_i rfl underlying36 rfl (by exact sizeOf34) (by decide) rfl (rfl : _ = List.drop 4 _)) ?_
  refine .gf rfl rfl rfl (fun hc => tl1 33 (.opt hc)) (fun hc => q_load_i1 rfl isAgg34 rfl rfl) ?_
  refine .gf rfl rfl rfl (fun hc => tl1 34 (.opt hc)) (fun hc => q_len rfl underlying34 rfl) ?_
  refine .gf rfl rfl rfl (fun _ => tl0) (fun hc => q_fa_i rfl underlying36 rfl (by exact sizeOf34) (by decide) rfl (rfl : _ = List.drop 4 _)) ?_
  refine .gf rfl rfl rfl (fun hc => tl1 36 (.opt hc)) (fun hc => q_load_i1 rfl isAgg34 rfl rfl) ?_
  refine .gf rfl rfl rfl (fun hc => tl1 37 (.opt hc)) (fun hc => q_len rfl underlying34 rfl) ?_
  refine .gf rfl rfl rfl (fun hc => tl2 38 35 (.opt hc) (.opt hc)) (fun hc => q_ne rfl rfl rfl) ?_
  refine .pf rfl rfl rfl rfl <|
    .nil ?_
  refine AW.cond rfl (fun c0 => ?_) (fun c0 => ?_)
  · simp at c0
  · skip
    refine AW.skip ?_
    refine .seq <|
      .seq <|
      .region <|
      .fi rfl f36_4 rfl <|
      .li rfl isAgg34 rfl rfl <|
      .ln rfl underlying34 rfl <|
      .mI rfl rfl <|
      .nil <|
      .block ?_
    refine AW.loop (fun n T hh => ∃ (k : Nat) , k ≤ e.subs.length ∧ n = e.subs.length - k ∧ T = put (put (put (put (T0) 44 (V.int .i64 (k : Nat))) 43 (V.int .i64 e.subs.length)) 3 (V.iptr (cEff e))) 2 (V.iptr (cEff e)) ∧ hh = h) (e.subs.length) ?_ ?_
    · skip
      refine Wk.mk (TLe.put (d := 2) (VLe.refl _) (TLe.put (d := 3) (VLe.refl _) (TLe.put (d := 43) (VLe.refl _) (TLe.put (d := 44) (by exact VLe.of_eq (congrArg (V.int .i64) (by first | rfl | omega))) (TLe.zero _))))) (HLe.refl _) ⟨0, Nat.zero_le _, rfl, rfl, rfl⟩
    · skip
      rintro n T h' ⟨k, hk, rfl, rfl, rfl⟩
      refine .seq <|
        .region <|
        .ql rfl rfl rfl <|
        .nil <|
        .seq ?_
      refine AW.cond rfl (fun c1 => ?_) (fun c1 => ?_)
      · have hltk : k < e.subs.length := by have := of_decide_eq_true c1; omega
        refine AW.skip ?_
        refine .seq <|
          .block <|
          .seq <|
          .region <|
          .mI rfl rfl <|
          .aI rfl rfl <|
          .nil <|
          .seq ?_
        refine AW.draw [] [] [(0, true), (1, true), (2, true), (3, true), (4, true), (5, true), (6, true), (7, true), (8, true), (9, true), (10, true), (11, true)] mixed (by kernel_rfl) rfl (by kernel_rfl) ?_
        refine .q rfl rfl rfl rfl (q_fa_i rfl underlying36 rfl (by exact sizeOf34) (by decide) rfl (rfl : _ = List.drop 4 _)) ?_
        refine .q rfl rfl rfl rfl (q_load_i1 rfl isAgg34 rfl rfl) ?_
        refine .q rfl rfl rfl rfl (q_mv rfl (rfl : _ = V.int _ _)) ?_
        refine .q rfl rfl rfl rfl (q_ia_s rfl underlying34 sizeOf36 rfl rfl (by omega) (by omega) (eff0_at hltk)) ?_
        refine .q rfl rfl rfl rfl (q_load_iW rfl isAgg36 sizeOf36 rfl (by rfl)) ?_
        refine .q rfl rfl rfl rfl (q_fa_i rfl underlying36 rfl (by exact sizeOf34) (by decide) rfl (rfl : _ = List.drop 4 _)) ?_
        refine .q rfl rfl rfl rfl (q_load_i1 rfl isAgg34 rfl rfl) ?_
        refine .q rfl rfl rfl rfl (q_mv rfl (rfl : _ = V.int _ _)) ?_
        refine .q rfl rfl rfl rfl (q_ia_s rfl underlying34 sizeOf36 rfl rfl (by omega) (by omega) (eff0_at hltk)) ?_
        refine .q rfl rfl rfl rfl (q_load_iW rfl isAgg36 sizeOf36 rfl (by rfl)) ?_
        refine .q rfl rfl rfl rfl (QOp.call rfl (by exact call30) fun h' hl' => by exact eff0_same (e.subs.getD k noEff0) h') ?_
        refine .q rfl rfl rfl rfl (q_not rfl rfl) ?_
        refine AOrd.nil ?_
        refine AW.cond rfl (fun c2 => ?_) (fun c2 => ?_)
        · cases c2
        · skip
          refine AW.skip ?_
          refine .region <|
            .ad rfl rfl rfl (by omega) <|
            .mI rfl rfl <|
            .nil ?_
          refine Wk.mk (TLe.put (d := 2) (VLe.refl _) (TLe.put (d := 3) (VLe.refl _) (TLe.put (d := 43) (VLe.refl _) (TLe.put (d := 44) (by exact VLe.of_eq (congrArg (V.int .i64) (by first | rfl | omega))) (TLe.zero _))))) (HLe.refl _) ⟨_, ?_, k + 1, ?_, rfl, rfl, rfl⟩
          · omega
          · omega
      · obtain rfl : k = e.subs.length := by have := of_decide_eq_false c1; omega
        refine AW.exit ?_
        refine .seq <|
          .region <|
          .aB rfl rfl <|
          .nil ?_
        refine AW.ret ?_
        exact retQ.mk' (.one _) (VLe.refl _) (HLe.refl _) ⟨rfl, rfl⟩

theorem cards_same (q : SK) (c : Card) (hb : c.abs.length ≤ 1000000) (hs : ∀ a ∈ c.abs, a.doo.subs.length ≤ 1000000) (h : Hp) : ACalls prog G 10 [.agg (cCardK q c), .agg (cCardK q c)] h fun r h' => r = .bool true ∧ h' = h := by
  refine ACalls.enter func10 rfl ntmps10 results10 rfl ?_
  refine .seq <|
    .region <|
    .bx rfl rfl <|
    .bx rfl rfl <|
    .aB rfl rfl <|
    .nil <|
    .seq <|
    .seq <|
    .region <|
    .fi rfl f44_0 rfl <|
    .li rfl isAgg3 rfl rfl <|
    .fi rfl f44_0 rfl <|
    .li rfl isAgg3 rfl rfl <|
    .qn rfl rfl rfl <|
    .mB rfl rfl ?_
  refine .gf rfl rfl rfl (fun _ => tl0) (fun hc => q_fa_i rfl underlying44 rfl (by exact sizeOf3) (by decide) rfl (rfl : _ = List.drop 1 _)) ?_
  refine .gf rfl rfl rfl (fun hc => tl1 14 (.opt hc)) (fun hc => q_load_i1 rfl isAgg3 rfl rfl) ?_
  refine .gf rfl rfl rfl (fun _ => tl0) (fun hc => q_fa_i rfl underlying44 rfl (by exact sizeOf3) (by decide) rfl (rfl : _ = List.drop 1 _)) ?_
  refine .gf rfl rfl rfl (fun hc => tl1 16 (.opt hc)) (fun hc => q_load_i1 rfl isAgg3 rfl rfl) ?_
  refine .gf rfl rfl rfl (fun hc => tl2 17 15 (.opt hc) (.opt hc)) (fun hc => q_ne rfl rfl rfl) ?_
  refine .pf rfl rfl rfl rfl <|
    .mB rfl rfl ?_
  refine .gf rfl rfl rfl (fun _ => tl0) (fun hc => q_fa_i rfl underlying44 rfl (by exact sizeOf4) (by decide) rfl (rfl : _ = List.drop 2 _)) ?_
  refine .gf rfl rfl rfl (fun hc => tl1 21 (.opt hc)) (fun hc => q_load_i1 rfl isAgg4 rfl rfl) ?_
  refine .gf rfl rfl rfl (fun _ => tl0) (fun hc => q_fa_i rfl underlying44 rfl (by exact sizeOf4) (by decide) rfl (rfl : _ = List.drop 2 _)) ?_
  refine .gf rfl rfl rfl (fun hc => tl1 23 (.opt hc)) (fun hc => q_load_i1 rfl isAgg4 rfl rfl) ?_
  refine .gf rfl rfl rfl (fun hc => tl2 24 22 (.opt hc) (.opt hc)) (fun hc => q_neb underlying4 rfl rfl rfl) ?_
  refine .pf rfl rfl rfl rfl <|
    .mB rfl rfl ?_
  refine .gf rfl rfl rfl (fun _ => tl0) (fun hc => q_fa_i rfl underlying44 rfl (by exact sizeOf33) (by decide) rfl (rfl : _ = List.drop 3 _)) ?_
  refine .gf rfl rfl rfl (fun hc => tl1 28 (.opt hc)) (fun hc => q_load_iN rfl isAgg33 sizeOf33 rfl (by rfl) rfl) ?_
  refine .gf rfl rfl rfl (fun _ => tl0) (fun hc => q_fa_i rfl underlying44 rfl (by exact sizeOf33) (by decide) rfl (rfl : _ = List.drop 3 _)) ?_
  refine .gf rfl rfl rfl (fun hc => tl1 30 (.opt hc)) (fun hc => q_load_iN rfl isAgg33 sizeOf33 rfl (by rfl) rfl) ?_
  refine .gf rfl rfl rfl (fun hc => tl2 31 29 (.opt hc) (.opt hc)) (fun hc => q_neI (EqI.array (EqI.int isAgg3 underlying3) isAgg33 underlying33 sizeOf3 sizeOf33 rfl) isAgg33 sizeOf33 (by kernel_rfl) rfl (a := costN c.cost) (b := costN c.cost) rfl rfl rfl rfl) ?_
  refine .pf rfl rfl rfl rfl <|
    .mB rfl rfl ?_
  refine .gf rfl rfl rfl (fun _ => tl0) (fun hc => q_fa_i rfl underlying44 rfl (by exact sizeOf3) (by decide) rfl (rfl : _ = List.drop 9 _)) ?_
  refine .gf rfl rfl rfl (fun hc => tl1 35 (.opt hc)) (fun hc => q_load_i1 rfl isAgg3 rfl rfl) ?_
  refine .gf rfl rfl rfl (fun _ => tl0) (fun hc => q_fa_i rfl underlying44 rfl (by exact sizeOf3) (by decide) rfl (rfl : _ = List.drop 9 _)) ?_
  refine .gf rfl rfl rfl (fun hc => tl1 37 (.opt hc)) (fun hc => q_load_i1 rfl isAgg3 rfl rfl) ?_
  refine .gf rfl rfl rfl (fun hc => tl2 38 36 (.opt hc) (.opt hc)) (fun hc => q_ne rfl rfl rfl) ?_
  refine .pf rfl rfl rfl rfl <|
    .mB rfl rfl ?_
  refine .gf rfl rfl rfl (fun _ => tl0) (fun hc => q_fa_i rfl underlying44 rfl (by exact sizeOf3) (by decide) rfl (rfl : _ = List.drop 10 _)) ?_
  refine .gf rfl rfl rfl (fun hc => tl1 42 (.opt hc)) (fun hc => q_load_i1 rfl isAgg3 rfl rfl) ?_
  refine .gf rfl rfl rfl (fun _ => tl0) (fun hc => q_fa_i rfl underlying44 rfl (by exact sizeOf3) (by decide) rfl (rfl : _ = List.drop 10 _)) ?_
  refine .gf rfl rfl rfl (fun hc => tl1 44 (.opt hc)) (fun hc => q_load_i1 rfl isAgg3 rfl rfl) ?_
  refine .gf rfl rfl rfl (fun hc => tl2 45 43 (.opt hc) (.opt hc)) (fun hc => q_ne rfl rfl rfl) ?_
  refine .pf rfl rfl rfl rfl <|
    .mB rfl rfl ?_
  refine .gf rfl rfl rfl (fun _ => tl0) (fun hc => q_fa_i rfl underlying44 rfl (by exact sizeOf3) (by decide) rfl (rfl : _ = List.drop 11 _)) ?_
  refine .gf rfl rfl rfl (fun hc => tl1 49 (.opt hc)) (fun hc => q_load_i1 rfl isAgg3 rfl rfl) ?_
  refine .gf rfl rfl rfl (fun _ => tl0) (fun hc => q_fa_i rfl underlying44 rfl (by exact sizeOf3) (by decide) rfl (rfl : _ = List.drop 11 _)) ?_
  refine .gf rfl rfl rfl (fun hc => tl1 51 (.opt hc)) (fun hc => q_load_i1 rfl isAgg3 rfl rfl) ?_
  refine .gf rfl rfl rfl (fun hc => tl2 52 50 (.opt hc) (.opt hc)) (fun hc => q_ne rfl rfl rfl) ?_
  refine .pf rfl rfl rfl rfl <|
    .mB rfl rfl ?_
  refine .gf rfl rfl rfl (fun _ => tl0) (fun hc => q_fa_i rfl underlying44 rfl (by exact sizeOf42) (by decide) rfl (rfl : _ = List.drop 12 _)) ?_
  refine .gf rfl rfl rfl (fun hc => tl1 56 (.opt hc)) (fun hc => q_load_i1 rfl isAgg42 rfl rfl) ?_
  refine .gf rfl rfl rfl (fun hc => tl1 57 (.opt hc)) (fun hc => q_len rfl underlying42 rfl) ?_
  refine .gf rfl rfl rfl (fun _ => tl0) (fun hc => q_fa_i rfl underlying44 rfl (by exact sizeOf42) (by decide) rfl (rfl : _ = List.drop 12 _)) ?_
  refine .gf rfl rfl rfl (fun hc => tl1 59 (.opt hc)) (fun hc => q_load_i1 rfl isAgg42 rfl rfl) ?_
  refine .gf rfl rfl rfl (fun hc => tl1 60 (.opt hc)) (fun hc => q_len rfl underlying42 rfl) ?_
  refine .gf rfl rfl rfl (fun hc => tl2 61 58 (.opt hc) (.opt hc)) (fun hc => q_ne rfl rfl rfl) ?_
  refine .pf rfl rfl rfl rfl <|
    .nil ?_
  refine AW.cond rfl (fun c0 => ?_) (fun c0 => ?_)
  · simp at c0
  · skip
    refine AW.skip ?_
    refine .seq <|
      .seq <|
      .region <|
      .fi rfl f44_12 rfl <|
      .li rfl isAgg42 rfl rfl <|
      .ln rfl underlying42 rfl <|
      .mI rfl rfl <|
      .nil <|
      .block ?_
    refine AW.loop (fun n T hh => ∃ (k : Nat) , k ≤ c.abs.length ∧ n = c.abs.length - k ∧ T = put (put (put (put (put (T0) 67 (V.int .i64 (k : Nat))) 66 (V.int .i64 c.abs.length)) 65 (V.sl q 14 c.abs.length (c.abs.flatMap cAbil))) 3 (V.iptr (cCardK q c))) 2 (V.iptr (cCardK q c)) ∧ hh = h) (c.abs.length) ?_ ?_
    · skip
      refine Wk.mk (TLe.put (d := 2) (VLe.refl _) (TLe.put (d := 3) (VLe.refl _) (TLe.put (d := 65) (VLe.refl _) (TLe.put (d := 66) (VLe.refl _) (TLe.put (d := 67) (by exact VLe.of_eq (congrArg (V.int .i64) (by first | rfl | omega))) (TLe.zero _)))))) (HLe.refl _) ⟨0, Nat.zero_le _, rfl, rfl, rfl⟩
    · skip
      rintro n T h' ⟨k, hk, rfl, rfl, rfl⟩
      refine .seq <|
        .region <|
        .ql rfl rfl rfl <|
        .nil <|
        .seq ?_
      refine AW.cond rfl (fun c1 => ?_) (fun c1 => ?_)
      · have hltk : k < c.abs.length := by have := of_decide_eq_true c1; omega
        have hsk := hs _ (show c.abs.getD k noAb ∈ c.abs by rw [List.getD_eq_getElem?_getD, List.getElem?_eq_getElem hltk]; exact List.getElem_mem hltk)
        refine AW.skip ?_
        refine .seq <|
          .block <|
          .seq <|
          .region <|
          .mI rfl rfl ?_
        refine .u rfl rfl rfl (q_ia_s rfl underlying42 sizeOf38 rfl rfl (by omega) (by omega) (abil_elem_n hltk)) ?_
        refine .lw rfl isAgg38 sizeOf38 rfl rfl ?_
        refine AOps.s rfl rfl rfl (a_alloc rfl zeroValue38 rfl (fun id6 hid6 => ?_))
        refine .aI rfl rfl <|
          .sw sizeOf38 rfl rfl rfl rfl ?_
        refine AOps.done 6 rfl hid6 ?_
        refine .nil <|
          .seq <|
          .region <|
          .fi rfl f44_12 rfl <|
          .li rfl isAgg42 rfl rfl <|
          .mI rfl rfl ?_
        refine .u rfl rfl rfl (q_ia_s rfl underlying42 sizeOf38 rfl rfl (by omega) (by omega) (abil_elem_n hltk)) ?_
        refine .lw rfl isAgg38 sizeOf38 rfl rfl ?_
        refine AOps.s rfl rfl rfl (a_alloc rfl zeroValue38 rfl (fun id7 hid7 => ?_))
        refine .sw sizeOf38 rfl rfl rfl rfl ?_
        refine AOps.done 7 rfl hid7 ?_
        refine .nil <|
          .seq <|
          .region <|
          .fi rfl f38_0 rfl <|
          .li rfl isAgg3 rfl rfl <|
          .fi rfl f38_0 rfl <|
          .li rfl isAgg3 rfl rfl <|
          .qn rfl rfl rfl <|
          .mB rfl rfl ?_
        refine .gf rfl rfl rfl (fun _ => tl0) (fun hc => q_fa_i rfl underlying38 rfl (by exact sizeOf33) (by decide) rfl (rfl : _ = List.drop 1 _)) ?_
        refine .gf rfl rfl rfl (fun hc => tl1 83 (.opt hc)) (fun hc => q_load_iN rfl isAgg33 sizeOf33 rfl (by rfl) rfl) ?_
        refine .gf rfl rfl rfl (fun _ => tl0) (fun hc => q_fa_i rfl underlying38 rfl (by exact sizeOf33) (by decide) rfl (rfl : _ = List.drop 1 _)) ?_
        refine .gf rfl rfl rfl (fun hc => tl1 85 (.opt hc)) (fun hc => q_load_iN rfl isAgg33 sizeOf33 rfl (by rfl) rfl) ?_
        refine .gf rfl rfl rfl (fun hc => tl2 86 84 (.opt hc) (.opt hc)) (fun hc => q_neI (EqI.array (EqI.int isAgg3 underlying3) isAgg33 underlying33 sizeOf3 sizeOf33 rfl) isAgg33 sizeOf33 (by kernel_rfl) rfl (a := costN (c.abs.getD k noAb).cost) (b := costN (c.abs.getD k noAb).cost) rfl rfl rfl rfl) ?_
        refine .pf rfl rfl rfl rfl <|
          .mB rfl rfl ?_
        refine .gf rfl rfl rfl (fun _ => tl0) (fun hc => q_fa_i rfl underlying38 rfl (by exact sizeOf4) (by decide) rfl (rfl : _ = List.drop 7 _)) ?_
        refine .gf rfl rfl rfl (fun hc => tl1 90 (.opt hc)) (fun hc => q_load_i1 rfl isAgg4 rfl rfl) ?_
        refine .gf rfl rfl rfl (fun _ => tl0) (fun hc => q_fa_i rfl underlying38 rfl (by exact sizeOf4) (by decide) rfl (rfl : _ = List.drop 7 _)) ?_
        refine .gf rfl rfl rfl (fun hc => tl1 92 (.opt hc)) (fun hc => q_load_i1 rfl isAgg4 rfl rfl) ?_
        refine .gf rfl rfl rfl (fun hc => tl2 93 91 (.opt hc) (.opt hc)) (fun hc => q_neb underlying4 rfl rfl rfl) ?_
        refine .pf rfl rfl rfl rfl <|
          .mB rfl rfl ?_
        refine .gf rfl rfl rfl (fun _ => tl0) (fun hc => q_fa_i rfl underlying38 rfl (by exact sizeOf3) (by decide) rfl (rfl : _ = List.drop 8 _)) ?_
        refine .gf rfl rfl rfl (fun hc => tl1 97 (.opt hc)) (fun hc => q_load_i1 rfl isAgg3 rfl rfl) ?_
        refine .gf rfl rfl rfl (fun _ => tl0) (fun hc => q_fa_i rfl underlying38 rfl (by exact sizeOf3) (by decide) rfl (rfl : _ = List.drop 8 _)) ?_
        refine .gf rfl rfl rfl (fun hc => tl1 99 (.opt hc)) (fun hc => q_load_i1 rfl isAgg3 rfl rfl) ?_
        refine .gf rfl rfl rfl (fun hc => tl2 100 98 (.opt hc) (.opt hc)) (fun hc => q_ne rfl rfl rfl) ?_
        refine .pf rfl rfl rfl rfl <|
          .mB rfl rfl ?_
        refine .gf rfl rfl rfl (fun _ => tl0) (fun hc => q_fa_i rfl underlying38 rfl (by exact sizeOf36) (by decide) rfl (rfl : _ = List.drop 9 _)) ?_
        refine .gf rfl rfl rfl (fun hc => tl1 104 (.opt hc)) (fun hc => q_load_iN rfl isAgg36 sizeOf36 rfl (by rfl) rfl) ?_
        refine .gf rfl rfl rfl (fun _ => tl0) (fun hc => q_fa_i rfl underlying38 rfl (by exact sizeOf36) (by decide) rfl (rfl : _ = List.drop 9 _)) ?_
        refine .gf rfl rfl rfl (fun hc => tl1 106 (.opt hc)) (fun hc => q_load_iN rfl isAgg36 sizeOf36 rfl (by rfl) rfl) ?_
        refine .gf rfl rfl rfl (fun hc => tl2 107 105 (.opt hc) (.opt hc)) (fun hc => QOp.call rfl (by exact call30) fun h' hl' => by exact eff_same (c.abs.getD k noAb).doo hsk h') ?_
        refine .gf rfl rfl rfl (fun hc => tl1 108 (.opt hc)) (fun hc => q_not rfl rfl) ?_
        refine .pf rfl rfl rfl rfl <|
          .nil ?_
        refine AW.cond rfl (fun c2 => ?_) (fun c2 => ?_)
        · simp at c2
        · skip
          refine AW.skip ?_
          refine .region <|
            .ad rfl rfl rfl (by omega) <|
            .mI rfl rfl <|
            .nil ?_
          refine Wk.mk (TLe.put (d := 2) (VLe.refl _) (TLe.put (d := 3) (VLe.refl _) (TLe.put (d := 65) (VLe.refl _) (TLe.put (d := 66) (VLe.refl _) (TLe.put (d := 67) (by exact VLe.of_eq (congrArg (V.int .i64) (by first | rfl | omega))) (TLe.zero _)))))) (HLe.refl _) ⟨_, ?_, k + 1, ?_, rfl, rfl, rfl⟩
          · omega
          · omega
      · obtain rfl : k = c.abs.length := by have := of_decide_eq_false c1; omega
        refine AW.exit ?_
        refine .seq <|
          .region <|
          .aB rfl rfl <|
          .nil ?_
        refine AW.ret ?_
        exact retQ.mk' (.one _) (VLe.refl _) (HLe.refl _) ⟨rfl, rfl⟩

theorem kindT_none {s : St} {i : Int} (hi : 0 ≤ i ∧ i < s.objs.length) : kindT s i = ((cardE (s.objs.getD i.toNat noObj 0)).1, (cardE (s.objs.getD i.toNat noObj 0)).2 == 0) := by rw [kindT, if_pos hi]
theorem rhas_eq {s : St} {i n : Int} (hi : 0 ≤ i ∧ i < s.objs.length) : (bif decide (0 ≤ n) then decide (n < ((cardE (s.objs.getD i.toNat noObj 0)).1.abs.length : Int)) else false) = hasT s i n := by
  unfold hasT
  rw [kindT_none hi]
  cases e : ((cardE (s.objs.getD i.toNat noObj 0)).2 == 0)
  · have h1 : (cardE (s.objs.getD i.toNat noObj 0)).1 = noCard := cardE_err (by simpa using e)
    rw [h1]
    have : (noCard.abs.length : Int) = 0 := rfl
    rw [this]
    by_cases h : 0 ≤ n
    · have : ¬ n < 0 := by omega
      simp [h, this]
    · simp [h]
  · simp only [Bool.true_and]; cases decide (0 ≤ n) <;> rfl
theorem hasT_no {s : St} {i n : Int} (hi : ¬ (0 ≤ i ∧ i < s.objs.length)) : hasT s i n = false := by
  unfold hasT kindT; rw [if_neg hi]; rfl
theorem rng_n2 {i : Int} {n : Nat} {b : Bool} (c : (!bif (bif decide (i < 0) then true else decide ((n : Int) ≤ i)) then true else b) = true) : 0 ≤ i ∧ i < n := rng_f (by cases e : (bif decide (i < 0) then true else decide ((n : Int) ≤ i)) <;> simp_all)

theorem rhasT_calls (s : St) (i n : Int) (hb : s.objs.length ≤ 1000000) (h : Hp) : ACalls prog G 28 [eState s, .int .i64 i, .int .i64 n] h fun r h' => r = .bool (hasT s i n) ∧ h' = h := by
  refine ACalls.enter func28 rfl ntmps28 results28 rfl ?_
  refine .seq <|
    .region <|
    .bx rfl rfl <|
    .aB rfl rfl <|
    .nil <|
    .seq <|
    .seq <|
    .region <|
    .mI rfl rfl <|
    .ql rfl rfl rfl <|
    .mB rfl rfl ?_
  refine .gf rfl rfl rfl (fun _ => tl0) (fun hc => q_mv rfl (rfl : _ = V.int _ _)) ?_
  refine .gf rfl rfl rfl (fun _ => tl0) (fun hc => q_fa_i rfl underlying29 rfl (by exact sizeOf22) (by decide) rfl (rfl : _ = List.drop 0 _)) ?_
  refine .gf rfl rfl rfl (fun hc => tl1 13 (.opt hc)) (fun hc => q_load_i1 rfl isAgg22 rfl rfl) ?_
  refine .gf rfl rfl rfl (fun hc => tl1 14 (.opt hc)) (fun hc => q_len rfl underlying22 rfl) ?_
  refine .gf rfl rfl rfl (fun hc => tl2 15 12 (.opt hc) (.opt hc)) (fun hc => q_ge rfl rfl rfl) ?_
  refine .pf rfl rfl rfl rfl <|
    .nil ?_
  refine AW.cond rfl (fun c0 => ?_) (fun c0 => ?_)
  · have hi := rng_t c0
    refine .seq <|
      .region <|
      .aB rfl rfl <|
      .nil ?_
    refine AW.ret ?_
    exact retQ.mk' (.one _) (VLe.of_eq (congrArg V.bool ((hasT_no hi).symm))) (HLe.refl _) ⟨rfl, rfl⟩
  · have hi := rng_f c0
    refine AW.skip ?_
    refine .seq <|
      .region <|
      .fi rfl f29_0 rfl <|
      .li rfl isAgg22 rfl rfl <|
      .mI rfl rfl ?_
    refine .u rfl rfl rfl (q_ia_s rfl underlying22 sizeOf72 rfl rfl (by omega) (by omega) (cObjs_elem' (by omega) (by omega))) ?_
    refine .u rfl rfl rfl (q_ia_ai rfl underlying72 sizeOf3 rfl rfl (by decide) (by decide) rfl) ?_
    refine .li rfl isAgg3 rfl rfl ?_
    refine .u rfl rfl rfl (QOp.call rfl call29 fun h' hl' => by exact refCard_calls _ h') ?_
    refine .u rfl rfl rfl (q_mv rfl (rfl : _ = V.tup _)) ?_
    refine .u rfl rfl rfl (q_extract rfl rfl rfl) ?_
    refine .u rfl rfl rfl (q_extract rfl rfl rfl) ?_
    refine AOps.s rfl rfl rfl (a_alloc rfl zeroValue44 rfl (fun id7 hid7 => ?_))
    refine .sw sizeOf44 rfl rfl rfl rfl ?_
    refine AOps.done 7 rfl hid7 ?_
    refine .aB rfl rfl <|
      .nil <|
      .seq <|
      .region <|
      .mI rfl rfl <|
      .qg rfl rfl rfl <|
      .mB rfl rfl ?_
    refine .gt rfl rfl rfl (fun _ => tl0) (fun hc => q_mv rfl (rfl : _ = V.int _ _)) ?_
    refine .gt rfl rfl rfl (fun _ => tl0) (fun hc => q_fa_i rfl underlying44 rfl (by exact sizeOf42) (by decide) rfl (rfl : _ = List.drop 12 _)) ?_
    refine .gt rfl rfl rfl (fun hc => tl1 32 (.opt hc)) (fun hc => q_load_i1 rfl isAgg42 rfl rfl) ?_
    refine .gt rfl rfl rfl (fun hc => tl1 33 (.opt hc)) (fun hc => q_len rfl underlying42 rfl) ?_
    refine .gt rfl rfl rfl (fun hc => tl2 34 31 (.opt hc) (.opt hc)) (fun hc => q_lt rfl rfl rfl) ?_
    refine .pt rfl rfl rfl rfl <|
      .aB rfl rfl <|
      .nil ?_
    refine AW.ret ?_
    exact retQ.mk' (.one _) (VLe.of_eq (congrArg V.bool (rhas_eq hi))) (HLe.refl _) ⟨rfl, rfl⟩

theorem ofT_no {s : St} {i : Int} (h : ¬ (((0 ≤ i ∧ i < s.objs.length) ∧ s.objs.getD i.toNat noObj 13 = 2) ∧ hasT s i (s.objs.getD i.toNat noObj 14) = true)) : ofT s i = (noAbil, false) := by
  unfold ofT
  split
  · rename_i h1
    rw [if_neg (fun e => h ⟨h1, e⟩)]
  · rfl

theorem rofT_calls (s : St) (i : Int) (hb : s.objs.length ≤ 1000000) (h : Hp) : ACalls prog G 9 [eState s, .int .i64 i] h fun r h' => r = .tup [eAbil (ofT s i).1, .bool (ofT s i).2] ∧ h' = h := by
  refine ACalls.enter func9 rfl ntmps9 results9 rfl ?_
  refine .seq <|
    .region <|
    .bx rfl rfl ?_
  refine AOps.s rfl rfl rfl (a_alloc rfl zeroValue38 rfl (fun id4 hid4 => ?_))
  refine .aB rfl rfl <|
    .nil <|
    .seq <|
    .seq ?_
  refine AW.draw [] [] [(0, true), (1, true), (2, true), (3, true), (4, true), (5, true), (6, true), (7, true), (8, true), (9, true), (10, true), (11, true), (12, true), (13, true), (14, true), (15, true), (16, true), (17, true), (18, true), (19, true), (20, true), (21, true), (22, true), (23, true), (24, true), (25, true), (26, true), (27, true), (28, true), (29, true)] mixed (by kernel_rfl) rfl (by kernel_rfl) ?_
  refine .q rfl rfl rfl rfl (q_mv rfl (rfl : _ = V.int _ _)) ?_
  refine .q rfl rfl rfl rfl (q_lt rfl rfl rfl) ?_
  refine .q rfl rfl rfl rfl (q_mv rfl (rfl : _ = V.bool _)) ?_
  refine AOrd.g rfl rfl (wanted_f rfl rfl) rfl (fun _ => tl0) (fun hc => q_mv rfl (rfl : _ = V.int _ _)) ?_
  refine AOrd.g rfl rfl (wanted_f rfl rfl) rfl (fun _ => tl0) (fun hc => q_fa_i rfl underlying29 rfl (by exact sizeOf22) (by decide) rfl (rfl : _ = List.drop 0 _)) ?_
  refine AOrd.g rfl rfl (wanted_f rfl rfl) rfl (fun hc => tl1 12 (.opt hc)) (fun hc => q_load_i1 rfl isAgg22 rfl rfl) ?_
  refine AOrd.g rfl rfl (wanted_f rfl rfl) rfl (fun hc => tl1 13 (.opt hc)) (fun hc => q_len rfl underlying22 rfl) ?_
  refine AOrd.g rfl rfl (wanted_f rfl rfl) rfl (fun hc => tl2 14 11 (.opt hc) (.opt hc)) (fun hc => q_ge rfl rfl rfl) ?_
  refine .q rfl rfl rfl rfl (q_pickg rfl rfl (fun hp => by exact VLe.refl _) (fun hp => by first | exact VLe.opt hp | exact VLe.opt (by rw [hp]; rfl) | exact VLe.opt (by simp_all))) ?_
  refine .q rfl rfl rfl rfl (q_mv rfl (rfl : _ = V.bool _)) ?_
  refine AOrd.g rfl rfl (wanted_f rfl rfl) rfl (fun _ => tl0) (fun hc => q_fa_i rfl underlying29 rfl (by exact sizeOf22) (by decide) rfl (rfl : _ = List.drop 0 _)) ?_
  refine AOrd.g rfl rfl (wanted_f rfl rfl) rfl (fun hc => tl1 18 (.opt hc)) (fun hc => q_load_i1 rfl isAgg22 rfl rfl) ?_
  refine AOrd.g rfl rfl (wanted_f rfl rfl) rfl (fun _ => tl0) (fun hc => q_mv rfl (rfl : _ = V.int _ _)) ?_
  refine AOrd.g rfl rfl (wanted_f rfl rfl) rfl (fun hc => tl2 20 19 (.opt hc) (.opt hc)) (fun hc => q_ia_s rfl underlying22 sizeOf72 rfl rfl (rng_n hc).1 (rng_n hc).2 (cObjs_elem' (rng_n hc).1 (rng_n hc).2)) ?_
  refine AOrd.g rfl rfl (wanted_f rfl rfl) rfl (fun hc => tl1 21 (.opt hc)) (fun hc => q_ia_ai rfl underlying72 sizeOf3 rfl rfl (by decide) (by decide) rfl) ?_
  refine AOrd.g rfl rfl (wanted_f rfl rfl) rfl (fun hc => tl1 22 (.opt hc)) (fun hc => q_load_i1 rfl isAgg3 rfl rfl) ?_
  refine AOrd.g rfl rfl (wanted_f rfl rfl) rfl (fun hc => tl1 23 (.opt hc)) (fun hc => q_ne rfl rfl rfl) ?_
  refine .q rfl rfl rfl rfl (q_pickg rfl rfl (fun hp => by exact VLe.refl _) (fun hp => by first | exact VLe.opt hp | exact VLe.opt (by rw [hp]; rfl) | exact VLe.opt (by simp_all))) ?_
  refine .q rfl rfl rfl rfl (q_mv rfl (rfl : _ = V.bool _)) ?_
  refine AOrd.g rfl rfl (wanted_f rfl rfl) rfl (fun _ => tl0) (fun hc => q_load_iW rfl isAgg29 sizeOf29 rfl (by rfl)) ?_
  refine AOrd.g rfl rfl (wanted_f rfl rfl) rfl (fun _ => tl0) (fun hc => q_mv rfl (rfl : _ = V.int _ _)) ?_
  refine AOrd.g rfl rfl (wanted_f rfl rfl) rfl (fun _ => tl0) (fun hc => q_fa_i rfl underlying29 rfl (by exact sizeOf22) (by decide) rfl (rfl : _ = List.drop 0 _)) ?_
  refine AOrd.g rfl rfl (wanted_f rfl rfl) rfl (fun hc => tl1 29 (.opt hc)) (fun hc => q_load_i1 rfl isAgg22 rfl rfl) ?_
  refine AOrd.g rfl rfl (wanted_f rfl rfl) rfl (fun _ => tl0) (fun hc => q_mv rfl (rfl : _ = V.int _ _)) ?_
  refine AOrd.g rfl rfl (wanted_f rfl rfl) rfl (fun hc => tl2 31 30 (.opt hc) (.opt hc)) (fun hc => q_ia_s rfl underlying22 sizeOf72 rfl rfl (rng_n2 hc).1 (rng_n2 hc).2 (cObjs_elem' (rng_n2 hc).1 (rng_n2 hc).2)) ?_
  refine AOrd.g rfl rfl (wanted_f rfl rfl) rfl (fun hc => tl1 32 (.opt hc)) (fun hc => q_ia_ai rfl underlying72 sizeOf3 rfl rfl (by decide) (by decide) rfl) ?_
  refine AOrd.g rfl rfl (wanted_f rfl rfl) rfl (fun hc => tl1 33 (.opt hc)) (fun hc => q_load_i1 rfl isAgg3 rfl rfl) ?_
  refine AOrd.g rfl rfl (wanted_f rfl rfl) rfl (fun hc => TLe.put (d := 34) (VLe.opt hc) (TLe.put (d := 28) (VLe.opt hc) (TLe.put (d := 27) (VLe.opt hc) (TLe.refl _)))) (fun hc => QOp.call rfl (by exact call28) fun h' hl' => by exact rhasT_calls s i _ hb h') ?_
  refine AOrd.g rfl rfl (wanted_f rfl rfl) rfl (fun hc => tl1 35 (.opt hc)) (fun hc => q_not rfl rfl) ?_
  refine .q rfl rfl rfl rfl (q_pickg rfl rfl (fun hp => by exact VLe.refl _) (fun hp => by first | exact VLe.opt hp | exact VLe.opt (by rw [hp]; rfl) | exact VLe.opt (by simp_all))) ?_
  refine AOrd.nil ?_
  refine AW.cond rfl (fun c0 => ?_) (fun c0 => ?_)
  · have hno : ¬ (((0 ≤ i ∧ i < s.objs.length) ∧ s.objs.getD i.toNat noObj 13 = 2) ∧ hasT s i (s.objs.getD i.toNat noObj 14) = true) := fun e => by
      rcases or_t c0 with c | c
      · rcases or_t c with c | c
        · exact rng_t c e.1.1
        · exact absurd e.1.2 (by simpa using c)
      · rw [e.2] at c; cases c
    refine .seq <|
      .region ?_
    refine .u rfl rfl rfl (q_buildS (ds := [.int .i64 0, .int .i64 0, .int .i64 0, .int .i64 0, .int .i64 0, .int .i64 0, .int .i64 0, .bool false, .int .i64 0, .int .i64 0, .int .i64 0, .int .i64 0, .int .i64 0, .snil]) rfl zeroValue38 underlying38 (pl38 underlying38) rfl (by kernel_rfl)) ?_
    refine .sw sizeOf38 rfl rfl rfl rfl <|
      .aB rfl rfl <|
      .nil ?_
    refine AW.ret ?_
    exact retQ.mk' (Res.cellB1 isAgg38 sizeOf38 rfl (by exact bsb) rfl) (by rw [ofT_no hno]; exact LLe.tup (.cons zAbil_le.agg (.cons (.refl _) .nil))) (HLe.setBox hid4.1) ⟨rfl, rfl⟩
  · have hi := rng_f (or_f (or_f c0).1).1
    have h13 : s.objs.getD i.toNat noObj 13 = 2 := by simpa using (or_f (or_f c0).1).2
    have hh : hasT s i (s.objs.getD i.toNat noObj 14) = true := by simpa using (or_f c0).2
    have hn := has_in hh
    rw [kindT_none hi] at hn
    refine AW.skip ?_
    refine .seq <|
      .region <|
      .fi rfl f29_0 rfl <|
      .li rfl isAgg22 rfl rfl <|
      .mI rfl rfl ?_
    refine .u rfl rfl rfl (q_ia_s rfl underlying22 sizeOf72 rfl rfl (by omega) (by omega) (cObjs_elem' (by omega) (by omega))) ?_
    refine .u rfl rfl rfl (q_ia_ai rfl underlying72 sizeOf3 rfl rfl (by decide) (by decide) rfl) ?_
    refine .li rfl isAgg3 rfl rfl ?_
    refine .u rfl rfl rfl (QOp.call rfl call29 fun h' hl' => by exact refCard_calls _ h') ?_
    refine .u rfl rfl rfl (q_mv rfl (rfl : _ = V.tup _)) ?_
    refine .u rfl rfl rfl (q_extract rfl rfl rfl) ?_
    refine .u rfl rfl rfl (q_extract rfl rfl rfl) ?_
    refine AOps.s rfl rfl rfl (a_alloc rfl zeroValue44 rfl (fun id6 hid6 => ?_))
    refine .sw sizeOf44 rfl rfl rfl rfl ?_
    refine AOps.done 6 rfl hid6 ?_
    refine .aB rfl rfl <|
      .nil <|
      .seq ?_
    refine AW.draw [10] [] [(0, true), (1, true), (2, true), (3, true), (4, true), (5, true), (6, true), (7, true), (8, true), (9, true), (10, false), (11, true)] mixed (by kernel_rfl) rfl (by kernel_rfl) ?_
    refine .q rfl rfl rfl rfl (q_fa_i rfl underlying44 rfl (by exact sizeOf42) (by decide) rfl (rfl : _ = List.drop 12 _)) ?_
    refine .q rfl rfl rfl rfl (q_load_i1 rfl isAgg42 rfl rfl) ?_
    refine .q rfl rfl rfl rfl (q_fa_i rfl underlying29 rfl (by exact sizeOf22) (by decide) rfl (rfl : _ = List.drop 0 _)) ?_
    refine .q rfl rfl rfl rfl (q_load_i1 rfl isAgg22 rfl rfl) ?_
    refine .q rfl rfl rfl rfl (q_mv rfl (rfl : _ = V.int _ _)) ?_
    refine .q rfl rfl rfl rfl (q_ia_s rfl underlying22 sizeOf72 rfl rfl (by omega) (by omega) (cObjs_elem' (by omega) (by omega))) ?_
    refine .q rfl rfl rfl rfl (q_ia_ai rfl underlying72 sizeOf3 rfl rfl (by decide) (by decide) rfl) ?_
    refine .q rfl rfl rfl rfl (q_load_i1 rfl isAgg3 rfl rfl) ?_
    refine .q rfl rfl rfl rfl (q_ia_s rfl underlying42 sizeOf38 rfl rfl hn.1 hn.2 (abilT_at hn)) ?_
    refine .q rfl rfl rfl rfl (q_load_iW rfl isAgg38 sizeOf38 rfl (by rfl)) ?_
    refine AOrd.s0 rfl rfl rfl rfl (a_storeWA rfl sizeOf38 rfl rfl (rfl : _ = V.agg _) rfl rfl ?_)
    refine .q rfl rfl rfl rfl (q_as rfl (rfl : _ = V.bool _)) ?_
    refine AOrd.nil ?_
    refine AW.ret ?_
    exact retQ.mk' (Res.cellB1 isAgg38 sizeOf38 rfl (by exact bsb) rfl) (by rw [ofT, if_pos ⟨hi, h13⟩, if_pos hh, kindT_none hi]; exact .refl _) (HLe.setBox hid4.1) ⟨rfl, rfl⟩

end Go.Proofs.YtagcjkbogaoifaaGreatDoor
/- Walks: the law's fixed fact; which ability any object is. -/
namespace Go.Proofs.YtagcjkbogaoifaaGreatDoor
open Go Go.AV Go.Proofs.Tryz
set_option maxRecDepth 100000
set_option maxHeartbeats 1000000
def al21O : Obj := fun f => match f with | 0 => 10 | 3 => 2 | _ => 0
def al21St : St := ⟨[al21O], fun z => if z = 2 then [0] else [], fun _ f => if f = 0 then 20 else 0, fun _ => 0⟩
def al0 : Em := newF al21St []
def al1 : Em := al0.putF 0 8
def al2 : Em := if al1.state.game 6 ≠ 0 then al1.noPend else al1.flushF
theorem al_a : al1.err = 0 ∧ quietF al1.state = true ∧ al1.pending.length ≤ 1 ∧ al0.pend.length = 0 := by decide +kernel
theorem al_b : al2.err = 0 ∧ (al2.state.lists 9).length = 1 ∧ (ofT al2.state 1).2 = true ∧ (ofT al2.state 1).1.when = 2 ∧ al2.state.objs.getD 1 noObj 15 = 1 ∧ al2.state.objs.length = 2 := by decide +kernel
theorem al_runs {f : Int} {m : Em} {n : Int} (h : Runs f al1 0 m n) : m = al1 := by
  cases h with
  | quiet h => rfl
  | out a b _ => rw [al_a.2.1] at b; cases b
  | more a b _ _ => rw [al_a.2.1] at b; cases b
theorem al_few : Few al21St := fun z hz => by simp only [al21St]; rw [if_neg (by omega)]
theorem al_p : EmP al1 := putF_p (new_p al_few)
theorem al2_p : EmP al2 := by
  unfold al2; split
  · exact noPend_p al_p.inv
  · exact abL_p (noPend_p al_p.inv)
theorem al_le : VLe (V.agg ([V.sl .full 18 1 (cObj al21O), .snil, .snil, V.sl .full 1 1 [.int .i64 0], .snil, .snil, .snil, .snil, .snil, .snil, .snil, .snil] ++ (cState al21St).drop 12)) (eState al21St) := by
  refine LLe.agg (LLe.append (d := (cState al21St).drop 12) (b := (cState al21St).take 12) ?_ (LLe.refl _))
  exact .cons .fullimm (.cons .nilimm (.cons .nilimm (.cons .fullimm (.cons .nilimm (.cons .nilimm (.cons .nilimm (.cons .nilimm (.cons .nilimm (.cons .nilimm (.cons .nilimm (.cons .nilimm .nil)))))))))))
theorem cardF_sub1 : ∀ k : Fin 120, ((cardF (k.val : Int)).abs.all fun a => decide (a.doo.subs.length ≤ 1000)) = true := by decide +kernel
theorem cardE_sub1 (n : Int) : ∀ a ∈ (cardE n).1.abs, a.doo.subs.length ≤ 1000 := by
  unfold cardE
  split
  · intro a ha; simp [noCard] at ha
  · rename_i h
    have := cardF_sub1 ⟨n.toNat, by omega⟩
    have e : ((n.toNat : Nat) : Int) = n := by omega
    simp only [e, List.all_eq_true, decide_eq_true_eq] at this
    exact this
theorem ofT_subs {s : St} {i : Int} : (ofT s i).1.doo.subs.length ≤ 1000000 := by
  unfold ofT
  split
  · rename_i h1
    split
    · rename_i hh
      have hn := has_in hh
      rw [kindT_none h1.1] at hn ⊢
      have hm := getD_mem' (z := noAbil) (l := (cardE (s.objs.getD i.toNat noObj 0)).1.abs) (k := (s.objs.getD i.toNat noObj 14).toNat) (by have := hn.1; have := hn.2; simp only at this; omega)
      have hle := cardE_sub1 (s.objs.getD i.toNat noObj 0) _ hm
      exact Nat.le_trans hle (by decide)
    · decide
  · decide

theorem alive21_calls (h : Hp) : ACalls prog G 6 [] h fun r h' => r = .bool true ∧ h' = h := by
  refine ACalls.enter func6 rfl ntmps6 results6 rfl ?_
  refine .seq <|
    .region <|
    .aB rfl rfl <|
    .nil <|
    .seq <|
    .region ?_
  refine .u rfl rfl rfl (q_buildA (ds := cObj al21O) rfl zeroValue72 underlying72 sizeOf3 rfl (by kernel_rfl)) ?_
  refine .u rfl rfl rfl (q_buildSl rfl underlying22 sizeOf72 zeroValue72 rfl rfl rfl rfl rfl) ?_
  refine .u rfl rfl rfl (q_buildS (ds := [V.sl .full 18 1 (cObj al21O), .snil, .snil, .snil, .snil, .snil, .snil, .snil, .snil, .snil, .snil, .snil] ++ zState.drop 12) rfl zeroValue29 underlying29 (pl29 underlying29) rfl (by kernel_rfl)) ?_
  refine AOps.s rfl rfl rfl (a_alloc rfl zeroValue29 rfl (fun id1 hid1 => ?_))
  refine .sw sizeOf29 rfl rfl rfl rfl <|
    .nil <|
    .seq <|
    .region ?_
  refine .u rfl rfl rfl (q_buildSl rfl underlying23 sizeOf3 zeroValue3 rfl rfl rfl rfl rfl) ?_
  refine .fb rfl f29_1 rfl rfl ?_
  refine .u rfl rfl rfl (q_ia_ab rfl underlying24 sizeOf23 rfl rfl (by decide) (by decide)) ?_
  refine AOps.s0 rfl rfl (a_store1 rfl sizeOf23 rfl (by exact bsb) (rfl : _ = V.sl _ _ _ _) rfl rfl (by first | decide | exact Nat.le_of_ble_eq_true rfl) ?_)
  refine .nil <|
    .seq <|
    .region <|
    .fb rfl f29_12 rfl rfl ?_
  refine .u rfl rfl rfl (q_ia_ab rfl underlying26 sizeOf25 rfl rfl (by decide) (by decide)) ?_
  refine .u rfl rfl rfl (q_ia_ab rfl underlying25 sizeOf3 rfl rfl (by decide) (by decide)) ?_
  refine AOps.s0 rfl rfl (a_store1 rfl sizeOf3 rfl (by exact bsb) (rfl : _ = V.int _ _) rfl rfl (by first | decide | exact Nat.le_of_ble_eq_true rfl) ?_)
  refine .fb rfl f29_12 rfl rfl ?_
  refine .u rfl rfl rfl (q_ia_ab rfl underlying26 sizeOf25 rfl rfl (by decide) (by decide)) ?_
  refine .u rfl rfl rfl (q_ia_ab rfl underlying25 sizeOf3 rfl rfl (by decide) (by decide)) ?_
  refine AOps.s0 rfl rfl (a_store1 rfl sizeOf3 rfl (by exact bsb) (rfl : _ = V.int _ _) rfl rfl (by first | decide | exact Nat.le_of_ble_eq_true rfl) ?_)
  refine .nil <|
    .seq ?_
  rw [Hp.setBox_setBox, Hp.setBox_setBox, Hp.setBox_setBox]
  refine AW.done 1 rfl hid1 ?_
  refine .region <|
    .lw rfl isAgg29 sizeOf29 rfl rfl ?_
  refine AOps.wkn (T' := put _ 18 (eState al21St)) (TLe.put (d := 18) (by exact al_le) (TLe.refl _)) (HLe.refl _) ?_
  refine AOps.s rfl rfl rfl ((AStep.call rfl (by exact call13) (new_nil al21St (by decide) (fun z => by by_cases e : z = 2 <;> simp [al21St, e]) _)).mono ?_)
  rintro x3 h3 ⟨id, rfl, he⟩
  refine .aP rfl rfl <|
    .nil <|
    .seq <|
    .region <|
    .mP rfl rfl ?_
  refine AOps.s rfl rfl rfl ((AStep.call rfl (by exact call25) (putF_calls 0 8 he (new_p al_few).inv (by have h0 : (newF al21St []).pend.length = 0 := al_a.2.2.2; omega))).mono ?_)
  rintro x5 h5 ⟨rfl, he5⟩
  refine .nil <|
    .seq <|
    .region <|
    .mP rfl rfl ?_
  refine AOps.s rfl rfl rfl ((AStep.call rfl (by exact call17) (settle_calls (m := al1) he5 al_p (fun m2 n2 hr => by rw [al_runs hr]; exact al_a.2.2.1))).mono ?_)
  rintro x6 h6 ⟨rfl, m2, n2, hr, hP2, he6⟩
  obtain rfl := al_runs hr
  have he7 : EmAt h id al2 h6 := he6
  obtain ⟨ve, vp, hbx⟩ := EmI.box he7
  obtain ⟨f1, f2, f3, f4, f5, f6⟩ := al_b
  refine .nil <|
    .seq <|
    .region <|
    .mP rfl rfl ?_
  refine .u rfl rfl rfl (QOp.call rfl call16 fun h' hl' => by exact state_calls (hl'.box _ _ hbx) al2_p.inv.st) ?_
  refine AOps.s rfl rfl rfl (a_alloc rfl zeroValue29 rfl (fun id3 hid3 => ?_))
  refine .sw sizeOf29 rfl rfl rfl rfl ?_
  refine AOps.done 3 rfl hid3 ?_
  refine .nil <|
    .seq <|
    .region <|
    .lw rfl isAgg29 sizeOf29 rfl rfl ?_
  refine .u rfl rfl rfl (QOp.call rfl call8 fun h' hl' => by exact ofT_calls al2.state 1 (by omega) h') ?_
  refine .u rfl rfl rfl (q_mv rfl (rfl : _ = V.tup _)) ?_
  refine .u rfl rfl rfl (q_extract rfl rfl rfl) ?_
  refine .u rfl rfl rfl (q_extract rfl rfl rfl) ?_
  refine AOps.s rfl rfl rfl (a_alloc rfl zeroValue38 rfl (fun id4 hid4 => ?_))
  refine .sw sizeOf38 rfl rfl rfl rfl ?_
  refine AOps.done 4 rfl hid4 ?_
  refine .aB rfl rfl <|
    .nil <|
    .seq <|
    .region <|
    .mP rfl rfl ?_
  refine .u rfl rfl rfl (QOp.call rfl call18 fun h' hl' => by exact err_calls (hl'.box _ _ hbx)) ?_
  refine .u rfl rfl rfl (q_eqerr underlying58 rfl rfl) ?_
  refine .mB rfl rfl ?_
  refine .gt rfl rfl rfl (fun _ => tl0) (fun hc => q_fa_i rfl underlying29 rfl (by exact sizeOf24) (by decide) rfl (rfl : _ = List.drop 1 _)) ?_
  refine .gt rfl rfl rfl (fun hc => tl1 35 (.opt hc)) (fun hc => q_ia_ai rfl underlying24 sizeOf23 rfl rfl (by decide) (by decide) rfl) ?_
  refine .gt rfl rfl rfl (fun hc => tl1 36 (.opt hc)) (fun hc => q_load_i1 rfl isAgg23 rfl rfl) ?_
  refine .gt rfl rfl rfl (fun hc => tl1 37 (.opt hc)) (fun hc => q_len rfl underlying23 rfl) ?_
  refine .gt rfl rfl rfl (fun hc => tl1 38 (.opt hc)) (fun hc => q_eq rfl rfl rfl) ?_
  refine .pt rfl rfl rfl rfl <|
    .mB rfl rfl ?_
  refine .gt rfl rfl rfl (fun _ => tl0) (fun hc => q_mv rfl (rfl : _ = V.bool _)) ?_
  refine .pt rfl rfl rfl rfl <|
    .mB rfl rfl ?_
  refine .gt rfl rfl rfl (fun _ => tl0) (fun hc => q_fa_i rfl underlying38 rfl (by exact sizeOf3) (by decide) rfl (rfl : _ = List.drop 0 _)) ?_
  refine .gt rfl rfl rfl (fun hc => tl1 45 (.opt hc)) (fun hc => q_load_i1 rfl isAgg3 rfl rfl) ?_
  refine .gt rfl rfl rfl (fun hc => tl1 46 (.opt hc)) (fun hc => q_eq rfl rfl rfl) ?_
  refine .pt rfl rfl rfl rfl <|
    .mB rfl rfl ?_
  refine .gt rfl rfl rfl (fun _ => tl0) (fun hc => q_fa_i rfl underlying29 rfl (by exact sizeOf22) (by decide) rfl (rfl : _ = List.drop 0 _)) ?_
  refine .gt rfl rfl rfl (fun hc => tl1 50 (.opt hc)) (fun hc => q_load_i1 rfl isAgg22 rfl rfl) ?_
  refine .gt rfl rfl rfl (fun hc => tl1 51 (.opt hc)) (fun hc => q_ia_s rfl underlying22 sizeOf72 rfl rfl (by omega) (by omega) (cObjs_elem' (by omega) (by omega))) ?_
  refine .gt rfl rfl rfl (fun hc => tl1 52 (.opt hc)) (fun hc => q_ia_ai rfl underlying72 sizeOf3 rfl rfl (by decide) (by decide) rfl) ?_
  refine .gt rfl rfl rfl (fun hc => tl1 53 (.opt hc)) (fun hc => q_load_i1 rfl isAgg3 rfl rfl) ?_
  refine .gt rfl rfl rfl (fun hc => tl1 54 (.opt hc)) (fun hc => q_eq rfl rfl rfl) ?_
  refine .pt rfl rfl rfl rfl <|
    .aB rfl rfl <|
    .nil ?_
  refine AW.ret ?_
  exact retQ.mk' (.one _) (VLe.of_eq (congrArg V.bool (by rw [f1, f2, f3, f4]; exact congrArg (fun x : Int => x == 1) f5))) he7.le ⟨rfl, rfl⟩

theorem triggerOf_calls (s : St) (i : Int) (hf : Few s) (h : Hp) : ACalls prog G 3 [eState s, .int .i64 i] h fun r h' => r = .bool true ∧ h' = h := by
  refine ACalls.enter func3 rfl ntmps3 results3 rfl ?_
  refine .seq <|
    .region <|
    .bx rfl rfl <|
    .aB rfl rfl <|
    .nil <|
    .seq <|
    .seq <|
    .region ?_
  refine .u rfl rfl rfl (QOp.call rfl call6 fun h' hl' => by exact alive21_calls h') ?_
  refine .nt rfl rfl <|
    .nil ?_
  refine AW.cond rfl (fun c0 => ?_) (fun c0 => ?_)
  · cases c0
  · skip
    refine AW.skip ?_
    refine .seq <|
      .seq <|
      .region <|
      .lw rfl isAgg29 sizeOf29 rfl rfl ?_
    refine .u rfl rfl rfl (QOp.call rfl call7 fun h' hl' => by exact long_calls s 40 (by decide) h') ?_
    refine .nil ?_
    refine AW.cond rfl (fun c1 => ?_) (fun c1 => ?_)
    · skip
      refine .seq <|
        .region <|
        .aB rfl rfl <|
        .nil ?_
      refine AW.ret ?_
      exact retQ.mk' (.one _) (VLe.refl _) (HLe.refl _) ⟨rfl, rfl⟩
    · have hb := long_hb hf c1
      refine AW.skip ?_
      refine .seq <|
        .region <|
        .lw rfl isAgg29 sizeOf29 rfl rfl <|
        .mI rfl rfl ?_
      refine .u rfl rfl rfl (QOp.call rfl call8 fun h' hl' => by exact ofT_calls s i hb.1 h') ?_
      refine .u rfl rfl rfl (q_mv rfl (rfl : _ = V.tup _)) ?_
      refine .u rfl rfl rfl (q_extract rfl rfl rfl) ?_
      refine .u rfl rfl rfl (q_extract rfl rfl rfl) ?_
      refine AOps.s rfl rfl rfl (a_alloc rfl zeroValue38 rfl (fun id5 hid5 => ?_))
      refine .sw sizeOf38 rfl rfl rfl rfl ?_
      refine AOps.done 5 rfl hid5 ?_
      refine .aB rfl rfl <|
        .nil <|
        .seq <|
        .region <|
        .lw rfl isAgg29 sizeOf29 rfl rfl <|
        .mI rfl rfl ?_
      refine .u rfl rfl rfl (QOp.call rfl call9 fun h' hl' => by exact rofT_calls s i hb.1 h') ?_
      refine .u rfl rfl rfl (q_mv rfl (rfl : _ = V.tup _)) ?_
      refine .u rfl rfl rfl (q_extract rfl rfl rfl) ?_
      refine .u rfl rfl rfl (q_extract rfl rfl rfl) ?_
      refine AOps.s rfl rfl rfl (a_alloc rfl zeroValue38 rfl (fun id7 hid7 => ?_))
      refine .sw sizeOf38 rfl rfl rfl rfl ?_
      refine AOps.done 7 rfl hid7 ?_
      refine .aB rfl rfl <|
        .nil <|
        .seq <|
        .region <|
        .mB rfl rfl <|
        .mB rfl rfl ?_
      refine .u rfl rfl rfl (q_eqb underlying4 rfl rfl rfl) ?_
      refine .mB rfl rfl ?_
      refine .gt rfl rfl rfl (fun _ => tl0) (fun hc => q_load_iW rfl isAgg38 sizeOf38 rfl (by rfl)) ?_
      refine .gt rfl rfl rfl (fun hc => tl1 29 (.opt hc)) (fun hc => q_buildSl rfl underlying42 sizeOf38 zeroValue38 rfl rfl rfl rfl rfl) ?_
      refine .gt rfl rfl rfl (fun hc => tl1 30 (.opt hc)) (fun hc => q_buildS (ds := cCardK .full ⟨0, 0, false, noCost, 0, 0, 0, [(ofT s i).1]⟩) rfl zeroValue44 underlying44 (pl44 underlying44) rfl (by kernel_rfl)) ?_
      refine .gt rfl rfl rfl (fun _ => tl0) (fun hc => q_load_iW rfl isAgg38 sizeOf38 rfl (by rfl)) ?_
      refine .gt rfl rfl rfl (fun hc => tl1 32 (.opt hc)) (fun hc => q_buildSl rfl underlying42 sizeOf38 zeroValue38 rfl rfl rfl rfl rfl) ?_
      refine .gt rfl rfl rfl (fun hc => tl1 33 (.opt hc)) (fun hc => q_buildS (ds := cCardK .full ⟨0, 0, false, noCost, 0, 0, 0, [(ofT s i).1]⟩) rfl zeroValue44 underlying44 (pl44 underlying44) rfl (by kernel_rfl)) ?_
      refine .gt rfl rfl rfl (fun hc => tl2 34 31 (.opt hc) (.opt hc)) (fun hc => QOp.call rfl (by exact call10) fun h' hl' => by exact cards_same .full ⟨0, 0, false, noCost, 0, 0, 0, [(ofT s i).1]⟩ (by simp) (fun a ha => by simp at ha; subst ha; exact ofT_subs) h') ?_
      refine .pt rfl rfl rfl rfl <|
        .aB rfl rfl <|
        .nil ?_
      refine AW.ret ?_
      exact retQ.mk' (.one _) (VLe.of_eq (congrArg V.bool (by simp))) (HLe.refl _) ⟨rfl, rfl⟩

end Go.Proofs.YtagcjkbogaoifaaGreatDoor
/- The statement on TriggerOf: which ability any object is. -/
namespace Go.Proofs.YtagcjkbogaoifaaGreatDoor.triggerOf
open Go Go.AV Go.Proofs.Tryz Go.ChangeShapes Go.WideShapes Go.ChangeAt Go.RowKit
set_option maxRecDepth 100000
/-- What the walk gives, for every argument and every world that holds the variables. -/
theorem contract (H : Type) (enc : TypeId × Value → H) (W : World) (base : Nat) (args : Array Value) (ds gs : List (DataW H)) (before : List MemPlace)
    (hval : ∀ (j : Nat) t v, f3.params[j]? = some t → args[j]? = some v → Value.okWide prog W .any base t v)
    (hW : DataW.Whole enc prog f3.params.toList Rows.triggerOfSpec.vars false W args.toList ds gs before) (hL : laidMetH prog Rows.triggerOfRow.laid W) :
    Calls prog 3 args W fun e W' => ∃ v, e = .returned v ∧ Rows.triggerOfSpec.post enc prog f3 false true false false W args v W' := by
  have hW' := hW
  obtain ⟨p, q, hA0, hV, rfl, hfz, hnd⟩ := hW
  have hA : DataW.TrodAll enc prog W 0 (fun _ => true) true f3.params.toList args.toList ds p := hA0
  rw [params3] at hA hval
  obtain ⟨v0, v1, d0, d1, p0, p1, rfl, rfl, rfl, h0, h1⟩ := trodAll_two hA
  obtain ⟨rfl, rfl⟩ := trodVars_none hV
  clear hA0
  have hlt0 : ∀ x ∈ p0, x.block < W.heap.size := fun x hx => by simpa using hW'.lt x (by simp [hx])
  obtain ⟨s0, f0, hr0⟩ := open_state (hval 0 29 v0 rfl rfl) h0
  obtain ⟨n1, rfl, rfl, rfl, hwf1⟩ := open_int underlying3 (hval 1 3 v1 rfl rfl) h1
  have k := triggerOf_calls s0 n1 f0 H0
  refine (calls_below (args := #[v0, .int .i64 n1]) k (vars_ok hL) (fun j => match j with | 0 => hr0 | 1 => .int _ _ | _ + 2 => .junk _) rfl).mono fun e W' ⟨v, r, E, h', he, ⟨hr', _⟩, hrep, hb⟩ => ?_
  subst hr'
  cases hrep
  subst he
  refine ⟨_, rfl, _, _, _, [], p0 ++ [], [], hW', ?_, ?_, rfl, hb.frame _, fun h => by cases h⟩
  · exact trodAll_mk1 (shut_bool underlying4 true)
  · exact trodAll_mk2 (Below.trod laidOut (by kernel_rfl) (of_decide_eq_true (by kernel_rfl)) h0 hb hlt0) (shut_int underlying3 hwf1)
theorem laid_met (os : Os) : laidMet prog Rows.triggerOfRow.laid ((laidWorld os).forCall (fun _ _ => 0) ⟨#[], #[state0, .int .i64 0], []⟩).memory :=
  laidMet_of_run' 8 (by kernel_rfl) (by kernel_rfl)
theorem reads (os : Os) {H : Type} (enc : TypeId × Value → H) : ∃ places, DataW.whole enc prog ((laidWorld os).forCall (fun _ _ => 0) ⟨#[], #[state0, .int .i64 0], []⟩).memory f3.params.toList Rows.triggerOfSpec.vars false #[state0, .int .i64 0].toList 8 = some ([state0D, .lit (.int .i64 0)], [], places) :=
  ⟨[], by kernel_rfl⟩
theorem lifted (os : Os) (started : os.Started) (H : Type) (enc : TypeId × Value → H) (F : Stop.Interp) :
    ReturnsInHanded {} checked os 3 .any ((OpenSpec.ofChange Rows.triggerOfSpec).preRow enc prog f3 Rows.triggerOfRow.domain false Rows.triggerOfRow.laid) (((OpenSpec.ofChange Rows.triggerOfSpec).at F).post enc prog f3 false true false false) := by
  obtain ⟨places, hx⟩ := reads os enc
  refine returnsInHanded_of_row (C := checked) (s := OpenSpec.ofChange Rows.triggerOfSpec) own started (by kernel_rfl) func3
    (witness_row_at (enc := enc) (C := checked) false (laidWorld os) #[state0, .int .i64 0] rfl (by kernel_rfl) (by kernel_rfl) (by kernel_rfl)
      (OpenSpec.preRow_of_cond 8 hx (by kernel_rfl) (fun k hk => by cases hk) (by kernel_rfl) (laid_met os))) ?_
  intro W base args ds gs before hval hW _ _ _ hL _ _
  exact contract H enc W base args ds gs before hval hW hL
theorem said : Rows.TriggerOfSaid :=
  OpenClaim.holds_of_cond 3 f3 rfl rfl rfl rfl rfl rfl rfl ⟨rfl, rfl, rfl, rfl, rfl⟩ rfl rfl rfl rfl rfl (by kernel_rfl) func3 (by kernel_rfl)
    (of_decide_eq_true (by kernel_rfl)) (by unfold Func.isWrapper; first | (rw [if_pos (by decide +kernel)]; kernel_rfl) | (rw [if_neg (by decide +kernel)]; exact ⟨rfl, rfl⟩))
    (fun os started H enc _ F => by rw [OpenClaim.pre_eq_preRow]; exact lifted os started H enc F)
theorem plain (f : FuncId) (fn : Func) (hf : Tryz.pinned.checked.prog.funcNamed "mulligan/mulliganlaw21.TriggerOf" = some f) (hfn : Tryz.pinned.checked.prog.funcs[f]? = some fn) :
    true = Tryz.pinned.checked.prog.looks [] ∧ ∀ (j : Nat) t, fn.params[j]? = some t → Tryz.pinned.checked.prog.wantsStandIn t = false := by
  obtain rfl : f = 3 := Option.some.inj ((show prog.funcNamed "mulligan/mulliganlaw21.TriggerOf" = some 3 by kernel_rfl).symm.trans hf) |>.symm
  obtain rfl : fn = f3 := (Option.some.inj (func3.symm.trans hfn)).symm
  refine ⟨by kernel_rfl, fun j t ht => ?_⟩
  rw [params3] at ht
  match j, ht with
  | 0, ht => obtain rfl : 29 = t := Option.some.inj ht; exact (show prog.wantsStandIn 29 = false by kernel_rfl)
  | 1, ht => obtain rfl : 3 = t := Option.some.inj ht; exact (show prog.wantsStandIn 3 = false by kernel_rfl)
  | _ + 2, ht => cases ht
/-- The card. -/
theorem card : Rows.TriggerOfCardSaid :=
  Claim7.holds_tied_plain_at .later [] _ _ _ _ said (fun _ h => by cases h) (by kernel_rfl) (fun _ h => by cases h) triggerOf_row_tie rfl ⟨rfl, rfl⟩ (by kernel_rfl) rfl plain (by kernel_rfl)
end Go.Proofs.YtagcjkbogaoifaaGreatDoor.triggerOf
