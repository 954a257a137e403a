/- Walks: objects, events, zones. -/
import Derived.Test.YtagcjkbogaoifaaGreatDoorTo3
namespace Go.Proofs.YtagcjkbogaoifaaGreatDoor
open Go Go.AV Go.Proofs.Tryz
set_option maxRecDepth 100000
/-- Is there nothing on an object that belongs to the field? -/
def bare (o : Obj) : Bool := o 4 == 0 && o 5 == 0 && o 6 == 0 && o 7 == 0 && o 8 == 0 && o 9 == 0 && o 10 == 0 && o 11 == 0 && o 12 == 0
def formedF (o : Obj) : Bool := (o 3 == 8 || bare o) && (!decide (o 3 < 8) || o 2 == o 1) && (o 3 == 9 || o 16 == 0)

/-- An event. -/
structure Ev where
  k : Int
  a : Int
  b : Int
  c : Int
  d : Int
  e : Int
def cEv (x : Ev) : List V := [.int .i64 x.k, .int .i64 x.a, .int .i64 x.b, .int .i64 x.c, .int .i64 x.d, .int .i64 x.e]
abbrev eEv (x : Ev) : V := .agg (cEv x)
def inN (n e : Int) : Bool := decide (0 ≤ n) && decide (n < e)
def evMakes (x : Ev) : Bool := x.k == 0 || x.k == 5
def evSpare (x : Ev) : Bool := if evMakes x then x.d == 0 && x.e == 0 else if x.k = 1 then true else x.e == 0 && (x.k != 4 || x.a == 0)
def small (n : Int) : Bool := decide (-1073741824 ≤ n) && decide (n ≤ 1073741824)
def evRanges (x : Ev) : Bool :=
  if x.k = 0 ∨ x.k = 5 then inN x.a 120 && inN x.b 2 && inN x.c 3
  else if x.k = 1 then decide (0 ≤ x.a) && inN x.b 11 && inN x.d 11 && decide (0 ≤ x.c) && decide (0 ≤ x.e)
  else if x.k = 2 then decide (0 ≤ x.a) && inN x.b 18 && x.b != 3 && small x.d
  else if x.k = 3 then inN x.a 2 && inN x.b 9 && small x.d
  else inN x.b 7 && small x.d
def evCheck (x : Ev) : Int := if inN x.k 6 = false then 6 else if evSpare x = false then 2 else if evRanges x = false then 1 else 0

theorem evIn_calls (n e : Int) (h : Hp) : ACalls prog G 136 [.int .i64 n, .int .i64 e] h fun r h' => r = .bool (inN n e) ∧ h' = h := by
  refine ACalls.enter func136 rfl ntmps136 results136 rfl ?_
  refine .seq <|
    .region <|
    .aB rfl rfl <|
    .nil <|
    .seq <|
    .region <|
    .mI rfl rfl <|
    .qg rfl rfl rfl <|
    .mB rfl rfl ?_
  refine .gt rfl rfl rfl (fun _ => tl0) (fun hc => q_mv rfl (rfl : _ = V.int _ _)) ?_
  refine .gt rfl rfl rfl (fun _ => tl0) (fun hc => q_mv rfl (rfl : _ = V.int _ _)) ?_
  refine .gt rfl rfl rfl (fun hc => tl2 9 8 (.opt hc) (.opt hc)) (fun hc => q_lt rfl rfl rfl) ?_
  refine .pt rfl rfl rfl rfl <|
    .aB rfl rfl <|
    .nil ?_
  refine AW.ret ?_
  exact retQ.mk (.one _) ⟨congrArg V.bool (by simp [inN]), rfl⟩

theorem evMakes_calls (x : Ev) (h : Hp) : ACalls prog G 179 [eEv x] h fun r h' => r = .bool (evMakes x) ∧ h' = h := by
  refine ACalls.enter func179 rfl ntmps179 results179 rfl ?_
  refine .seq <|
    .region <|
    .bx rfl rfl <|
    .aB rfl rfl <|
    .nil <|
    .seq <|
    .region <|
    .fi rfl f116_0 rfl <|
    .li rfl isAgg3 rfl rfl <|
    .qe rfl rfl rfl <|
    .mB rfl rfl ?_
  refine .gf rfl rfl rfl (fun _ => tl0) (fun hc => q_fa_i rfl underlying116 rfl (by exact sizeOf3) (by decide) rfl (rfl : _ = List.drop 0 _)) ?_
  refine .gf rfl rfl rfl (fun hc => tl1 7 (.opt hc)) (fun hc => q_load_i1 rfl isAgg3 rfl rfl) ?_
  refine .gf rfl rfl rfl (fun hc => tl1 8 (.opt hc)) (fun hc => q_eq rfl rfl rfl) ?_
  refine .pf rfl rfl rfl rfl <|
    .aB rfl rfl <|
    .nil ?_
  refine AW.ret ?_
  exact retQ.mk (.one _) ⟨congrArg V.bool (by simp [evMakes]), rfl⟩

theorem evSpare_calls (x : Ev) (h : Hp) : ACalls prog G 137 [eEv x] h fun r h' => r = .bool (evSpare x) ∧ h' = h := by
  refine ACalls.enter func137 rfl ntmps137 results137 rfl ?_
  refine .seq <|
    .region <|
    .bx rfl rfl <|
    .aB rfl rfl <|
    .nil <|
    .seq <|
    .block <|
    .seq <|
    .region <|
    .lw rfl isAgg116 sizeOf116 rfl rfl ?_
  refine .u rfl rfl rfl (QOp.call rfl call179 fun h' hl' => by exact evMakes_calls _ h') ?_
  refine .aB rfl rfl <|
    .nil ?_
  refine AW.cond rfl (fun c0 => ?_) (fun c0 => ?_)
  · skip
    refine .seq <|
      .region <|
      .fi rfl f116_4 rfl <|
      .li rfl isAgg3 rfl rfl <|
      .qe rfl rfl rfl <|
      .mB rfl rfl ?_
    refine .gt rfl rfl rfl (fun _ => tl0) (fun hc => q_fa_i rfl underlying116 rfl (by exact sizeOf3) (by decide) rfl (rfl : _ = List.drop 5 _)) ?_
    refine .gt rfl rfl rfl (fun hc => tl1 10 (.opt hc)) (fun hc => q_load_i1 rfl isAgg3 rfl rfl) ?_
    refine .gt rfl rfl rfl (fun hc => tl1 11 (.opt hc)) (fun hc => q_eq rfl rfl rfl) ?_
    refine .pt rfl rfl rfl rfl <|
      .aB rfl rfl <|
      .nil ?_
    refine AW.ret ?_
    exact retQ.mk (.one _) ⟨congrArg V.bool (by simp_all [evSpare]), rfl⟩
  · skip
    refine .seq <|
      .region <|
      .fi rfl f116_0 rfl <|
      .li rfl isAgg3 rfl rfl <|
      .qe rfl rfl rfl <|
      .aB rfl rfl <|
      .nil ?_
    refine AW.cond rfl (fun c1 => ?_) (fun c1 => ?_)
    · skip
      refine .seq <|
        .region <|
        .aB rfl rfl <|
        .nil ?_
      refine AW.ret ?_
      exact retQ.mk (.one _) ⟨congrArg V.bool (by simp_all [evSpare]), rfl⟩
    · skip
      refine AW.skip ?_
      refine .seq <|
        .region <|
        .fi rfl f116_5 rfl <|
        .li rfl isAgg3 rfl rfl <|
        .qe rfl rfl rfl <|
        .mB rfl rfl ?_
      refine .gt rfl rfl rfl (fun _ => tl0) (fun hc => q_fa_i rfl underlying116 rfl (by exact sizeOf3) (by decide) rfl (rfl : _ = List.drop 0 _)) ?_
      refine .gt rfl rfl rfl (fun hc => tl1 22 (.opt hc)) (fun hc => q_load_i1 rfl isAgg3 rfl rfl) ?_
      refine .gt rfl rfl rfl (fun hc => tl1 23 (.opt hc)) (fun hc => q_ne rfl rfl rfl) ?_
      refine .gt rfl rfl rfl (fun hc => tl1 24 (.opt hc)) (fun hc => q_mv rfl (rfl : _ = V.bool _)) ?_
      refine AOps.g (wanted_fo rfl rfl) rfl rfl (fun _ => tl0) (fun hc => q_fa_i rfl underlying116 rfl (by exact sizeOf3) (by decide) rfl (rfl : _ = List.drop 1 _)) ?_
      refine AOps.g (wanted_fo rfl rfl) rfl rfl (fun hc => tl1 26 (.opt hc)) (fun hc => q_load_i1 rfl isAgg3 rfl rfl) ?_
      refine AOps.g (wanted_fo rfl rfl) rfl rfl (fun hc => tl1 27 (.opt hc)) (fun hc => q_eq rfl rfl rfl) ?_
      refine .gt rfl rfl rfl (fun hc => tl1 25 (.opt hc)) (fun hc => q_pickg rfl rfl (fun hp => by exact VLe.refl _) (fun hp => by first | exact VLe.opt hp | exact VLe.opt (by rw [hp]; rfl) | exact VLe.opt (by simp_all))) ?_
      refine .pt rfl rfl rfl rfl <|
        .aB rfl rfl <|
        .nil ?_
      refine AW.ret ?_
      exact retQ.mk (.one _) ⟨congrArg V.bool (by simp_all [evSpare]), rfl⟩

theorem evRanges_calls (x : Ev) (h : Hp) : ACalls prog G 138 [eEv x] h fun r h' => r = .bool (evRanges x) ∧ h' = h := by
  refine ACalls.enter func138 rfl ntmps138 results138 rfl ?_
  refine .seq <|
    .region <|
    .bx rfl rfl <|
    .aB rfl rfl <|
    .nil <|
    .seq <|
    .region <|
    .fi rfl f116_4 rfl <|
    .li rfl isAgg3 rfl rfl <|
    .qg rfl rfl rfl <|
    .mB rfl rfl ?_
  refine .gt rfl rfl rfl (fun _ => tl0) (fun hc => q_fa_i rfl underlying116 rfl (by exact sizeOf3) (by decide) rfl (rfl : _ = List.drop 4 _)) ?_
  refine .gt rfl rfl rfl (fun hc => tl1 8 (.opt hc)) (fun hc => q_load_i1 rfl isAgg3 rfl rfl) ?_
  refine .gt rfl rfl rfl (fun hc => tl1 9 (.opt hc)) (fun hc => q_le rfl rfl rfl) ?_
  refine .pt rfl rfl rfl rfl <|
    .aB rfl rfl <|
    .nil <|
    .seq <|
    .seq <|
    .region <|
    .fi rfl f116_0 rfl <|
    .li rfl isAgg3 rfl rfl <|
    .nil <|
    .block <|
    .seq <|
    .seq <|
    .region <|
    .qe rfl rfl rfl <|
    .aB rfl rfl <|
    .nil ?_
  refine AW.cond rfl (fun c0 => ?_) (fun c0 => ?_)
  · skip
    refine AW.skip ?_
    refine AW.condT rfl c0 ?_
    refine .seq <|
      .region <|
      .fi rfl f116_1 rfl <|
      .li rfl isAgg3 rfl rfl ?_
    refine .u rfl rfl rfl (QOp.call rfl call136 fun h' hl' => by exact evIn_calls _ _ h') ?_
    refine .mB rfl rfl ?_
    refine .gt rfl rfl rfl (fun _ => tl0) (fun hc => q_fa_i rfl underlying116 rfl (by exact sizeOf3) (by decide) rfl (rfl : _ = List.drop 2 _)) ?_
    refine .gt rfl rfl rfl (fun hc => tl1 21 (.opt hc)) (fun hc => q_load_i1 rfl isAgg3 rfl rfl) ?_
    refine .gt rfl rfl rfl (fun hc => tl1 22 (.opt hc)) (fun hc => QOp.call rfl (by exact call136) fun h' hl' => by exact evIn_calls _ _ h') ?_
    refine .pt rfl rfl rfl rfl <|
      .mB rfl rfl ?_
    refine .gt rfl rfl rfl (fun _ => tl0) (fun hc => q_fa_i rfl underlying116 rfl (by exact sizeOf3) (by decide) rfl (rfl : _ = List.drop 3 _)) ?_
    refine .gt rfl rfl rfl (fun hc => tl1 26 (.opt hc)) (fun hc => q_load_i1 rfl isAgg3 rfl rfl) ?_
    refine .gt rfl rfl rfl (fun hc => tl1 27 (.opt hc)) (fun hc => QOp.call rfl (by exact call136) fun h' hl' => by exact evIn_calls _ _ h') ?_
    refine .pt rfl rfl rfl rfl <|
      .aB rfl rfl <|
      .nil ?_
    refine AW.ret ?_
    exact retQ.mk (.one _) ⟨congrArg V.bool (by first | (simp_all [evRanges, Bool.and_assoc]; done) | simp_all [evRanges, small]), rfl⟩
  · skip
    refine .region <|
      .qe rfl rfl rfl <|
      .aB rfl rfl <|
      .nil ?_
    refine AW.cond rfl (fun c1 => ?_) (fun c1 => ?_)
    · skip
      refine .seq <|
        .region <|
        .fi rfl f116_1 rfl <|
        .li rfl isAgg3 rfl rfl ?_
      refine .u rfl rfl rfl (QOp.call rfl call136 fun h' hl' => by exact evIn_calls _ _ h') ?_
      refine .mB rfl rfl ?_
      refine .gt rfl rfl rfl (fun _ => tl0) (fun hc => q_fa_i rfl underlying116 rfl (by exact sizeOf3) (by decide) rfl (rfl : _ = List.drop 2 _)) ?_
      refine .gt rfl rfl rfl (fun hc => tl1 21 (.opt hc)) (fun hc => q_load_i1 rfl isAgg3 rfl rfl) ?_
      refine .gt rfl rfl rfl (fun hc => tl1 22 (.opt hc)) (fun hc => QOp.call rfl (by exact call136) fun h' hl' => by exact evIn_calls _ _ h') ?_
      refine .pt rfl rfl rfl rfl <|
        .mB rfl rfl ?_
      refine .gt rfl rfl rfl (fun _ => tl0) (fun hc => q_fa_i rfl underlying116 rfl (by exact sizeOf3) (by decide) rfl (rfl : _ = List.drop 3 _)) ?_
      refine .gt rfl rfl rfl (fun hc => tl1 26 (.opt hc)) (fun hc => q_load_i1 rfl isAgg3 rfl rfl) ?_
      refine .gt rfl rfl rfl (fun hc => tl1 27 (.opt hc)) (fun hc => QOp.call rfl (by exact call136) fun h' hl' => by exact evIn_calls _ _ h') ?_
      refine .pt rfl rfl rfl rfl <|
        .aB rfl rfl <|
        .nil ?_
      refine AW.ret ?_
      exact retQ.mk (.one _) ⟨congrArg V.bool (by first | (simp_all [evRanges, Bool.and_assoc]; done) | simp_all [evRanges, small]), rfl⟩
    · skip
      refine .seq <|
        .region <|
        .qe rfl rfl rfl <|
        .aB rfl rfl <|
        .nil ?_
      refine AW.cond rfl (fun c2 => ?_) (fun c2 => ?_)
      · skip
        refine .seq <|
          .region <|
          .fi rfl f116_1 rfl <|
          .li rfl isAgg3 rfl rfl <|
          .qg rfl rfl rfl <|
          .mB rfl rfl ?_
        refine .gt rfl rfl rfl (fun _ => tl0) (fun hc => q_fa_i rfl underlying116 rfl (by exact sizeOf3) (by decide) rfl (rfl : _ = List.drop 2 _)) ?_
        refine .gt rfl rfl rfl (fun hc => tl1 36 (.opt hc)) (fun hc => q_load_i1 rfl isAgg3 rfl rfl) ?_
        refine .gt rfl rfl rfl (fun hc => tl1 37 (.opt hc)) (fun hc => QOp.call rfl (by exact call136) fun h' hl' => by exact evIn_calls _ _ h') ?_
        refine .pt rfl rfl rfl rfl <|
          .mB rfl rfl ?_
        refine .gt rfl rfl rfl (fun _ => tl0) (fun hc => q_fa_i rfl underlying116 rfl (by exact sizeOf3) (by decide) rfl (rfl : _ = List.drop 4 _)) ?_
        refine .gt rfl rfl rfl (fun hc => tl1 41 (.opt hc)) (fun hc => q_load_i1 rfl isAgg3 rfl rfl) ?_
        refine .gt rfl rfl rfl (fun hc => tl1 42 (.opt hc)) (fun hc => QOp.call rfl (by exact call136) fun h' hl' => by exact evIn_calls _ _ h') ?_
        refine .pt rfl rfl rfl rfl <|
          .mB rfl rfl ?_
        refine .gt rfl rfl rfl (fun _ => tl0) (fun hc => q_fa_i rfl underlying116 rfl (by exact sizeOf3) (by decide) rfl (rfl : _ = List.drop 3 _)) ?_
        refine .gt rfl rfl rfl (fun hc => tl1 46 (.opt hc)) (fun hc => q_load_i1 rfl isAgg3 rfl rfl) ?_
        refine .gt rfl rfl rfl (fun hc => tl1 47 (.opt hc)) (fun hc => q_ge rfl rfl rfl) ?_
        refine .pt rfl rfl rfl rfl <|
          .mB rfl rfl ?_
        refine .gt rfl rfl rfl (fun _ => tl0) (fun hc => q_fa_i rfl underlying116 rfl (by exact sizeOf3) (by decide) rfl (rfl : _ = List.drop 5 _)) ?_
        refine .gt rfl rfl rfl (fun hc => tl1 51 (.opt hc)) (fun hc => q_load_i1 rfl isAgg3 rfl rfl) ?_
        refine .gt rfl rfl rfl (fun hc => tl1 52 (.opt hc)) (fun hc => q_ge rfl rfl rfl) ?_
        refine .pt rfl rfl rfl rfl <|
          .aB rfl rfl <|
          .nil ?_
        refine AW.ret ?_
        exact retQ.mk (.one _) ⟨congrArg V.bool (by first | (simp_all [evRanges, Bool.and_assoc]; done) | simp_all [evRanges, small]), rfl⟩
      · skip
        refine .seq <|
          .region <|
          .qe rfl rfl rfl <|
          .aB rfl rfl <|
          .nil ?_
        refine AW.cond rfl (fun c3 => ?_) (fun c3 => ?_)
        · skip
          refine .seq <|
            .region <|
            .fi rfl f116_1 rfl <|
            .li rfl isAgg3 rfl rfl <|
            .qg rfl rfl rfl <|
            .mB rfl rfl ?_
          refine .gt rfl rfl rfl (fun _ => tl0) (fun hc => q_fa_i rfl underlying116 rfl (by exact sizeOf3) (by decide) rfl (rfl : _ = List.drop 2 _)) ?_
          refine .gt rfl rfl rfl (fun hc => tl1 61 (.opt hc)) (fun hc => q_load_i1 rfl isAgg3 rfl rfl) ?_
          refine .gt rfl rfl rfl (fun hc => tl1 62 (.opt hc)) (fun hc => QOp.call rfl (by exact call136) fun h' hl' => by exact evIn_calls _ _ h') ?_
          refine .pt rfl rfl rfl rfl <|
            .mB rfl rfl ?_
          refine .gt rfl rfl rfl (fun _ => tl0) (fun hc => q_fa_i rfl underlying116 rfl (by exact sizeOf3) (by decide) rfl (rfl : _ = List.drop 2 _)) ?_
          refine .gt rfl rfl rfl (fun hc => tl1 66 (.opt hc)) (fun hc => q_load_i1 rfl isAgg3 rfl rfl) ?_
          refine .gt rfl rfl rfl (fun hc => tl1 67 (.opt hc)) (fun hc => q_ne rfl rfl rfl) ?_
          refine .pt rfl rfl rfl rfl <|
            .mB rfl rfl ?_
          refine .gt rfl rfl rfl (fun _ => tl0) (fun hc => q_mv rfl (rfl : _ = V.bool _)) ?_
          refine .pt rfl rfl rfl rfl <|
            .aB rfl rfl <|
            .nil ?_
          refine AW.ret ?_
          exact retQ.mk (.one _) ⟨congrArg V.bool (by first | (simp_all [evRanges, Bool.and_assoc]; done) | simp_all [evRanges, small]), rfl⟩
        · skip
          refine .seq <|
            .region <|
            .qe rfl rfl rfl <|
            .aB rfl rfl <|
            .nil ?_
          refine AW.cond rfl (fun c4 => ?_) (fun c4 => ?_)
          · skip
            refine .seq <|
              .region <|
              .fi rfl f116_1 rfl <|
              .li rfl isAgg3 rfl rfl ?_
            refine .u rfl rfl rfl (QOp.call rfl call136 fun h' hl' => by exact evIn_calls _ _ h') ?_
            refine .mB rfl rfl ?_
            refine .gt rfl rfl rfl (fun _ => tl0) (fun hc => q_fa_i rfl underlying116 rfl (by exact sizeOf3) (by decide) rfl (rfl : _ = List.drop 2 _)) ?_
            refine .gt rfl rfl rfl (fun hc => tl1 79 (.opt hc)) (fun hc => q_load_i1 rfl isAgg3 rfl rfl) ?_
            refine .gt rfl rfl rfl (fun hc => tl1 80 (.opt hc)) (fun hc => QOp.call rfl (by exact call136) fun h' hl' => by exact evIn_calls _ _ h') ?_
            refine .pt rfl rfl rfl rfl <|
              .mB rfl rfl ?_
            refine .gt rfl rfl rfl (fun _ => tl0) (fun hc => q_mv rfl (rfl : _ = V.bool _)) ?_
            refine .pt rfl rfl rfl rfl <|
              .aB rfl rfl <|
              .nil ?_
            refine AW.ret ?_
            exact retQ.mk (.one _) ⟨congrArg V.bool (by first | (simp_all [evRanges, Bool.and_assoc]; done) | simp_all [evRanges, small]), rfl⟩
          · skip
            refine AW.skip ?_
            refine .seq <|
              .region <|
              .fi rfl f116_2 rfl <|
              .li rfl isAgg3 rfl rfl ?_
            refine .u rfl rfl rfl (QOp.call rfl call136 fun h' hl' => by exact evIn_calls _ _ h') ?_
            refine .mB rfl rfl ?_
            refine .gt rfl rfl rfl (fun _ => tl0) (fun hc => q_mv rfl (rfl : _ = V.bool _)) ?_
            refine .pt rfl rfl rfl rfl <|
              .aB rfl rfl <|
              .nil ?_
            refine AW.ret ?_
            exact retQ.mk (.one _) ⟨congrArg V.bool (by first | (simp_all [evRanges, Bool.and_assoc]; done) | simp_all [evRanges, small]), rfl⟩

theorem evCheck_calls (x : Ev) (h : Hp) : ACalls prog G 87 [eEv x] h fun r h' => r = eE (evCheck x) ∧ h' = h := by
  refine ACalls.enter func87 rfl ntmps87 results87 rfl ?_
  refine .seq <|
    .region <|
    .bx rfl rfl ?_
  refine .u rfl rfl rfl (q_as rfl (rfl : _ = V.inil)) ?_
  refine .nil <|
    .seq <|
    .block <|
    .seq <|
    .region <|
    .fi rfl f116_0 rfl <|
    .li rfl isAgg3 rfl rfl ?_
  refine .u rfl rfl rfl (QOp.call rfl call136 fun h' hl' => by exact evIn_calls _ _ h') ?_
  refine .nt rfl rfl <|
    .aB rfl rfl <|
    .nil ?_
  refine AW.cond rfl (fun c0 => ?_) (fun c0 => ?_)
  · skip
    refine .seq <|
      .region ?_
    refine .u rfl rfl rfl (q_iface rfl underlying97 rfl) ?_
    refine .u rfl rfl rfl (q_as rfl (rfl : _ = V.iface _ _)) ?_
    refine .nil ?_
    refine AW.ret ?_
    exact retQ.mk (.one _) ⟨by show V.iface _ (V.int _ _) = _; rw [show evCheck x = 6 by simp_all [evCheck]]; exact (eErr_ne (by decide)).symm, rfl⟩
  · skip
    refine .seq <|
      .region <|
      .lw rfl isAgg116 sizeOf116 rfl rfl ?_
    refine .u rfl rfl rfl (QOp.call rfl call137 fun h' hl' => by exact evSpare_calls _ h') ?_
    refine .nt rfl rfl <|
      .aB rfl rfl <|
      .nil ?_
    refine AW.cond rfl (fun c1 => ?_) (fun c1 => ?_)
    · skip
      refine .seq <|
        .region ?_
      refine .u rfl rfl rfl (q_iface rfl underlying97 rfl) ?_
      refine .u rfl rfl rfl (q_as rfl (rfl : _ = V.iface _ _)) ?_
      refine .nil ?_
      refine AW.ret ?_
      exact retQ.mk (.one _) ⟨by show V.iface _ (V.int _ _) = _; rw [show evCheck x = 2 by simp_all [evCheck]]; exact (eErr_ne (by decide)).symm, rfl⟩
    · skip
      refine .seq <|
        .region <|
        .lw rfl isAgg116 sizeOf116 rfl rfl ?_
      refine .u rfl rfl rfl (QOp.call rfl call138 fun h' hl' => by exact evRanges_calls _ h') ?_
      refine .nt rfl rfl <|
        .aB rfl rfl <|
        .nil ?_
      refine AW.cond rfl (fun c2 => ?_) (fun c2 => ?_)
      · skip
        refine .seq <|
          .region ?_
        refine .u rfl rfl rfl (q_iface rfl underlying97 rfl) ?_
        refine .u rfl rfl rfl (q_as rfl (rfl : _ = V.iface _ _)) ?_
        refine .nil ?_
        refine AW.ret ?_
        exact retQ.mk (.one _) ⟨by show V.iface _ (V.int _ _) = _; rw [show evCheck x = 1 by simp_all [evCheck]]; exact (eErr_ne (by decide)).symm, rfl⟩
      · skip
        refine AW.skip ?_
        refine .seq <|
          .region ?_
        refine .u rfl rfl rfl (q_as rfl (rfl : _ = V.inil)) ?_
        refine .nil ?_
        refine AW.ret ?_
        exact retQ.mk (.one _) ⟨by show V.inil = _; rw [show evCheck x = 0 by simp_all [evCheck]]; exact (eErr_zero _).symm, rfl⟩

/-- A player's list. -/
def zoneF (b p : Int) : Int := if (b = 0 ∨ b = 2 ∨ b = 4 ∨ b = 6) ∧ (p = 0 ∨ p = 1) then b + p else -1

theorem zone_calls (b p : Int) (h : Hp) : ACalls prog G 118 [.int .i64 b, .int .i64 p] h fun r h' => r = .int .i64 (zoneF b p) ∧ h' = h := by
  refine ACalls.enter func118 rfl ntmps118 results118 rfl ?_
  refine .seq <|
    .region <|
    .aI rfl rfl <|
    .nil <|
    .seq <|
    .seq <|
    .region <|
    .mI rfl rfl <|
    .nil <|
    .block <|
    .seq <|
    .seq <|
    .region <|
    .qe rfl rfl rfl <|
    .aB rfl rfl <|
    .nil ?_
  refine AW.cond rfl (fun c0 => ?_) (fun c0 => ?_)
  · skip
    refine AW.skip ?_
    refine AW.condT rfl c0 ?_
    refine .seq <|
      .region <|
      .mI rfl rfl <|
      .qe rfl rfl rfl <|
      .mB rfl rfl ?_
    refine .gf rfl rfl rfl (fun _ => tl0) (fun hc => q_mv rfl (rfl : _ = V.int _ _)) ?_
    refine .gf rfl rfl rfl (fun hc => tl1 14 (.opt hc)) (fun hc => q_eq rfl rfl rfl) ?_
    refine .pf rfl rfl rfl rfl <|
      .nil ?_
    refine AW.cond rfl (fun c1 => ?_) (fun c1 => ?_)
    · skip
      refine .seq <|
        .region <|
        .mI rfl rfl <|
        .mI rfl rfl ?_
      refine .u rfl rfl rfl (q_add' rfl rfl rfl (by simp at *; omega)) ?_
      refine .aI rfl rfl <|
        .nil ?_
      refine AW.ret ?_
      exact retQ.mk (.one _) ⟨congrArg (V.int .i64) (by simp_all [zoneF]), rfl⟩
    · skip
      refine AW.skip ?_
      refine .seq <|
        .region <|
        .aI rfl rfl <|
        .nil ?_
      refine AW.ret ?_
      exact retQ.mk (.one _) ⟨congrArg (V.int .i64) (by simp_all [zoneF]), rfl⟩
  · skip
    refine .seq <|
      .region <|
      .qe rfl rfl rfl <|
      .aB rfl rfl <|
      .nil ?_
    refine AW.cond rfl (fun c2 => ?_) (fun c2 => ?_)
    · skip
      refine AW.skip ?_
      refine AW.condT rfl c2 ?_
      refine .seq <|
        .region <|
        .mI rfl rfl <|
        .qe rfl rfl rfl <|
        .mB rfl rfl ?_
      refine .gf rfl rfl rfl (fun _ => tl0) (fun hc => q_mv rfl (rfl : _ = V.int _ _)) ?_
      refine .gf rfl rfl rfl (fun hc => tl1 14 (.opt hc)) (fun hc => q_eq rfl rfl rfl) ?_
      refine .pf rfl rfl rfl rfl <|
        .nil ?_
      refine AW.cond rfl (fun c3 => ?_) (fun c3 => ?_)
      · skip
        refine .seq <|
          .region <|
          .mI rfl rfl <|
          .mI rfl rfl ?_
        refine .u rfl rfl rfl (q_add' rfl rfl rfl (by simp at *; omega)) ?_
        refine .aI rfl rfl <|
          .nil ?_
        refine AW.ret ?_
        exact retQ.mk (.one _) ⟨congrArg (V.int .i64) (by simp_all [zoneF]), rfl⟩
      · skip
        refine AW.skip ?_
        refine .seq <|
          .region <|
          .aI rfl rfl <|
          .nil ?_
        refine AW.ret ?_
        exact retQ.mk (.one _) ⟨congrArg (V.int .i64) (by simp_all [zoneF]), rfl⟩
    · skip
      refine .seq <|
        .region <|
        .qe rfl rfl rfl <|
        .aB rfl rfl <|
        .nil ?_
      refine AW.cond rfl (fun c4 => ?_) (fun c4 => ?_)
      · skip
        refine AW.skip ?_
        refine AW.condT rfl c4 ?_
        refine .seq <|
          .region <|
          .mI rfl rfl <|
          .qe rfl rfl rfl <|
          .mB rfl rfl ?_
        refine .gf rfl rfl rfl (fun _ => tl0) (fun hc => q_mv rfl (rfl : _ = V.int _ _)) ?_
        refine .gf rfl rfl rfl (fun hc => tl1 14 (.opt hc)) (fun hc => q_eq rfl rfl rfl) ?_
        refine .pf rfl rfl rfl rfl <|
          .nil ?_
        refine AW.cond rfl (fun c5 => ?_) (fun c5 => ?_)
        · skip
          refine .seq <|
            .region <|
            .mI rfl rfl <|
            .mI rfl rfl ?_
          refine .u rfl rfl rfl (q_add' rfl rfl rfl (by simp at *; omega)) ?_
          refine .aI rfl rfl <|
            .nil ?_
          refine AW.ret ?_
          exact retQ.mk (.one _) ⟨congrArg (V.int .i64) (by simp_all [zoneF]), rfl⟩
        · skip
          refine AW.skip ?_
          refine .seq <|
            .region <|
            .aI rfl rfl <|
            .nil ?_
          refine AW.ret ?_
          exact retQ.mk (.one _) ⟨congrArg (V.int .i64) (by simp_all [zoneF]), rfl⟩
      · skip
        refine .region <|
          .qe rfl rfl rfl <|
          .aB rfl rfl <|
          .nil ?_
        refine AW.cond rfl (fun c6 => ?_) (fun c6 => ?_)
        · skip
          refine .seq <|
            .region <|
            .mI rfl rfl <|
            .qe rfl rfl rfl <|
            .mB rfl rfl ?_
          refine .gf rfl rfl rfl (fun _ => tl0) (fun hc => q_mv rfl (rfl : _ = V.int _ _)) ?_
          refine .gf rfl rfl rfl (fun hc => tl1 14 (.opt hc)) (fun hc => q_eq rfl rfl rfl) ?_
          refine .pf rfl rfl rfl rfl <|
            .nil ?_
          refine AW.cond rfl (fun c7 => ?_) (fun c7 => ?_)
          · skip
            refine .seq <|
              .region <|
              .mI rfl rfl <|
              .mI rfl rfl ?_
            refine .u rfl rfl rfl (q_add' rfl rfl rfl (by simp at *; omega)) ?_
            refine .aI rfl rfl <|
              .nil ?_
            refine AW.ret ?_
            exact retQ.mk (.one _) ⟨congrArg (V.int .i64) (by simp_all [zoneF]), rfl⟩
          · skip
            refine AW.skip ?_
            refine .seq <|
              .region <|
              .aI rfl rfl <|
              .nil ?_
            refine AW.ret ?_
            exact retQ.mk (.one _) ⟨congrArg (V.int .i64) (by simp_all [zoneF]), rfl⟩
        · skip
          refine AW.skip ?_
          refine .seq <|
            .region <|
            .aI rfl rfl <|
            .nil ?_
          refine AW.ret ?_
          exact retQ.mk (.one _) ⟨congrArg (V.int .i64) (by simp_all [zoneF]), rfl⟩

def basesF (b : Int) : Bool := b == 8 || b == 9 || b == 10 || decide (0 ≤ zoneF b 0)

theorem bases_calls (b : Int) (h : Hp) : ACalls prog G 66 [.int .i64 b] h fun r h' => r = .bool (basesF b) ∧ h' = h := by
  refine ACalls.enter func66 rfl ntmps66 results66 rfl ?_
  refine .seq <|
    .region <|
    .aB rfl rfl <|
    .nil <|
    .seq <|
    .region <|
    .mI rfl rfl <|
    .qe rfl rfl rfl <|
    .mB rfl rfl ?_
  refine .gf rfl rfl rfl (fun _ => tl0) (fun hc => q_mv rfl (rfl : _ = V.int _ _)) ?_
  refine .gf rfl rfl rfl (fun hc => tl1 6 (.opt hc)) (fun hc => q_eq rfl rfl rfl) ?_
  refine .pf rfl rfl rfl rfl <|
    .mB rfl rfl ?_
  refine .gf rfl rfl rfl (fun _ => tl0) (fun hc => q_mv rfl (rfl : _ = V.int _ _)) ?_
  refine .gf rfl rfl rfl (fun hc => tl1 10 (.opt hc)) (fun hc => q_eq rfl rfl rfl) ?_
  refine .pf rfl rfl rfl rfl <|
    .mB rfl rfl ?_
  refine .gf rfl rfl rfl (fun _ => tl0) (fun hc => q_mv rfl (rfl : _ = V.int _ _)) ?_
  refine .gf rfl rfl rfl (fun hc => tl1 14 (.opt hc)) (fun hc => QOp.call rfl (by exact call118) fun h' hl' => by exact zone_calls _ _ h') ?_
  refine .gf rfl rfl rfl (fun hc => tl1 15 (.opt hc)) (fun hc => q_ge rfl rfl rfl) ?_
  refine .pf rfl rfl rfl rfl <|
    .aB rfl rfl <|
    .nil ?_
  refine AW.ret ?_
  exact retQ.mk (.one _) ⟨congrArg V.bool (by simp [basesF, Bool.or_assoc]), rfl⟩

/-- The list that an object goes to. -/
def homeF (o : Obj) (base : Int) : Int :=
  let z := if 0 ≤ zoneF base (o 1) then zoneF base (o 1) else base
  if o 13 = 1 ∧ z < 8 ∨ o 13 = 2 ∧ z ≠ 9 then 10 else z

theorem home_calls (o : Obj) (b : Int) (h : Hp) : ACalls prog G 67 [eObj o, .int .i64 b] h fun r h' => r = .int .i64 (homeF o b) ∧ h' = h := by
  refine ACalls.enter func67 rfl ntmps67 results67 rfl ?_
  refine .seq <|
    .region <|
    .bx rfl rfl <|
    .aI rfl rfl <|
    .nil <|
    .seq <|
    .region <|
    .mI rfl rfl <|
    .aI rfl rfl <|
    .nil <|
    .seq <|
    .seq <|
    .region <|
    .mI rfl rfl ?_
  refine .u rfl rfl rfl (q_ia_ai rfl underlying72 sizeOf3 rfl rfl (by decide) (by decide) rfl) ?_
  refine .li rfl isAgg3 rfl rfl ?_
  refine .u rfl rfl rfl (QOp.call rfl call118 fun h' hl' => by exact zone_calls _ _ h') ?_
  refine .aI rfl rfl <|
    .nil <|
    .seq <|
    .region <|
    .mI rfl rfl <|
    .qg rfl rfl rfl <|
    .nil ?_
  refine AW.cond rfl (fun c0 => ?_) (fun c0 => ?_)
  · skip
    refine .region <|
      .mI rfl rfl <|
      .aI rfl rfl <|
      .nil <|
      .seq <|
      .block <|
      .seq <|
      .seq <|
      .region ?_
    refine .u rfl rfl rfl (q_ia_ai rfl underlying72 sizeOf3 rfl rfl (by decide) (by decide) rfl) ?_
    refine .li rfl isAgg3 rfl rfl <|
      .qe rfl rfl rfl <|
      .mB rfl rfl ?_
    refine .gt rfl rfl rfl (fun _ => tl0) (fun hc => q_mv rfl (rfl : _ = V.int _ _)) ?_
    refine .gt rfl rfl rfl (fun hc => tl1 20 (.opt hc)) (fun hc => q_lt rfl rfl rfl) ?_
    refine .pt rfl rfl rfl rfl <|
      .aB rfl rfl <|
      .nil ?_
    refine AW.cond rfl (fun c1 => ?_) (fun c1 => ?_)
    · skip
      refine AW.skip ?_
      refine AW.condT rfl c1 ?_
      refine .seq <|
        .region <|
        .aI rfl rfl <|
        .nil ?_
      refine AW.ret ?_
      exact retQ.mk (.one _) ⟨congrArg (V.int .i64) (by simp_all [homeF] <;> grind), rfl⟩
    · skip
      refine .region ?_
      refine .u rfl rfl rfl (q_ia_ai rfl underlying72 sizeOf3 rfl rfl (by decide) (by decide) rfl) ?_
      refine .li rfl isAgg3 rfl rfl <|
        .qe rfl rfl rfl <|
        .mB rfl rfl ?_
      refine .gt rfl rfl rfl (fun _ => tl0) (fun hc => q_mv rfl (rfl : _ = V.int _ _)) ?_
      refine .gt rfl rfl rfl (fun hc => tl1 27 (.opt hc)) (fun hc => q_ne rfl rfl rfl) ?_
      refine .pt rfl rfl rfl rfl <|
        .aB rfl rfl <|
        .nil ?_
      refine AW.cond rfl (fun c2 => ?_) (fun c2 => ?_)
      · skip
        refine .seq <|
          .region <|
          .aI rfl rfl <|
          .nil ?_
        refine AW.ret ?_
        exact retQ.mk (.one _) ⟨congrArg (V.int .i64) (by simp_all [homeF] <;> grind), rfl⟩
      · skip
        refine AW.skip ?_
        refine .seq <|
          .region <|
          .mI rfl rfl <|
          .aI rfl rfl <|
          .nil ?_
        refine AW.ret ?_
        exact retQ.mk (.one _) ⟨congrArg (V.int .i64) (by simp_all [homeF] <;> grind), rfl⟩
  · skip
    refine AW.skip ?_
    refine .seq <|
      .block <|
      .seq <|
      .seq <|
      .region ?_
    refine .u rfl rfl rfl (q_ia_ai rfl underlying72 sizeOf3 rfl rfl (by decide) (by decide) rfl) ?_
    refine .li rfl isAgg3 rfl rfl <|
      .qe rfl rfl rfl <|
      .mB rfl rfl ?_
    refine .gt rfl rfl rfl (fun _ => tl0) (fun hc => q_mv rfl (rfl : _ = V.int _ _)) ?_
    refine .gt rfl rfl rfl (fun hc => tl1 20 (.opt hc)) (fun hc => q_lt rfl rfl rfl) ?_
    refine .pt rfl rfl rfl rfl <|
      .aB rfl rfl <|
      .nil ?_
    refine AW.cond rfl (fun c3 => ?_) (fun c3 => ?_)
    · skip
      refine AW.skip ?_
      refine AW.condT rfl c3 ?_
      refine .seq <|
        .region <|
        .aI rfl rfl <|
        .nil ?_
      refine AW.ret ?_
      exact retQ.mk (.one _) ⟨congrArg (V.int .i64) (by simp_all [homeF] <;> grind), rfl⟩
    · skip
      refine .region ?_
      refine .u rfl rfl rfl (q_ia_ai rfl underlying72 sizeOf3 rfl rfl (by decide) (by decide) rfl) ?_
      refine .li rfl isAgg3 rfl rfl <|
        .qe rfl rfl rfl <|
        .mB rfl rfl ?_
      refine .gt rfl rfl rfl (fun _ => tl0) (fun hc => q_mv rfl (rfl : _ = V.int _ _)) ?_
      refine .gt rfl rfl rfl (fun hc => tl1 27 (.opt hc)) (fun hc => q_ne rfl rfl rfl) ?_
      refine .pt rfl rfl rfl rfl <|
        .aB rfl rfl <|
        .nil ?_
      refine AW.cond rfl (fun c4 => ?_) (fun c4 => ?_)
      · skip
        refine .seq <|
          .region <|
          .aI rfl rfl <|
          .nil ?_
        refine AW.ret ?_
        exact retQ.mk (.one _) ⟨congrArg (V.int .i64) (by simp_all [homeF] <;> grind), rfl⟩
      · skip
        refine AW.skip ?_
        refine .seq <|
          .region <|
          .mI rfl rfl <|
          .aI rfl rfl <|
          .nil ?_
        refine AW.ret ?_
        exact retQ.mk (.one _) ⟨congrArg (V.int .i64) (by simp_all [homeF] <;> grind), rfl⟩

/-- The players who know what stands in a list. -/
def knowZoneF (z : Int) : Int := if z < 0 ∨ 11 ≤ z ∨ z < 2 then 0 else if z = 2 then 1 else if z = 3 then 2 else 3

theorem side_two {z : Int} (h : ((sideF z).1 == 2) = true) : z = 2 ∨ z = 3 := by
  simp only [sideF, beq_iff_eq] at h
  split at h
  · cases h
  · split at h
    · simp only at h; omega
    · simp only at h; omega
theorem side_lib (z : Int) : (bif (bif decide (z < 0) then true else decide (11 ≤ z)) then true else bif (sideF z).1 == 0 then (sideF z).2.2 else false) = decide (z < 0 ∨ 11 ≤ z ∨ z < 2) := by
  simp only [sideF]
  by_cases h0 : z < 0
  · simp [h0]
  · by_cases h1 : 11 ≤ z
    · simp [h0, h1]
    · have hn : ¬ (z < 0 ∨ 11 ≤ z) := by omega
      by_cases h2 : z < 8
      · simp only [h0, h1, hn, h2, if_true, if_false, decide_false, cond_false, false_or]
        by_cases h3 : z < 2
        · have : z - z % 2 = 0 := by omega
          simp [this, h3]
        · have : z - z % 2 ≠ 0 := by omega
          simp [this, h3]
      · have h3 : ¬ z < 2 := by omega
        simp [h0, h1, h2, h3]

theorem knowZone_calls (z : Int) (h : Hp) : ACalls prog G 70 [.int .i64 z] h fun r h' => r = .int .i64 (knowZoneF z) ∧ h' = h := by
  refine ACalls.enter func70 rfl ntmps70 results70 rfl ?_
  refine .seq <|
    .region <|
    .aI rfl rfl <|
    .nil <|
    .seq <|
    .region <|
    .mI rfl rfl ?_
  refine .u rfl rfl rfl (QOp.call rfl call121 fun h' hl' => by exact side_calls _ h') ?_
  refine .u rfl rfl rfl (q_mv rfl (rfl : _ = V.tup _)) ?_
  refine .u rfl rfl rfl (q_extract rfl rfl rfl) ?_
  refine .u rfl rfl rfl (q_extract rfl rfl rfl) ?_
  refine .u rfl rfl rfl (q_extract rfl rfl rfl) ?_
  refine .aI rfl rfl <|
    .aI rfl rfl <|
    .aB rfl rfl <|
    .nil <|
    .seq <|
    .block <|
    .seq <|
    .region <|
    .mI rfl rfl <|
    .ql rfl rfl rfl <|
    .mB rfl rfl ?_
  refine .gf rfl rfl rfl (fun _ => tl0) (fun hc => q_mv rfl (rfl : _ = V.int _ _)) ?_
  refine .gf rfl rfl rfl (fun hc => tl1 16 (.opt hc)) (fun hc => q_ge rfl rfl rfl) ?_
  refine .pf rfl rfl rfl rfl <|
    .mB rfl rfl ?_
  refine .gf rfl rfl rfl (fun _ => tl0) (fun hc => q_mv rfl (rfl : _ = V.int _ _)) ?_
  refine .gf rfl rfl rfl (fun hc => tl1 20 (.opt hc)) (fun hc => q_eq rfl rfl rfl) ?_
  refine .gf rfl rfl rfl (fun hc => tl1 21 (.opt hc)) (fun hc => q_mv rfl (rfl : _ = V.bool _)) ?_
  refine AOps.g (wanted_to rfl rfl) rfl rfl (fun _ => tl0) (fun hc => q_mv rfl (rfl : _ = V.bool _)) ?_
  refine .gf rfl rfl rfl (fun hc => tl1 22 (.opt hc)) (fun hc => q_pickg rfl rfl (fun hp => by first | exact VLe.opt hp | exact VLe.opt (by rw [hp]; rfl) | exact VLe.opt (by simp_all)) (fun hp => by exact VLe.refl _)) ?_
  refine .pf rfl rfl rfl rfl <|
    .aB rfl rfl <|
    .nil ?_
  refine AW.cond rfl (fun c0 => ?_) (fun c0 => ?_)
  · skip
    refine .seq <|
      .region <|
      .aI rfl rfl <|
      .nil ?_
    refine AW.ret ?_
    rw [side_lib] at c0
    exact retQ.mk (.one _) ⟨congrArg (V.int .i64) (by rw [knowZoneF, if_pos (by simpa using c0)]), rfl⟩
  · skip
    refine .seq <|
      .region <|
      .mI rfl rfl <|
      .qe rfl rfl rfl <|
      .aB rfl rfl <|
      .nil ?_
    refine AW.cond rfl (fun c1 => ?_) (fun c1 => ?_)
    · skip
      refine .seq <|
        .region <|
        .mI rfl rfl ?_
      refine .u rfl rfl rfl (q_conv rfl underlying3 underlying151 rfl) ?_
      refine .u rfl rfl rfl (q_shl rfl rfl rfl (by rcases side_two c1 with rfl | rfl <;> decide +kernel)) ?_
      refine .aI rfl rfl <|
        .nil ?_
      refine AW.ret ?_
      exact retQ.mk (.one _) ⟨congrArg (V.int .i64) (by rcases side_two c1 with rfl | rfl <;> decide +kernel), rfl⟩
    · skip
      refine AW.skip ?_
      refine .seq <|
        .region <|
        .aI rfl rfl <|
        .nil ?_
      refine AW.ret ?_
      rw [side_lib] at c0
      have h0 : ¬ (z < 0 ∨ 11 ≤ z ∨ z < 2) := by simpa using c0
      have h1 : z ≠ 2 ∧ z ≠ 3 := ⟨(fun e => by subst e; revert c1; decide +kernel), (fun e => by subst e; revert c1; decide +kernel)⟩
      exact retQ.mk (.one _) ⟨congrArg (V.int .i64) (by rw [knowZoneF, if_neg h0, if_neg h1.1, if_neg h1.2]), rfl⟩

theorem fuel_calls (s : St) (hb : s.objs.length ≤ 1000000) (h : Hp) : ACalls prog G 52 [eState s] h fun r h' => r = .int .i64 (s.objs.length + 1) ∧ h' = h := by
  refine ACalls.enter func52 rfl ntmps52 results52 rfl ?_
  refine .seq <|
    .region <|
    .bx rfl rfl <|
    .aI rfl rfl <|
    .nil <|
    .seq <|
    .region <|
    .fi rfl f29_0 rfl <|
    .li rfl isAgg22 rfl rfl <|
    .ln rfl underlying22 rfl <|
    .ad rfl rfl rfl (by omega) <|
    .aI rfl rfl <|
    .nil ?_
  refine AW.ret ?_
  exact retQ.mk (.one _) ⟨rfl, rfl⟩

end Go.Proofs.YtagcjkbogaoifaaGreatDoor
/- Walks with loops: sizes, lists of numbers. -/
namespace Go.Proofs.YtagcjkbogaoifaaGreatDoor
open Go Go.AV Go.Proofs.Tryz
set_option maxRecDepth 100000
/-- A state that is larger than is looked at. -/
def longF (s : St) (m : Int) : Bool := decide (m < s.objs.length) || (List.range 11).any fun z => decide (m + 10 < (s.lists z).length)
theorem any_of {p : Nat → Bool} {n i : Nat} (h : i < n) (hp : p i = true) : (List.range n).any p = true := List.any_eq_true.2 ⟨i, List.mem_range.2 h, hp⟩
theorem any_none {p : Nat → Bool} {n : Nat} (h : ∀ j, j < n → p j = false) : (List.range n).any p = false := by
  rw [List.any_eq_false]; intro x hx; simp [h x (List.mem_range.1 hx)]
theorem all_none {p : Nat → Bool} {i : Nat} (h : ∀ j, j < i → p j = false) (hp : p i = false) : ∀ j, j < i + 1 → p j = false := fun j hj => by
  rcases Nat.lt_succ_iff_lt_or_eq.1 hj with e | e
  · exact h j e
  · subst e; exact hp

theorem long_calls (s : St) (m : Int) (hm : 0 ≤ m ∧ m ≤ 1000) (h : Hp) : ACalls prog G 7 [eState s, .int .i64 m] h fun r h' => r = .bool (longF s m) ∧ h' = h := by
  refine ACalls.enter func7 rfl ntmps7 results7 rfl ?_
  refine .seq <|
    .region <|
    .bx rfl rfl <|
    .aB rfl rfl <|
    .nil <|
    .seq <|
    .seq <|
    .region <|
    .fi rfl f29_0 rfl <|
    .li rfl isAgg22 rfl rfl <|
    .ln rfl underlying22 rfl <|
    .mI rfl rfl ?_
  refine .u rfl rfl rfl (q_gt rfl rfl rfl) ?_
  refine .nil ?_
  refine AW.cond rfl (fun c0 => ?_) (fun c0 => ?_)
  · skip
    refine .seq <|
      .region <|
      .aB rfl rfl <|
      .nil ?_
    refine AW.ret ?_
    exact retQ.mk' (.one _) (VLe.of_eq (congrArg V.bool (by simp [longF]; simp at c0; exact .inl c0))) (HLe.refl _) ⟨rfl, rfl⟩
  · skip
    refine AW.skip ?_
    refine .seq <|
      .seq <|
      .region <|
      .fi rfl f29_1 rfl ?_
    refine .u rfl rfl rfl (q_load_iN rfl isAgg24 sizeOf24 rfl (by rfl) rfl) ?_
    refine .mI rfl rfl <|
      .nil <|
      .block ?_
    refine AW.loop (fun n T hh => ∃ (i : Nat) , i ≤ 11 ∧ n = 11 - i ∧ T = put (put (put (T0) 14 (V.int .i64 (i : Nat))) 13 (V.agg (((cState s).drop 1).take 11))) 1 (V.int .i64 m) ∧ hh = h ∧ longF s m = (List.range 11).any (fun z => decide (m + 10 < (s.lists z).length)) ∧ ∀ j, j < i → decide (m + 10 < ((s.lists j).length : Int)) = false) (11) ?_ ?_
    · skip
      refine Wk.mk (TLe.put (d := 1) (VLe.refl _) (TLe.put (d := 13) (VLe.refl _) (TLe.put (d := 14) (by exact VLe.of_eq (congrArg (V.int .i64) (by first | rfl | omega))) (TLe.zero _)))) (HLe.refl _) ⟨0, Nat.zero_le _, rfl, rfl, rfl, ⟨by simp at c0; simp [longF]; omega, fun j hj => by omega⟩⟩
    · skip
      rintro n T h' ⟨i, hi, rfl, rfl, rfl, ⟨hl, hn⟩⟩
      refine .seq <|
        .region <|
        .ql rfl rfl rfl <|
        .nil <|
        .seq ?_
      refine AW.cond rfl (fun c1 => ?_) (fun c1 => ?_)
      · have hlt : i < 11 := by have := of_decide_eq_true c1; omega
        refine AW.skip ?_
        refine .seq <|
          .block <|
          .seq <|
          .region ?_
        refine .u rfl rfl rfl (q_ix1 rfl underlying24 sizeOf23 isAgg23 rfl rfl (by omega) (by omega) (lists_ix (by omega) (by omega))) ?_
        refine .aS rfl rfl <|
          .nil <|
          .seq <|
          .region <|
          .mS rfl rfl <|
          .ln rfl underlying23 rfl <|
          .mI rfl rfl <|
          .ad rfl rfl rfl (by omega) ?_
        refine .u rfl rfl rfl (q_gt rfl rfl rfl) ?_
        refine .nil ?_
        refine AW.cond rfl (fun c2 => ?_) (fun c2 => ?_)
        · skip
          refine .seq <|
            .region <|
            .aB rfl rfl <|
            .nil ?_
          refine AW.ret ?_
          exact retQ.mk' (.one _) (VLe.of_eq (congrArg V.bool (by rw [hl]; exact (any_of (i := i) (by omega) (by simpa using c2)).symm))) (HLe.refl _) ⟨rfl, rfl⟩
        · skip
          refine AW.skip ?_
          refine .region <|
            .ad rfl rfl rfl (by omega) <|
            .mI rfl rfl <|
            .nil ?_
          refine Wk.mk (TLe.put (d := 1) (VLe.refl _) (TLe.put (d := 13) (VLe.refl _) (TLe.put (d := 14) (by exact VLe.of_eq (congrArg (V.int .i64) (by first | rfl | omega))) (TLe.zero _)))) (HLe.refl _) ⟨_, ?_, i + 1, ?_, rfl, rfl, rfl, ⟨hl, all_none hn (by simpa using c2)⟩⟩
          · omega
          · omega
      · obtain rfl : i = 11 := by have := of_decide_eq_false c1; omega
        refine AW.exit ?_
        refine .seq <|
          .region <|
          .aB rfl rfl <|
          .nil ?_
        refine AW.ret ?_
        exact retQ.mk' (.one _) (VLe.of_eq (congrArg V.bool (by rw [hl]; exact (any_none hn).symm))) (HLe.refl _) ⟨rfl, rfl⟩

theorem getD_of {a : List Int} {i : Nat} (h : i < a.length) : a.getD i 0 = a[i] := by simp [List.getD, h]
/-- The first place of a number; -1: none. -/
def idxF (l : List Int) (x : Int) : Int := match l.findIdx? (fun y => y == x) with | some i => i | none => -1
theorem idxF_some {l : List Int} {x : Int} {i : Nat} (hi : i < l.length) (hx : l.getD i 0 = x) (hn : ∀ j, j < i → l.getD j 0 ≠ x) : idxF l x = i := by
  have : l.findIdx? (fun y => y == x) = some i := by
    rw [List.findIdx?_eq_some_iff_getElem]
    refine ⟨hi, by rw [getD_of hi] at hx; simpa using hx, fun j hj => ?_⟩
    have := hn j hj
    rw [getD_of (by omega)] at this
    simpa using this
  unfold idxF; rw [this]
theorem idxF_none {l : List Int} {x : Int} (hn : ∀ j, j < l.length → l.getD j 0 ≠ x) : idxF l x = -1 := by
  have : l.findIdx? (fun y => y == x) = none := by
    rw [List.findIdx?_eq_none_iff]
    intro y hy
    obtain ⟨j, hj, rfl⟩ := List.getElem_of_mem hy
    have := hn j hj
    rw [getD_of hj] at this
    simpa using this
  unfold idxF; rw [this]
theorem all_ne {l : List Int} {x : Int} {i : Nat} (h : ∀ j, j < i → l.getD j 0 ≠ x) (hp : l.getD i 0 ≠ x) : ∀ j, j < i + 1 → l.getD j 0 ≠ x := fun j hj => by
  rcases Nat.lt_succ_iff_lt_or_eq.1 hj with e | e
  · exact h j e
  · subst e; exact hp

theorem sIndex_calls (l : List Int) (x : Int) (hb : l.length ≤ 1000000) (h : Hp) : ACalls prog G 120 [eInts l, .int .i64 x] h fun r h' => r = .int .i64 (idxF l x) ∧ h' = h := by
  refine ACalls.enter func120 rfl ntmps120 results120 rfl ?_
  refine .seq <|
    .region <|
    .aI rfl rfl <|
    .nil <|
    .seq <|
    .seq <|
    .region <|
    .mS rfl rfl <|
    .ln rfl underlying23 rfl <|
    .mI rfl rfl <|
    .nil <|
    .block ?_
  refine AW.loop (fun n T hh => ∃ (i : Nat) , i ≤ l.length ∧ n = l.length - i ∧ T = put (put (put (put (T0) 8 (V.int .i64 (i : Nat))) 7 (V.int .i64 l.length)) 1 (V.int .i64 x)) 0 (eInts l) ∧ hh = h ∧ ∀ j, j < i → l.getD j 0 ≠ x) (l.length) ?_ ?_
  · skip
    refine Wk.mk (TLe.put (d := 0) (VLe.refl _) (TLe.put (d := 1) (VLe.refl _) (TLe.put (d := 7) (VLe.refl _) (TLe.put (d := 8) (by exact VLe.of_eq (congrArg (V.int .i64) (by first | rfl | omega))) (TLe.zero _))))) (HLe.refl _) ⟨0, Nat.zero_le _, rfl, rfl, rfl, fun j hj => by omega⟩
  · skip
    rintro n T h' ⟨i, hi, rfl, rfl, rfl, hn⟩
    refine .seq <|
      .region <|
      .ql rfl rfl rfl <|
      .nil <|
      .seq ?_
    refine AW.cond rfl (fun c0 => ?_) (fun c0 => ?_)
    · have hlt : i < l.length := by have := of_decide_eq_true c0; omega
      refine AW.skip ?_
      refine .seq <|
        .block <|
        .seq <|
        .region <|
        .mI rfl rfl <|
        .aI rfl rfl <|
        .nil <|
        .seq <|
        .region <|
        .mI rfl rfl <|
        .mS rfl rfl <|
        .mI rfl rfl ?_
      refine .u rfl rfl rfl (q_ia_s rfl underlying23 sizeOf3 rfl rfl (by omega) (by omega) (cInts_elem (by omega) (by omega))) ?_
      refine .li rfl isAgg3 rfl rfl <|
        .qe rfl rfl rfl <|
        .nil ?_
      refine AW.cond rfl (fun c1 => ?_) (fun c1 => ?_)
      · skip
        refine .seq <|
          .region <|
          .mI rfl rfl <|
          .aI rfl rfl <|
          .nil ?_
        refine AW.ret ?_
        exact retQ.mk' (.one _) (VLe.of_eq (congrArg (V.int .i64) (by rw [idxF_some hlt (by simpa using (beq_iff_eq.1 c1).symm) hn]))) (HLe.refl _) ⟨rfl, rfl⟩
      · skip
        refine AW.skip ?_
        refine .region <|
          .ad rfl rfl rfl (by omega) <|
          .mI rfl rfl <|
          .nil ?_
        refine Wk.mk (TLe.put (d := 0) (VLe.refl _) (TLe.put (d := 1) (VLe.refl _) (TLe.put (d := 7) (VLe.refl _) (TLe.put (d := 8) (by exact VLe.of_eq (congrArg (V.int .i64) (by first | rfl | omega))) (TLe.zero _))))) (HLe.refl _) ⟨_, ?_, i + 1, ?_, rfl, rfl, rfl, all_ne hn (fun e => by subst e; simp at c1)⟩
        · omega
        · omega
    · obtain rfl : i = l.length := by have := of_decide_eq_false c0; omega
      refine AW.exit ?_
      refine .seq <|
        .region <|
        .aI rfl rfl <|
        .nil ?_
      refine AW.ret ?_
      exact retQ.mk' (.one _) (VLe.of_eq (congrArg (V.int .i64) ((idxF_none hn).symm))) (HLe.refl _) ⟨rfl, rfl⟩

theorem index_calls (l : List Int) (x : Int) (hb : l.length ≤ 1000000) (h : Hp) : ACalls prog G 69 [eInts l, .int .i64 x] h fun r h' => r = .int .i64 (idxF l x) ∧ h' = h := by
  refine ACalls.enter func69 rfl ntmps69 results69 rfl ?_
  refine .seq <|
    .region <|
    .aI rfl rfl <|
    .nil <|
    .seq <|
    .region <|
    .mS rfl rfl <|
    .mI rfl rfl ?_
  refine .u rfl rfl rfl (QOp.call rfl call120 fun h' hl' => by exact sIndex_calls _ _ (by assumption) h') ?_
  refine .aI rfl rfl <|
    .nil ?_
  refine AW.ret ?_
  exact retQ.mk' (.one _) (VLe.of_eq (congrArg (V.int .i64) (rfl))) (HLe.refl _) ⟨rfl, rfl⟩

end Go.Proofs.YtagcjkbogaoifaaGreatDoor
/- Walks: the bounds of a state's numbers. -/
namespace Go.Proofs.YtagcjkbogaoifaaGreatDoor
open Go Go.AV Go.Proofs.Tryz
set_option maxRecDepth 100000
set_option maxHeartbeats 400000

theorem pl29 {fs : Array Field} (h : prog.underlying 29 = some (.struct fs)) (w : World) : (fs.mapM fun f => do pure (f.offset, ← sizeOf f.type) : Sem (Array (Nat × Nat))).run prog w = .ok #[(0, 1), (1, 11), (12, 18), (30, 7)] w := by
  rw [underlying29] at h; cases h
  simp [Array.mapM_eq_mapM_toList, List.mapM_cons, sizeOf22, sizeOf24, sizeOf26, sizeOf27]
theorem pl36 {fs : Array Field} (h : prog.underlying 36 = some (.struct fs)) (w : World) : (fs.mapM fun f => do pure (f.offset, ← sizeOf f.type) : Sem (Array (Nat × Nat))).run prog w = .ok #[(0, 1), (1, 1), (2, 1), (3, 1), (4, 1)] w := by
  rw [underlying36] at h; cases h
  simp [Array.mapM_eq_mapM_toList, List.mapM_cons, sizeOf3, sizeOf34]
theorem pl38 {fs : Array Field} (h : prog.underlying 38 = some (.struct fs)) (w : World) : (fs.mapM fun f => do pure (f.offset, ← sizeOf f.type) : Sem (Array (Nat × Nat))).run prog w = .ok #[(0, 1), (1, 6), (7, 1), (8, 1), (9, 5)] w := by
  rw [underlying38] at h; cases h
  simp [Array.mapM_eq_mapM_toList, List.mapM_cons, sizeOf3, sizeOf4, sizeOf33, sizeOf36]
theorem pl44 {fs : Array Field} (h : prog.underlying 44 = some (.struct fs)) (w : World) : (fs.mapM fun f => do pure (f.offset, ← sizeOf f.type) : Sem (Array (Nat × Nat))).run prog w = .ok #[(0, 1), (1, 1), (2, 1), (3, 6), (9, 1), (10, 1), (11, 1), (12, 1)] w := by
  rw [underlying44] at h; cases h
  simp [Array.mapM_eq_mapM_toList, List.mapM_cons, sizeOf3, sizeOf4, sizeOf33, sizeOf42]
theorem pl86 {fs : Array Field} (h : prog.underlying 86 = some (.struct fs)) (w : World) : (fs.mapM fun f => do pure (f.offset, ← sizeOf f.type) : Sem (Array (Nat × Nat))).run prog w = .ok #[(0, 37), (37, 1), (38, 1), (39, 1), (40, 1)] w := by
  rw [underlying86] at h; cases h
  simp [Array.mapM_eq_mapM_toList, List.mapM_cons, sizeOf23, sizeOf29, sizeOf53, sizeOf58, sizeOf84]
theorem pl95 {fs : Array Field} (h : prog.underlying 95 = some (.struct fs)) (w : World) : (fs.mapM fun f => do pure (f.offset, ← sizeOf f.type) : Sem (Array (Nat × Nat))).run prog w = .ok #[(0, 1), (1, 1), (2, 1)] w := by
  rw [underlying95] at h; cases h
  simp [Array.mapM_eq_mapM_toList, List.mapM_cons, sizeOf3]
theorem pl102 {fs : Array Field} (h : prog.underlying 102 = some (.struct fs)) (w : World) : (fs.mapM fun f => do pure (f.offset, ← sizeOf f.type) : Sem (Array (Nat × Nat))).run prog w = .ok #[(0, 37), (37, 1), (38, 1), (39, 1), (40, 1)] w := by
  rw [underlying102] at h; cases h
  simp [Array.mapM_eq_mapM_toList, List.mapM_cons, sizeOf3, sizeOf23, sizeOf29, sizeOf84, sizeOf100]
theorem pl107 {fs : Array Field} (h : prog.underlying 107 = some (.struct fs)) (w : World) : (fs.mapM fun f => do pure (f.offset, ← sizeOf f.type) : Sem (Array (Nat × Nat))).run prog w = .ok #[(0, 1), (1, 1), (2, 1)] w := by
  rw [underlying107] at h; cases h
  simp [Array.mapM_eq_mapM_toList, List.mapM_cons, sizeOf3]
theorem pl116 {fs : Array Field} (h : prog.underlying 116 = some (.struct fs)) (w : World) : (fs.mapM fun f => do pure (f.offset, ← sizeOf f.type) : Sem (Array (Nat × Nat))).run prog w = .ok #[(0, 1), (1, 1), (2, 1), (3, 1), (4, 1), (5, 1)] w := by
  rw [underlying116] at h; cases h
  simp [Array.mapM_eq_mapM_toList, List.mapM_cons, sizeOf3]
theorem pl161 {fs : Array Field} (h : prog.underlying 161 = some (.struct fs)) (w : World) : (fs.mapM fun f => do pure (f.offset, ← sizeOf f.type) : Sem (Array (Nat × Nat))).run prog w = .ok #[(0, 1), (1, 1)] w := by
  rw [underlying161] at h; cases h
  simp [Array.mapM_eq_mapM_toList, List.mapM_cons, sizeOf3]
theorem pl216 {fs : Array Field} (h : prog.underlying 216 = some (.struct fs)) (w : World) : (fs.mapM fun f => do pure (f.offset, ← sizeOf f.type) : Sem (Array (Nat × Nat))).run prog w = .ok #[(0, 1), (1, 1), (2, 1)] w := by
  rw [underlying216] at h; cases h
  simp [Array.mapM_eq_mapM_toList, List.mapM_cons, sizeOf3]
theorem pl243 {fs : Array Field} (h : prog.underlying 243 = some (.struct fs)) (w : World) : (fs.mapM fun f => do pure (f.offset, ← sizeOf f.type) : Sem (Array (Nat × Nat))).run prog w = .ok #[(0, 1), (1, 1), (2, 1), (3, 5)] w := by
  rw [underlying243] at h; cases h
  simp [Array.mapM_eq_mapM_toList, List.mapM_cons, sizeOf3, sizeOf36]

/-- Bounds, by field. -/
def oLo (m : Int) : Nat → Int | 8 => -1073741824 | 9 => -1073741824 | 16 => -2 | _ => 0
def oHi (m : Int) : Nat → Int | 0 => 119 | 1 => 1 | 2 => 1 | 3 => 10 | 4 => 1 | 5 => 1 | 6 => 1073741824 | 7 => 1073741824 | 8 => 1073741824 | 9 => 1073741824 | 10 => 255 | 11 => 1 | 12 => m | 13 => 2 | 14 => 3 | 15 => m | 16 => m | _ => 3
def pLo : Nat → Int | 0 => -1073741824 | _ => 0
def pHi : Nat → Int | 0 => 1073741824 | 7 => 1 | 8 => 1 | _ => 1000
def gHi : Nat → Int | 0 => 1073741824 | 1 => 1 | 2 => 7 | 3 => 1 | 4 => 1 | 5 => 4096 | _ => 3
def bnds (lo hi : Nat → Int) : Nat → Nat → List V
  | _, 0 => []
  | k, n + 1 => .int .i64 (lo k) :: .int .i64 (hi k) :: bnds lo hi (k + 1) n
theorem bnds_len (lo hi : Nat → Int) : ∀ n k, (bnds lo hi k n).length = n * 2
  | 0, _ => rfl
  | n + 1, k => by simp [bnds, bnds_len lo hi n (k + 1)]; omega
theorem bnds_ix (lo hi : Nat → Int) : ∀ n k i, i < n → ((bnds lo hi k n).drop (i * 2)).take 2 = [.int .i64 (lo (k + i)), .int .i64 (hi (k + i))]
  | 0, _, _, h => by omega
  | n + 1, k, 0, _ => by simp [bnds]
  | n + 1, k, i + 1, h => by
    have := bnds_ix lo hi n (k + 1) i (by omega)
    rw [show (i + 1) * 2 = i * 2 + 1 + 1 by omega]
    simp only [bnds, List.drop_succ_cons]
    rw [this, show k + 1 + i = k + (i + 1) by omega]

theorem objects_calls (m : Int) (h : Hp) : ACalls prog G 128 [.int .i64 m] h fun r h' => r = .agg (bnds (oLo m) (oHi m) 0 18) ∧ h' = h := by
  refine ACalls.enter func128 rfl ntmps128 results128 rfl ?_
  refine .seq <|
    .region ?_
  refine AOps.s rfl rfl rfl (a_alloc rfl zeroValue162 rfl (fun id2 hid2 => ?_))
  refine .nil <|
    .seq <|
    .region ?_
  refine .u rfl rfl rfl (q_buildS rfl zeroValue161 underlying161 (pl161 underlying161) rfl rfl) ?_
  refine AOps.s rfl rfl rfl (a_alloc rfl zeroValue161 rfl (fun id3 hid3 => ?_))
  refine .sw sizeOf161 rfl rfl rfl rfl ?_
  refine AOps.done 3 rfl hid3 ?_
  refine .nil <|
    .seq <|
    .region ?_
  refine .u rfl rfl rfl (q_buildS rfl zeroValue161 underlying161 (pl161 underlying161) rfl rfl) ?_
  refine .lw rfl isAgg161 sizeOf161 rfl rfl <|
    .lw rfl isAgg161 sizeOf161 rfl rfl ?_
  refine .u rfl rfl rfl (q_buildS rfl zeroValue161 underlying161 (pl161 underlying161) rfl rfl) ?_
  refine .lw rfl isAgg161 sizeOf161 rfl rfl <|
    .lw rfl isAgg161 sizeOf161 rfl rfl <|
    .lw rfl isAgg161 sizeOf161 rfl rfl <|
    .lw rfl isAgg161 sizeOf161 rfl rfl <|
    .lw rfl isAgg161 sizeOf161 rfl rfl <|
    .lw rfl isAgg161 sizeOf161 rfl rfl ?_
  refine .u rfl rfl rfl (q_buildS rfl zeroValue161 underlying161 (pl161 underlying161) rfl rfl) ?_
  refine .lw rfl isAgg161 sizeOf161 rfl rfl <|
    .mI rfl rfl ?_
  refine .u rfl rfl rfl (q_buildS rfl zeroValue161 underlying161 (pl161 underlying161) rfl rfl) ?_
  refine .u rfl rfl rfl (q_buildS rfl zeroValue161 underlying161 (pl161 underlying161) rfl rfl) ?_
  refine .u rfl rfl rfl (q_buildS rfl zeroValue161 underlying161 (pl161 underlying161) rfl rfl) ?_
  refine .mI rfl rfl ?_
  refine .u rfl rfl rfl (q_buildS rfl zeroValue161 underlying161 (pl161 underlying161) rfl rfl) ?_
  refine .mI rfl rfl ?_
  refine .u rfl rfl rfl (q_buildS rfl zeroValue161 underlying161 (pl161 underlying161) rfl rfl) ?_
  refine .u rfl rfl rfl (q_buildS rfl zeroValue161 underlying161 (pl161 underlying161) rfl rfl) ?_
  refine .u rfl rfl rfl (q_buildA (ds := bnds (oLo m) (oHi m) 0 18) rfl zeroValue162 underlying162 sizeOf161 rfl (by kernel_rfl)) ?_
  refine .sw sizeOf162 rfl rfl rfl rfl <|
    .nil ?_
  refine AW.ret ?_
  exact retQ.mk' (Res.cellB isAgg162 sizeOf162 rfl (by exact bsb) rfl) (VLe.refl _) (HLe.setBox hid2.1) ⟨rfl, rfl⟩

theorem fill_step {i : Nat} (h : i < 9) : splice (bnds (fun _ => 0) (fun j => if j < i then 1000 else 0) 0 9) (0 + (i : Int).toNat * 2) [.int .i64 0, .int .i64 1000] = bnds (fun _ => 0) (fun j => if j < i + 1 then 1000 else 0) 0 9 := by
  match i, h with
  | 0, _ | 1, _ | 2, _ | 3, _ | 4, _ | 5, _ | 6, _ | 7, _ | 8, _ => rfl

theorem players_calls (h : Hp) : ACalls prog G 130 [] h fun r h' => r = .agg (bnds pLo pHi 0 9) ∧ h' = h := by
  refine ACalls.enter func130 rfl ntmps130 results130 rfl ?_
  refine .seq <|
    .region ?_
  refine AOps.s rfl rfl rfl (a_alloc rfl zeroValue164 rfl (fun id0 hid0 => ?_))
  refine .nil <|
    .seq <|
    .region ?_
  refine AOps.s rfl rfl rfl (a_alloc rfl zeroValue164 rfl (fun id1 hid1 => ?_))
  refine .nil <|
    .seq <|
    .seq <|
    .region <|
    .mI rfl rfl <|
    .nil <|
    .block ?_
  refine AW.loop (fun n T hh => ∃ (i : Nat) , i ≤ 9 ∧ n = 9 - i ∧ T = put (put (put (T0) 3 (V.int .i64 (i : Nat))) 1 (V.ptr id1 0)) 0 (V.ptr id0 0) ∧ hh = (h.setBox id0 (bnds (fun _ => 0) (fun _ => 0) 0 9)).setBox id1 (bnds (fun _ => 0) (fun j => if j < i then 1000 else 0) 0 9)) (9) ?_ ?_
  · skip
    refine Wk.mk (TLe.put (d := 0) (VLe.refl _) (TLe.put (d := 1) (VLe.refl _) (TLe.put (d := 3) (by exact VLe.of_eq (congrArg (V.int .i64) (by first | rfl | omega))) (TLe.zero _)))) (HLe.refl _) ⟨0, Nat.zero_le _, rfl, rfl, rfl⟩
  · skip
    rintro n T h' ⟨i, hi, rfl, rfl, rfl⟩
    refine .seq <|
      .region <|
      .ql rfl rfl rfl <|
      .nil <|
      .seq ?_
    refine AW.cond rfl (fun c0 => ?_) (fun c0 => ?_)
    · have hlt : i < 9 := by have := of_decide_eq_true c0; omega
      refine AW.skip ?_
      refine .seq <|
        .block <|
        .seq <|
        .region <|
        .mI rfl rfl <|
        .aI rfl rfl <|
        .nil <|
        .region <|
        .mI rfl rfl ?_
      refine .u rfl rfl rfl (q_buildS rfl zeroValue161 underlying161 (pl161 underlying161) rfl rfl) ?_
      refine .u rfl rfl rfl (q_ia_ab rfl underlying164 sizeOf161 rfl rfl (by omega) (by omega)) ?_
      refine AOps.s0 rfl rfl (a_storeA rfl sizeOf161 rfl (by exact bsb) (rfl : _ = V.agg _) rfl (by first | decide | exact Nat.le_of_ble_eq_true rfl | (simp only [bnds_len]; omega)) ?_)
      refine .nil <|
        .region <|
        .ad rfl rfl rfl (by omega) <|
        .mI rfl rfl <|
        .nil ?_
      refine Wk.mk (TLe.put (d := 0) (VLe.refl _) (TLe.put (d := 1) (VLe.refl _) (TLe.put (d := 3) (by exact VLe.of_eq (congrArg (V.int .i64) (by first | rfl | omega))) (TLe.zero _)))) (HLe.refl _) ⟨_, ?_, i + 1, ?_, rfl, rfl, by rw [Hp.setBox_setBox]; congr 1; exact fill_step (by omega)⟩
      · omega
      · omega
    · obtain rfl : i = 9 := by have := of_decide_eq_false c0; omega
      refine AW.exit ?_
      refine .seq ?_
      refine AW.draw [4, 6, 8] [1, 2] [(0, true), (1, true), (2, true), (3, true), (4, false), (5, true), (6, false), (7, true), (8, false)] mixed (by kernel_rfl) rfl (by kernel_rfl) ?_
      refine .q rfl rfl rfl rfl (q_load_iW rfl isAgg161 sizeOf161 rfl (by rfl)) ?_
      refine .p rfl rfl rfl (fun _ => q_load_iW rfl isAgg161 sizeOf161 rfl (by rfl)) ?_
      refine .p rfl rfl rfl (fun _ => q_load_iW rfl isAgg161 sizeOf161 rfl (by rfl)) ?_
      refine .q rfl rfl rfl rfl (q_ia_ab rfl underlying164 sizeOf161 rfl rfl (by decide) (by decide)) ?_
      refine AOrd.s0 rfl rfl rfl rfl (a_storeA rfl sizeOf161 rfl (by exact bsb) (rfl : _ = V.agg _) rfl (by first | decide | exact Nat.le_of_ble_eq_true rfl | (simp only [bnds_len]; omega)) ?_)
      refine .q rfl rfl rfl rfl (q_ia_ab rfl underlying164 sizeOf161 rfl rfl (by decide) (by decide)) ?_
      refine AOrd.s0 rfl rfl rfl rfl (a_storeA rfl sizeOf161 rfl (by exact bsb) (rfl : _ = V.agg _) rfl (by first | decide | exact Nat.le_of_ble_eq_true rfl | (simp only [bnds_len]; omega)) ?_)
      refine .q rfl rfl rfl rfl (q_ia_ab rfl underlying164 sizeOf161 rfl rfl (by decide) (by decide)) ?_
      refine AOrd.s0 rfl rfl rfl rfl (a_storeA rfl sizeOf161 rfl (by exact bsb) (rfl : _ = V.agg _) rfl (by first | decide | exact Nat.le_of_ble_eq_true rfl | (simp only [bnds_len]; omega)) ?_)
      refine AOrd.nil ?_
      refine .seq ?_
      rw [Hp.setBox_setBox, Hp.setBox_setBox, Hp.setBox_setBox]
      refine AW.done 1 rfl hid1 ?_
      refine .region <|
        .lw rfl isAgg164 sizeOf164 rfl rfl <|
        .sw sizeOf164 rfl rfl rfl rfl <|
        .nil ?_
      refine AW.ret ?_
      exact retQ.mk' (Res.cellB isAgg164 sizeOf164 rfl (by exact bsb) rfl) (VLe.refl _) (HLe.setBox hid0.1) ⟨rfl, rfl⟩

theorem game_calls (h : Hp) : ACalls prog G 131 [] h fun r h' => r = .agg (bnds (fun _ => 0) gHi 0 7) ∧ h' = h := by
  refine ACalls.enter func131 rfl ntmps131 results131 rfl ?_
  refine .seq <|
    .region ?_
  refine AOps.s rfl rfl rfl (a_alloc rfl zeroValue166 rfl (fun id0 hid0 => ?_))
  refine .nil <|
    .seq <|
    .region ?_
  refine .u rfl rfl rfl (q_buildS rfl zeroValue161 underlying161 (pl161 underlying161) rfl rfl) ?_
  refine .lw rfl isAgg161 sizeOf161 rfl rfl ?_
  refine .u rfl rfl rfl (q_buildS rfl zeroValue161 underlying161 (pl161 underlying161) rfl rfl) ?_
  refine .lw rfl isAgg161 sizeOf161 rfl rfl <|
    .lw rfl isAgg161 sizeOf161 rfl rfl ?_
  refine .u rfl rfl rfl (q_buildS rfl zeroValue161 underlying161 (pl161 underlying161) rfl rfl) ?_
  refine .u rfl rfl rfl (q_buildS rfl zeroValue161 underlying161 (pl161 underlying161) rfl rfl) ?_
  refine .u rfl rfl rfl (q_buildA (ds := bnds (fun _ => 0) gHi 0 7) rfl zeroValue166 underlying166 sizeOf161 rfl (by kernel_rfl)) ?_
  refine .sw sizeOf166 rfl rfl rfl rfl <|
    .nil ?_
  refine AW.ret ?_
  exact retQ.mk' (Res.cellB isAgg166 sizeOf166 rfl (by exact bsb) rfl) (VLe.refl _) (HLe.setBox hid0.1) ⟨rfl, rfl⟩

end Go.Proofs.YtagcjkbogaoifaaGreatDoor
/- Walks: the ranges of a state's numbers. -/
namespace Go.Proofs.YtagcjkbogaoifaaGreatDoor
open Go Go.AV Go.Proofs.Tryz
set_option maxRecDepth 100000
set_option maxHeartbeats 400000
def objOk (m : Int) (o : Obj) : Bool := (List.range 18).all fun f => inB (o f) (oLo m f) (oHi m f)
def plOk (p : Nat → Int) : Bool := (List.range 9).all fun f => inB (p f) (pLo f) (pHi f)
def gameOk (g : Nat → Int) : Bool := (List.range 7).all fun f => inB (g f) 0 (gHi f)
def rangesF (s : St) : Bool := s.objs.all (objOk s.objs.length) && (List.range 2).all (fun p => plOk (s.pl p)) && gameOk s.game
theorem all_up {p : Nat → Bool} {n : Nat} : (List.range n).all p = true ↔ ∀ j, j < n → p j = true := by simp [List.all_eq_true]
theorem all_step {p : Nat → Bool} {i : Nat} (h : ∀ j, j < i → p j = true) (hp : p i = true) : ∀ j, j < i + 1 → p j = true := fun j hj => by
  rcases Nat.lt_succ_iff_lt_or_eq.1 hj with e | e
  · exact h j e
  · subst e; exact hp
theorem objs_all {l : List Obj} {p : Obj → Bool} : l.all p = true ↔ ∀ j, j < l.length → p (l.getD j noObj) = true := by
  rw [List.all_eq_true]
  refine ⟨fun h j hj => h _ (by rw [List.getD_eq_getElem?_getD, List.getElem?_eq_getElem hj]; exact List.getElem_mem _), fun h x hx => ?_⟩
  obtain ⟨j, hj, rfl⟩ := List.getElem_of_mem hx
  have := h j hj
  rwa [List.getD_eq_getElem?_getD, List.getElem?_eq_getElem hj] at this
theorem objs_bad {l : List Obj} {p : Obj → Bool} {j : Nat} (hj : j < l.length) (hp : p (l.getD j noObj) = false) : l.all p = false := by
  cases e : l.all p with
  | false => rfl
  | true => rw [objs_all.1 e j hj] at hp; cases hp
theorem all_bad {p : Nat → Bool} {n j : Nat} (hj : j < n) (hp : p j = false) : (List.range n).all p = false := by
  cases e : (List.range n).all p with
  | false => rfl
  | true => rw [all_up.1 e j hj] at hp; cases hp
theorem bnds_at {lo hi : Nat → Int} {n f : Nat} (h : f < n) : ((bnds lo hi 0 n).drop ((f : Int).toNat * 2)).take 2 = [.int .i64 (lo f), .int .i64 (hi f)] := by
  rw [Int.toNat_natCast, bnds_ix _ _ _ _ _ h, Nat.zero_add]
def plRow (g : Nat → Int) : List V := [.int .i64 (g 0), .int .i64 (g 1), .int .i64 (g 2), .int .i64 (g 3), .int .i64 (g 4), .int .i64 (g 5), .int .i64 (g 6), .int .i64 (g 7), .int .i64 (g 8)]
theorem pl_at {s : St} {p : Nat} (h : p < 2) : ((((cState s).drop 12).take 18).drop ((p : Int).toNat * 9)).take 9 = plRow (s.pl p) := by
  match p, h with
  | 0, _ | 1, _ => rfl
theorem plRow_at {g : Nat → Int} {k : Nat} (h : k < 9) : ((plRow g).drop ((k : Int).toNat * 1))[0]? = some (.int .i64 (g k)) := by
  match k, h with
  | 0, _ | 1, _ | 2, _ | 3, _ | 4, _ | 5, _ | 6, _ | 7, _ | 8, _ => rfl
theorem game_at {s : St} {k : Nat} (h : k < 7) : (((cState s).drop 30).drop ((k : Int).toNat * 1))[0]? = some (.int .i64 (s.game k)) := by
  match k, h with
  | 0, _ | 1, _ | 2, _ | 3, _ | 4, _ | 5, _ | 6, _ => rfl

theorem ranges_calls (s : St) (hb : s.objs.length ≤ 1000000) (h : Hp) : ACalls prog G 82 [eState s] h fun r h' => r = .bool (rangesF s) ∧ h' = h := by
  refine ACalls.enter func82 rfl ntmps82 results82 rfl ?_
  refine .seq <|
    .region <|
    .bx rfl rfl <|
    .aB rfl rfl <|
    .nil <|
    .seq <|
    .region <|
    .fi rfl f29_0 rfl <|
    .li rfl isAgg22 rfl rfl <|
    .ln rfl underlying22 rfl ?_
  refine .u rfl rfl rfl (QOp.call rfl call128 fun h' hl' => by exact objects_calls _ h') ?_
  refine AOps.s rfl rfl rfl (a_alloc rfl zeroValue162 rfl (fun id3 hid3 => ?_))
  refine .sw sizeOf162 rfl rfl rfl rfl ?_
  refine AOps.done 3 rfl hid3 ?_
  refine .nil <|
    .seq <|
    .seq <|
    .region <|
    .fi rfl f29_0 rfl <|
    .li rfl isAgg22 rfl rfl <|
    .ln rfl underlying22 rfl <|
    .mI rfl rfl <|
    .nil <|
    .block ?_
  refine AW.loop (fun n T hh => ∃ (i : Nat) , i ≤ s.objs.length ∧ n = s.objs.length - i ∧ T = put (put (put (put (put (T0) 21 (V.int .i64 (i : Nat))) 20 (V.int .i64 s.objs.length)) 19 (eObjs s.objs)) 3 (V.iptr (bnds (oLo s.objs.length) (oHi s.objs.length) 0 18))) 1 (V.iptr (cState s)) ∧ hh = h ∧ ∀ j, j < i → objOk s.objs.length (s.objs.getD j noObj) = true) (s.objs.length) ?_ ?_
  · skip
    refine Wk.mk (TLe.put (d := 1) (VLe.refl _) (TLe.put (d := 3) (VLe.refl _) (TLe.put (d := 19) (VLe.refl _) (TLe.put (d := 20) (VLe.refl _) (TLe.put (d := 21) (by exact VLe.of_eq (congrArg (V.int .i64) (by first | rfl | omega))) (TLe.zero _)))))) (HLe.refl _) ⟨0, Nat.zero_le _, rfl, rfl, rfl, fun j hj => by omega⟩
  · skip
    rintro n T h' ⟨i, hi, rfl, rfl, rfl, hn⟩
    refine .seq <|
      .region <|
      .ql rfl rfl rfl <|
      .nil <|
      .seq ?_
    refine AW.cond rfl (fun c0 => ?_) (fun c0 => ?_)
    · have hlt : i < s.objs.length := by have := of_decide_eq_true c0; omega
      refine AW.skip ?_
      refine .seq <|
        .block <|
        .seq <|
        .region ?_
      refine .u rfl rfl rfl (q_ia_s rfl underlying22 sizeOf72 rfl rfl (by omega) (by omega) (cObjs_elem' (by omega) (by omega))) ?_
      refine .lw rfl isAgg72 sizeOf72 rfl rfl ?_
      refine AOps.s rfl rfl rfl (a_alloc rfl zeroValue72 rfl (fun id5 hid5 => ?_))
      refine .sw sizeOf72 rfl rfl rfl rfl ?_
      refine AOps.done 5 rfl hid5 ?_
      refine .nil <|
        .seq <|
        .region <|
        .lw rfl isAgg72 sizeOf72 rfl rfl <|
        .mI rfl rfl <|
        .nil <|
        .block ?_
      refine AW.loop (fun n T hh => ∃ (f : Nat) , f ≤ 18 ∧ n = 18 - f ∧ T = put (put (put (put (put (put (put (T0) 26 (V.int .i64 (f : Nat))) 25 (eObj (s.objs.getD i noObj))) 21 (V.int .i64 (i : Nat))) 20 (V.int .i64 s.objs.length)) 19 (eObjs s.objs)) 3 (V.iptr (bnds (oLo s.objs.length) (oHi s.objs.length) 0 18))) 1 (V.iptr (cState s)) ∧ hh = h' ∧ ∀ g, g < f → inB (s.objs.getD i noObj g) (oLo s.objs.length g) (oHi s.objs.length g) = true) (18) ?_ ?_
      · skip
        refine Wk.mk (TLe.put (d := 1) (VLe.refl _) (TLe.put (d := 3) (VLe.refl _) (TLe.put (d := 19) (VLe.refl _) (TLe.put (d := 20) (VLe.refl _) (TLe.put (d := 21) (VLe.refl _) (TLe.put (d := 25) (VLe.refl _) (TLe.put (d := 26) (by exact VLe.of_eq (congrArg (V.int .i64) (by first | rfl | omega))) (TLe.zero _)))))))) (HLe.refl _) ⟨0, Nat.zero_le _, rfl, rfl, rfl, fun j hj => by omega⟩
      · skip
        rintro n T h' ⟨f, hf, rfl, rfl, rfl, hf⟩
        refine .seq <|
          .region <|
          .ql rfl rfl rfl <|
          .nil <|
          .seq ?_
        refine AW.cond rfl (fun c1 => ?_) (fun c1 => ?_)
        · have hltf : f < 18 := by have := of_decide_eq_true c1; omega
          refine AW.skip ?_
          refine .seq <|
            .block <|
            .seq <|
            .region <|
            .mI rfl rfl ?_
          refine .u rfl rfl rfl (q_ix1 rfl underlying72 sizeOf3 isAgg3 rfl rfl (by omega) (by omega) (obj_ix (by omega) (by omega))) ?_
          refine .aI rfl rfl <|
            .aI rfl rfl <|
            .nil <|
            .seq <|
            .region <|
            .mI rfl rfl ?_
          refine .u rfl rfl rfl (q_ia_ai rfl underlying162 sizeOf161 rfl rfl (by omega) (by omega) rfl) ?_
          refine .u rfl rfl rfl (q_load_iN (ds := [V.int .i64 (oLo s.objs.length f), V.int .i64 (oHi s.objs.length f)]) rfl isAgg161 sizeOf161 rfl rfl (bnds_at hltf)) ?_
          refine .mI rfl rfl ?_
          refine .u rfl rfl rfl (QOp.call rfl call129 fun h' hl' => by exact has_calls _ _ _ h') ?_
          refine .nt rfl rfl <|
            .nil ?_
          refine AW.cond rfl (fun c2 => ?_) (fun c2 => ?_)
          · skip
            refine .seq <|
              .region <|
              .aB rfl rfl <|
              .nil ?_
            refine AW.ret ?_
            exact retQ.mk' (.one _) (VLe.of_eq (congrArg V.bool (by rw [rangesF, objs_bad hlt (all_bad hltf (by simpa using c2))]; rfl))) (HLe.refl _) ⟨rfl, rfl⟩
          · skip
            refine AW.skip ?_
            refine .region <|
              .ad rfl rfl rfl (by omega) <|
              .mI rfl rfl <|
              .nil ?_
            refine Wk.mk (TLe.put (d := 1) (VLe.refl _) (TLe.put (d := 3) (VLe.refl _) (TLe.put (d := 19) (VLe.refl _) (TLe.put (d := 20) (VLe.refl _) (TLe.put (d := 21) (VLe.refl _) (TLe.put (d := 25) (VLe.refl _) (TLe.put (d := 26) (by exact VLe.of_eq (congrArg (V.int .i64) (by first | rfl | omega))) (TLe.zero _)))))))) (HLe.refl _) ⟨_, ?_, f + 1, ?_, rfl, rfl, rfl, all_step hf (by simpa using c2)⟩
            · omega
            · omega
        · obtain rfl : f = 18 := by have := of_decide_eq_false c1; omega
          refine AW.exit ?_
          refine .region <|
            .ad rfl rfl rfl (by omega) <|
            .mI rfl rfl <|
            .nil ?_
          refine Wk.mk (TLe.put (d := 1) (VLe.refl _) (TLe.put (d := 3) (VLe.refl _) (TLe.put (d := 19) (VLe.refl _) (TLe.put (d := 20) (VLe.refl _) (TLe.put (d := 21) (by exact VLe.of_eq (congrArg (V.int .i64) (by first | rfl | omega))) (TLe.zero _)))))) (HLe.refl _) ⟨_, ?_, i + 1, ?_, rfl, rfl, rfl, all_step hn (all_up.2 hf)⟩
          · omega
          · omega
    · obtain rfl : i = s.objs.length := by have := of_decide_eq_false c0; omega
      refine AW.exit ?_
      refine .seq <|
        .seq <|
        .region <|
        .fi rfl f29_12 rfl ?_
      refine .u rfl rfl rfl (q_load_iN rfl isAgg26 sizeOf26 rfl (by rfl) rfl) ?_
      refine .mI rfl rfl <|
        .nil <|
        .block ?_
      refine AW.loop (fun n T hh => ∃ (p : Nat) , p ≤ 2 ∧ n = 2 - p ∧ T = put (put (put (T0) 40 (V.int .i64 (p : Nat))) 39 (V.agg (((cState s).drop 12).take 18))) 1 (V.iptr (cState s)) ∧ hh = h' ∧ ∀ j, j < p → plOk (s.pl j) = true) (2) ?_ ?_
      · skip
        refine Wk.mk (TLe.put (d := 1) (VLe.refl _) (TLe.put (d := 39) (VLe.refl _) (TLe.put (d := 40) (by exact VLe.of_eq (congrArg (V.int .i64) (by first | rfl | omega))) (TLe.zero _)))) (HLe.refl _) ⟨0, Nat.zero_le _, rfl, rfl, rfl, fun j hj => by omega⟩
      · skip
        rintro n T h' ⟨p, hp, rfl, rfl, rfl, hp⟩
        refine .seq <|
          .region <|
          .ql rfl rfl rfl <|
          .nil <|
          .seq ?_
        refine AW.cond rfl (fun c3 => ?_) (fun c3 => ?_)
        · have hltp : p < 2 := by have := of_decide_eq_true c3; omega
          refine AW.skip ?_
          refine .seq <|
            .block <|
            .seq <|
            .region ?_
          refine .u rfl rfl rfl (q_ixN rfl underlying26 sizeOf25 isAgg25 rfl rfl (by omega) (by omega) (pl_at hltp)) ?_
          refine AOps.s rfl rfl rfl (a_alloc rfl zeroValue25 rfl (fun id9 hid9 => ?_))
          refine .sw sizeOf25 rfl rfl rfl rfl ?_
          refine AOps.done 9 rfl hid9 ?_
          refine .nil <|
            .seq <|
            .region ?_
          refine .u rfl rfl rfl (QOp.call rfl call130 fun h' hl' => by exact players_calls h') ?_
          refine .mI rfl rfl <|
            .nil <|
            .block ?_
          refine AW.loop (fun n T hh => ∃ (k : Nat) , k ≤ 9 ∧ n = 9 - k ∧ T = put (put (put (put (put (put (T0) 44 (V.int .i64 (k : Nat))) 43 (V.agg (bnds pLo pHi 0 9))) 9 (V.iptr (plRow (s.pl p)))) 40 (V.int .i64 (p : Nat))) 39 (V.agg (((cState s).drop 12).take 18))) 1 (V.iptr (cState s)) ∧ hh = h' ∧ ∀ j, j < k → inB (s.pl p j) (pLo j) (pHi j) = true) (9) ?_ ?_
          · skip
            refine Wk.mk (TLe.put (d := 1) (VLe.refl _) (TLe.put (d := 39) (VLe.refl _) (TLe.put (d := 40) (VLe.refl _) (TLe.put (d := 9) (VLe.refl _) (TLe.put (d := 43) (VLe.refl _) (TLe.put (d := 44) (by exact VLe.of_eq (congrArg (V.int .i64) (by first | rfl | omega))) (TLe.zero _))))))) (HLe.refl _) ⟨0, Nat.zero_le _, rfl, rfl, rfl, fun j hj => by omega⟩
          · skip
            rintro n T h' ⟨k, hk, rfl, rfl, rfl, hk⟩
            refine .seq <|
              .region <|
              .ql rfl rfl rfl <|
              .nil <|
              .seq ?_
            refine AW.cond rfl (fun c4 => ?_) (fun c4 => ?_)
            · have hltk : k < 9 := by have := of_decide_eq_true c4; omega
              refine AW.skip ?_
              refine .seq <|
                .block <|
                .seq <|
                .region <|
                .mI rfl rfl ?_
              refine .u rfl rfl rfl (q_ixN rfl underlying164 sizeOf161 isAgg161 rfl rfl (by omega) (by omega) (bnds_at hltk)) ?_
              refine AOps.s rfl rfl rfl (a_alloc rfl zeroValue161 rfl (fun id11 hid11 => ?_))
              refine .aI rfl rfl <|
                .sw sizeOf161 rfl rfl rfl rfl ?_
              refine AOps.done 11 rfl hid11 ?_
              refine .nil <|
                .seq ?_
              refine AW.draw [] [] [(0, true), (1, true), (2, true), (3, true), (4, true), (5, true)] mixed (by kernel_rfl) rfl (by kernel_rfl) ?_
              refine .q rfl rfl rfl rfl (q_load_iW rfl isAgg161 sizeOf161 rfl (by rfl)) ?_
              refine .q rfl rfl rfl rfl (q_mv rfl (rfl : _ = V.int _ _)) ?_
              refine .q rfl rfl rfl rfl (q_ia_ai rfl underlying25 sizeOf3 rfl rfl (by omega) (by omega) rfl) ?_
              refine .q rfl rfl rfl rfl (q_load_i1 rfl isAgg3 rfl (plRow_at hltk)) ?_
              refine .q rfl rfl rfl rfl (QOp.call rfl (by exact call129) fun h' hl' => by exact has_calls _ _ _ h') ?_
              refine .q rfl rfl rfl rfl (q_not rfl rfl) ?_
              refine AOrd.nil ?_
              refine AW.cond rfl (fun c5 => ?_) (fun c5 => ?_)
              · skip
                refine .seq <|
                  .region <|
                  .aB rfl rfl <|
                  .nil ?_
                refine AW.ret ?_
                exact retQ.mk' (.one _) (VLe.of_eq (congrArg V.bool (by rw [rangesF, all_bad (j := p) hltp (all_bad hltk (by simpa using c5))]; simp))) (HLe.refl _) ⟨rfl, rfl⟩
              · skip
                refine AW.skip ?_
                refine .region <|
                  .ad rfl rfl rfl (by omega) <|
                  .mI rfl rfl <|
                  .nil ?_
                refine Wk.mk (TLe.put (d := 1) (VLe.refl _) (TLe.put (d := 39) (VLe.refl _) (TLe.put (d := 40) (VLe.refl _) (TLe.put (d := 9) (VLe.refl _) (TLe.put (d := 43) (VLe.refl _) (TLe.put (d := 44) (by exact VLe.of_eq (congrArg (V.int .i64) (by first | rfl | omega))) (TLe.zero _))))))) (HLe.refl _) ⟨_, ?_, k + 1, ?_, rfl, rfl, rfl, all_step hk (by simpa using c5)⟩
                · omega
                · omega
            · obtain rfl : k = 9 := by have := of_decide_eq_false c4; omega
              refine AW.exit ?_
              refine .region <|
                .ad rfl rfl rfl (by omega) <|
                .mI rfl rfl <|
                .nil ?_
              refine Wk.mk (TLe.put (d := 1) (VLe.refl _) (TLe.put (d := 39) (VLe.refl _) (TLe.put (d := 40) (by exact VLe.of_eq (congrArg (V.int .i64) (by first | rfl | omega))) (TLe.zero _)))) (HLe.refl _) ⟨_, ?_, p + 1, ?_, rfl, rfl, rfl, all_step hp (all_up.2 hk)⟩
              · omega
              · omega
        · obtain rfl : p = 2 := by have := of_decide_eq_false c3; omega
          refine AW.exit ?_
          refine .seq <|
            .seq <|
            .region ?_
          refine .u rfl rfl rfl (QOp.call rfl call131 fun h' hl' => by exact game_calls h') ?_
          refine .mI rfl rfl <|
            .nil <|
            .block ?_
          refine AW.loop (fun n T hh => ∃ (q : Nat) , q ≤ 7 ∧ n = 7 - q ∧ T = put (put (put (T0) 57 (V.int .i64 (q : Nat))) 56 (V.agg (bnds (fun _ => 0) gHi 0 7))) 1 (V.iptr (cState s)) ∧ hh = h' ∧ ∀ j, j < q → inB (s.game j) 0 (gHi j) = true) (7) ?_ ?_
          · skip
            refine Wk.mk (TLe.put (d := 1) (VLe.refl _) (TLe.put (d := 56) (VLe.refl _) (TLe.put (d := 57) (by exact VLe.of_eq (congrArg (V.int .i64) (by first | rfl | omega))) (TLe.zero _)))) (HLe.refl _) ⟨0, Nat.zero_le _, rfl, rfl, rfl, fun j hj => by omega⟩
          · skip
            rintro n T h' ⟨q, hq, rfl, rfl, rfl, hq⟩
            refine .seq <|
              .region <|
              .ql rfl rfl rfl <|
              .nil <|
              .seq ?_
            refine AW.cond rfl (fun c6 => ?_) (fun c6 => ?_)
            · have hltq : q < 7 := by have := of_decide_eq_true c6; omega
              refine AW.skip ?_
              refine .seq <|
                .block <|
                .seq <|
                .region <|
                .mI rfl rfl ?_
              refine .u rfl rfl rfl (q_ixN rfl underlying166 sizeOf161 isAgg161 rfl rfl (by omega) (by omega) (bnds_at hltq)) ?_
              refine AOps.s rfl rfl rfl (a_alloc rfl zeroValue161 rfl (fun id13 hid13 => ?_))
              refine .aI rfl rfl <|
                .sw sizeOf161 rfl rfl rfl rfl ?_
              refine AOps.done 13 rfl hid13 ?_
              refine .nil <|
                .seq ?_
              refine AW.draw [] [] [(0, true), (1, true), (2, true), (3, true), (4, true), (5, true), (6, true)] mixed (by kernel_rfl) rfl (by kernel_rfl) ?_
              refine .q rfl rfl rfl rfl (q_load_iW rfl isAgg161 sizeOf161 rfl (by rfl)) ?_
              refine .q rfl rfl rfl rfl (q_mv rfl (rfl : _ = V.int _ _)) ?_
              refine .q rfl rfl rfl rfl (q_fa_i rfl underlying29 rfl (by exact sizeOf27) (by decide) rfl (rfl : _ = List.drop 30 _)) ?_
              refine .q rfl rfl rfl rfl (q_ia_ai rfl underlying27 sizeOf3 rfl rfl (by omega) (by omega) rfl) ?_
              refine .q rfl rfl rfl rfl (q_load_i1 rfl isAgg3 rfl (game_at hltq)) ?_
              refine .q rfl rfl rfl rfl (QOp.call rfl (by exact call129) fun h' hl' => by exact has_calls _ _ _ h') ?_
              refine .q rfl rfl rfl rfl (q_not rfl rfl) ?_
              refine AOrd.nil ?_
              refine AW.cond rfl (fun c7 => ?_) (fun c7 => ?_)
              · skip
                refine .seq <|
                  .region <|
                  .aB rfl rfl <|
                  .nil ?_
                refine AW.ret ?_
                exact retQ.mk' (.one _) (VLe.of_eq (congrArg V.bool (by rw [rangesF, gameOk, all_bad hltq (by simpa using c7)]; simp))) (HLe.refl _) ⟨rfl, rfl⟩
              · skip
                refine AW.skip ?_
                refine .region <|
                  .ad rfl rfl rfl (by omega) <|
                  .mI rfl rfl <|
                  .nil ?_
                refine Wk.mk (TLe.put (d := 1) (VLe.refl _) (TLe.put (d := 56) (VLe.refl _) (TLe.put (d := 57) (by exact VLe.of_eq (congrArg (V.int .i64) (by first | rfl | omega))) (TLe.zero _)))) (HLe.refl _) ⟨_, ?_, q + 1, ?_, rfl, rfl, rfl, all_step hq (by simpa using c7)⟩
                · omega
                · omega
            · obtain rfl : q = 7 := by have := of_decide_eq_false c6; omega
              refine AW.exit ?_
              refine .seq <|
                .region <|
                .aB rfl rfl <|
                .nil ?_
              refine AW.ret ?_
              exact retQ.mk' (.one _) (VLe.of_eq (congrArg V.bool (by rw [rangesF, objs_all.2 hn, all_up.2 hp, gameOk, all_up.2 hq]; rfl))) (HLe.refl _) ⟨rfl, rfl⟩

end Go.Proofs.YtagcjkbogaoifaaGreatDoor
/- Walks: the lists of a state. -/
namespace Go.Proofs.YtagcjkbogaoifaaGreatDoor
open Go Go.AV Go.Proofs.Tryz
set_option maxRecDepth 100000
set_option maxHeartbeats 400000
/-- All that stand somewhere. -/
def ids (s : St) : List Int := (List.range 11).flatMap s.lists
def objAt (s : St) (id : Int) : Obj := s.objs.getD id.toNat noObj
def standsAt (s : St) (z : Nat) (id : Int) : Bool := inN id s.objs.length && objAt s id 3 == z && standsF (objAt s id) z
def zonesF (s : St) : Bool := (List.range 11).all (fun z => (s.lists z).all (standsAt s z)) && decide (ids s).Nodup && decide ((ids s).length = s.objs.length)
def upto (s : St) (z k : Nat) : List Int := (List.range z).flatMap s.lists ++ (s.lists z).take k
theorem upto_next {s : St} {z : Nat} : upto s z (s.lists z).length = upto s (z + 1) 0 := by simp [upto, List.range_succ, List.flatMap_append]
theorem upto_succ {s : St} {z k : Nat} (h : k < (s.lists z).length) : upto s z (k + 1) = upto s z k ++ [(s.lists z).getD k 0] := by
  rw [upto, upto, List.take_add_one, List.getElem?_eq_getElem h, getD_of h, List.append_assoc]; rfl
theorem upto_all {s : St} : upto s 11 0 = ids s := by simp [upto, ids]
theorem upto_len {s : St} (hl : ∀ z, (s.lists z).length ≤ 1000000) (z k : Nat) : (upto s z k).length ≤ z * 1000000 + 1000000 := by
  have h1 : ((List.range z).flatMap s.lists).length ≤ z * 1000000 := by
    induction z with
    | zero => simp
    | succ z ih => rw [List.range_succ, List.flatMap_append, List.length_append]; simp only [List.flatMap_cons, List.flatMap_nil, List.append_nil]; have := hl z; omega
  have h2 : ((s.lists z).take k).length ≤ 1000000 := Nat.le_trans (List.length_take_le' _ _) (hl z)
  simp only [upto, List.length_append]; omega
theorem upto_pre {s : St} {z k : Nat} (hz : z < 11) : List.Sublist (upto s z k) (ids s) := by
  have h1 : ids s = (List.range z).flatMap s.lists ++ (s.lists z ++ ((List.range 11).drop (z + 1)).flatMap s.lists) := by
    have : List.range 11 = List.range z ++ z :: (List.range 11).drop (z + 1) := by
      match z, hz with
      | 0, _ | 1, _ | 2, _ | 3, _ | 4, _ | 5, _ | 6, _ | 7, _ | 8, _ | 9, _ | 10, _ => rfl
    unfold ids
    conv => lhs; rw [this]
    rw [List.flatMap_append, List.flatMap_cons]
  rw [h1, upto]
  exact List.Sublist.append (List.Sublist.refl _) ((List.take_sublist _ _).trans (List.sublist_append_left _ _))
def seenL (n : Nat) (l : List Int) : List V := (List.range n).map fun (j : Nat) => V.bool (decide ((j : Int) ∈ l))
theorem seen_nil (n : Nat) : List.replicate n (V.bool false) = seenL n [] := by
  symm; simp [seenL, List.eq_replicate_iff]
theorem seen_get {n : Nat} {l : List Int} {x : Int} (h0 : 0 ≤ x) (h1 : x < n) : (seenL n l)[0 + x.toNat * 1]? = some (V.bool (decide (x ∈ l))) := by
  have h2 : x.toNat < n := by omega
  have h3 : ((x.toNat : Nat) : Int) = x := by omega
  simp [seenL, h2, h3]
theorem seen_len (n : Nat) (l : List Int) : (seenL n l).length = n := by simp [seenL]
theorem seen_step {n : Nat} {l : List Int} {x : Int} (h0 : 0 ≤ x) (h1 : x < n) : splice (seenL n l) (0 + x.toNat * 1) [V.bool true] = seenL n (l ++ [x]) := by
  apply List.ext_getElem?
  intro j
  rw [splice_get _ _ _ _ (by rw [seen_len]; simp; omega)]
  by_cases hj : j < n
  · by_cases e : j = x.toNat
    · subst e
      have h3 : ((x.toNat : Nat) : Int) = x := by omega
      rw [if_pos (by simp)]; simp [seenL, hj, h3]
    · rw [if_neg (by simp; omega)]
      have h3 : ((j : Nat) : Int) ≠ x := by omega
      simp [seenL, hj, h3]
  · have hj' : ¬ j < (seenL n l).length := by rw [seen_len]; exact hj
    rw [if_neg (by simp; omega), List.getElem?_eq_none (by omega), List.getElem?_eq_none (by rw [seen_len]; omega)]
theorem cInts_at {l : List Int} {k : Nat} (h : k < l.length) : ((cInts l).drop ((k : Int).toNat * 1)).take 1 = [.int .i64 (l.getD k 0)] := by
  have := cInts_elem (l := l) (i := k) (by omega) (by omega)
  simpa using this
theorem getD_mem {l : List Int} {k : Nat} (h : k < l.length) : l.getD k 0 ∈ l := by
  rw [getD_of h]; exact List.getElem_mem h
theorem list_all {l : List Int} {p : Int → Bool} : l.all p = true ↔ ∀ j, j < l.length → p (l.getD j 0) = true := by
  rw [List.all_eq_true]
  refine ⟨fun h j hj => h _ (getD_mem hj), fun h x hx => ?_⟩
  obtain ⟨j, hj, rfl⟩ := List.getElem_of_mem hx
  have := h j hj
  rwa [getD_of hj] at this
theorem zones_bad {s : St} {z k : Nat} (hz : z < 11) (hk : k < (s.lists z).length) (h : standsAt s z ((s.lists z).getD k 0) = false ∨ (s.lists z).getD k 0 ∈ upto s z k) : zonesF s = false := by
  rcases h with h | h
  · rw [zonesF, all_bad (j := z) hz]
    · rfl
    · cases e : (s.lists z).all (standsAt s z) with
      | false => rfl
      | true => rw [list_all.1 e k hk] at h; cases h
  · have : ¬ (ids s).Nodup := fun hn => by
      have h1 := hn.sublist (upto_pre (k := k + 1) hz)
      rw [upto_succ hk, List.nodup_append] at h1
      exact h1.2.2 _ h _ (by simp) rfl
    simp [zonesF, this]
theorem stands_no {s : St} {z : Nat} {x : Int} (h : (bif s.objs.getD x.toNat noObj 3 != z then true else !standsF (s.objs.getD x.toNat noObj) z) = true) : standsAt s z x = false := by
  simp only [standsAt, objAt]
  cases e : (s.objs.getD x.toNat noObj 3 == (z : Int)) with
  | false => simp
  | true => simp only [bne, e, Bool.not_true, cond_false] at h; simp [-List.getD_eq_getElem?_getD] at h; simp [-List.getD_eq_getElem?_getD, h]
theorem stands_yes {s : St} {z : Nat} {x : Int} (h0 : 0 ≤ x) (h1 : x < s.objs.length) (h : (bif s.objs.getD x.toNat noObj 3 != z then true else !standsF (s.objs.getD x.toNat noObj) z) = false) : standsAt s z x = true := by
  simp only [standsAt, objAt, inN]
  cases e : (s.objs.getD x.toNat noObj 3 == (z : Int)) with
  | false => simp [-List.getD_eq_getElem?_getD, bne, e] at h
  | true => simp only [bne, e, Bool.not_true, cond_false] at h; simp [-List.getD_eq_getElem?_getD] at h; simp [-List.getD_eq_getElem?_getD, h, h0, h1]

theorem zones_calls (s : St) (hb : s.objs.length ≤ 1000000) (hl : ∀ z, (s.lists z).length ≤ 1000000) (h : Hp) : ACalls prog G 83 [eState s] h fun r h' => r = .bool (zonesF s) ∧ h' = h := by
  refine ACalls.enter func83 rfl ntmps83 results83 rfl ?_
  refine .seq <|
    .region <|
    .bx rfl rfl <|
    .aB rfl rfl <|
    .nil <|
    .seq <|
    .region <|
    .fi rfl f29_0 rfl <|
    .li rfl isAgg22 rfl rfl <|
    .ln rfl underlying22 rfl ?_
  refine AOps.s rfl rfl rfl (a_makeSl rfl underlying168 (i := t4) (by kernel_rfl) rfl rfl rfl (by decide) rfl rfl (by omega) (by omega) rfl (fun id13 hid13 => ?_))
  refine .u rfl rfl rfl (q_as rfl (rfl : _ = V.msl _ _ _)) ?_
  refine .nil <|
    .seq <|
    .region <|
    .aI rfl rfl <|
    .nil <|
    .seq <|
    .seq <|
    .region <|
    .fi rfl f29_1 rfl ?_
  refine .u rfl rfl rfl (q_load_iN rfl isAgg24 sizeOf24 rfl (by rfl) rfl) ?_
  refine .mI rfl rfl <|
    .nil <|
    .block ?_
  refine AW.loop (fun n T hh => ∃ (z : Nat) , z ≤ 11 ∧ n = 11 - z ∧ T = put (put (put (put (put (T0) 16 (V.int .i64 (z : Nat))) 15 (V.agg (((cState s).drop 1).take 11))) 4 (V.int .i64 (upto s z 0).length)) 3 (V.msl id13 0 s.objs.length)) 1 (V.iptr (cState s)) ∧ hh = h.setBox id13 (seenL s.objs.length (upto s z 0)) ∧ (∀ y, y < z → (s.lists y).all (standsAt s y) = true) ∧ (upto s z 0).Nodup) (11) ?_ ?_
  · skip
    refine Wk.mk (TLe.put (d := 1) (VLe.refl _) (TLe.put (d := 3) (VLe.refl _) (TLe.put (d := 4) (by exact VLe.of_eq (congrArg (V.int .i64) (by first | rfl | omega))) (TLe.put (d := 15) (VLe.refl _) (TLe.put (d := 16) (by exact VLe.of_eq (congrArg (V.int .i64) (by first | rfl | omega))) (TLe.zero _)))))) (HLe.refl _) ⟨0, Nat.zero_le _, rfl, rfl, by simp [upto, ← seen_nil]; rfl, ⟨fun j hj => by omega, by simp [upto]⟩⟩
  · skip
    rintro n T h' ⟨z, hz, rfl, rfl, rfl, ⟨hz, hnd⟩⟩
    refine .seq <|
      .region <|
      .ql rfl rfl rfl <|
      .nil <|
      .seq ?_
    refine AW.cond rfl (fun c0 => ?_) (fun c0 => ?_)
    · have hltz : z < 11 := by have := of_decide_eq_true c0; omega
      refine AW.skip ?_
      refine .seq <|
        .block <|
        .seq <|
        .region <|
        .mI rfl rfl ?_
      refine .u rfl rfl rfl (q_ix1 rfl underlying24 sizeOf23 isAgg23 rfl rfl (by omega) (by omega) (lists_ix (by omega) (by omega))) ?_
      refine .aI rfl rfl <|
        .aS rfl rfl <|
        .nil <|
        .seq <|
        .region <|
        .mS rfl rfl <|
        .ln rfl underlying23 rfl <|
        .mI rfl rfl <|
        .nil <|
        .block ?_
      refine AW.loop (fun n T hh => ∃ (k : Nat) , k ≤ (s.lists z).length ∧ n = (s.lists z).length - k ∧ T = put (put (put (put (put (put (put (put (put (T0) 22 (V.int .i64 (k : Nat))) 21 (V.int .i64 (s.lists z).length)) 20 (eInts (s.lists z))) 16 (V.int .i64 (z : Nat))) 15 (V.agg (((cState s).drop 1).take 11))) 5 (V.int .i64 (z : Nat))) 4 (V.int .i64 (upto s z k).length)) 3 (V.msl id13 0 s.objs.length)) 1 (V.iptr (cState s)) ∧ hh = h.setBox id13 (seenL s.objs.length (upto s z k)) ∧ (∀ j, j < k → standsAt s z ((s.lists z).getD j 0) = true) ∧ (upto s z k).Nodup) ((s.lists z).length) ?_ ?_
      · skip
        refine Wk.mk (TLe.put (d := 1) (VLe.refl _) (TLe.put (d := 3) (VLe.refl _) (TLe.put (d := 4) (by exact VLe.of_eq (congrArg (V.int .i64) (by first | rfl | omega))) (TLe.put (d := 5) (VLe.refl _) (TLe.put (d := 15) (VLe.refl _) (TLe.put (d := 16) (VLe.refl _) (TLe.put (d := 20) (VLe.refl _) (TLe.put (d := 21) (VLe.refl _) (TLe.put (d := 22) (by exact VLe.of_eq (congrArg (V.int .i64) (by first | rfl | omega))) (TLe.zero _)))))))))) (HLe.refl _) ⟨0, Nat.zero_le _, rfl, rfl, rfl, ⟨fun j hj => by omega, hnd⟩⟩
      · skip
        rintro n T h' ⟨k, hk, rfl, rfl, rfl, ⟨hk, hnd⟩⟩
        refine .seq <|
          .region <|
          .ql rfl rfl rfl <|
          .nil <|
          .seq ?_
        refine AW.cond rfl (fun c1 => ?_) (fun c1 => ?_)
        · have hltk : k < (s.lists z).length := by have := of_decide_eq_true c1; omega
          refine AW.skip ?_
          refine .seq <|
            .block <|
            .seq <|
            .region ?_
          refine .u rfl rfl rfl (q_ia_s rfl underlying23 sizeOf3 rfl rfl (by omega) (by omega) (cInts_at hltk)) ?_
          refine .li rfl isAgg3 rfl rfl <|
            .aI rfl rfl <|
            .nil <|
            .seq <|
            .seq <|
            .region <|
            .mI rfl rfl <|
            .ql rfl rfl rfl <|
            .mB rfl rfl ?_
          refine .gf rfl rfl rfl (fun _ => tl0) (fun hc => q_mv rfl (rfl : _ = V.int _ _)) ?_
          refine .gf rfl rfl rfl (fun _ => tl0) (fun hc => q_mv rfl (rfl : _ = V.msl _ _ _)) ?_
          refine .gf rfl rfl rfl (fun hc => tl1 30 (.opt hc)) (fun hc => q_len rfl underlying168 rfl) ?_
          refine .gf rfl rfl rfl (fun hc => tl2 31 29 (.opt hc) (.opt hc)) (fun hc => q_ge rfl rfl rfl) ?_
          refine .pf rfl rfl rfl rfl <|
            .mB rfl rfl ?_
          refine .gf rfl rfl rfl (fun _ => tl0) (fun hc => q_mv rfl (rfl : _ = V.msl _ _ _)) ?_
          refine .gf rfl rfl rfl (fun _ => tl0) (fun hc => q_mv rfl (rfl : _ = V.int _ _)) ?_
          refine .gf rfl rfl rfl (fun hc => tl2 36 35 (.opt hc) (.opt hc)) (fun hc => q_ia_m rfl underlying168 sizeOf4 rfl rfl (by simp [-List.getD_eq_getElem?_getD] at hc; omega) (by simp [-List.getD_eq_getElem?_getD] at hc; omega)) ?_
          refine .gf rfl rfl rfl (fun hc => tl1 37 (.opt hc)) (fun hc => q_load_b1 rfl isAgg4 rfl (by exact bsb) (by simp [-List.getD_eq_getElem?_getD] at hc; exact seen_get (by omega) (by omega))) ?_
          refine .u rfl rfl rfl (q_pickg rfl rfl (fun hp => by exact VLe.refl _) (fun hp => by exact VLe.opt (by simp_all))) ?_
          refine .nil ?_
          refine AW.cond rfl (fun c2 => ?_) (fun c2 => ?_)
          · skip
            refine .seq <|
              .region <|
              .aB rfl rfl <|
              .nil ?_
            refine AW.ret ?_
            exact retQ.mk' (.one _) (VLe.of_eq (congrArg V.bool ((zones_bad hltz hltk (by simp [-List.getD_eq_getElem?_getD] at c2; simp [-List.getD_eq_getElem?_getD, standsAt, inN]; grind)).symm))) (HLe.setBox hid13.1) ⟨rfl, rfl⟩
          · have hx : 0 ≤ (s.lists z).getD k 0 ∧ (s.lists z).getD k 0 < s.objs.length ∧ (s.lists z).getD k 0 ∉ upto s z k := by simp [-List.getD_eq_getElem?_getD] at c2; grind
            have hul := upto_len hl z k
            have hlz := hl z
            refine AW.skip ?_
            refine .seq <|
              .region <|
              .fi rfl f29_0 rfl <|
              .li rfl isAgg22 rfl rfl <|
              .mI rfl rfl ?_
            refine .u rfl rfl rfl (q_ia_s rfl underlying22 sizeOf72 rfl rfl (by omega) (by omega) (cObjs_elem' (by omega) (by omega))) ?_
            refine .lw rfl isAgg72 sizeOf72 rfl rfl ?_
            refine AOps.s rfl rfl rfl (a_alloc rfl zeroValue72 rfl (fun id9 hid9 => ?_))
            refine .sw sizeOf72 rfl rfl rfl rfl ?_
            refine AOps.done 9 rfl hid9 ?_
            refine .nil <|
              .seq <|
              .seq <|
              .region ?_
            refine .u rfl rfl rfl (q_ia_ai rfl underlying72 sizeOf3 rfl rfl (by decide) (by decide) rfl) ?_
            refine .li rfl isAgg3 rfl rfl <|
              .mI rfl rfl <|
              .qn rfl rfl rfl <|
              .mB rfl rfl ?_
            refine .gf rfl rfl rfl (fun _ => tl0) (fun hc => q_load_iW rfl isAgg72 sizeOf72 rfl (by rfl)) ?_
            refine .gf rfl rfl rfl (fun _ => tl0) (fun hc => q_mv rfl (rfl : _ = V.int _ _)) ?_
            refine .gf rfl rfl rfl (fun hc => tl2 51 50 (.opt hc) (.opt hc)) (fun hc => QOp.call rfl (by exact call132) fun h' hl' => by exact stands_calls _ _ h') ?_
            refine .gf rfl rfl rfl (fun hc => tl1 52 (.opt hc)) (fun hc => q_not rfl rfl) ?_
            refine .pf rfl rfl rfl rfl <|
              .nil ?_
            refine AW.cond rfl (fun c3 => ?_) (fun c3 => ?_)
            · skip
              refine .seq <|
                .region <|
                .aB rfl rfl <|
                .nil ?_
              refine AW.ret ?_
              exact retQ.mk' (.one _) (VLe.of_eq (congrArg V.bool ((zones_bad hltz hltk (.inl (stands_no c3))).symm))) (HLe.setBox hid13.1) ⟨rfl, rfl⟩
            · skip
              refine AW.skip ?_
              refine .seq <|
                .region ?_
              refine .u rfl rfl rfl (q_mv rfl (rfl : _ = V.msl _ _ _)) ?_
              refine .mI rfl rfl ?_
              refine .u rfl rfl rfl (q_ia_m rfl underlying168 sizeOf4 rfl rfl (by omega) (by omega)) ?_
              refine AOps.s0 rfl rfl (a_store1 rfl sizeOf4 rfl (by exact bsb) (rfl : _ = V.bool _) rfl rfl (by rw [seen_len]; omega) ?_)
              refine .nil <|
                .region <|
                .mI rfl rfl <|
                .ad rfl rfl rfl (by omega) <|
                .aI rfl rfl <|
                .nil <|
                .region <|
                .ad rfl rfl rfl (by omega) <|
                .mI rfl rfl <|
                .nil ?_
              refine Wk.mk (TLe.put (d := 1) (VLe.refl _) (TLe.put (d := 3) (VLe.refl _) (TLe.put (d := 4) (by exact VLe.of_eq (congrArg (V.int .i64) (by rw [upto_succ hltk, List.length_append]; simp))) (TLe.put (d := 5) (VLe.refl _) (TLe.put (d := 15) (VLe.refl _) (TLe.put (d := 16) (VLe.refl _) (TLe.put (d := 20) (VLe.refl _) (TLe.put (d := 21) (VLe.refl _) (TLe.put (d := 22) (by exact VLe.of_eq (congrArg (V.int .i64) (by first | rfl | omega))) (TLe.zero _)))))))))) (HLe.refl _) ⟨_, ?_, k + 1, ?_, rfl, rfl, by rw [Hp.setBox_setBox, seen_step hx.1 hx.2.1, upto_succ hltk], ⟨all_step hk (stands_yes hx.1 hx.2.1 c3), by rw [upto_succ hltk, List.nodup_append]; exact ⟨hnd, by simp, by simp [-List.getD_eq_getElem?_getD]; exact fun a ha e => hx.2.2 (e ▸ ha)⟩⟩⟩
              · omega
              · omega
        · obtain rfl : k = (s.lists z).length := by have := of_decide_eq_false c1; omega
          refine AW.exit ?_
          refine .region <|
            .ad rfl rfl rfl (by omega) <|
            .mI rfl rfl <|
            .nil ?_
          refine Wk.mk (TLe.put (d := 1) (VLe.refl _) (TLe.put (d := 3) (VLe.refl _) (TLe.put (d := 4) (by exact VLe.of_eq (congrArg (V.int .i64) (by rw [upto_next]))) (TLe.put (d := 15) (VLe.refl _) (TLe.put (d := 16) (by exact VLe.of_eq (congrArg (V.int .i64) (by first | rfl | omega))) (TLe.zero _)))))) (HLe.refl _) ⟨_, ?_, z + 1, ?_, rfl, rfl, by rw [upto_next], ⟨all_step hz (list_all.2 hk), by rw [← upto_next]; exact hnd⟩⟩
          · omega
          · omega
    · obtain rfl : z = 11 := by have := of_decide_eq_false c0; omega
      refine AW.exit ?_
      refine .seq <|
        .region <|
        .mI rfl rfl ?_
      refine .u rfl rfl rfl (q_mv rfl (rfl : _ = V.msl _ _ _)) ?_
      refine .ln rfl underlying168 rfl <|
        .qe rfl rfl rfl <|
        .aB rfl rfl <|
        .nil ?_
      refine AW.ret ?_
      exact retQ.mk' (.one _) (VLe.of_eq (congrArg V.bool (by rw [zonesF, all_up.2 hz, ← upto_all, decide_eq_true hnd, Bool.true_and, Bool.true_and, Bool.eq_iff_iff]; simp; omega))) (HLe.setBox hid13.1) ⟨rfl, rfl⟩

end Go.Proofs.YtagcjkbogaoifaaGreatDoor
/- Walks: searches with a function; whether a state is right. -/
namespace Go.Proofs.YtagcjkbogaoifaaGreatDoor
open Go Go.AV Go.Proofs.Tryz
set_option maxRecDepth 100000
set_option maxHeartbeats 400000
/-- The first place of what is so; -1: none. -/
def fidx {α : Type} (p : α → Bool) (l : List α) : Int := match l.findIdx? p with | some i => i | none => -1
theorem fresh_setBox {h : Hp} {i j : Nat} {cs : List V} (f : h.fresh i) (e : i ≠ j) : (h.setBox j cs).fresh i := ⟨by rw [Hp.box_setBox_ne h cs e]; exact f.1, f.2⟩
theorem turn_out {n i : Int} (h : (bif decide (i < 0) then true else decide (n ≤ i)) = true) : i < 0 ∨ n ≤ i := by
  by_cases h0 : i < 0
  · exact .inl h0
  · exact .inr (by simpa [h0] using h)
theorem turn_in {n i : Int} (h : (bif decide (i < 0) then true else decide (n ≤ i)) = false) : 0 ≤ i ∧ i < n := by
  by_cases h0 : i < 0
  · simp [h0] at h
  · exact ⟨by omega, by simpa [h0] using h⟩
theorem getD_of' {α : Type} {z : α} {a : List α} {i : Nat} (h : i < a.length) : a.getD i z = a[i] := by simp [List.getD_eq_getElem?_getD, h]
theorem fidx_some {α : Type} {z : α} {p : α → Bool} {l : List α} {i : Nat} (hi : i < l.length) (hx : p (l.getD i z) = true) (hn : ∀ j, j < i → p (l.getD j z) = false) : (i : Int) = fidx p l := by
  have : l.findIdx? p = some i := by
    rw [List.findIdx?_eq_some_iff_getElem]
    refine ⟨hi, by rw [getD_of' hi] at hx; exact hx, fun j hj => ?_⟩
    have := hn j hj
    rw [getD_of' (by omega)] at this
    simpa using this
  unfold fidx; rw [this]
theorem fidx_none {α : Type} {z : α} {p : α → Bool} {l : List α} (hn : ∀ j, j < l.length → p (l.getD j z) = false) : -1 = fidx p l := by
  have : l.findIdx? p = none := by
    rw [List.findIdx?_eq_none_iff]
    intro y hy
    obtain ⟨j, hj, rfl⟩ := List.getElem_of_mem hy
    have := hn j hj
    rw [getD_of' hj] at this
    simpa using this
  unfold fidx; rw [this]
theorem fidx_any {α : Type} {p : α → Bool} {l : List α} : decide (0 ≤ fidx p l) = l.any p := by
  unfold fidx
  cases e : l.findIdx? p with
  | none =>
    rw [List.findIdx?_eq_none_iff] at e
    have : l.any p = false := by rw [List.any_eq_false]; intro x hx; simp [e x hx]
    rw [this]; rfl
  | some i =>
    rw [List.findIdx?_eq_some_iff_getElem] at e
    obtain ⟨hi, hp, _⟩ := e
    have : l.any p = true := List.any_eq_true.2 ⟨_, List.getElem_mem hi, hp⟩
    rw [this]; simp
theorem objs_mem {l : List Obj} {k : Nat} (h : k < l.length) : l.getD k noObj ∈ l := by
  rw [getD_of' h]; exact List.getElem_mem h
theorem cObjs_at {l : List Obj} {k : Nat} (h : k < l.length) : ((cObjs l).drop ((k : Int).toNat * 18)).take 18 = cObj (l.getD k noObj) := by
  have := cObjs_elem' (l := l) (i := k) (by omega) (by omega)
  simpa using this

theorem sIndexFuncI_calls (k : SK) (l : List Int) (fn : FuncId) (fs caps : List V) (p : Int → Bool) (hb : l.length ≤ 1000000) (hf : ∀ args w, (callFunc fn args).run prog w = .ok (.enter fn args) w) (h : Hp)
    (hp : ∀ x ∈ l, ∀ h', HLe h' h → ACalls prog G fn (fs ++ [.int .i64 x] ++ caps) h' fun r h'' => r = .bool (p x) ∧ h'' = h') : ACalls prog G 178 [.sl k 1 l.length (cInts l), .func (.func fn) fs caps] h fun r h' => r = .int .i64 (fidx p l) ∧ h' = h := by
  refine ACalls.enter func178 rfl ntmps178 results178 rfl ?_
  refine .seq <|
    .region <|
    .aI rfl rfl <|
    .nil <|
    .seq <|
    .seq <|
    .region <|
    .mS rfl rfl <|
    .ln rfl underlying23 rfl <|
    .mI rfl rfl <|
    .nil <|
    .block ?_
  refine AW.loop (fun n T hh => ∃ (i : Nat) , i ≤ l.length ∧ n = l.length - i ∧ T = put (put (put (put (T0) 8 (V.int .i64 (i : Nat))) 7 (V.int .i64 l.length)) 1 (V.func (.func fn) fs caps)) 0 (.sl k 1 l.length (cInts l)) ∧ hh = h ∧ ∀ j, j < i → p (l.getD j 0) = false) (l.length) ?_ ?_
  · skip
    refine Wk.mk (TLe.put (d := 0) (VLe.refl _) (TLe.put (d := 1) (VLe.refl _) (TLe.put (d := 7) (VLe.refl _) (TLe.put (d := 8) (by exact VLe.of_eq (congrArg (V.int .i64) (by first | rfl | omega))) (TLe.zero _))))) (HLe.refl _) ⟨0, Nat.zero_le _, rfl, rfl, rfl, fun j hj => by omega⟩
  · skip
    rintro n T h' ⟨i, hi, rfl, rfl, rfl, hn⟩
    refine .seq <|
      .region <|
      .ql rfl rfl rfl <|
      .nil <|
      .seq ?_
    refine AW.cond rfl (fun c0 => ?_) (fun c0 => ?_)
    · have hlt : i < l.length := by have := of_decide_eq_true c0; omega
      refine AW.skip ?_
      refine .seq <|
        .block <|
        .seq <|
        .region <|
        .mI rfl rfl <|
        .aI rfl rfl <|
        .nil <|
        .seq <|
        .region ?_
      refine .u rfl rfl rfl (q_mv rfl (rfl : _ = V.func _ _ _)) ?_
      refine .mS rfl rfl <|
        .mI rfl rfl ?_
      refine .u rfl rfl rfl (q_ia_s rfl underlying23 sizeOf3 rfl rfl (by omega) (by omega) (cInts_at hlt)) ?_
      refine .li rfl isAgg3 rfl rfl ?_
      refine .u rfl rfl rfl (QOp.callv rfl rfl hf (fun h2 hl => hp _ (getD_mem hlt) h2 hl)) ?_
      refine .nil ?_
      refine AW.cond rfl (fun c1 => ?_) (fun c1 => ?_)
      · skip
        refine .seq <|
          .region <|
          .mI rfl rfl <|
          .aI rfl rfl <|
          .nil ?_
        refine AW.ret ?_
        exact retQ.mk' (.one _) (VLe.of_eq (congrArg (V.int .i64) (fidx_some (z := 0) hlt c1 hn))) (HLe.refl _) ⟨rfl, rfl⟩
      · skip
        refine AW.skip ?_
        refine .region <|
          .ad rfl rfl rfl (by omega) <|
          .mI rfl rfl <|
          .nil ?_
        refine Wk.mk (TLe.put (d := 0) (VLe.refl _) (TLe.put (d := 1) (VLe.refl _) (TLe.put (d := 7) (VLe.refl _) (TLe.put (d := 8) (by exact VLe.of_eq (congrArg (V.int .i64) (by first | rfl | omega))) (TLe.zero _))))) (HLe.refl _) ⟨_, ?_, i + 1, ?_, rfl, rfl, rfl, all_none hn c1⟩
        · omega
        · omega
    · obtain rfl : i = l.length := by have := of_decide_eq_false c0; omega
      refine AW.exit ?_
      refine .seq <|
        .region <|
        .aI rfl rfl <|
        .nil ?_
      refine AW.ret ?_
      exact retQ.mk' (.one _) (VLe.of_eq (congrArg (V.int .i64) (fidx_none (z := 0) hn))) (HLe.refl _) ⟨rfl, rfl⟩

theorem sContainsFuncI_calls (k : SK) (l : List Int) (fn : FuncId) (fs caps : List V) (p : Int → Bool) (hb : l.length ≤ 1000000) (hf : ∀ args w, (callFunc fn args).run prog w = .ok (.enter fn args) w) (h : Hp)
    (hp : ∀ x ∈ l, ∀ h', HLe h' h → ACalls prog G fn (fs ++ [.int .i64 x] ++ caps) h' fun r h'' => r = .bool (p x) ∧ h'' = h') : ACalls prog G 134 [.sl k 1 l.length (cInts l), .func (.func fn) fs caps] h fun r h' => r = .bool (l.any p) ∧ h' = h := by
  refine ACalls.enter func134 rfl ntmps134 results134 rfl ?_
  refine .seq <|
    .region <|
    .aB rfl rfl <|
    .nil <|
    .seq <|
    .region <|
    .mS rfl rfl ?_
  refine .u rfl rfl rfl (q_mv rfl (rfl : _ = V.func _ _ _)) ?_
  refine .u rfl rfl rfl (QOp.call rfl call178 fun h2 hl => by exact sIndexFuncI_calls k l fn fs caps p hb hf h2 fun x hx h3 hl3 => hp x hx h3 (hl3.trans hl)) ?_
  refine .qg rfl rfl rfl <|
    .aB rfl rfl <|
    .nil ?_
  refine AW.ret ?_
  exact retQ.mk' (.one _) (VLe.of_eq (congrArg V.bool (fidx_any))) (HLe.refl _) ⟨rfl, rfl⟩

theorem sIndexFuncO_calls (k : SK) (l : List Obj) (fn : FuncId) (fs caps : List V) (p : Obj → Bool) (hb : l.length ≤ 1000000) (hf : ∀ args w, (callFunc fn args).run prog w = .ok (.enter fn args) w) (h : Hp)
    (hp : ∀ x ∈ l, ∀ h', HLe h' h → ACalls prog G fn (fs ++ [eObj x] ++ caps) h' fun r h'' => r = .bool (p x) ∧ h'' = h') : ACalls prog G 133 [.sl k 18 l.length (cObjs l), .func (.func fn) fs caps] h fun r h' => r = .int .i64 (fidx p l) ∧ h' = h := by
  refine ACalls.enter func133 rfl ntmps133 results133 rfl ?_
  refine .seq <|
    .region <|
    .aI rfl rfl <|
    .nil <|
    .seq <|
    .seq <|
    .region <|
    .mS rfl rfl <|
    .ln rfl underlying22 rfl <|
    .mI rfl rfl <|
    .nil <|
    .block ?_
  refine AW.loop (fun n T hh => ∃ (i : Nat) , i ≤ l.length ∧ n = l.length - i ∧ T = put (put (put (put (T0) 8 (V.int .i64 (i : Nat))) 7 (V.int .i64 l.length)) 1 (V.func (.func fn) fs caps)) 0 (.sl k 18 l.length (cObjs l)) ∧ hh = h ∧ ∀ j, j < i → p (l.getD j noObj) = false) (l.length) ?_ ?_
  · skip
    refine Wk.mk (TLe.put (d := 0) (VLe.refl _) (TLe.put (d := 1) (VLe.refl _) (TLe.put (d := 7) (VLe.refl _) (TLe.put (d := 8) (by exact VLe.of_eq (congrArg (V.int .i64) (by first | rfl | omega))) (TLe.zero _))))) (HLe.refl _) ⟨0, Nat.zero_le _, rfl, rfl, rfl, fun j hj => by omega⟩
  · skip
    rintro n T h' ⟨i, hi, rfl, rfl, rfl, hn⟩
    refine .seq <|
      .region <|
      .ql rfl rfl rfl <|
      .nil <|
      .seq ?_
    refine AW.cond rfl (fun c0 => ?_) (fun c0 => ?_)
    · have hlt : i < l.length := by have := of_decide_eq_true c0; omega
      refine AW.skip ?_
      refine .seq <|
        .block <|
        .seq <|
        .region <|
        .mI rfl rfl <|
        .aI rfl rfl <|
        .nil <|
        .seq <|
        .region ?_
      refine .u rfl rfl rfl (q_mv rfl (rfl : _ = V.func _ _ _)) ?_
      refine .mS rfl rfl <|
        .mI rfl rfl ?_
      refine .u rfl rfl rfl (q_ia_s rfl underlying22 sizeOf72 rfl rfl (by omega) (by omega) (cObjs_at hlt)) ?_
      refine .lw rfl isAgg72 sizeOf72 rfl rfl ?_
      refine .u rfl rfl rfl (QOp.callv rfl rfl hf (fun h2 hl => hp _ (objs_mem hlt) h2 hl)) ?_
      refine .nil ?_
      refine AW.cond rfl (fun c1 => ?_) (fun c1 => ?_)
      · skip
        refine .seq <|
          .region <|
          .mI rfl rfl <|
          .aI rfl rfl <|
          .nil ?_
        refine AW.ret ?_
        exact retQ.mk' (.one _) (VLe.of_eq (congrArg (V.int .i64) (fidx_some (z := noObj) hlt c1 hn))) (HLe.refl _) ⟨rfl, rfl⟩
      · skip
        refine AW.skip ?_
        refine .region <|
          .ad rfl rfl rfl (by omega) <|
          .mI rfl rfl <|
          .nil ?_
        refine Wk.mk (TLe.put (d := 0) (VLe.refl _) (TLe.put (d := 1) (VLe.refl _) (TLe.put (d := 7) (VLe.refl _) (TLe.put (d := 8) (by exact VLe.of_eq (congrArg (V.int .i64) (by first | rfl | omega))) (TLe.zero _))))) (HLe.refl _) ⟨_, ?_, i + 1, ?_, rfl, rfl, rfl, all_none hn c1⟩
        · omega
        · omega
    · obtain rfl : i = l.length := by have := of_decide_eq_false c0; omega
      refine AW.exit ?_
      refine .seq <|
        .region <|
        .aI rfl rfl <|
        .nil ?_
      refine AW.ret ?_
      exact retQ.mk' (.one _) (VLe.of_eq (congrArg (V.int .i64) (fidx_none (z := noObj) hn))) (HLe.refl _) ⟨rfl, rfl⟩

theorem sContainsFuncO_calls (k : SK) (l : List Obj) (fn : FuncId) (fs caps : List V) (p : Obj → Bool) (hb : l.length ≤ 1000000) (hf : ∀ args w, (callFunc fn args).run prog w = .ok (.enter fn args) w) (h : Hp)
    (hp : ∀ x ∈ l, ∀ h', HLe h' h → ACalls prog G fn (fs ++ [eObj x] ++ caps) h' fun r h'' => r = .bool (p x) ∧ h'' = h') : ACalls prog G 84 [.sl k 18 l.length (cObjs l), .func (.func fn) fs caps] h fun r h' => r = .bool (l.any p) ∧ h' = h := by
  refine ACalls.enter func84 rfl ntmps84 results84 rfl ?_
  refine .seq <|
    .region <|
    .aB rfl rfl <|
    .nil <|
    .seq <|
    .region <|
    .mS rfl rfl ?_
  refine .u rfl rfl rfl (q_mv rfl (rfl : _ = V.func _ _ _)) ?_
  refine .u rfl rfl rfl (QOp.call rfl call133 fun h2 hl => by exact sIndexFuncO_calls k l fn fs caps p hb hf h2 fun x hx h3 hl3 => hp x hx h3 (hl3.trans hl)) ?_
  refine .qg rfl rfl rfl <|
    .aB rfl rfl <|
    .nil ?_
  refine AW.ret ?_
  exact retQ.mk' (.one _) (VLe.of_eq (congrArg V.bool (fidx_any))) (HLe.refl _) ⟨rfl, rfl⟩

def restingL : List Int := [4, 5, 6, 7, 8, 9, 10, 11, 12]
theorem resting_in {x : Int} (h : x ∈ restingL) : 0 ≤ x ∧ x < 18 := by simp [restingL] at h; omega
theorem resting_any (o : Obj) : (restingL.any fun f => o f.toNat != 0) = !bare o := by
  simp only [restingL, List.any_cons, List.any_nil, bare, Bool.or_false, Bool.not_and, bne]
  simp only [show (4 : Int).toNat = 4 from rfl, show (5 : Int).toNat = 5 from rfl, show (6 : Int).toNat = 6 from rfl, show (7 : Int).toNat = 7 from rfl, show (8 : Int).toNat = 8 from rfl, show (9 : Int).toNat = 9 from rfl, show (10 : Int).toNat = 10 from rfl, show (11 : Int).toNat = 11 from rfl, show (12 : Int).toNat = 12 from rfl, Bool.or_assoc]
theorem objp_ix {o : Obj} {i : Int} (h0 : 0 ≤ i) (h1 : i < 18) : ((cObj o).drop (i.toNat * 1))[0]? = some (.int .i64 (o i.toNat)) := by
  rw [Nat.mul_one, List.getElem?_drop, Nat.add_zero]; exact cObj_ix (by omega)

theorem formed1_calls (o : Obj) (x : Int) (hx : 0 ≤ x ∧ x < 18) (h : Hp) : ACalls prog G 135 [.int .i64 x, .iptr (cObj o)] h fun r h' => r = .bool (o x.toNat != 0) ∧ h' = h := by
  refine ACalls.enter func135 rfl ntmps135 results135 rfl ?_
  refine .seq <|
    .region <|
    .aB rfl rfl <|
    .nil <|
    .seq <|
    .region <|
    .mI rfl rfl ?_
  refine .u rfl rfl rfl (q_ia_ai rfl underlying72 sizeOf3 rfl rfl (by omega) (by omega) rfl) ?_
  refine .u rfl rfl rfl (q_load_i1 rfl isAgg3 rfl (objp_ix (by omega) (by omega))) ?_
  refine .qn rfl rfl rfl <|
    .aB rfl rfl <|
    .nil ?_
  refine AW.ret ?_
  exact retQ.mk (.one _) ⟨rfl, rfl⟩

theorem formed_calls (o : Obj) (h : Hp) : ACalls prog G 86 [eObj o] h fun r h' => r = .bool (formedF o) ∧ h' = h := by
  refine ACalls.enter func86 rfl ntmps86 results86 rfl ?_
  refine .seq <|
    .region <|
    .bx rfl rfl <|
    .aB rfl rfl <|
    .nil <|
    .seq <|
    .region ?_
  refine .u rfl rfl rfl (q_ia_ai rfl underlying72 sizeOf3 rfl rfl (by decide) (by decide) rfl) ?_
  refine .li rfl isAgg3 rfl rfl <|
    .aI rfl rfl <|
    .nil <|
    .seq <|
    .seq <|
    .region <|
    .mI rfl rfl <|
    .qn rfl rfl rfl <|
    .mB rfl rfl ?_
  refine .gt rfl rfl rfl (fun _ => tl0) (fun hc => q_sliceA rfl underlying25 sizeOf3 rfl rfl) ?_
  refine .gt rfl rfl rfl (fun _ => tl0) (fun hc => q_func rfl) ?_
  refine .gt rfl rfl rfl (fun hc => tl2 10 9 (.opt hc) (.opt hc)) (fun hc => QOp.call rfl (by exact call134) fun h2 hl => by exact sContainsFuncI_calls .full restingL 135 [] [V.iptr (cObj o)] (fun f => o f.toNat != 0) (by decide) call135 h2 fun x hx h3 _ => formed1_calls o x (resting_in hx) h3) ?_
  refine .pt rfl rfl rfl rfl <|
    .nil ?_
  refine AW.cond rfl (fun c0 => ?_) (fun c0 => ?_)
  · skip
    refine .seq <|
      .region <|
      .aB rfl rfl <|
      .nil ?_
    refine AW.ret ?_
    exact retQ.mk' (.one _) (VLe.of_eq (congrArg V.bool (by rw [resting_any] at c0; simp [formedF] at c0 ⊢; grind))) (HLe.refl _) ⟨rfl, rfl⟩
  · skip
    refine AW.skip ?_
    refine .seq <|
      .seq <|
      .region <|
      .mI rfl rfl <|
      .ql rfl rfl rfl <|
      .mB rfl rfl ?_
    refine .gt rfl rfl rfl (fun _ => tl0) (fun hc => q_ia_ai rfl underlying72 sizeOf3 rfl rfl (by decide) (by decide) rfl) ?_
    refine .gt rfl rfl rfl (fun hc => tl1 16 (.opt hc)) (fun hc => q_load_i1 rfl isAgg3 rfl rfl) ?_
    refine .gt rfl rfl rfl (fun _ => tl0) (fun hc => q_ia_ai rfl underlying72 sizeOf3 rfl rfl (by decide) (by decide) rfl) ?_
    refine .gt rfl rfl rfl (fun hc => tl1 18 (.opt hc)) (fun hc => q_load_i1 rfl isAgg3 rfl rfl) ?_
    refine .gt rfl rfl rfl (fun hc => tl2 19 17 (.opt hc) (.opt hc)) (fun hc => q_ne rfl rfl rfl) ?_
    refine .pt rfl rfl rfl rfl <|
      .nil ?_
    refine AW.cond rfl (fun c1 => ?_) (fun c1 => ?_)
    · skip
      refine .seq <|
        .region <|
        .aB rfl rfl <|
        .nil ?_
      refine AW.ret ?_
      exact retQ.mk' (.one _) (VLe.of_eq (congrArg V.bool (by rw [resting_any] at c0; simp [formedF] at c0 c1 ⊢; grind))) (HLe.refl _) ⟨rfl, rfl⟩
    · skip
      refine AW.skip ?_
      refine .seq <|
        .region <|
        .mI rfl rfl <|
        .qe rfl rfl rfl <|
        .mB rfl rfl ?_
      refine .gf rfl rfl rfl (fun _ => tl0) (fun hc => q_ia_ai rfl underlying72 sizeOf3 rfl rfl (by decide) (by decide) rfl) ?_
      refine .gf rfl rfl rfl (fun hc => tl1 25 (.opt hc)) (fun hc => q_load_i1 rfl isAgg3 rfl rfl) ?_
      refine .gf rfl rfl rfl (fun hc => tl1 26 (.opt hc)) (fun hc => q_eq rfl rfl rfl) ?_
      refine .u rfl rfl rfl (q_pickg rfl rfl (fun hp => by exact VLe.refl _) (fun hp => by exact VLe.opt (by rw [hp]; rfl))) ?_
      refine .aB rfl rfl <|
        .nil ?_
      refine AW.ret ?_
      exact retQ.mk' (.one _) (VLe.of_eq (congrArg V.bool (by rw [resting_any] at c0; simp [formedF] at c0 c1 ⊢; grind))) (HLe.refl _) ⟨rfl, rfl⟩

def checkF (s : St) : Int := if 400 < (s.objs.length : Int) then 5 else if rangesF s = false then 1 else if zonesF s = false then 12 else if s.objs.any (fun o => !formedF o) then 2 else 0

theorem check1_calls (o : Obj) (h : Hp) : ACalls prog G 85 [eObj o] h fun r h' => r = .bool (!formedF o) ∧ h' = h := by
  refine ACalls.enter func85 rfl ntmps85 results85 rfl ?_
  refine .seq <|
    .region <|
    .bx rfl rfl <|
    .aB rfl rfl <|
    .nil <|
    .seq <|
    .region <|
    .lw rfl isAgg72 sizeOf72 rfl rfl ?_
  refine .u rfl rfl rfl (QOp.call rfl call86 fun h' hl' => by exact formed_calls _ h') ?_
  refine .nt rfl rfl <|
    .aB rfl rfl <|
    .nil ?_
  refine AW.ret ?_
  exact retQ.mk (.one _) ⟨rfl, rfl⟩

theorem check_calls (s : St) (hb : s.objs.length ≤ 1000000) (hl : ∀ z, (s.lists z).length ≤ 1000000) (h : Hp) : ACalls prog G 36 [eState s] h fun r h' => r = eE (checkF s) ∧ h' = h := by
  refine ACalls.enter func36 rfl ntmps36 results36 rfl ?_
  refine .seq <|
    .region <|
    .bx rfl rfl ?_
  refine .u rfl rfl rfl (q_as rfl (rfl : _ = V.inil)) ?_
  refine .nil <|
    .seq <|
    .block <|
    .seq <|
    .region <|
    .fi rfl f29_0 rfl <|
    .li rfl isAgg22 rfl rfl <|
    .ln rfl underlying22 rfl ?_
  refine .u rfl rfl rfl (q_gt rfl rfl rfl) ?_
  refine .aB rfl rfl <|
    .nil ?_
  refine AW.cond rfl (fun c0 => ?_) (fun c0 => ?_)
  · skip
    refine .seq <|
      .region ?_
    refine .u rfl rfl rfl (q_iface rfl underlying97 rfl) ?_
    refine .u rfl rfl rfl (q_as rfl (rfl : _ = V.iface _ _)) ?_
    refine .nil ?_
    refine AW.ret ?_
    exact retQ.mk' (.one _) (VLe.of_eq (by show V.iface _ (V.int _ _) = _; rw [show checkF s = 5 by simp_all [checkF]]; exact (eErr_ne (by decide)).symm)) (HLe.refl _) ⟨rfl, rfl⟩
  · skip
    refine .seq <|
      .region <|
      .lw rfl isAgg29 sizeOf29 rfl rfl ?_
    refine .u rfl rfl rfl (QOp.call rfl call82 fun h' hl' => by exact ranges_calls _ (by assumption) h') ?_
    refine .nt rfl rfl <|
      .aB rfl rfl <|
      .nil ?_
    refine AW.cond rfl (fun c1 => ?_) (fun c1 => ?_)
    · skip
      refine .seq <|
        .region ?_
      refine .u rfl rfl rfl (q_iface rfl underlying97 rfl) ?_
      refine .u rfl rfl rfl (q_as rfl (rfl : _ = V.iface _ _)) ?_
      refine .nil ?_
      refine AW.ret ?_
      exact retQ.mk' (.one _) (VLe.of_eq (by show V.iface _ (V.int _ _) = _; rw [show checkF s = 1 by simp_all [checkF]]; exact (eErr_ne (by decide)).symm)) (HLe.refl _) ⟨rfl, rfl⟩
    · skip
      refine .seq <|
        .region <|
        .lw rfl isAgg29 sizeOf29 rfl rfl ?_
      refine .u rfl rfl rfl (QOp.call rfl call83 fun h' hl' => by exact zones_calls _ (by assumption) (by assumption) h') ?_
      refine .nt rfl rfl <|
        .aB rfl rfl <|
        .nil ?_
      refine AW.cond rfl (fun c2 => ?_) (fun c2 => ?_)
      · skip
        refine .seq <|
          .region ?_
        refine .u rfl rfl rfl (q_iface rfl underlying97 rfl) ?_
        refine .u rfl rfl rfl (q_as rfl (rfl : _ = V.iface _ _)) ?_
        refine .nil ?_
        refine AW.ret ?_
        exact retQ.mk' (.one _) (VLe.of_eq (by show V.iface _ (V.int _ _) = _; rw [show checkF s = 12 by simp_all [checkF]]; exact (eErr_ne (by decide)).symm)) (HLe.refl _) ⟨rfl, rfl⟩
      · skip
        refine .seq <|
          .region <|
          .fi rfl f29_0 rfl <|
          .li rfl isAgg22 rfl rfl ?_
        refine .u rfl rfl rfl (QOp.call rfl call84 fun h2 hl => by exact sContainsFuncO_calls .imm s.objs 85 [] [] (fun o => !formedF o) hb call85 h2 fun x hx h3 _ => check1_calls x h3) ?_
        refine .aB rfl rfl <|
          .nil ?_
        refine AW.cond rfl (fun c3 => ?_) (fun c3 => ?_)
        · skip
          refine .seq <|
            .region ?_
          refine .u rfl rfl rfl (q_iface rfl underlying97 rfl) ?_
          refine .u rfl rfl rfl (q_as rfl (rfl : _ = V.iface _ _)) ?_
          refine .nil ?_
          refine AW.ret ?_
          exact retQ.mk' (.one _) (VLe.of_eq (by show V.iface _ (V.int _ _) = _; rw [show checkF s = 2 by simp_all [checkF]]; exact (eErr_ne (by decide)).symm)) (HLe.refl _) ⟨rfl, rfl⟩
        · skip
          refine AW.skip ?_
          refine .seq <|
            .region ?_
          refine .u rfl rfl rfl (q_as rfl (rfl : _ = V.inil)) ?_
          refine .nil ?_
          refine AW.ret ?_
          exact retQ.mk' (.one _) (VLe.of_eq (by show V.inil = _; rw [show checkF s = 0 by simp at c0 c1 c2 c3; rw [checkF, if_neg (by omega), if_neg (by simp [c1]), if_neg (by simp [c2]), if_neg (by simp; exact c3)]]; exact (eErr_zero _).symm)) (HLe.refl _) ⟨rfl, rfl⟩

end Go.Proofs.YtagcjkbogaoifaaGreatDoor
