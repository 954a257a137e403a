/- Walks: the document's effects that last. -/
import Derived.Test.YtijhmlkffkedeaaGreatDoorCs9
namespace Go.Proofs.YtijhmlkffkedeaaGreatDoor
open Go Go.AV Go.Proofs.Tryz
set_option maxRecDepth 100000
set_option maxHeartbeats 1000000
/-- An effect that lasts, as the document lists it. -/
structure RStat where
  id : Int
  doo : Eff
def cRStat (x : RStat) : List V := .int .i64 x.id :: cEff x.doo
def cRStats (l : List RStat) : List V := l.flatMap cRStat
def rAbs (s : St) (id : Int) (l : List Abil) : List RStat := (l.filter fun a => a.when == 5).map fun a => ⟨id, a.doo⟩
def rstatsOf (s : St) (id : Int) : List RStat := rAbs s id (kindF s id).abs
def rstatsF (s : St) : List RStat := (s.lists 8).flatMap (rstatsOf s)
def rUp (s : St) (i k : Nat) : List RStat := ((s.lists 8).take i).flatMap (rstatsOf s) ++ rAbs s ((s.lists 8).getD i 0) ((kindF s ((s.lists 8).getD i 0)).abs.take k)
theorem rUp_next {s : St} {i : Nat} (h : i < (s.lists 8).length) : rUp s i (kindF s ((s.lists 8).getD i 0)).abs.length = rUp s (i + 1) 0 := by
  rw [rUp, List.take_length, rUp, List.take_zero, List.take_add_one, List.getElem?_eq_getElem h, getD_of h, Option.toList_some, List.flatMap_append]
  simp only [List.flatMap_cons, List.flatMap_nil, List.append_nil, rstatsOf, rAbs, List.filter_nil, List.map_nil]
theorem rUp_yes {s : St} {i k : Nat} (h : k < (kindF s ((s.lists 8).getD i 0)).abs.length) (c : ((kindF s ((s.lists 8).getD i 0)).abs.getD k noAb).when = 5) : rUp s i (k + 1) = rUp s i k ++ [⟨(s.lists 8).getD i 0, ((kindF s ((s.lists 8).getD i 0)).abs.getD k noAb).doo⟩] := by
  rw [getD_of' h] at c ⊢
  rw [rUp, rUp, List.take_add_one, List.getElem?_eq_getElem h, Option.toList_some, rAbs, rAbs, List.filter_append, List.map_append, List.append_assoc]
  simp only [List.filter_cons, c, List.filter_nil]; rfl
theorem rUp_no {s : St} {i k : Nat} (h : k < (kindF s ((s.lists 8).getD i 0)).abs.length) (c : ¬ ((kindF s ((s.lists 8).getD i 0)).abs.getD k noAb).when = 5) : rUp s i (k + 1) = rUp s i k := by
  rw [getD_of' h] at c
  rw [rUp, rUp, List.take_add_one, List.getElem?_eq_getElem h, Option.toList_some, rAbs, rAbs, List.filter_append, List.map_append]
  have : ((kindF s ((s.lists 8).getD i 0)).abs[k].when == 5) = false := by simpa using c
  simp only [List.filter_cons, this, List.filter_nil]; simp
theorem rUp_all {s : St} : rUp s (s.lists 8).length 0 = rstatsF s := by simp [rUp, rstatsF, rAbs]
theorem rstat_app (l : List RStat) (x : RStat) : cRStats (l ++ [x]) = cRStats l ++ cRStat x := by simp [cRStats]
theorem rAbs_len {s : St} {id : Int} {l : List Abil} : (rAbs s id l).length ≤ l.length := by rw [rAbs, List.length_map]; exact List.length_filter_le _ _
theorem rUp_len {s : St} (hl : (s.lists 8).length ≤ 1000000) {i k : Nat} : (rUp s i k).length ≤ 10000000 := by
  have h1 : ∀ id, (rstatsOf s id).length ≤ 4 := fun id => Nat.le_trans rAbs_len (cardE_abs _)
  have h2 : ∀ l : List Int, (l.flatMap (rstatsOf s)).length ≤ l.length * 4 := fun l => by
    induction l with
    | nil => simp
    | cons a l ih => rw [List.flatMap_cons, List.length_append, List.length_cons]; have := h1 a; omega
  have h3 := h2 ((s.lists 8).take i)
  have h4 : ((s.lists 8).take i).length ≤ 1000000 := Nat.le_trans (List.length_take_le' _ _) hl
  have h5 : (rAbs s ((s.lists 8).getD i 0) ((kindF s ((s.lists 8).getD i 0)).abs.take k)).length ≤ 4 := Nat.le_trans rAbs_len (Nat.le_trans (List.length_take_le' _ _) (cardE_abs _))
  rw [rUp, List.length_append]; omega
theorem abil_elem_n {l : List Abil} {k : Nat} (h : k < l.length) : ((l.flatMap cAbil).drop (Int.toNat (k : Int) * 14)).take 14 = cAbil (l.getD k noAb) := flat_at (f := cAbil) (n := 14) (fun _ => rfl) noAb h
theorem rstat_elem {l : List RStat} {z : RStat} {k : Nat} (h : k < l.length) : ((cRStats l).drop (Int.toNat (k : Int) * 6)).take 6 = cRStat (l.getD k z) := flat_at (f := cRStat) (n := 6) (fun _ => rfl) z h
def withinF (s : St) (x : RStat) (i : Int) : Bool :=
  let same := s.objs.getD i.toNat noObj 2 == s.objs.getD x.id.toNat noObj 2
  x.doo.n == 0 || x.doo.n == 1 && same || x.doo.n == 2 && !same || x.doo.n == 3 && same && x.id != i

theorem refKind_calls (s : St) (i : Int) (hi : 0 ≤ i ∧ i < s.objs.length) (h : Hp) : ACalls prog G 78 [eState s, .int .i64 i] h fun r h' => r = eCard (kindF s i) ∧ h' = h := by
  refine ACalls.enter func78 rfl ntmps78 results78 rfl ?_
  refine .seq <|
    .region <|
    .bx rfl rfl ?_
  refine AOps.s rfl rfl rfl (a_alloc rfl zeroValue111 rfl (fun id4 hid4 => ?_))
  refine .nil <|
    .seq <|
    .region <|
    .fi rfl f29_0 rfl <|
    .li rfl isAgg22 rfl rfl <|
    .mI rfl rfl ?_
  refine .u rfl rfl rfl (q_ia_s rfl underlying22 sizeOf58 rfl rfl (by omega) (by omega) (cObjs_elem' (by omega) (by omega))) ?_
  refine .u rfl rfl rfl (q_ia_ai rfl underlying58 sizeOf3 rfl rfl (by decide) (by decide) rfl) ?_
  refine .li rfl isAgg3 rfl rfl ?_
  refine .u rfl rfl rfl (QOp.call rfl call111 fun h' hl' => by exact refCard_calls _ h') ?_
  refine .u rfl rfl rfl (q_mv rfl (rfl : _ = V.tup _)) ?_
  refine .u rfl rfl rfl (q_extract rfl rfl rfl) ?_
  refine .u rfl rfl rfl (q_extract rfl rfl rfl) ?_
  refine AOps.s rfl rfl rfl (a_alloc rfl zeroValue111 rfl (fun id5 hid5 => ?_))
  refine .sw sizeOf111 rfl rfl rfl rfl ?_
  refine AOps.done 5 rfl hid5 ?_
  refine .aB rfl rfl <|
    .nil <|
    .seq <|
    .region <|
    .lw rfl isAgg111 sizeOf111 rfl rfl <|
    .sw sizeOf111 rfl rfl rfl rfl <|
    .nil ?_
  refine AW.ret ?_
  exact retQ.mk' (Res.cellB isAgg111 sizeOf111 rfl (by exact bsb) rfl) (VLe.refl _) (HLe.setBox hid4.1) ⟨rfl, rfl⟩

theorem refIs_calls (s : St) (i : Int) (h : Hp) : ACalls prog G 77 [eState s, .int .i64 i] h fun r h' => r = .bool (creatureF s i) ∧ h' = h := by
  refine ACalls.enter func77 rfl ntmps77 results77 rfl ?_
  refine .seq <|
    .region <|
    .bx rfl rfl <|
    .aB rfl rfl <|
    .nil <|
    .seq <|
    .region <|
    .mI rfl rfl <|
    .qg rfl rfl rfl <|
    .mB rfl rfl ?_
  refine .gt rfl rfl rfl (fun _ => tl0) (fun hc => q_mv rfl (rfl : _ = V.int _ _)) ?_
  refine .gt rfl rfl rfl (fun _ => tl0) (fun hc => q_fa_i rfl underlying29 rfl (by exact sizeOf22) (by decide) rfl (rfl : _ = List.drop 0 _)) ?_
  refine .gt rfl rfl rfl (fun hc => tl1 9 (.opt hc)) (fun hc => q_load_i1 rfl isAgg22 rfl rfl) ?_
  refine .gt rfl rfl rfl (fun hc => tl1 10 (.opt hc)) (fun hc => q_len rfl underlying22 rfl) ?_
  refine .gt rfl rfl rfl (fun hc => tl2 11 8 (.opt hc) (.opt hc)) (fun hc => q_lt rfl rfl rfl) ?_
  refine .pt rfl rfl rfl rfl <|
    .mB rfl rfl ?_
  refine .gt rfl rfl rfl (fun _ => tl0) (fun hc => q_fa_i rfl underlying29 rfl (by exact sizeOf22) (by decide) rfl (rfl : _ = List.drop 0 _)) ?_
  refine .gt rfl rfl rfl (fun hc => tl1 15 (.opt hc)) (fun hc => q_load_i1 rfl isAgg22 rfl rfl) ?_
  refine .gt rfl rfl rfl (fun _ => tl0) (fun hc => q_mv rfl (rfl : _ = V.int _ _)) ?_
  refine .gt rfl rfl rfl (fun hc => tl2 17 16 (.opt hc) (.opt hc)) (fun hc => q_ia_s rfl underlying22 sizeOf58 rfl rfl (cr_in hc).1 (cr_in hc).2 (cObjs_elem' (cr_in hc).1 (cr_in hc).2)) ?_
  refine .gt rfl rfl rfl (fun hc => tl1 18 (.opt hc)) (fun hc => q_ia_ai rfl underlying58 sizeOf3 rfl rfl (by decide) (by decide) rfl) ?_
  refine .gt rfl rfl rfl (fun hc => tl1 19 (.opt hc)) (fun hc => q_load_i1 rfl isAgg3 rfl rfl) ?_
  refine .gt rfl rfl rfl (fun hc => tl1 20 (.opt hc)) (fun hc => q_eq rfl rfl rfl) ?_
  refine .pt rfl rfl rfl rfl <|
    .mB rfl rfl ?_
  refine .gt rfl rfl rfl (fun _ => tl0) (fun hc => q_load_iW rfl isAgg29 sizeOf29 rfl (by rfl)) ?_
  refine .gt rfl rfl rfl (fun _ => tl0) (fun hc => q_mv rfl (rfl : _ = V.int _ _)) ?_
  refine .gt rfl rfl rfl (fun hc => tl2 25 24 (.opt hc) (.opt hc)) (fun hc => QOp.call rfl (by exact call78) fun h' hl' => by exact refKind_calls _ _ (cr_in2 hc) h') ?_
  refine .gt rfl rfl rfl (fun hc => tl1 26 (.opt hc)) (fun hc => q_f1 rfl underlying111 rfl (by exact isAgg3) rfl rfl) ?_
  refine .gt rfl rfl rfl (fun hc => tl1 27 (.opt hc)) (fun hc => q_eq rfl rfl rfl) ?_
  refine .pt rfl rfl rfl rfl <|
    .aB rfl rfl <|
    .nil ?_
  refine AW.ret ?_
  exact retQ.mk' (.one _) (VLe.of_eq (congrArg V.bool (cr_eq))) (HLe.refl _) ⟨rfl, rfl⟩

theorem refStatics_calls (s : St) (hz : ∀ id ∈ s.lists 8, 0 ≤ id ∧ id < s.objs.length) (hl : (s.lists 8).length ≤ 1000000) (h : Hp) : ACalls prog G 79 [eState s] h fun r h' => r = .sl .imm 6 (rstatsF s).length (cRStats (rstatsF s)) ∧ h' = h := by
  refine ACalls.enter func79 rfl ntmps79 results79 rfl ?_
  refine .seq <|
    .region <|
    .bx rfl rfl <|
    .aN rfl rfl <|
    .nil <|
    .seq <|
    .region ?_
  refine .u rfl rfl rfl (q_buildSl (ds := []) rfl underlying114 sizeOf120 zeroValue120 rfl rfl rfl rfl rfl) ?_
  refine .aS rfl rfl <|
    .nil <|
    .seq <|
    .seq <|
    .region <|
    .fi rfl f29_1 rfl ?_
  refine .u rfl rfl rfl (q_ia_ai rfl underlying24 sizeOf23 rfl rfl (by decide) (by decide) rfl) ?_
  refine .li rfl isAgg23 rfl rfl <|
    .ln rfl underlying23 rfl <|
    .mI rfl rfl <|
    .nil <|
    .block ?_
  refine AW.loop (fun n T hh => ∃ (i : Nat) (v : V), i ≤ (s.lists 8).length ∧ n = (s.lists 8).length - i ∧ T = put (put (put (put (put (T0) 13 (V.int .i64 (i : Nat))) 12 (V.int .i64 (s.lists 8).length)) 11 (eInts (s.lists 8))) 3 (v)) 1 (V.iptr (cState s)) ∧ Go.AV.Acc h 6 (rUp s i 0).length (cRStats (rUp s i 0)) v hh) ((s.lists 8).length) ?_ ?_
  · skip
    refine Wk.mk (TLe.put (d := 1) (VLe.refl _) (TLe.put (d := 3) (VLe.refl _) (TLe.put (d := 11) (VLe.refl _) (TLe.put (d := 12) (VLe.refl _) (TLe.put (d := 13) (by exact VLe.of_eq (congrArg (V.int .i64) (by first | rfl | omega))) (TLe.zero _)))))) (HLe.refl _) ⟨0, _, Nat.zero_le _, rfl, rfl, by exact Go.AV.Acc.full rfl⟩
  · skip
    rintro n T h' ⟨i, v, hi, rfl, rfl, hem⟩
    refine .seq <|
      .region <|
      .ql rfl rfl rfl <|
      .nil <|
      .seq ?_
    refine AW.cond rfl (fun c0 => ?_) (fun c0 => ?_)
    · have hlt : i < (s.lists 8).length := by have := of_decide_eq_true c0; omega
      have hid := hz _ (getD_mem hlt)
      have hab : (kindF s ((s.lists 8).getD i 0)).abs.length ≤ 4 := cardE_abs (s.objs.getD ((s.lists 8).getD i 0).toNat noObj 0)
      refine AW.skip ?_
      refine .seq <|
        .block <|
        .seq <|
        .region ?_
      refine .u rfl rfl rfl (q_ia_s rfl underlying23 sizeOf3 rfl rfl (by omega) (by omega) (cInts_at hlt)) ?_
      refine .li rfl isAgg3 rfl rfl <|
        .aI rfl rfl <|
        .nil <|
        .seq <|
        .region <|
        .lw rfl isAgg29 sizeOf29 rfl rfl <|
        .mI rfl rfl ?_
      refine .u rfl rfl rfl (QOp.call rfl call78 fun h' hl' => by exact refKind_calls s _ hid h') ?_
      refine .u rfl rfl rfl (q_f1 rfl underlying111 rfl (by exact isAgg109) rfl rfl) ?_
      refine .ln rfl underlying109 rfl <|
        .mI rfl rfl <|
        .nil <|
        .block ?_
      refine AW.loop (fun n T hh => ∃ (k : Nat) (v2 : V), k ≤ (kindF s ((s.lists 8).getD i 0)).abs.length ∧ n = (kindF s ((s.lists 8).getD i 0)).abs.length - k ∧ T = put (put (put (put (put (put (put (put (put (T0) 22 (V.int .i64 (k : Nat))) 21 (V.int .i64 (kindF s ((s.lists 8).getD i 0)).abs.length)) 20 (V.sl .imm 14 (kindF s ((s.lists 8).getD i 0)).abs.length ((kindF s ((s.lists 8).getD i 0)).abs.flatMap cAbil))) 13 (V.int .i64 (i : Nat))) 12 (V.int .i64 (s.lists 8).length)) 11 (eInts (s.lists 8))) 5 (V.int .i64 ((s.lists 8).getD i 0))) 3 (v2)) 1 (V.iptr (cState s)) ∧ Go.AV.Acc h 6 (rUp s i k).length (cRStats (rUp s i k)) v2 hh) ((kindF s ((s.lists 8).getD i 0)).abs.length) ?_ ?_
      · skip
        refine Wk.mk (TLe.put (d := 1) (VLe.refl _) (TLe.put (d := 3) (VLe.refl _) (TLe.put (d := 5) (VLe.refl _) (TLe.put (d := 11) (VLe.refl _) (TLe.put (d := 12) (VLe.refl _) (TLe.put (d := 13) (VLe.refl _) (TLe.put (d := 20) (VLe.refl _) (TLe.put (d := 21) (VLe.refl _) (TLe.put (d := 22) (by exact VLe.of_eq (congrArg (V.int .i64) (by first | rfl | omega))) (TLe.zero _)))))))))) (HLe.refl _) ⟨0, v, Nat.zero_le _, rfl, rfl, by exact hem⟩
      · skip
        rintro n T h' ⟨k, v2, hk, rfl, rfl, hem2⟩
        refine .seq <|
          .region <|
          .ql rfl rfl rfl <|
          .nil <|
          .seq ?_
        refine AW.cond rfl (fun c1 => ?_) (fun c1 => ?_)
        · have hltk : k < (kindF s ((s.lists 8).getD i 0)).abs.length := by have := of_decide_eq_true c1; omega
          have hul := rUp_len hl (i := i) (k := k)
          refine AW.skip ?_
          refine .seq <|
            .block <|
            .seq <|
            .region ?_
          refine .u rfl rfl rfl (q_ia_s rfl underlying109 sizeOf159 rfl rfl (by omega) (by omega) (abil_elem_n hltk)) ?_
          refine .lw rfl isAgg159 sizeOf159 rfl rfl ?_
          refine AOps.s rfl rfl rfl (a_alloc rfl zeroValue159 rfl (fun id7 hid7 => ?_))
          refine .sw sizeOf159 rfl rfl rfl rfl ?_
          refine AOps.done 7 rfl hid7 ?_
          refine .nil <|
            .seq <|
            .region <|
            .fi rfl f159_0 rfl <|
            .li rfl isAgg3 rfl rfl <|
            .qe rfl rfl rfl <|
            .nil ?_
          refine AW.cond rfl (fun c2 => ?_) (fun c2 => ?_)
          · have c5 : ((kindF s ((s.lists 8).getD i 0)).abs.getD k noAb).when = 5 := by simpa using c2
            refine .region ?_
            refine .u rfl rfl rfl (q_mv rfl (rfl : _ = _)) ?_
            refine .mI rfl rfl <|
              .fi rfl f159_9 rfl ?_
            refine .u rfl rfl rfl (q_load_iN (ds := cEff ((kindF s ((s.lists 8).getD i 0)).abs.getD k noAb).doo) rfl isAgg118 sizeOf118 rfl rfl rfl) ?_
            refine .u rfl rfl rfl (q_buildS (ds := cRStat ⟨(s.lists 8).getD i 0, ((kindF s ((s.lists 8).getD i 0)).abs.getD k noAb).doo⟩) rfl zeroValue120 underlying120 (pl120 underlying120) rfl (by kernel_rfl)) ?_
            refine .u rfl rfl rfl (q_buildSl (ds := cRStat ⟨(s.lists 8).getD i 0, ((kindF s ((s.lists 8).getD i 0)).abs.getD k noAb).doo⟩) rfl underlying114 sizeOf120 zeroValue120 rfl rfl rfl rfl (by kernel_rfl)) ?_
            refine AOps.s rfl rfl rfl (a_append rfl underlying114 (i := t120) (by kernel_rfl) rfl (n := 6) (by' := 64) rfl rfl rfl rfl hem2 rfl rfl (by decide) (by omega) (by omega) rfl (fun v3 h3 acc => ?_))
            refine .u rfl rfl rfl (q_as rfl (rfl : _ = _)) ?_
            refine .nil <|
              .region <|
              .ad rfl rfl rfl (by omega) <|
              .mI rfl rfl <|
              .nil ?_
            refine Wk.mk (TLe.put (d := 1) (VLe.refl _) (TLe.put (d := 3) (VLe.refl _) (TLe.put (d := 5) (VLe.refl _) (TLe.put (d := 11) (VLe.refl _) (TLe.put (d := 12) (VLe.refl _) (TLe.put (d := 13) (VLe.refl _) (TLe.put (d := 20) (VLe.refl _) (TLe.put (d := 21) (VLe.refl _) (TLe.put (d := 22) (by exact VLe.of_eq (congrArg (V.int .i64) (by first | rfl | omega))) (TLe.zero _)))))))))) (HLe.refl _) ⟨_, ?_, k + 1, _, ?_, rfl, rfl, by first | (rw [rUp_yes hltk c5, rstat_app, List.length_append]; exact acc) | (rw [rUp_no hltk c5]; exact hem2)⟩
            · omega
            · omega
          · have c5 : ¬ ((kindF s ((s.lists 8).getD i 0)).abs.getD k noAb).when = 5 := by simpa using c2
            refine AW.skip ?_
            refine .region <|
              .ad rfl rfl rfl (by omega) <|
              .mI rfl rfl <|
              .nil ?_
            refine Wk.mk (TLe.put (d := 1) (VLe.refl _) (TLe.put (d := 3) (VLe.refl _) (TLe.put (d := 5) (VLe.refl _) (TLe.put (d := 11) (VLe.refl _) (TLe.put (d := 12) (VLe.refl _) (TLe.put (d := 13) (VLe.refl _) (TLe.put (d := 20) (VLe.refl _) (TLe.put (d := 21) (VLe.refl _) (TLe.put (d := 22) (by exact VLe.of_eq (congrArg (V.int .i64) (by first | rfl | omega))) (TLe.zero _)))))))))) (HLe.refl _) ⟨_, ?_, k + 1, _, ?_, rfl, rfl, by first | (rw [rUp_yes hltk c5, rstat_app, List.length_append]; exact acc) | (rw [rUp_no hltk c5]; exact hem2)⟩
            · omega
            · omega
        · obtain rfl : k = (kindF s ((s.lists 8).getD i 0)).abs.length := by have := of_decide_eq_false c1; omega
          refine AW.exit ?_
          refine .region <|
            .ad rfl rfl rfl (by omega) <|
            .mI rfl rfl <|
            .nil ?_
          refine Wk.mk (TLe.put (d := 1) (VLe.refl _) (TLe.put (d := 3) (VLe.refl _) (TLe.put (d := 11) (VLe.refl _) (TLe.put (d := 12) (VLe.refl _) (TLe.put (d := 13) (by exact VLe.of_eq (congrArg (V.int .i64) (by first | rfl | omega))) (TLe.zero _)))))) (HLe.refl _) ⟨_, ?_, i + 1, _, ?_, rfl, rfl, by rw [← rUp_next hlt]; exact hem2⟩
          · omega
          · omega
    · obtain rfl : i = (s.lists 8).length := by have := of_decide_eq_false c0; omega
      refine AW.exit ?_
      refine .seq <|
        .region ?_
      refine .u rfl rfl rfl (q_mv rfl (rfl : _ = _)) ?_
      refine .u rfl rfl rfl (q_as rfl (rfl : _ = _)) ?_
      refine .nil ?_
      refine AW.ret ?_
      rw [rUp_all] at hem
      exact retQ.mk' (.one _) hem.vle hem.hle ⟨rfl, rfl⟩

theorem within_calls (s : St) (x : RStat) (i : Int) (hi : 0 ≤ i ∧ i < s.objs.length) (hx : 0 ≤ x.id ∧ x.id < s.objs.length) (h : Hp) : ACalls prog G 80 [eState s, .agg (cRStat x), .int .i64 i] h fun r h' => r = .bool (withinF s x i) ∧ h' = h := by
  refine ACalls.enter func80 rfl ntmps80 results80 rfl ?_
  refine .seq <|
    .region <|
    .bx rfl rfl <|
    .bx rfl rfl <|
    .aB rfl rfl <|
    .nil <|
    .seq ?_
  refine AW.draw [] [] [(0, true), (1, true), (2, true), (3, true), (4, true), (5, true), (6, true), (7, true), (8, true), (9, true), (10, true), (11, true), (12, true), (13, true), (14, true)] mixed (by kernel_rfl) rfl (by kernel_rfl) ?_
  refine .q rfl rfl rfl rfl (q_fa_i rfl underlying29 rfl (by exact sizeOf22) (by decide) rfl (rfl : _ = List.drop 0 _)) ?_
  refine .q rfl rfl rfl rfl (q_load_i1 rfl isAgg22 rfl rfl) ?_
  refine .q rfl rfl rfl rfl (q_mv rfl (rfl : _ = V.int _ _)) ?_
  refine .q rfl rfl rfl rfl (q_ia_s rfl underlying22 sizeOf58 rfl rfl (by omega) (by omega) (cObjs_elem' (by omega) (by omega))) ?_
  refine .q rfl rfl rfl rfl (q_ia_ai rfl underlying58 sizeOf3 rfl rfl (by decide) (by decide) rfl) ?_
  refine .q rfl rfl rfl rfl (q_load_i1 rfl isAgg3 rfl rfl) ?_
  refine .q rfl rfl rfl rfl (q_fa_i rfl underlying29 rfl (by exact sizeOf22) (by decide) rfl (rfl : _ = List.drop 0 _)) ?_
  refine .q rfl rfl rfl rfl (q_load_i1 rfl isAgg22 rfl rfl) ?_
  refine .q rfl rfl rfl rfl (q_fa_i rfl underlying120 rfl (by exact sizeOf3) (by decide) rfl (rfl : _ = List.drop 0 _)) ?_
  refine .q rfl rfl rfl rfl (q_load_i1 rfl isAgg3 rfl rfl) ?_
  refine .q rfl rfl rfl rfl (q_ia_s rfl underlying22 sizeOf58 rfl rfl (by omega) (by omega) (cObjs_elem' (by omega) (by omega))) ?_
  refine .q rfl rfl rfl rfl (q_ia_ai rfl underlying58 sizeOf3 rfl rfl (by decide) (by decide) rfl) ?_
  refine .q rfl rfl rfl rfl (q_load_i1 rfl isAgg3 rfl rfl) ?_
  refine .q rfl rfl rfl rfl (q_eq rfl rfl rfl) ?_
  refine .q rfl rfl rfl rfl (q_as rfl (rfl : _ = V.bool _)) ?_
  refine AOrd.nil ?_
  refine .seq <|
    .region <|
    .fi rfl f120_1 rfl <|
    .fi rfl f118_1 rfl <|
    .li rfl isAgg3 rfl rfl <|
    .qe rfl rfl rfl <|
    .mB rfl rfl ?_
  refine .gf rfl rfl rfl (fun _ => tl0) (fun hc => q_fa_i rfl underlying120 rfl (by exact sizeOf118) (by decide) rfl (rfl : _ = List.drop 1 _)) ?_
  refine .gf rfl rfl rfl (fun hc => tl1 27 (.opt hc)) (fun hc => q_fa_i rfl underlying118 rfl (by exact sizeOf3) (by decide) rfl (rfl : _ = List.drop 1 _)) ?_
  refine .gf rfl rfl rfl (fun hc => tl1 28 (.opt hc)) (fun hc => q_load_i1 rfl isAgg3 rfl rfl) ?_
  refine .gf rfl rfl rfl (fun hc => tl1 29 (.opt hc)) (fun hc => q_eq rfl rfl rfl) ?_
  refine .gf rfl rfl rfl (fun hc => tl1 30 (.opt hc)) (fun hc => q_mv rfl (rfl : _ = V.bool _)) ?_
  refine AOps.g (wanted_to rfl rfl) rfl rfl (fun _ => tl0) (fun hc => q_mv rfl (rfl : _ = V.bool _)) ?_
  refine .gf rfl rfl rfl (fun hc => tl1 31 (.opt hc)) (fun hc => q_pickg rfl rfl (fun hp => by first | exact VLe.opt hp | exact VLe.opt (by rw [hp]; rfl) | exact VLe.opt (by simp_all)) (fun hp => by exact VLe.refl _)) ?_
  refine .pf rfl rfl rfl rfl <|
    .mB rfl rfl ?_
  refine .gf rfl rfl rfl (fun _ => tl0) (fun hc => q_fa_i rfl underlying120 rfl (by exact sizeOf118) (by decide) rfl (rfl : _ = List.drop 1 _)) ?_
  refine .gf rfl rfl rfl (fun hc => tl1 36 (.opt hc)) (fun hc => q_fa_i rfl underlying118 rfl (by exact sizeOf3) (by decide) rfl (rfl : _ = List.drop 1 _)) ?_
  refine .gf rfl rfl rfl (fun hc => tl1 37 (.opt hc)) (fun hc => q_load_i1 rfl isAgg3 rfl rfl) ?_
  refine .gf rfl rfl rfl (fun hc => tl1 38 (.opt hc)) (fun hc => q_eq rfl rfl rfl) ?_
  refine .gf rfl rfl rfl (fun hc => tl1 39 (.opt hc)) (fun hc => q_mv rfl (rfl : _ = V.bool _)) ?_
  refine AOps.g (wanted_to rfl rfl) rfl rfl (fun _ => tl0) (fun hc => q_mv rfl (rfl : _ = V.bool _)) ?_
  refine AOps.g (wanted_to rfl rfl) rfl rfl (fun hc => tl1 41 (.opt hc)) (fun hc => q_not rfl rfl) ?_
  refine .gf rfl rfl rfl (fun hc => tl1 40 (.opt hc)) (fun hc => q_pickg rfl rfl (fun hp => by first | exact VLe.opt hp | exact VLe.opt (by rw [hp]; rfl) | exact VLe.opt (by simp_all)) (fun hp => by exact VLe.refl _)) ?_
  refine .pf rfl rfl rfl rfl <|
    .mB rfl rfl ?_
  refine .gf rfl rfl rfl (fun _ => tl0) (fun hc => q_fa_i rfl underlying120 rfl (by exact sizeOf118) (by decide) rfl (rfl : _ = List.drop 1 _)) ?_
  refine .gf rfl rfl rfl (fun hc => tl1 46 (.opt hc)) (fun hc => q_fa_i rfl underlying118 rfl (by exact sizeOf3) (by decide) rfl (rfl : _ = List.drop 1 _)) ?_
  refine .gf rfl rfl rfl (fun hc => tl1 47 (.opt hc)) (fun hc => q_load_i1 rfl isAgg3 rfl rfl) ?_
  refine .gf rfl rfl rfl (fun hc => tl1 48 (.opt hc)) (fun hc => q_eq rfl rfl rfl) ?_
  refine .gf rfl rfl rfl (fun hc => tl1 49 (.opt hc)) (fun hc => q_mv rfl (rfl : _ = V.bool _)) ?_
  refine AOps.g (wanted_to rfl rfl) rfl rfl (fun _ => tl0) (fun hc => q_mv rfl (rfl : _ = V.bool _)) ?_
  refine .gf rfl rfl rfl (fun hc => tl1 50 (.opt hc)) (fun hc => q_pickg rfl rfl (fun hp => by first | exact VLe.opt hp | exact VLe.opt (by rw [hp]; rfl) | exact VLe.opt (by simp_all)) (fun hp => by exact VLe.refl _)) ?_
  refine .gf rfl rfl rfl (fun hc => tl1 52 (.opt hc)) (fun hc => q_mv rfl (rfl : _ = V.bool _)) ?_
  refine AOps.g (wanted_to rfl rfl) rfl rfl (fun _ => tl0) (fun hc => q_fa_i rfl underlying120 rfl (by exact sizeOf3) (by decide) rfl (rfl : _ = List.drop 0 _)) ?_
  refine AOps.g (wanted_to rfl rfl) rfl rfl (fun hc => tl1 54 (.opt hc)) (fun hc => q_load_i1 rfl isAgg3 rfl rfl) ?_
  refine AOps.g (wanted_to rfl rfl) rfl rfl (fun _ => tl0) (fun hc => q_mv rfl (rfl : _ = V.int _ _)) ?_
  refine AOps.g (wanted_to rfl rfl) rfl rfl (fun hc => tl2 56 55 (.opt hc) (.opt hc)) (fun hc => q_ne rfl rfl rfl) ?_
  refine .gf rfl rfl rfl (fun hc => tl1 53 (.opt hc)) (fun hc => q_pickg rfl rfl (fun hp => by first | exact VLe.opt hp | exact VLe.opt (by rw [hp]; rfl) | exact VLe.opt (by simp_all)) (fun hp => by exact VLe.refl _)) ?_
  refine .pf rfl rfl rfl rfl <|
    .aB rfl rfl <|
    .nil ?_
  refine AW.ret ?_
  exact retQ.mk' (.one _) (VLe.of_eq (congrArg V.bool (by simp only [withinF]; cases (x.doo.n == 0) <;> cases (x.doo.n == 1) <;> cases (x.doo.n == 2) <;> cases (x.doo.n == 3) <;> cases (s.objs.getD i.toNat noObj 2 == s.objs.getD x.id.toNat noObj 2) <;> cases (x.id != i) <;> rfl))) (HLe.refl _) ⟨rfl, rfl⟩

end Go.Proofs.YtijhmlkffkedeaaGreatDoor
/- Walks: a creature's shape, by the document. -/
namespace Go.Proofs.YtijhmlkffkedeaaGreatDoor
open Go Go.AV Go.Proofs.Tryz
set_option maxRecDepth 100000
set_option maxHeartbeats 1000000
def noRS : RStat := ⟨0, ⟨0, 0, 0, 0, []⟩⟩
def e0 (x : RStat) : Eff0 := x.doo.subs.getD 0 noEff0
theorem sub_e0 {x : RStat} (h : 0 < x.doo.subs.length) : ((x.doo.subs.flatMap cEff0).drop (Int.toNat 0 * 5)).take 5 = cEff0 (e0 x) := sub_at h
def becStep (s : St) (i : Int) (a : Int × Int) (x : RStat) : Int × Int := bif (bif (e0 x).op == 24 then withinF s x i else false) then ((e0 x).n, (e0 x).m) else a
def pumStep (s : St) (i : Int) (a : Int × Int) (x : RStat) : Int × Int := bif (bif (e0 x).op == 10 then withinF s x i else false) then (a.1 + (e0 x).n, a.2 + (e0 x).m) else a
def worStep (s : St) (i : Int) (w : Int) (x : RStat) : Int := bif (bif (bif (e0 x).op == 23 then true else (e0 x).op == 25) then withinF s x i else false) then turnedF w (e0 x).n ((e0 x).op == 23) else w
def becUp (s : St) (i : Int) (k : Nat) : Int × Int := ((rstatsF s).take k).foldl (becStep s i) ((kindF s i).power, (kindF s i).tough)
def becF (s : St) (i : Int) : Int × Int := (rstatsF s).foldl (becStep s i) ((kindF s i).power, (kindF s i).tough)
def pumUp (s : St) (i : Int) (k : Nat) : Int × Int := ((rstatsF s).take k).foldl (pumStep s i) ((becF s i).1 + s.objs.getD i.toNat noObj 7, (becF s i).2 + s.objs.getD i.toNat noObj 7)
def pumF (s : St) (i : Int) : Int × Int := (rstatsF s).foldl (pumStep s i) ((becF s i).1 + s.objs.getD i.toNat noObj 7, (becF s i).2 + s.objs.getD i.toNat noObj 7)
def worUp (s : St) (i : Int) (k : Nat) : Int := ((rstatsF s).take k).foldl (worStep s i) (kindF s i).says
def worF (s : St) (i : Int) : Int := (rstatsF s).foldl (worStep s i) (kindF s i).says
/-- A creature's shape, by the document. -/
def rofF (s : St) (i : Int) : Sh := ⟨(pumF s i).1 + s.objs.getD i.toNat noObj 8, (pumF s i).2 + s.objs.getD i.toNat noObj 9, IntKind.i64.wrap (turnedF (worF s i) (s.objs.getD i.toNat noObj 10) true)⟩
theorem fold_succ {α β : Type} {f : β → α → β} {b : β} {l : List α} {z : α} {k : Nat} (h : k < l.length) : (l.take (k + 1)).foldl f b = f ((l.take k).foldl f b) (l.getD k z) := by
  rw [List.take_add_one, List.getElem?_eq_getElem h, Option.toList_some, List.foldl_append, getD_of' h]; rfl
theorem fold_in {α β : Type} {f : β → α → β} {b : β} {p : β → Prop} : ∀ {l : List α} {b : β} (_ : p b) (_ : ∀ b x, x ∈ l → p b → p (f b x)), p (l.foldl f b)
  | [], _, h, _ => h
  | x :: l, b, h, hs => fold_in (b := f b x) (l := l) (hs b x (by simp) h) fun b y hy hb => hs b y (by simp [hy]) hb
theorem cardF_words : ∀ k : Fin 120, (decide (0 ≤ (cardF (k.val : Int)).says) && decide ((cardF (k.val : Int)).says < 256) && (cardF (k.val : Int)).abs.all fun a => a.when != 5 || (decide (0 < a.doo.subs.length) && decide (0 ≤ a.doo.n) && decide (a.doo.n ≤ 3) && a.doo.subs.all fun e => (e.op != 23 && e.op != 25) || (decide (0 ≤ e.n) && decide (e.n < 256)))) = true := by decide +kernel
theorem cardE_words (n : Int) : (0 ≤ (cardE n).1.says ∧ (cardE n).1.says < 256) ∧ ∀ a ∈ (cardE n).1.abs, a.when = 5 → 0 < a.doo.subs.length ∧ 0 ≤ a.doo.n ∧ a.doo.n ≤ 3 ∧ ∀ e ∈ a.doo.subs, e.op = 23 ∨ e.op = 25 → 0 ≤ e.n ∧ e.n < 256 := by
  unfold cardE
  split
  · simp [noCard]
  · rename_i h
    have := cardF_words ⟨n.toNat, by omega⟩
    have e : ((n.toNat : Nat) : Int) = n := by omega
    simp only [e, Bool.and_eq_true, decide_eq_true_eq, List.all_eq_true] at this
    refine ⟨this.1, fun a ha hw => ?_⟩
    have h1 := this.2 a ha
    simp only [hw, Bool.or_eq_true, Bool.and_eq_true, decide_eq_true_eq, bne_iff_ne, ne_eq, not_true_eq_false, false_or, List.all_eq_true] at h1
    refine ⟨h1.1.1.1, h1.1.1.2, h1.1.2, fun e he hop => ?_⟩
    rcases h1.2 e he with h2 | h2
    · omega
    · exact h2
theorem rstat_ok {s : St} (hz : ∀ id ∈ s.lists 8, 0 ≤ id ∧ id < s.objs.length) : ∀ x ∈ rstatsF s, (0 ≤ x.id ∧ x.id < s.objs.length) ∧ 0 < x.doo.subs.length ∧ sm (e0 x).n (e0 x).m ∧ (0 ≤ x.doo.n ∧ x.doo.n ≤ 3) ∧ ((e0 x).op = 23 ∨ (e0 x).op = 25 → 0 ≤ (e0 x).n ∧ (e0 x).n < 256) := by
  intro x hx
  simp only [rstatsF, List.mem_flatMap, rstatsOf, rAbs, List.mem_map, List.mem_filter, beq_iff_eq] at hx
  obtain ⟨id, hid, a, ⟨ha, hw⟩, rfl⟩ := hx
  have h1 := (cardE_words (s.objs.getD id.toNat noObj 0)).2 a ha hw
  have h2 := (cardE_small (s.objs.getD id.toNat noObj 0)).1 a ha
  have hm : a.doo.subs.getD 0 noEff0 ∈ a.doo.subs := getD_mem' h1.1
  exact ⟨hz id hid, h1.1, h2 _ hm, ⟨h1.2.1, h1.2.2.1⟩, h1.2.2.2 _ hm⟩
def bd2 (c : Int) (a : Int × Int) : Prop := -c ≤ a.1 ∧ a.1 ≤ c ∧ -c ≤ a.2 ∧ a.2 ≤ c
theorem becUp_bd {s : St} {i : Int} (hz : ∀ id ∈ s.lists 8, 0 ≤ id ∧ id < s.objs.length) : bd2 1000 (becF s i) := by
  refine fold_in (b := ((0 : Int), (0 : Int))) (p := bd2 1000) ?_ fun b x hx hb => ?_
  · have := (cardE_small (s.objs.getD i.toNat noObj 0)).2
    exact this
  · have := (rstat_ok hz x hx).2.2.1
    unfold becStep
    cases (bif (e0 x).op == 24 then withinF s x i else false)
    · exact hb
    · exact this
theorem pumUp_zero {s : St} {i : Int} : pumUp s i 0 = ((becF s i).1 + s.objs.getD i.toNat noObj 7, (becF s i).2 + s.objs.getD i.toNat noObj 7) := rfl
theorem pumUp_bd {s : St} {i : Int} (hz : ∀ id ∈ s.lists 8, 0 ≤ id ∧ id < s.objs.length) (hob : obd (s.objs.getD i.toNat noObj)) (k : Nat) (hk : k ≤ (rstatsF s).length) : bd2 (1073742824 + 1000 * k) (pumUp s i k) := by
  obtain ⟨⟨a, b⟩, _⟩ := hob
  induction k with
  | zero =>
    have := becUp_bd (i := i) hz
    rw [pumUp_zero]; unfold bd2 at *; simp only; omega
  | succ k ih =>
    have ih := ih (by omega)
    have hx := (rstat_ok hz _ (getD_mem' (z := noRS) hk)).2.2.1
    rw [pumUp, fold_succ (z := noRS) hk, ← pumUp, pumStep]
    have e : (1073742824 + 1000 * ((k + 1 : Nat) : Int)) = 1073742824 + 1000 * (k : Int) + 1000 := by omega
    obtain ⟨h1, h2, h3, h4⟩ := ih; obtain ⟨y1, y2, y3, y4⟩ := hx
    rw [e]
    cases (bif (e0 ((rstatsF s).getD k noRS)).op == 10 then withinF s ((rstatsF s).getD k noRS) i else false)
    · refine ⟨?_, ?_, ?_, ?_⟩ <;> simp only [cond_false] <;> omega
    · refine ⟨?_, ?_, ?_, ?_⟩ <;> simp only [cond_true] <;> omega
theorem worUp_in {s : St} {i : Int} (k : Nat) : 0 ≤ worUp s i k ∧ worUp s i k < 18446744073709551616 := by
  refine fold_in (b := (0 : Int)) (p := fun w => 0 ≤ w ∧ w < 18446744073709551616) ?_ fun b x hx hb => ?_
  · have := (cardE_words (s.objs.getD i.toNat noObj 0)).1
    exact ⟨this.1, Int.lt_trans this.2 (by decide)⟩
  · unfold worStep
    cases (bif (bif (e0 x).op == 23 then true else (e0 x).op == 25) then withinF s x i else false)
    · exact hb
    · exact turned_in64 hb 8
theorem becUp_succ {s : St} {i : Int} {k : Nat} (h : k < (rstatsF s).length) : becUp s i (k + 1) = becStep s i (becUp s i k) ((rstatsF s).getD k noRS) := fold_succ h
theorem pumUp_succ {s : St} {i : Int} {k : Nat} (h : k < (rstatsF s).length) : pumUp s i (k + 1) = pumStep s i (pumUp s i k) ((rstatsF s).getD k noRS) := fold_succ h
theorem worUp_succ {s : St} {i : Int} {k : Nat} (h : k < (rstatsF s).length) : worUp s i (k + 1) = worStep s i (worUp s i k) ((rstatsF s).getD k noRS) := fold_succ h
theorem becUp_all {s : St} {i : Int} : becUp s i (rstatsF s).length = becF s i := by rw [becUp, List.take_length]; rfl
theorem pumUp_all {s : St} {i : Int} : pumUp s i (rstatsF s).length = pumF s i := by rw [pumUp, List.take_length]; rfl
theorem worUp_all {s : St} {i : Int} : worUp s i (rstatsF s).length = worF s i := by rw [worUp, List.take_length]; rfl
theorem wor_op {a b w : Bool} (h : (bif (bif a then true else b) then w else false) = true) : a = true ∨ b = true := by cases a <;> cases b <;> simp_all

theorem refOf_calls (s : St) (i : Int) (hi : 0 ≤ i ∧ i < s.objs.length) (hz : ∀ id ∈ s.lists 8, 0 ≤ id ∧ id < s.objs.length) (hl : (s.lists 8).length ≤ 1000000) (hob : obd (s.objs.getD i.toNat noObj)) (h10 : 0 ≤ s.objs.getD i.toNat noObj 10 ∧ s.objs.getD i.toNat noObj 10 < 18446744073709551616) (h : Hp) : ACalls prog G 37 [eState s, .int .i64 i] h fun r h' => r = .agg (cSh (rofF s i)) ∧ h' = h := by
  have hsl : (rstatsF s).length ≤ 10000000 := by rw [← rUp_all]; exact rUp_len hl
  obtain ⟨⟨o7, o7'⟩, ⟨o8, o8'⟩, o9, o9'⟩ := id hob
  have hsy := (cardE_words (s.objs.getD i.toNat noObj 0)).1
  have hsays : 0 ≤ (kindF s i).says ∧ (kindF s i).says < 18446744073709551616 := ⟨hsy.1, Int.lt_trans hsy.2 (by decide)⟩
  have hbb := becUp_bd (i := i) hz
  unfold bd2 at hbb
  refine ACalls.enter func37 rfl ntmps37 results37 rfl ?_
  refine .seq <|
    .region <|
    .bx rfl rfl ?_
  refine AOps.s rfl rfl rfl (a_alloc rfl zeroValue64 rfl (fun id4 hid4 => ?_))
  refine .nil ?_
  refine AW.cut (fun T h1 => ∃ id5 id6, T = put (put (put (put (put T0 1 (V.int .i64 i)) 2 (V.iptr (cState s))) 4 (V.ptr id4 0)) 5 (V.ptr id5 0)) 6 (V.ptr id6 0) ∧ (h.setBox id4 [.int .i64 0, .int .i64 0, .int .i64 0]).fresh id5 ∧ ((h.setBox id4 [.int .i64 0, .int .i64 0, .int .i64 0]).setBox id5 (cCard (kindF s i))).fresh id6 ∧ h1 = ((h.setBox id4 [.int .i64 0, .int .i64 0, .int .i64 0]).setBox id5 (cCard (kindF s i))).setBox id6 (cObj (s.objs.getD i.toNat noObj))) ?_ ?_
  · skip
    refine AW.draw2 [10, 11] [3, 4, 5, 6, 7] [(0, true), (1, true), (2, true), (3, true), (4, true), (5, true), (6, true), (7, true)] 4 mixed (by kernel_rfl) rfl (by kernel_rfl) ?_
    refine .q rfl rfl rfl rfl (q_load_iW rfl isAgg29 sizeOf29 rfl (by rfl)) ?_
    refine .q rfl rfl rfl rfl (q_mv rfl (rfl : _ = V.int _ _)) ?_
    refine .q rfl rfl rfl rfl (QOp.call rfl (by exact call78) fun h' hl' => by exact refKind_calls s i hi h') ?_
    refine .p rfl rfl rfl (fun _ => q_fa_i rfl underlying29 rfl (by exact sizeOf22) (by decide) rfl (rfl : _ = List.drop 0 _)) ?_
    refine .p rfl rfl rfl (fun _ => q_load_i1 rfl isAgg22 rfl rfl) ?_
    refine .p rfl rfl rfl (fun _ => q_mv rfl (rfl : _ = V.int _ _)) ?_
    refine .p rfl rfl rfl (fun _ => q_ia_s rfl underlying22 sizeOf58 rfl rfl hi.1 hi.2 (cObjs_elem' hi.1 hi.2)) ?_
    refine .p rfl rfl rfl (fun _ => q_load_iW rfl isAgg58 sizeOf58 rfl (by rfl)) ?_
    refine AOrd.nil ?_
    refine AAny.two 8 9 (by kernel_rfl) (aOp.new rfl rfl rfl (a_alloc rfl zeroValue111 rfl (fun id5 hid5 => ⟨?_, HLe.setBox hid5.1⟩))) (aOp.new rfl rfl rfl (a_alloc rfl zeroValue58 rfl (fun id6 hid6 => ⟨?_, HLe.setBox hid6.1⟩)))
    · skip
      refine AAny.one 9 (by kernel_rfl) (aOp.new rfl rfl rfl (a_alloc rfl zeroValue58 rfl (fun id6 hid6 => ⟨?_, HLe.setBox hid6.1⟩)))
      refine AAny.one 10 (by kernel_rfl) (aOp.st rfl rfl rfl rfl (a_storeU (id := id5) (id2 := id6) rfl sizeOf111 rfl hid6 rfl (rfl : _ = V.agg _) rfl rfl ?_))
      refine AAny.one 11 (by kernel_rfl) (aOp.st rfl rfl rfl rfl (a_storeWA' rfl sizeOf58 rfl (rfl) (rfl : _ = V.agg _) rfl rfl ?_))
      refine AAny.fin (by kernel_rfl) ?_
      exact Wk.mk (TLe.put (d := 6) (VLe.refl _) (TLe.put (d := 5) (VLe.refl _) (TLe.put (d := 4) (VLe.refl _) (TLe.put (d := 2) (VLe.refl _) (TLe.put (d := 1) (VLe.refl _) (TLe.zero _)))))) (HLe.refl _) ⟨id5, id6, rfl, hid5, Hp.fresh_swap hid6, rfl⟩
    · skip
      refine AAny.one 8 (by kernel_rfl) (aOp.new rfl rfl rfl (a_alloc rfl zeroValue111 rfl (fun id5 hid5 => ⟨?_, HLe.setBox hid5.1⟩)))
      refine AAny.one 10 (by kernel_rfl) (aOp.st rfl rfl rfl rfl (a_storeWA' rfl sizeOf111 rfl (rfl) (rfl : _ = V.agg _) rfl rfl ?_))
      refine AAny.one 11 (by kernel_rfl) (aOp.st rfl rfl rfl rfl (a_storeU (id := id6) (id2 := id5) rfl sizeOf58 rfl (Hp.fresh_swap hid5) rfl (rfl : _ = V.agg _) rfl rfl ?_))
      refine AAny.fin (by kernel_rfl) ?_
      exact Wk.mk (TLe.put (d := 6) (VLe.refl _) (TLe.put (d := 5) (VLe.refl _) (TLe.put (d := 4) (VLe.refl _) (TLe.put (d := 2) (VLe.refl _) (TLe.put (d := 1) (VLe.refl _) (TLe.zero _)))))) (HLe.refl _) ⟨id5, id6, rfl, (fresh_pair (d := []) hid6 hid5).1, (fresh_pair hid6 hid5).2, Hp.setBox_comm _ _ _ (fresh_ne hid5)⟩
  · rintro T h1 ⟨id5, id6, rfl, hid5, hid6, rfl⟩
    refine AW.done 6 rfl hid6 ?_
    refine AW.done 5 rfl hid5 ?_
    refine .seq ?_
    refine AW.draw [] [] [(0, true), (1, true), (2, true), (3, true), (4, true), (5, true), (6, true), (7, true), (8, true), (9, true)] mixed (by kernel_rfl) rfl (by kernel_rfl) ?_
    refine .q rfl rfl rfl rfl (q_fa_i rfl underlying111 rfl (by exact sizeOf3) (by decide) rfl (rfl : _ = List.drop 9 _)) ?_
    refine .q rfl rfl rfl rfl (q_load_i1 rfl isAgg3 rfl rfl) ?_
    refine .q rfl rfl rfl rfl (q_fa_i rfl underlying111 rfl (by exact sizeOf3) (by decide) rfl (rfl : _ = List.drop 10 _)) ?_
    refine .q rfl rfl rfl rfl (q_load_i1 rfl isAgg3 rfl rfl) ?_
    refine .q rfl rfl rfl rfl (q_fa_i rfl underlying111 rfl (by exact sizeOf3) (by decide) rfl (rfl : _ = List.drop 11 _)) ?_
    refine .q rfl rfl rfl rfl (q_load_i1 rfl isAgg3 rfl rfl) ?_
    refine .q rfl rfl rfl rfl (q_convU rfl underlying3 underlying113 rfl hsays) ?_
    refine .q rfl rfl rfl rfl (q_as rfl (rfl : _ = V.int _ _)) ?_
    refine .q rfl rfl rfl rfl (q_as rfl (rfl : _ = V.int _ _)) ?_
    refine .q rfl rfl rfl rfl (q_as rfl (rfl : _ = V.int .u64 _)) ?_
    refine AOrd.nil ?_
    refine .seq <|
      .seq <|
      .region <|
      .lw rfl isAgg29 sizeOf29 rfl rfl ?_
    refine .u rfl rfl rfl (QOp.call rfl call79 fun h' hl' => by exact refStatics_calls s hz hl h') ?_
    refine .ln rfl underlying114 rfl <|
      .mI rfl rfl <|
      .nil <|
      .block ?_
    refine AW.loop (fun n T hh => ∃ (k : Nat) , k ≤ (rstatsF s).length ∧ n = (rstatsF s).length - k ∧ T = put (put (put (put (put (put (put (put (put (put (put (T0) 37 (V.int .i64 (k : Nat))) 36 (V.int .i64 (rstatsF s).length)) 35 (V.sl .imm 6 (rstatsF s).length (cRStats (rstatsF s)))) 9 (V.int .u64 (kindF s i).says)) 8 (V.int .i64 (becUp s i k).2)) 7 (V.int .i64 (becUp s i k).1)) 6 (V.iptr (cObj (s.objs.getD i.toNat noObj)))) 5 (V.iptr (cCard (kindF s i)))) 4 (V.ptr id4 0)) 2 (V.iptr (cState s))) 1 (V.int .i64 i) ∧ hh = h.setBox id4 [V.int .i64 0, V.int .i64 0, V.int .i64 0]) ((rstatsF s).length) ?_ ?_
    · skip
      refine Wk.mk (TLe.put (d := 1) (VLe.refl _) (TLe.put (d := 2) (VLe.refl _) (TLe.put (d := 4) (VLe.refl _) (TLe.put (d := 5) (VLe.refl _) (TLe.put (d := 6) (VLe.refl _) (TLe.put (d := 7) (by exact VLe.of_eq (congrArg (V.int .i64) (by first | rfl | omega))) (TLe.put (d := 8) (by exact VLe.of_eq (congrArg (V.int .i64) (by first | rfl | omega))) (TLe.put (d := 9) (VLe.refl _) (TLe.put (d := 35) (VLe.refl _) (TLe.put (d := 36) (VLe.refl _) (TLe.put (d := 37) (by exact VLe.of_eq (congrArg (V.int .i64) (by first | rfl | omega))) (TLe.zero _)))))))))))) (HLe.refl _) ⟨0, Nat.zero_le _, rfl, rfl, rfl⟩
    · skip
      rintro n T h' ⟨k, hk, rfl, rfl, rfl⟩
      refine .seq <|
        .region <|
        .ql rfl rfl rfl <|
        .nil <|
        .seq ?_
      refine AW.cond rfl (fun c0 => ?_) (fun c0 => ?_)
      · have hltk : k < (rstatsF s).length := by have := of_decide_eq_true c0; omega
        obtain ⟨hxi, hsub, ⟨x1, x2, x3, x4⟩, hwd⟩ := rstat_ok hz _ (getD_mem' (z := noRS) hltk)
        refine AW.skip ?_
        refine .seq <|
          .block <|
          .seq <|
          .region ?_
        refine .u rfl rfl rfl (q_ia_s rfl underlying114 sizeOf120 rfl rfl (by omega) (by omega) (rstat_elem (z := noRS) hltk)) ?_
        refine .lw rfl isAgg120 sizeOf120 rfl rfl ?_
        refine AOps.s rfl rfl rfl (a_alloc rfl zeroValue120 rfl (fun id11 hid11 => ?_))
        refine .sw sizeOf120 rfl rfl rfl rfl ?_
        refine AOps.done 11 rfl hid11 ?_
        refine .nil <|
          .seq <|
          .region <|
          .fi rfl f120_1 rfl <|
          .fi rfl f118_4 rfl <|
          .li rfl isAgg116 rfl rfl ?_
        refine .u rfl rfl rfl (q_ia_s rfl underlying116 sizeOf118 rfl rfl (by decide) (by omega) (sub_e0 hsub)) ?_
        refine .lw rfl isAgg118 sizeOf118 rfl rfl ?_
        refine AOps.s rfl rfl rfl (a_alloc rfl zeroValue118 rfl (fun id12 hid12 => ?_))
        refine .sw sizeOf118 rfl rfl rfl rfl ?_
        refine AOps.done 12 rfl hid12 ?_
        refine .nil <|
          .seq <|
          .region <|
          .fi rfl f118_0 rfl <|
          .li rfl isAgg3 rfl rfl <|
          .qe rfl rfl rfl <|
          .mB rfl rfl ?_
        refine .gt rfl rfl rfl (fun _ => tl0) (fun hc => q_load_iW rfl isAgg29 sizeOf29 rfl (by rfl)) ?_
        refine .gt rfl rfl rfl (fun _ => tl0) (fun hc => q_load_iW rfl isAgg120 sizeOf120 rfl (by rfl)) ?_
        refine .gt rfl rfl rfl (fun _ => tl0) (fun hc => q_mv rfl (rfl : _ = V.int _ _)) ?_
        refine .gt rfl rfl rfl (fun hc => TLe.put (d := 52) (VLe.opt hc) (TLe.put (d := 51) (VLe.opt hc) (TLe.put (d := 50) (VLe.opt hc) (TLe.refl _)))) (fun hc => QOp.call rfl (by exact call80) fun h' hl' => by exact within_calls s _ i hi hxi h') ?_
        refine .pt rfl rfl rfl rfl <|
          .nil ?_
        refine AW.cond rfl (fun c1 => ?_) (fun c1 => ?_)
        · have he : becUp s i (k + 1) = ((e0 ((rstatsF s).getD k noRS)).n, (e0 ((rstatsF s).getD k noRS)).m) := by rw [becUp_succ hltk, becStep, c1]; rfl
          refine AW.draw [] [] [(0, true), (1, true), (2, true), (3, true), (4, true), (5, true)] mixed (by kernel_rfl) rfl (by kernel_rfl) ?_
          refine .q rfl rfl rfl rfl (q_fa_i rfl underlying118 rfl (by exact sizeOf3) (by decide) rfl (rfl : _ = List.drop 1 _)) ?_
          refine .q rfl rfl rfl rfl (q_load_i1 rfl isAgg3 rfl rfl) ?_
          refine .q rfl rfl rfl rfl (q_fa_i rfl underlying118 rfl (by exact sizeOf3) (by decide) rfl (rfl : _ = List.drop 2 _)) ?_
          refine .q rfl rfl rfl rfl (q_load_i1 rfl isAgg3 rfl rfl) ?_
          refine .q rfl rfl rfl rfl (q_as rfl (rfl : _ = V.int _ _)) ?_
          refine .q rfl rfl rfl rfl (q_as rfl (rfl : _ = V.int _ _)) ?_
          refine AOrd.nil ?_
          refine .region <|
            .ad rfl rfl rfl (by omega) <|
            .mI rfl rfl <|
            .nil ?_
          refine Wk.mk (TLe.put (d := 1) (VLe.refl _) (TLe.put (d := 2) (VLe.refl _) (TLe.put (d := 4) (VLe.refl _) (TLe.put (d := 5) (VLe.refl _) (TLe.put (d := 6) (VLe.refl _) (TLe.put (d := 7) (VLe.of_eq (congrArg (V.int .i64) (by rw [he]))) (TLe.put (d := 8) (VLe.of_eq (congrArg (V.int .i64) (by rw [he]))) (TLe.put (d := 9) (VLe.refl _) (TLe.put (d := 35) (VLe.refl _) (TLe.put (d := 36) (VLe.refl _) (TLe.put (d := 37) (by exact VLe.of_eq (congrArg (V.int .i64) (by first | rfl | omega))) (TLe.zero _)))))))))))) (HLe.refl _) ⟨_, ?_, k + 1, ?_, rfl, rfl, rfl⟩
          · omega
          · omega
        · have he : becUp s i (k + 1) = becUp s i k := by rw [becUp_succ hltk, becStep, c1]; rfl
          refine AW.skip ?_
          refine .region <|
            .ad rfl rfl rfl (by omega) <|
            .mI rfl rfl <|
            .nil ?_
          refine Wk.mk (TLe.put (d := 1) (VLe.refl _) (TLe.put (d := 2) (VLe.refl _) (TLe.put (d := 4) (VLe.refl _) (TLe.put (d := 5) (VLe.refl _) (TLe.put (d := 6) (VLe.refl _) (TLe.put (d := 7) (VLe.of_eq (congrArg (V.int .i64) (by rw [he]))) (TLe.put (d := 8) (VLe.of_eq (congrArg (V.int .i64) (by rw [he]))) (TLe.put (d := 9) (VLe.refl _) (TLe.put (d := 35) (VLe.refl _) (TLe.put (d := 36) (VLe.refl _) (TLe.put (d := 37) (by exact VLe.of_eq (congrArg (V.int .i64) (by first | rfl | omega))) (TLe.zero _)))))))))))) (HLe.refl _) ⟨_, ?_, k + 1, ?_, rfl, rfl, rfl⟩
          · omega
          · omega
      · obtain rfl : k = (rstatsF s).length := by have := of_decide_eq_false c0; omega
        rw [becUp_all]
        refine AW.exit ?_
        refine .seq ?_
        refine AW.draw [] [] [(0, true), (1, true), (2, true), (3, true), (4, true), (5, true), (6, true), (7, true), (8, true), (9, true)] mixed (by kernel_rfl) rfl (by kernel_rfl) ?_
        refine .q rfl rfl rfl rfl (q_mv rfl (rfl : _ = V.int _ _)) ?_
        refine .q rfl rfl rfl rfl (q_ia_ai rfl underlying58 sizeOf3 rfl rfl (by decide) (by decide) rfl) ?_
        refine .q rfl rfl rfl rfl (q_load_i1 rfl isAgg3 rfl rfl) ?_
        refine .q rfl rfl rfl rfl (q_add' rfl rfl rfl (by omega)) ?_
        refine .q rfl rfl rfl rfl (q_mv rfl (rfl : _ = V.int _ _)) ?_
        refine .q rfl rfl rfl rfl (q_ia_ai rfl underlying58 sizeOf3 rfl rfl (by decide) (by decide) rfl) ?_
        refine .q rfl rfl rfl rfl (q_load_i1 rfl isAgg3 rfl rfl) ?_
        refine .q rfl rfl rfl rfl (q_add' rfl rfl rfl (by omega)) ?_
        refine .q rfl rfl rfl rfl (q_as rfl (rfl : _ = V.int _ _)) ?_
        refine .q rfl rfl rfl rfl (q_as rfl (rfl : _ = V.int _ _)) ?_
        refine AOrd.nil ?_
        refine .seq <|
          .seq <|
          .region <|
          .lw rfl isAgg29 sizeOf29 rfl rfl ?_
        refine .u rfl rfl rfl (QOp.call rfl call79 fun h' hl' => by exact refStatics_calls s hz hl h') ?_
        refine .ln rfl underlying114 rfl <|
          .mI rfl rfl <|
          .nil <|
          .block ?_
        refine AW.loop (fun n T hh => ∃ (k : Nat) , k ≤ (rstatsF s).length ∧ n = (rstatsF s).length - k ∧ T = put (put (put (put (put (put (put (put (put (put (put (T0) 71 (V.int .i64 (k : Nat))) 70 (V.int .i64 (rstatsF s).length)) 69 (V.sl .imm 6 (rstatsF s).length (cRStats (rstatsF s)))) 9 (V.int .u64 (kindF s i).says)) 8 (V.int .i64 (pumUp s i k).2)) 7 (V.int .i64 (pumUp s i k).1)) 6 (V.iptr (cObj (s.objs.getD i.toNat noObj)))) 5 (V.iptr (cCard (kindF s i)))) 4 (V.ptr id4 0)) 2 (V.iptr (cState s))) 1 (V.int .i64 i) ∧ hh = h.setBox id4 [V.int .i64 0, V.int .i64 0, V.int .i64 0]) ((rstatsF s).length) ?_ ?_
        · skip
          refine Wk.mk (TLe.put (d := 1) (VLe.refl _) (TLe.put (d := 2) (VLe.refl _) (TLe.put (d := 4) (VLe.refl _) (TLe.put (d := 5) (VLe.refl _) (TLe.put (d := 6) (VLe.refl _) (TLe.put (d := 7) (by exact VLe.of_eq (congrArg (V.int .i64) (by first | rfl | omega))) (TLe.put (d := 8) (by exact VLe.of_eq (congrArg (V.int .i64) (by first | rfl | omega))) (TLe.put (d := 9) (VLe.refl _) (TLe.put (d := 69) (VLe.refl _) (TLe.put (d := 70) (VLe.refl _) (TLe.put (d := 71) (by exact VLe.of_eq (congrArg (V.int .i64) (by first | rfl | omega))) (TLe.zero _)))))))))))) (HLe.refl _) ⟨0, Nat.zero_le _, rfl, rfl, rfl⟩
        · skip
          rintro n T h' ⟨k, hk, rfl, rfl, rfl⟩
          refine .seq <|
            .region <|
            .ql rfl rfl rfl <|
            .nil <|
            .seq ?_
          refine AW.cond rfl (fun c2 => ?_) (fun c2 => ?_)
          · have hltk : k < (rstatsF s).length := by have := of_decide_eq_true c2; omega
            obtain ⟨hxi, hsub, ⟨x1, x2, x3, x4⟩, hwd⟩ := rstat_ok hz _ (getD_mem' (z := noRS) hltk)
            have hpb := pumUp_bd hz hob k (by omega)
            unfold bd2 at hpb
            refine AW.skip ?_
            refine .seq <|
              .block <|
              .seq <|
              .region ?_
            refine .u rfl rfl rfl (q_ia_s rfl underlying114 sizeOf120 rfl rfl (by omega) (by omega) (rstat_elem (z := noRS) hltk)) ?_
            refine .lw rfl isAgg120 sizeOf120 rfl rfl ?_
            refine AOps.s rfl rfl rfl (a_alloc rfl zeroValue120 rfl (fun id14 hid14 => ?_))
            refine .sw sizeOf120 rfl rfl rfl rfl ?_
            refine AOps.done 14 rfl hid14 ?_
            refine .nil <|
              .seq <|
              .region <|
              .fi rfl f120_1 rfl <|
              .fi rfl f118_4 rfl <|
              .li rfl isAgg116 rfl rfl ?_
            refine .u rfl rfl rfl (q_ia_s rfl underlying116 sizeOf118 rfl rfl (by decide) (by omega) (sub_e0 hsub)) ?_
            refine .lw rfl isAgg118 sizeOf118 rfl rfl ?_
            refine AOps.s rfl rfl rfl (a_alloc rfl zeroValue118 rfl (fun id15 hid15 => ?_))
            refine .sw sizeOf118 rfl rfl rfl rfl ?_
            refine AOps.done 15 rfl hid15 ?_
            refine .nil <|
              .seq <|
              .region <|
              .fi rfl f118_0 rfl <|
              .li rfl isAgg3 rfl rfl <|
              .qe rfl rfl rfl <|
              .mB rfl rfl ?_
            refine .gt rfl rfl rfl (fun _ => tl0) (fun hc => q_load_iW rfl isAgg29 sizeOf29 rfl (by rfl)) ?_
            refine .gt rfl rfl rfl (fun _ => tl0) (fun hc => q_load_iW rfl isAgg120 sizeOf120 rfl (by rfl)) ?_
            refine .gt rfl rfl rfl (fun _ => tl0) (fun hc => q_mv rfl (rfl : _ = V.int _ _)) ?_
            refine .gt rfl rfl rfl (fun hc => TLe.put (d := 86) (VLe.opt hc) (TLe.put (d := 85) (VLe.opt hc) (TLe.put (d := 84) (VLe.opt hc) (TLe.refl _)))) (fun hc => QOp.call rfl (by exact call80) fun h' hl' => by exact within_calls s _ i hi hxi h') ?_
            refine .pt rfl rfl rfl rfl <|
              .nil ?_
            refine AW.cond rfl (fun c3 => ?_) (fun c3 => ?_)
            · have he : pumUp s i (k + 1) = ((pumUp s i k).1 + (e0 ((rstatsF s).getD k noRS)).n, (pumUp s i k).2 + (e0 ((rstatsF s).getD k noRS)).m) := by rw [pumUp_succ hltk, pumStep, c3]; rfl
              refine AW.draw [] [] [(0, true), (1, true), (2, true), (3, true), (4, true), (5, true), (6, true), (7, true), (8, true), (9, true)] mixed (by kernel_rfl) rfl (by kernel_rfl) ?_
              refine .q rfl rfl rfl rfl (q_mv rfl (rfl : _ = V.int _ _)) ?_
              refine .q rfl rfl rfl rfl (q_fa_i rfl underlying118 rfl (by exact sizeOf3) (by decide) rfl (rfl : _ = List.drop 1 _)) ?_
              refine .q rfl rfl rfl rfl (q_load_i1 rfl isAgg3 rfl rfl) ?_
              refine .q rfl rfl rfl rfl (q_add' rfl rfl rfl (by omega)) ?_
              refine .q rfl rfl rfl rfl (q_mv rfl (rfl : _ = V.int _ _)) ?_
              refine .q rfl rfl rfl rfl (q_fa_i rfl underlying118 rfl (by exact sizeOf3) (by decide) rfl (rfl : _ = List.drop 2 _)) ?_
              refine .q rfl rfl rfl rfl (q_load_i1 rfl isAgg3 rfl rfl) ?_
              refine .q rfl rfl rfl rfl (q_add' rfl rfl rfl (by omega)) ?_
              refine .q rfl rfl rfl rfl (q_as rfl (rfl : _ = V.int _ _)) ?_
              refine .q rfl rfl rfl rfl (q_as rfl (rfl : _ = V.int _ _)) ?_
              refine AOrd.nil ?_
              refine .region <|
                .ad rfl rfl rfl (by omega) <|
                .mI rfl rfl <|
                .nil ?_
              refine Wk.mk (TLe.put (d := 1) (VLe.refl _) (TLe.put (d := 2) (VLe.refl _) (TLe.put (d := 4) (VLe.refl _) (TLe.put (d := 5) (VLe.refl _) (TLe.put (d := 6) (VLe.refl _) (TLe.put (d := 7) (VLe.of_eq (congrArg (V.int .i64) (by rw [he]))) (TLe.put (d := 8) (VLe.of_eq (congrArg (V.int .i64) (by rw [he]))) (TLe.put (d := 9) (VLe.refl _) (TLe.put (d := 69) (VLe.refl _) (TLe.put (d := 70) (VLe.refl _) (TLe.put (d := 71) (by exact VLe.of_eq (congrArg (V.int .i64) (by first | rfl | omega))) (TLe.zero _)))))))))))) (HLe.refl _) ⟨_, ?_, k + 1, ?_, rfl, rfl, rfl⟩
              · omega
              · omega
            · have he : pumUp s i (k + 1) = pumUp s i k := by rw [pumUp_succ hltk, pumStep, c3]; rfl
              refine AW.skip ?_
              refine .region <|
                .ad rfl rfl rfl (by omega) <|
                .mI rfl rfl <|
                .nil ?_
              refine Wk.mk (TLe.put (d := 1) (VLe.refl _) (TLe.put (d := 2) (VLe.refl _) (TLe.put (d := 4) (VLe.refl _) (TLe.put (d := 5) (VLe.refl _) (TLe.put (d := 6) (VLe.refl _) (TLe.put (d := 7) (VLe.of_eq (congrArg (V.int .i64) (by rw [he]))) (TLe.put (d := 8) (VLe.of_eq (congrArg (V.int .i64) (by rw [he]))) (TLe.put (d := 9) (VLe.refl _) (TLe.put (d := 69) (VLe.refl _) (TLe.put (d := 70) (VLe.refl _) (TLe.put (d := 71) (by exact VLe.of_eq (congrArg (V.int .i64) (by first | rfl | omega))) (TLe.zero _)))))))))))) (HLe.refl _) ⟨_, ?_, k + 1, ?_, rfl, rfl, rfl⟩
              · omega
              · omega
          · obtain rfl : k = (rstatsF s).length := by have := of_decide_eq_false c2; omega
            have hpb := pumUp_bd hz hob _ (Nat.le_refl _)
            rw [pumUp_all] at hpb ⊢
            unfold bd2 at hpb
            refine AW.exit ?_
            refine .seq ?_
            refine AW.draw [] [] [(0, true), (1, true), (2, true), (3, true), (4, true), (5, true), (6, true), (7, true), (8, true), (9, true)] mixed (by kernel_rfl) rfl (by kernel_rfl) ?_
            refine .q rfl rfl rfl rfl (q_mv rfl (rfl : _ = V.int _ _)) ?_
            refine .q rfl rfl rfl rfl (q_ia_ai rfl underlying58 sizeOf3 rfl rfl (by decide) (by decide) rfl) ?_
            refine .q rfl rfl rfl rfl (q_load_i1 rfl isAgg3 rfl rfl) ?_
            refine .q rfl rfl rfl rfl (q_add' rfl rfl rfl (by omega)) ?_
            refine .q rfl rfl rfl rfl (q_mv rfl (rfl : _ = V.int _ _)) ?_
            refine .q rfl rfl rfl rfl (q_ia_ai rfl underlying58 sizeOf3 rfl rfl (by decide) (by decide) rfl) ?_
            refine .q rfl rfl rfl rfl (q_load_i1 rfl isAgg3 rfl rfl) ?_
            refine .q rfl rfl rfl rfl (q_add' rfl rfl rfl (by omega)) ?_
            refine .q rfl rfl rfl rfl (q_as rfl (rfl : _ = V.int _ _)) ?_
            refine .q rfl rfl rfl rfl (q_as rfl (rfl : _ = V.int _ _)) ?_
            refine AOrd.nil ?_
            refine .seq <|
              .seq <|
              .region <|
              .lw rfl isAgg29 sizeOf29 rfl rfl ?_
            refine .u rfl rfl rfl (QOp.call rfl call79 fun h' hl' => by exact refStatics_calls s hz hl h') ?_
            refine .ln rfl underlying114 rfl <|
              .mI rfl rfl <|
              .nil <|
              .block ?_
            refine AW.loop (fun n T hh => ∃ (k : Nat) , k ≤ (rstatsF s).length ∧ n = (rstatsF s).length - k ∧ T = put (put (put (put (put (put (put (put (put (put (put (T0) 109 (V.int .i64 (k : Nat))) 108 (V.int .i64 (rstatsF s).length)) 107 (V.sl .imm 6 (rstatsF s).length (cRStats (rstatsF s)))) 9 (V.int .u64 (worUp s i k))) 8 (V.int .i64 ((pumF s i).2 + s.objs.getD i.toNat noObj 9))) 7 (V.int .i64 ((pumF s i).1 + s.objs.getD i.toNat noObj 8))) 6 (V.iptr (cObj (s.objs.getD i.toNat noObj)))) 5 (V.iptr (cCard (kindF s i)))) 4 (V.ptr id4 0)) 2 (V.iptr (cState s))) 1 (V.int .i64 i) ∧ hh = h.setBox id4 [V.int .i64 0, V.int .i64 0, V.int .i64 0]) ((rstatsF s).length) ?_ ?_
            · skip
              refine Wk.mk (TLe.put (d := 1) (VLe.refl _) (TLe.put (d := 2) (VLe.refl _) (TLe.put (d := 4) (VLe.refl _) (TLe.put (d := 5) (VLe.refl _) (TLe.put (d := 6) (VLe.refl _) (TLe.put (d := 7) (VLe.refl _) (TLe.put (d := 8) (VLe.refl _) (TLe.put (d := 9) (VLe.refl _) (TLe.put (d := 107) (VLe.refl _) (TLe.put (d := 108) (VLe.refl _) (TLe.put (d := 109) (by exact VLe.of_eq (congrArg (V.int .i64) (by first | rfl | omega))) (TLe.zero _)))))))))))) (HLe.refl _) ⟨0, Nat.zero_le _, rfl, rfl, rfl⟩
            · skip
              rintro n T h' ⟨k, hk, rfl, rfl, rfl⟩
              refine .seq <|
                .region <|
                .ql rfl rfl rfl <|
                .nil <|
                .seq ?_
              refine AW.cond rfl (fun c4 => ?_) (fun c4 => ?_)
              · have hltk : k < (rstatsF s).length := by have := of_decide_eq_true c4; omega
                obtain ⟨hxi, hsub, ⟨x1, x2, x3, x4⟩, hwd⟩ := rstat_ok hz _ (getD_mem' (z := noRS) hltk)
                have hwi := worUp_in (s := s) (i := i) k
                refine AW.skip ?_
                refine .seq <|
                  .block <|
                  .seq <|
                  .region ?_
                refine .u rfl rfl rfl (q_ia_s rfl underlying114 sizeOf120 rfl rfl (by omega) (by omega) (rstat_elem (z := noRS) hltk)) ?_
                refine .lw rfl isAgg120 sizeOf120 rfl rfl ?_
                refine AOps.s rfl rfl rfl (a_alloc rfl zeroValue120 rfl (fun id17 hid17 => ?_))
                refine .sw sizeOf120 rfl rfl rfl rfl ?_
                refine AOps.done 17 rfl hid17 ?_
                refine .nil <|
                  .seq <|
                  .region <|
                  .fi rfl f120_1 rfl <|
                  .fi rfl f118_4 rfl <|
                  .li rfl isAgg116 rfl rfl ?_
                refine .u rfl rfl rfl (q_ia_s rfl underlying116 sizeOf118 rfl rfl (by decide) (by omega) (sub_e0 hsub)) ?_
                refine .lw rfl isAgg118 sizeOf118 rfl rfl ?_
                refine AOps.s rfl rfl rfl (a_alloc rfl zeroValue118 rfl (fun id18 hid18 => ?_))
                refine .sw sizeOf118 rfl rfl rfl rfl ?_
                refine AOps.done 18 rfl hid18 ?_
                refine .nil <|
                  .seq <|
                  .region <|
                  .fi rfl f118_0 rfl <|
                  .li rfl isAgg3 rfl rfl <|
                  .qe rfl rfl rfl <|
                  .mB rfl rfl ?_
                refine .gf rfl rfl rfl (fun _ => tl0) (fun hc => q_fa_i rfl underlying118 rfl (by exact sizeOf3) (by decide) rfl (rfl : _ = List.drop 0 _)) ?_
                refine .gf rfl rfl rfl (fun hc => tl1 122 (.opt hc)) (fun hc => q_load_i1 rfl isAgg3 rfl rfl) ?_
                refine .gf rfl rfl rfl (fun hc => tl1 123 (.opt hc)) (fun hc => q_eq rfl rfl rfl) ?_
                refine .pf rfl rfl rfl rfl <|
                  .mB rfl rfl ?_
                refine .gt rfl rfl rfl (fun _ => tl0) (fun hc => q_load_iW rfl isAgg29 sizeOf29 rfl (by rfl)) ?_
                refine .gt rfl rfl rfl (fun _ => tl0) (fun hc => q_load_iW rfl isAgg120 sizeOf120 rfl (by rfl)) ?_
                refine .gt rfl rfl rfl (fun _ => tl0) (fun hc => q_mv rfl (rfl : _ = V.int _ _)) ?_
                refine .gt rfl rfl rfl (fun hc => TLe.put (d := 129) (VLe.opt hc) (TLe.put (d := 128) (VLe.opt hc) (TLe.put (d := 127) (VLe.opt hc) (TLe.refl _)))) (fun hc => QOp.call rfl (by exact call80) fun h' hl' => by exact within_calls s _ i hi hxi h') ?_
                refine .pt rfl rfl rfl rfl <|
                  .nil ?_
                refine AW.cond rfl (fun c5 => ?_) (fun c5 => ?_)
                · have hwn : 0 ≤ (e0 ((rstatsF s).getD k noRS)).n ∧ (e0 ((rstatsF s).getD k noRS)).n < 18446744073709551616 := by
                    have := hwd.2 (by have := wor_op c5; simpa using this)
                    omega
                  have he : worUp s i (k + 1) = turnedF (worUp s i k) (e0 ((rstatsF s).getD k noRS)).n ((e0 ((rstatsF s).getD k noRS)).op == 23) := by rw [worUp_succ hltk, worStep, c5]; rfl
                  refine .region ?_
                  refine .u rfl rfl rfl (q_mv rfl (rfl : _ = V.int .u64 _)) ?_
                  refine .fi rfl f118_1 rfl <|
                    .li rfl isAgg3 rfl rfl <|
                    .fi rfl f118_0 rfl <|
                    .li rfl isAgg3 rfl rfl <|
                    .qe rfl rfl rfl ?_
                  refine .u rfl rfl rfl (QOp.call rfl call81 fun h' hl' => by exact turned_calls _ _ _ hwi hwn h') ?_
                  refine .u rfl rfl rfl (q_as rfl (rfl : _ = V.int .u64 _)) ?_
                  refine .nil <|
                    .region <|
                    .ad rfl rfl rfl (by omega) <|
                    .mI rfl rfl <|
                    .nil ?_
                  refine Wk.mk (TLe.put (d := 1) (VLe.refl _) (TLe.put (d := 2) (VLe.refl _) (TLe.put (d := 4) (VLe.refl _) (TLe.put (d := 5) (VLe.refl _) (TLe.put (d := 6) (VLe.refl _) (TLe.put (d := 7) (VLe.refl _) (TLe.put (d := 8) (VLe.refl _) (TLe.put (d := 9) (VLe.of_eq (congrArg (V.int .u64) (by rw [he]))) (TLe.put (d := 107) (VLe.refl _) (TLe.put (d := 108) (VLe.refl _) (TLe.put (d := 109) (by exact VLe.of_eq (congrArg (V.int .i64) (by first | rfl | omega))) (TLe.zero _)))))))))))) (HLe.refl _) ⟨_, ?_, k + 1, ?_, rfl, rfl, rfl⟩
                  · omega
                  · omega
                · have he : worUp s i (k + 1) = worUp s i k := by rw [worUp_succ hltk, worStep, c5]; rfl
                  refine AW.skip ?_
                  refine .region <|
                    .ad rfl rfl rfl (by omega) <|
                    .mI rfl rfl <|
                    .nil ?_
                  refine Wk.mk (TLe.put (d := 1) (VLe.refl _) (TLe.put (d := 2) (VLe.refl _) (TLe.put (d := 4) (VLe.refl _) (TLe.put (d := 5) (VLe.refl _) (TLe.put (d := 6) (VLe.refl _) (TLe.put (d := 7) (VLe.refl _) (TLe.put (d := 8) (VLe.refl _) (TLe.put (d := 9) (VLe.of_eq (congrArg (V.int .u64) (by rw [he]))) (TLe.put (d := 107) (VLe.refl _) (TLe.put (d := 108) (VLe.refl _) (TLe.put (d := 109) (by exact VLe.of_eq (congrArg (V.int .i64) (by first | rfl | omega))) (TLe.zero _)))))))))))) (HLe.refl _) ⟨_, ?_, k + 1, ?_, rfl, rfl, rfl⟩
                  · omega
                  · omega
              · obtain rfl : k = (rstatsF s).length := by have := of_decide_eq_false c4; omega
                have hwi := worUp_in (s := s) (i := i) (rstatsF s).length
                rw [worUp_all] at hwi ⊢
                refine AW.exit ?_
                refine .seq <|
                  .region ?_
                refine .u rfl rfl rfl (q_mv rfl (rfl : _ = V.int .u64 _)) ?_
                refine .u rfl rfl rfl (q_ia_ai rfl underlying58 sizeOf3 rfl rfl (by decide) (by decide) rfl) ?_
                refine .li rfl isAgg3 rfl rfl ?_
                refine .u rfl rfl rfl (QOp.call rfl call81 fun h' hl' => by exact turned_calls _ _ _ hwi h10 h') ?_
                refine .u rfl rfl rfl (q_as rfl (rfl : _ = V.int .u64 _)) ?_
                refine .nil <|
                  .seq <|
                  .region <|
                  .mI rfl rfl <|
                  .mI rfl rfl ?_
                refine .u rfl rfl rfl (q_mv rfl (rfl : _ = V.int .u64 _)) ?_
                refine .u rfl rfl rfl (q_conv rfl underlying113 underlying3 rfl) ?_
                refine .u rfl rfl rfl (q_buildS rfl zeroValue64 underlying64 (pl64 underlying64) rfl rfl) ?_
                refine .sw sizeOf64 rfl rfl rfl rfl <|
                  .nil ?_
                refine AW.ret ?_
                exact retQ.mk' (Res.cellB isAgg64 sizeOf64 rfl (by exact bsb) rfl) (VLe.refl _) (HLe.setBox hid4.1) ⟨rfl, rfl⟩

end Go.Proofs.YtijhmlkffkedeaaGreatDoor
/- Plain: the document's answer to whether a state is right is the program's. -/
namespace Go.Proofs.YtijhmlkffkedeaaGreatDoor
open Go Go.AV Go.Proofs.Tryz
theorem obj_eq {o : Obj} {n : Int} : refObject o n = objOk n o := by
  rw [Bool.eq_iff_iff]
  constructor
  · intro h
    simp only [refObject, Bool.and_eq_true] at h
    obtain ⟨⟨⟨⟨⟨⟨⟨⟨⟨⟨⟨⟨⟨⟨⟨⟨⟨h0, h1⟩, h2⟩, h3⟩, h4⟩, h5⟩, h11⟩, h13⟩, h17⟩, h10⟩, h14⟩, h6⟩, h7⟩, h8⟩, h9⟩, h12⟩, h15⟩, h16⟩ := h
    refine all_up.2 fun f hf => ?_
    match f, hf with
    | 0, _ => exact h0 | 1, _ => exact h1 | 2, _ => exact h2 | 3, _ => exact h3 | 4, _ => exact h4 | 5, _ => exact h5 | 6, _ => exact h6 | 7, _ => exact h7 | 8, _ => exact h8
    | 9, _ => exact h9 | 10, _ => exact h10 | 11, _ => exact h11 | 12, _ => exact h12 | 13, _ => exact h13 | 14, _ => exact h14 | 15, _ => exact h15 | 16, _ => exact h16 | 17, _ => exact h17 | _ + 18, hf => exact absurd hf (by omega)
  · intro h
    have hf := all_up.1 h
    simp only [refObject, Bool.and_eq_true]
    exact ⟨⟨⟨⟨⟨⟨⟨⟨⟨⟨⟨⟨⟨⟨⟨⟨⟨hf 0 (by decide), hf 1 (by decide)⟩, hf 2 (by decide)⟩, hf 3 (by decide)⟩, hf 4 (by decide)⟩, hf 5 (by decide)⟩, hf 11 (by decide)⟩, hf 13 (by decide)⟩, hf 17 (by decide)⟩, hf 10 (by decide)⟩, hf 14 (by decide)⟩, hf 6 (by decide)⟩, hf 7 (by decide)⟩, hf 8 (by decide)⟩, hf 9 (by decide)⟩, hf 12 (by decide)⟩, hf 15 (by decide)⟩, hf 16 (by decide)⟩
theorem pl_eq {p : Nat → Int} : refPl p = plOk p := by
  rw [Bool.eq_iff_iff]
  constructor
  · intro h
    simp only [refPl, Bool.and_eq_true] at h
    obtain ⟨⟨⟨h0, h7⟩, h8⟩, hk⟩ := h
    have hk := all_up.1 hk
    refine all_up.2 fun f hf => ?_
    match f, hf with
    | 0, _ => exact h0 | 1, _ => exact hk 0 (by decide) | 2, _ => exact hk 1 (by decide) | 3, _ => exact hk 2 (by decide) | 4, _ => exact hk 3 (by decide) | 5, _ => exact hk 4 (by decide) | 6, _ => exact hk 5 (by decide) | 7, _ => exact h7 | 8, _ => exact h8
  · intro h
    have hf := all_up.1 h
    simp only [refPl, Bool.and_eq_true]
    refine ⟨⟨⟨hf 0 (by decide), hf 7 (by decide)⟩, hf 8 (by decide)⟩, all_up.2 fun k hk => ?_⟩
    match k, hk with
    | 0, _ => exact hf 1 (by decide) | 1, _ => exact hf 2 (by decide) | 2, _ => exact hf 3 (by decide) | 3, _ => exact hf 4 (by decide) | 4, _ => exact hf 5 (by decide) | 5, _ => exact hf 6 (by decide)
theorem game_eq {g : Nat → Int} : refGame g = gameOk g := by
  rw [Bool.eq_iff_iff]
  constructor
  · intro h
    simp only [refGame, Bool.and_eq_true] at h
    obtain ⟨⟨⟨⟨⟨⟨h0, h1⟩, h2⟩, h3⟩, h4⟩, h5⟩, h6⟩ := h
    refine all_up.2 fun f hf => ?_
    match f, hf with
    | 0, _ => exact h0 | 1, _ => exact h1 | 2, _ => exact h2 | 3, _ => exact h3 | 4, _ => exact h4 | 5, _ => exact h5 | 6, _ => exact h6
  · intro h
    have hf := all_up.1 h
    simp only [refGame, Bool.and_eq_true]
    exact ⟨⟨⟨⟨⟨⟨hf 0 (by decide), hf 1 (by decide)⟩, hf 2 (by decide)⟩, hf 3 (by decide)⟩, hf 4 (by decide)⟩, hf 5 (by decide)⟩, hf 6 (by decide)⟩
theorem ranges_eq {s : St} : refRanges s = rangesF s := by
  unfold refRanges rangesF
  have e1 : (fun o => refObject o s.objs.length) = objOk s.objs.length := funext fun o => obj_eq
  have e2 : (fun p => refPl (s.pl p)) = fun p => plOk (s.pl p) := funext fun p => pl_eq
  rw [e1, e2, game_eq]
theorem stand_eq {o : Obj} (h3 : 0 ≤ o 3 ∧ o 3 ≤ 10) : standsF o (o 3) = refStand o := by
  have hs : sideF (o 3) = if o 3 < 8 then (o 3 - o 3 % 2, o 3 % 2, true) else (o 3, 0, false) := by unfold sideF; rw [if_neg (by omega)]
  unfold standsF refStand
  rw [hs]
  by_cases h8 : o 3 < 8
  · rw [if_pos h8]
    have e : (o 3 == 8) = false := by simp; omega
    simp only [if_true, decide_eq_true h8, e, Bool.true_and, Bool.false_and, Bool.or_false]
    simp [bne]
  · rw [if_neg h8]
    by_cases e8 : o 3 = 8
    · rw [e8]; simp [bne]
    · have e : (o 3 == 8) = false := by simp [e8]
      simp [e8, h8]
theorem sum_zero {l : List Nat} : (l.map fun _ => 0).sum = 0 := by
  induction l with
  | nil => rfl
  | cons a l ih => rw [List.map_cons, List.sum_cons, ih]
theorem sum_ind {n : Nat} {x : Int} (h0 : 0 ≤ x) (h1 : x < n) : ((List.range n).map fun i : Nat => if x = (i : Int) then 1 else 0).sum = 1 := by
  induction n with
  | zero => omega
  | succ n ih =>
    rw [List.range_succ, List.map_append, List.sum_append]
    by_cases e : x = n
    · subst e
      have : ((List.range n).map fun i : Nat => if ((n : Nat) : Int) = (i : Int) then 1 else 0) = (List.range n).map fun _ => 0 := List.map_congr_left fun i hi => if_neg (by have := List.mem_range.1 hi; omega)
      rw [this, sum_zero]; simp
    · rw [ih (by omega)]; simp [e]
theorem sum_add (l : List Nat) (f g : Nat → Nat) : (l.map fun i => f i + g i).sum = (l.map f).sum + (l.map g).sum := by
  induction l with
  | nil => rfl
  | cons a l ih => simp only [List.map_cons, List.sum_cons, ih]; omega
/-- The counts of what stands in a list of small numbers add up to its length. -/
theorem sum_count {l : List Int} {n : Nat} (h : ∀ x ∈ l, 0 ≤ x ∧ x < n) : ((List.range n).map fun i : Nat => l.count (i : Int)).sum = l.length := by
  induction l with
  | nil =>
    simp only [List.count_nil, List.length_nil]
    induction n with
    | zero => rfl
    | succ n ih => rw [List.range_succ, List.map_append, List.sum_append, ih (by simp)]; rfl
  | cons x l ih =>
    have e : (fun i : Nat => (x :: l).count (i : Int)) = fun i : Nat => l.count (i : Int) + if x = (i : Int) then 1 else 0 := by
      funext i; rw [List.count_cons]; simp
    rw [e, sum_add, ih fun y hy => h y (by simp [hy]), sum_ind (h x (by simp)).1 (h x (by simp)).2, List.length_cons]
theorem sum_ones {n : Nat} {f : Nat → Nat} (h : ∀ i, i < n → f i = 1) : ((List.range n).map f).sum = n := by
  induction n with
  | zero => rfl
  | succ n ih => rw [List.range_succ, List.map_append, List.sum_append, ih fun i hi => h i (by omega)]; simp [h n (by omega)]
theorem sum_le {n : Nat} {f : Nat → Nat} (h : ∀ i, i < n → f i ≤ 1) : ((List.range n).map f).sum ≤ n ∧ (((List.range n).map f).sum = n → ∀ i, i < n → f i = 1) := by
  induction n with
  | zero => exact ⟨Nat.le_refl _, fun _ i hi => by omega⟩
  | succ n ih =>
    obtain ⟨a, b⟩ := ih fun i hi => h i (by omega)
    have hn := h n (by omega)
    rw [List.range_succ, List.map_append, List.sum_append]
    simp only [List.map_cons, List.map_nil, List.sum_cons, List.sum_nil]
    refine ⟨by omega, fun e i hi => ?_⟩
    by_cases ei : i = n
    · subst ei; omega
    · exact b (by omega) i (by omega)
theorem mem_ids {s : St} {x : Int} : x ∈ ids s ↔ ∃ z, z < 11 ∧ x ∈ s.lists z := by
  simp [ids]
theorem ids_in {s : St} (h : ∀ z, z < 11 → ∀ x ∈ s.lists z, 0 ≤ x ∧ x < s.objs.length) : ∀ x ∈ ids s, 0 ≤ x ∧ x < s.objs.length := fun x hx => by
  obtain ⟨z, hz, hm⟩ := mem_ids.1 hx; exact h z hz x hm
theorem once {s : St} (hin : ∀ x ∈ ids s, 0 ≤ x ∧ x < s.objs.length) : ((∀ x, (ids s).count x ≤ 1) ∧ (ids s).length = s.objs.length) ↔ ∀ i, i < s.objs.length → (ids s).count ((i : Nat) : Int) = 1 := by
  have hsum := sum_count hin
  constructor
  · rintro ⟨h1, h2⟩
    exact (sum_le (f := fun i => (ids s).count ((i : Nat) : Int)) fun i _ => h1 _).2 (by rw [hsum, h2])
  · intro h
    refine ⟨fun x => ?_, by rw [← hsum, sum_ones h]⟩
    by_cases hx : x ∈ ids s
    · have := hin x hx
      have := h x.toNat (by omega)
      rw [show ((x.toNat : Nat) : Int) = x by omega] at this; omega
    · rw [List.count_eq_zero.2 hx]; omega
theorem zones_eq {s : St} (hr : rangesF s = true) : refZones s = zonesF s := by
  rw [Bool.eq_iff_iff]
  have hf3 : ∀ i, i < s.objs.length → 0 ≤ s.objs.getD i noObj 3 ∧ s.objs.getD i noObj 3 ≤ 10 := fun i hi => right_obj hr hi 3 (by decide)
  constructor
  · intro h
    simp only [refZones, Bool.and_eq_true] at h
    have hin : ∀ z, z < 11 → ∀ x ∈ s.lists z, 0 ≤ x ∧ x < s.objs.length := fun z hz x hx => by
      have := List.all_eq_true.1 (all_up.1 h.1 z hz) x hx; simpa [inN] using this
    have hocc : ∀ i, i < s.objs.length → refOcc s i = true := fun i hi => all_up.1 h.2 i hi
    simp only [zonesF, Bool.and_eq_true, decide_eq_true_eq]
    have h1 : ∀ i, i < s.objs.length → (ids s).count ((i : Nat) : Int) = 1 := fun i hi => by
      have := hocc i hi; simp only [refOcc, Bool.and_eq_true, decide_eq_true_eq] at this; exact this.1.1
    obtain ⟨g1, g2⟩ := (once (ids_in hin)).2 h1
    refine ⟨⟨all_up.2 fun z hz => List.all_eq_true.2 fun x hx => ?_, nodup_count.2 g1⟩, g2⟩
    obtain ⟨x0, x1⟩ := hin z hz x hx
    have := hocc x.toNat (by omega)
    simp only [refOcc, Bool.and_eq_true] at this
    obtain ⟨⟨_, hb⟩, hc⟩ := this
    have hb := List.all_eq_true.1 (all_up.1 hb z hz) x hx
    rw [show ((x.toNat : Nat) : Int) = x by omega] at hb
    have e3 : s.objs.getD x.toNat noObj 3 = z := by simpa using hb
    simp only [standsAt, objAt, inN, Bool.and_eq_true, beq_iff_eq, decide_eq_true_eq]
    exact ⟨⟨⟨x0, x1⟩, e3⟩, by rw [← e3, stand_eq (hf3 _ (by omega))]; exact hc⟩
  · intro h
    simp only [zonesF, Bool.and_eq_true, decide_eq_true_eq] at h
    have hz0 : zonesF s = true := by simp only [zonesF, Bool.and_eq_true, decide_eq_true_eq]; exact h
    have hst : ∀ z, z < 11 → ∀ x ∈ s.lists z, 0 ≤ x ∧ x < s.objs.length ∧ objAt s x 3 = z ∧ standsF (objAt s x) z = true := fun z hz => right_ids hz0 hz
    have hin : ∀ z, z < 11 → ∀ x ∈ s.lists z, 0 ≤ x ∧ x < s.objs.length := fun z hz x hx => ⟨(hst z hz x hx).1, (hst z hz x hx).2.1⟩
    have h1 := (once (ids_in hin)).1 ⟨nodup_count.1 h.1.2, h.2⟩
    simp only [refZones, Bool.and_eq_true]
    refine ⟨all_up.2 fun z hz => List.all_eq_true.2 fun x hx => by have := hin z hz x hx; simpa [inN] using this, all_up.2 fun i hi => ?_⟩
    have hm : ((i : Nat) : Int) ∈ ids s := List.one_le_count_iff.1 (by rw [h1 i hi]; exact Nat.le_refl _)
    obtain ⟨z, hz, hmz⟩ := mem_ids.1 hm
    obtain ⟨_, _, e3, hs⟩ := hst z hz _ hmz
    have et : ((i : Nat) : Int).toNat = i := by omega
    simp only [objAt, et] at e3 hs
    simp only [refOcc, Bool.and_eq_true, decide_eq_true_eq]
    refine ⟨⟨h1 i hi, all_up.2 fun y hy => List.all_eq_true.2 fun x hx => ?_⟩, by rw [← stand_eq (hf3 i hi), e3]; exact hs⟩
    by_cases ex : x = (i : Int)
    · subst ex
      have := (hst y hy _ hx).2.2.1
      simp only [objAt, et] at this
      simp [this]
    · simp [ex]
/-- The same number, whoever looks. -/
theorem refCheck_eq {s : St} : refCheck s = checkF s := by
  unfold refCheck checkF
  rw [ranges_eq]
  by_cases h : rangesF s = true
  · rw [zones_eq h]
  · have : rangesF s = false := by simpa using h
    rw [this]; rfl
end Go.Proofs.YtijhmlkffkedeaaGreatDoor
/- Walks: who has lost and what is dying, by the document. -/
namespace Go.Proofs.YtijhmlkffkedeaaGreatDoor
open Go Go.AV Go.Proofs.Tryz
set_option maxRecDepth 100000
set_option maxHeartbeats 1000000
def toStat (s : St) (x : RStat) : Static := ⟨x.id, s.objs.getD x.id.toNat noObj 2, x.doo.n, e0 x⟩
theorem range_getD {α : Type} (z : α) (l : List α) : (List.range l.length).map (fun j => l.getD j z) = l := by
  refine List.ext_getElem (by simp) fun j h1 h2 => ?_
  simp [List.getD_eq_getElem?_getD, h2]
theorem statics_eq {s : St} : staticsF s = (rstatsF s).map (toStat s) := by
  unfold staticsF rstatsF
  rw [List.map_flatMap]
  congr 1; funext id
  unfold staticsOf rstatsOf rAbs usesF usesUp
  have h := range_getD noAb (kindF s id).abs
  rw [List.map_map, List.map_map]
  conv => rhs; rw [← h, List.filter_map, List.map_map]
  rfl
theorem reach_eq {s : St} {x : RStat} {i : Int} (h : 0 ≤ x.doo.n ∧ x.doo.n ≤ 3) : reachesF (toStat s x) s i = withinF s x i := by
  have hn : x.doo.n = 0 ∨ x.doo.n = 1 ∨ x.doo.n = 2 ∨ x.doo.n = 3 := by omega
  rcases hn with e | e | e | e <;> simp [reachesF, withinF, toStat, e, bne_comm]
theorem step_eq {s : St} {i : Int} {x : RStat} (h : 0 ≤ x.doo.n ∧ x.doo.n ≤ 3) (a : Sum) : ((evStep s i a (toStat s x)).out.p, (evStep s i a (toStat s x)).out.t) = becStep s i (a.out.p, a.out.t) x ∧
    ∀ c d, ((evStep s i a (toStat s x)).more.p + c, (evStep s i a (toStat s x)).more.t + d) = pumStep s i (a.more.p + c, a.more.t + d) x := by
  unfold evStep becStep pumStep
  rw [reach_eq h]
  have e0' : (toStat s x).doo = e0 x := rfl
  rw [e0']
  cases hw : withinF s x i with
  | false => simp
  | true =>
    by_cases h1 : (e0 x).op = 24
    · simp [h1]
    · by_cases h2 : (e0 x).op = 10
      · simp [h2]; intro c d; omega
      · by_cases h3 : (e0 x).op = 23
        · simp [h3]
        · by_cases h4 : (e0 x).op = 25
          · simp [h4]
          · have b1 : ((e0 x).op == 24) = false := by simpa using h1
            have b2 : ((e0 x).op == 10) = false := by simpa using h2
            simp [h1, h2, h3, h4, b1, b2]
theorem fold_eq {s : St} {i : Int} : ∀ (l : List RStat) (_ : ∀ x ∈ l, 0 ≤ x.doo.n ∧ x.doo.n ≤ 3) (a : Sum), ((((l.map (toStat s)).foldl (evStep s i) a).out.p, ((l.map (toStat s)).foldl (evStep s i) a).out.t) = l.foldl (becStep s i) (a.out.p, a.out.t)) ∧
    ∀ c d, ((((l.map (toStat s)).foldl (evStep s i) a).more.p + c, ((l.map (toStat s)).foldl (evStep s i) a).more.t + d) = l.foldl (pumStep s i) (a.more.p + c, a.more.t + d))
  | [], _, a => ⟨rfl, fun _ _ => rfl⟩
  | x :: l, h, a => by
    obtain ⟨h1, h2⟩ := step_eq (i := i) (h x (by simp)) a
    obtain ⟨g1, g2⟩ := fold_eq l (fun y hy => h y (by simp [hy])) (evStep s i a (toStat s x))
    simp only [List.map_cons, List.foldl_cons]
    exact ⟨by rw [g1, h1], fun c d => by rw [g2, h2]⟩
theorem rof_eq {s : St} {i : Int} (hz : ∀ id ∈ s.lists 8, 0 ≤ id ∧ id < s.objs.length) : (rofF s i).p = (evalF s i).p ∧ (rofF s i).t = (evalF s i).t := by
  obtain ⟨g1, g2⟩ := fold_eq (i := i) (rstatsF s) (fun x hx => (rstat_ok hz x hx).2.2.2.1) (ev0 s i)
  have hb : ((evSum s i (staticsF s)).out.p, (evSum s i (staticsF s)).out.t) = becF s i := by
    unfold evSum; rw [statics_eq, g1]; rfl
  have hp : pumF s i = ((evSum s i (staticsF s)).more.p + ((becF s i).1 - s.objs.getD i.toNat noObj 8), (evSum s i (staticsF s)).more.t + ((becF s i).2 - s.objs.getD i.toNat noObj 9)) := by
    unfold evSum; rw [statics_eq, g2, pumF]
    congr 1
    simp only [ev0, Prod.mk.injEq]; omega
  have h1 : (rofF s i).p = (pumF s i).1 + s.objs.getD i.toNat noObj 8 := rfl
  have h2 : (rofF s i).t = (pumF s i).2 + s.objs.getD i.toNat noObj 9 := rfl
  have h3 : (evalF s i).p = (evSum s i (staticsF s)).out.p + (evSum s i (staticsF s)).more.p := rfl
  have h4 : (evalF s i).t = (evSum s i (staticsF s)).out.t + (evSum s i (staticsF s)).more.t := rfl
  rw [h1, h2, h3, h4, hp, ← hb]; simp only; omega
end Go.Proofs.YtijhmlkffkedeaaGreatDoor
/- Walks: the document's events: are they right; lists. -/
namespace Go.Proofs.YtijhmlkffkedeaaGreatDoor
open Go Go.AV Go.Proofs.Tryz
set_option maxRecDepth 100000
set_option maxHeartbeats 1000000
def evOk (x : Ev) : Bool :=
  if x.k = 0 ∨ x.k = 5 then inN x.a 120 && inN x.b 2 && inN x.c 3
  else if x.k = 1 then decide (0 ≤ x.a) && inN x.b 11 && inN x.d 11 && decide (0 ≤ x.c) && decide (0 ≤ x.e)
  else if x.k = 2 then decide (0 ≤ x.a) && inN x.b 18 && x.b != 3
  else if x.k = 3 then inN x.a 2 && inN x.b 9
  else inN x.b 7
theorem evRanges_eq {x : Ev} (h : 0 ≤ x.k ∧ x.k ≤ 5) : evRanges x = (evOk x && !(decide (2 ≤ x.k) && decide (x.k ≤ 4) && (decide (1073741824 < x.d) || decide (x.d < -1073741824)))) := by
  have hk : x.k = 0 ∨ x.k = 1 ∨ x.k = 2 ∨ x.k = 3 ∨ x.k = 4 ∨ x.k = 5 := by omega
  have hs : small x.d = !(decide (1073741824 < x.d) || decide (x.d < -1073741824)) := by
    rw [Bool.eq_iff_iff]; simp [small]; omega
  rcases hk with e | e | e | e | e | e <;> simp [evRanges, evOk, e, hs, Bool.and_assoc]

theorem refEv_calls (x : Ev) (h : Hp) : ACalls prog G 90 [eEv x] h fun r h' => r = .int .i64 (evCheck x) ∧ h' = h := by
  refine ACalls.enter func90 rfl ntmps90 results90 rfl ?_
  refine .seq <|
    .region <|
    .bx rfl rfl <|
    .aI rfl rfl <|
    .nil <|
    .seq <|
    .seq <|
    .region <|
    .fi rfl f129_0 rfl <|
    .li rfl isAgg3 rfl rfl <|
    .ql rfl rfl rfl <|
    .mB rfl rfl ?_
  refine .gf rfl rfl rfl (fun _ => tl0) (fun hc => q_fa_i rfl underlying129 rfl (by exact sizeOf3) (by decide) rfl (rfl : _ = List.drop 0 _)) ?_
  refine .gf rfl rfl rfl (fun hc => tl1 9 (.opt hc)) (fun hc => q_load_i1 rfl isAgg3 rfl rfl) ?_
  refine .gf rfl rfl rfl (fun hc => tl1 10 (.opt hc)) (fun hc => q_gt rfl rfl rfl) ?_
  refine .pf rfl rfl rfl rfl <|
    .nil ?_
  refine AW.cond rfl (fun c0 => ?_) (fun c0 => ?_)
  · skip
    refine .seq <|
      .region <|
      .aI rfl rfl <|
      .nil ?_
    refine AW.ret ?_
    exact retQ.mk' (.one _) (VLe.of_eq (congrArg (V.int .i64) (by simp at c0; unfold evCheck; rw [if_pos (by simp [inN]; omega)]))) (HLe.refl _) ⟨rfl, rfl⟩
  · skip
    refine AW.skip ?_
    refine .seq <|
      .region <|
      .fi rfl f129_0 rfl <|
      .li rfl isAgg3 rfl rfl <|
      .qe rfl rfl rfl <|
      .mB rfl rfl ?_
    refine .gf rfl rfl rfl (fun _ => tl0) (fun hc => q_fa_i rfl underlying129 rfl (by exact sizeOf3) (by decide) rfl (rfl : _ = List.drop 0 _)) ?_
    refine .gf rfl rfl rfl (fun hc => tl1 17 (.opt hc)) (fun hc => q_load_i1 rfl isAgg3 rfl rfl) ?_
    refine .gf rfl rfl rfl (fun hc => tl1 18 (.opt hc)) (fun hc => q_eq rfl rfl rfl) ?_
    refine .pf rfl rfl rfl rfl <|
      .aB rfl rfl <|
      .nil <|
      .seq <|
      .seq <|
      .region <|
      .mB rfl rfl <|
      .mB rfl rfl ?_
    refine .gt rfl rfl rfl (fun _ => tl0) (fun hc => q_fa_i rfl underlying129 rfl (by exact sizeOf3) (by decide) rfl (rfl : _ = List.drop 4 _)) ?_
    refine .gt rfl rfl rfl (fun hc => tl1 23 (.opt hc)) (fun hc => q_load_i1 rfl isAgg3 rfl rfl) ?_
    refine .gt rfl rfl rfl (fun hc => tl1 24 (.opt hc)) (fun hc => q_ne rfl rfl rfl) ?_
    refine .gt rfl rfl rfl (fun hc => tl1 25 (.opt hc)) (fun hc => q_mv rfl (rfl : _ = V.bool _)) ?_
    refine AOps.g (wanted_fo rfl rfl) rfl rfl (fun _ => tl0) (fun hc => q_fa_i rfl underlying129 rfl (by exact sizeOf3) (by decide) rfl (rfl : _ = List.drop 5 _)) ?_
    refine AOps.g (wanted_fo rfl rfl) rfl rfl (fun hc => tl1 27 (.opt hc)) (fun hc => q_load_i1 rfl isAgg3 rfl rfl) ?_
    refine AOps.g (wanted_fo rfl rfl) rfl rfl (fun hc => tl1 28 (.opt hc)) (fun hc => q_ne rfl rfl rfl) ?_
    refine .gt rfl rfl rfl (fun hc => tl1 26 (.opt hc)) (fun hc => q_pickg rfl rfl (fun hp => by exact VLe.refl _) (fun hp => by first | exact VLe.opt hp | exact VLe.opt (by rw [hp]; rfl) | exact VLe.opt (by simp_all))) ?_
    refine .pt rfl rfl rfl rfl <|
      .mB rfl rfl ?_
    refine .gf rfl rfl rfl (fun _ => tl0) (fun hc => q_fa_i rfl underlying129 rfl (by exact sizeOf3) (by decide) rfl (rfl : _ = List.drop 0 _)) ?_
    refine .gf rfl rfl rfl (fun hc => tl1 33 (.opt hc)) (fun hc => q_load_i1 rfl isAgg3 rfl rfl) ?_
    refine .gf rfl rfl rfl (fun hc => tl1 34 (.opt hc)) (fun hc => q_ge rfl rfl rfl) ?_
    refine .gf rfl rfl rfl (fun hc => tl1 35 (.opt hc)) (fun hc => q_mv rfl (rfl : _ = V.bool _)) ?_
    refine AOps.g (wanted_to rfl rfl) rfl rfl (fun _ => tl0) (fun hc => q_fa_i rfl underlying129 rfl (by exact sizeOf3) (by decide) rfl (rfl : _ = List.drop 0 _)) ?_
    refine AOps.g (wanted_to rfl rfl) rfl rfl (fun hc => tl1 37 (.opt hc)) (fun hc => q_load_i1 rfl isAgg3 rfl rfl) ?_
    refine AOps.g (wanted_to rfl rfl) rfl rfl (fun hc => tl1 38 (.opt hc)) (fun hc => q_le rfl rfl rfl) ?_
    refine .gf rfl rfl rfl (fun hc => tl1 36 (.opt hc)) (fun hc => q_pickg rfl rfl (fun hp => by first | exact VLe.opt hp | exact VLe.opt (by rw [hp]; rfl) | exact VLe.opt (by simp_all)) (fun hp => by exact VLe.refl _)) ?_
    refine .gf rfl rfl rfl (fun hc => tl1 40 (.opt hc)) (fun hc => q_mv rfl (rfl : _ = V.bool _)) ?_
    refine AOps.g (wanted_to rfl rfl) rfl rfl (fun _ => tl0) (fun hc => q_fa_i rfl underlying129 rfl (by exact sizeOf3) (by decide) rfl (rfl : _ = List.drop 5 _)) ?_
    refine AOps.g (wanted_to rfl rfl) rfl rfl (fun hc => tl1 42 (.opt hc)) (fun hc => q_load_i1 rfl isAgg3 rfl rfl) ?_
    refine AOps.g (wanted_to rfl rfl) rfl rfl (fun hc => tl1 43 (.opt hc)) (fun hc => q_ne rfl rfl rfl) ?_
    refine .gf rfl rfl rfl (fun hc => tl1 41 (.opt hc)) (fun hc => q_pickg rfl rfl (fun hp => by first | exact VLe.opt hp | exact VLe.opt (by rw [hp]; rfl) | exact VLe.opt (by simp_all)) (fun hp => by exact VLe.refl _)) ?_
    refine .pf rfl rfl rfl rfl <|
      .mB rfl rfl ?_
    refine .gf rfl rfl rfl (fun _ => tl0) (fun hc => q_fa_i rfl underlying129 rfl (by exact sizeOf3) (by decide) rfl (rfl : _ = List.drop 0 _)) ?_
    refine .gf rfl rfl rfl (fun hc => tl1 48 (.opt hc)) (fun hc => q_load_i1 rfl isAgg3 rfl rfl) ?_
    refine .gf rfl rfl rfl (fun hc => tl1 49 (.opt hc)) (fun hc => q_eq rfl rfl rfl) ?_
    refine .gf rfl rfl rfl (fun hc => tl1 50 (.opt hc)) (fun hc => q_mv rfl (rfl : _ = V.bool _)) ?_
    refine AOps.g (wanted_to rfl rfl) rfl rfl (fun _ => tl0) (fun hc => q_fa_i rfl underlying129 rfl (by exact sizeOf3) (by decide) rfl (rfl : _ = List.drop 1 _)) ?_
    refine AOps.g (wanted_to rfl rfl) rfl rfl (fun hc => tl1 52 (.opt hc)) (fun hc => q_load_i1 rfl isAgg3 rfl rfl) ?_
    refine AOps.g (wanted_to rfl rfl) rfl rfl (fun hc => tl1 53 (.opt hc)) (fun hc => q_ne rfl rfl rfl) ?_
    refine .gf rfl rfl rfl (fun hc => tl1 51 (.opt hc)) (fun hc => q_pickg rfl rfl (fun hp => by first | exact VLe.opt hp | exact VLe.opt (by rw [hp]; rfl) | exact VLe.opt (by simp_all)) (fun hp => by exact VLe.refl _)) ?_
    refine .pf rfl rfl rfl rfl <|
      .nil ?_
    refine AW.cond rfl (fun c1 => ?_) (fun c1 => ?_)
    · skip
      refine .seq <|
        .region <|
        .aI rfl rfl <|
        .nil ?_
      refine AW.ret ?_
      exact retQ.mk' (.one _) (VLe.of_eq (congrArg (V.int .i64) (by simp at c0 c1; unfold evCheck; rw [if_neg (by simp [inN]; omega), if_pos (by simp [evSpare, evMakes]; grind)]))) (HLe.refl _) ⟨rfl, rfl⟩
    · skip
      refine AW.skip ?_
      refine .seq <|
        .region <|
        .aB rfl rfl <|
        .nil ?_
      refine AW.cut (fun T h1 => T = put (put T0 1 (V.iptr (cEv x))) 4 (V.bool (evOk x)) ∧ h = h1) ?_ ?_
      · skip
        refine .seq <|
          .region <|
          .fi rfl f129_0 rfl <|
          .li rfl isAgg3 rfl rfl <|
          .nil <|
          .block <|
          .seq <|
          .seq <|
          .region <|
          .qe rfl rfl rfl <|
          .aB rfl rfl <|
          .nil ?_
        refine AW.cond rfl (fun c2 => ?_) (fun c2 => ?_)
        · skip
          refine AW.skip ?_
          refine AW.condT rfl c2 ?_
          refine .region <|
            .fi rfl f129_1 rfl <|
            .li rfl isAgg3 rfl rfl <|
            .qg rfl rfl rfl <|
            .mB rfl rfl ?_
          refine .gt rfl rfl rfl (fun _ => tl0) (fun hc => q_fa_i rfl underlying129 rfl (by exact sizeOf3) (by decide) rfl (rfl : _ = List.drop 1 _)) ?_
          refine .gt rfl rfl rfl (fun hc => tl1 74 (.opt hc)) (fun hc => q_load_i1 rfl isAgg3 rfl rfl) ?_
          refine .gt rfl rfl rfl (fun hc => tl1 75 (.opt hc)) (fun hc => q_le rfl rfl rfl) ?_
          refine .pt rfl rfl rfl rfl <|
            .mB rfl rfl ?_
          refine .gt rfl rfl rfl (fun _ => tl0) (fun hc => q_fa_i rfl underlying129 rfl (by exact sizeOf3) (by decide) rfl (rfl : _ = List.drop 2 _)) ?_
          refine .gt rfl rfl rfl (fun hc => tl1 79 (.opt hc)) (fun hc => q_load_i1 rfl isAgg3 rfl rfl) ?_
          refine .gt rfl rfl rfl (fun hc => tl1 80 (.opt hc)) (fun hc => q_ge rfl rfl rfl) ?_
          refine .pt rfl rfl rfl rfl <|
            .mB rfl rfl ?_
          refine .gt rfl rfl rfl (fun _ => tl0) (fun hc => q_fa_i rfl underlying129 rfl (by exact sizeOf3) (by decide) rfl (rfl : _ = List.drop 2 _)) ?_
          refine .gt rfl rfl rfl (fun hc => tl1 84 (.opt hc)) (fun hc => q_load_i1 rfl isAgg3 rfl rfl) ?_
          refine .gt rfl rfl rfl (fun hc => tl1 85 (.opt hc)) (fun hc => q_le rfl rfl rfl) ?_
          refine .pt rfl rfl rfl rfl <|
            .mB rfl rfl ?_
          refine .gt rfl rfl rfl (fun _ => tl0) (fun hc => q_fa_i rfl underlying129 rfl (by exact sizeOf3) (by decide) rfl (rfl : _ = List.drop 3 _)) ?_
          refine .gt rfl rfl rfl (fun hc => tl1 89 (.opt hc)) (fun hc => q_load_i1 rfl isAgg3 rfl rfl) ?_
          refine .gt rfl rfl rfl (fun hc => tl1 90 (.opt hc)) (fun hc => q_ge rfl rfl rfl) ?_
          refine .pt rfl rfl rfl rfl <|
            .mB rfl rfl ?_
          refine .gt rfl rfl rfl (fun _ => tl0) (fun hc => q_fa_i rfl underlying129 rfl (by exact sizeOf3) (by decide) rfl (rfl : _ = List.drop 3 _)) ?_
          refine .gt rfl rfl rfl (fun hc => tl1 94 (.opt hc)) (fun hc => q_load_i1 rfl isAgg3 rfl rfl) ?_
          refine .gt rfl rfl rfl (fun hc => tl1 95 (.opt hc)) (fun hc => q_le rfl rfl rfl) ?_
          refine .pt rfl rfl rfl rfl <|
            .aB rfl rfl <|
            .nil ?_
          exact Wk.mk (TLe.put (d := 4) (VLe.of_eq (congrArg V.bool (by simp only [beq_iff_eq, beq_eq_false_iff_ne] at *; simp_all [evOk, inN]; try grind))) (TLe.put (d := 1) (VLe.refl _) (TLe.zero _))) (HLe.refl _) ⟨rfl, rfl⟩
        · skip
          refine .region <|
            .qe rfl rfl rfl <|
            .aB rfl rfl <|
            .nil ?_
          refine AW.cond rfl (fun c3 => ?_) (fun c3 => ?_)
          · skip
            refine .region <|
              .fi rfl f129_1 rfl <|
              .li rfl isAgg3 rfl rfl <|
              .qg rfl rfl rfl <|
              .mB rfl rfl ?_
            refine .gt rfl rfl rfl (fun _ => tl0) (fun hc => q_fa_i rfl underlying129 rfl (by exact sizeOf3) (by decide) rfl (rfl : _ = List.drop 1 _)) ?_
            refine .gt rfl rfl rfl (fun hc => tl1 74 (.opt hc)) (fun hc => q_load_i1 rfl isAgg3 rfl rfl) ?_
            refine .gt rfl rfl rfl (fun hc => tl1 75 (.opt hc)) (fun hc => q_le rfl rfl rfl) ?_
            refine .pt rfl rfl rfl rfl <|
              .mB rfl rfl ?_
            refine .gt rfl rfl rfl (fun _ => tl0) (fun hc => q_fa_i rfl underlying129 rfl (by exact sizeOf3) (by decide) rfl (rfl : _ = List.drop 2 _)) ?_
            refine .gt rfl rfl rfl (fun hc => tl1 79 (.opt hc)) (fun hc => q_load_i1 rfl isAgg3 rfl rfl) ?_
            refine .gt rfl rfl rfl (fun hc => tl1 80 (.opt hc)) (fun hc => q_ge rfl rfl rfl) ?_
            refine .pt rfl rfl rfl rfl <|
              .mB rfl rfl ?_
            refine .gt rfl rfl rfl (fun _ => tl0) (fun hc => q_fa_i rfl underlying129 rfl (by exact sizeOf3) (by decide) rfl (rfl : _ = List.drop 2 _)) ?_
            refine .gt rfl rfl rfl (fun hc => tl1 84 (.opt hc)) (fun hc => q_load_i1 rfl isAgg3 rfl rfl) ?_
            refine .gt rfl rfl rfl (fun hc => tl1 85 (.opt hc)) (fun hc => q_le rfl rfl rfl) ?_
            refine .pt rfl rfl rfl rfl <|
              .mB rfl rfl ?_
            refine .gt rfl rfl rfl (fun _ => tl0) (fun hc => q_fa_i rfl underlying129 rfl (by exact sizeOf3) (by decide) rfl (rfl : _ = List.drop 3 _)) ?_
            refine .gt rfl rfl rfl (fun hc => tl1 89 (.opt hc)) (fun hc => q_load_i1 rfl isAgg3 rfl rfl) ?_
            refine .gt rfl rfl rfl (fun hc => tl1 90 (.opt hc)) (fun hc => q_ge rfl rfl rfl) ?_
            refine .pt rfl rfl rfl rfl <|
              .mB rfl rfl ?_
            refine .gt rfl rfl rfl (fun _ => tl0) (fun hc => q_fa_i rfl underlying129 rfl (by exact sizeOf3) (by decide) rfl (rfl : _ = List.drop 3 _)) ?_
            refine .gt rfl rfl rfl (fun hc => tl1 94 (.opt hc)) (fun hc => q_load_i1 rfl isAgg3 rfl rfl) ?_
            refine .gt rfl rfl rfl (fun hc => tl1 95 (.opt hc)) (fun hc => q_le rfl rfl rfl) ?_
            refine .pt rfl rfl rfl rfl <|
              .aB rfl rfl <|
              .nil ?_
            exact Wk.mk (TLe.put (d := 4) (VLe.of_eq (congrArg V.bool (by simp only [beq_iff_eq, beq_eq_false_iff_ne] at *; simp_all [evOk, inN]; try grind))) (TLe.put (d := 1) (VLe.refl _) (TLe.zero _))) (HLe.refl _) ⟨rfl, rfl⟩
          · skip
            refine .seq <|
              .region <|
              .qe rfl rfl rfl <|
              .aB rfl rfl <|
              .nil ?_
            refine AW.cond rfl (fun c4 => ?_) (fun c4 => ?_)
            · skip
              refine .region <|
                .fi rfl f129_1 rfl <|
                .li rfl isAgg3 rfl rfl <|
                .qg rfl rfl rfl <|
                .mB rfl rfl ?_
              refine .gt rfl rfl rfl (fun _ => tl0) (fun hc => q_fa_i rfl underlying129 rfl (by exact sizeOf3) (by decide) rfl (rfl : _ = List.drop 2 _)) ?_
              refine .gt rfl rfl rfl (fun hc => tl1 104 (.opt hc)) (fun hc => q_load_i1 rfl isAgg3 rfl rfl) ?_
              refine .gt rfl rfl rfl (fun hc => tl1 105 (.opt hc)) (fun hc => q_ge rfl rfl rfl) ?_
              refine .pt rfl rfl rfl rfl <|
                .mB rfl rfl ?_
              refine .gt rfl rfl rfl (fun _ => tl0) (fun hc => q_fa_i rfl underlying129 rfl (by exact sizeOf3) (by decide) rfl (rfl : _ = List.drop 2 _)) ?_
              refine .gt rfl rfl rfl (fun hc => tl1 109 (.opt hc)) (fun hc => q_load_i1 rfl isAgg3 rfl rfl) ?_
              refine .gt rfl rfl rfl (fun hc => tl1 110 (.opt hc)) (fun hc => q_le rfl rfl rfl) ?_
              refine .pt rfl rfl rfl rfl <|
                .mB rfl rfl ?_
              refine .gt rfl rfl rfl (fun _ => tl0) (fun hc => q_fa_i rfl underlying129 rfl (by exact sizeOf3) (by decide) rfl (rfl : _ = List.drop 3 _)) ?_
              refine .gt rfl rfl rfl (fun hc => tl1 114 (.opt hc)) (fun hc => q_load_i1 rfl isAgg3 rfl rfl) ?_
              refine .gt rfl rfl rfl (fun hc => tl1 115 (.opt hc)) (fun hc => q_ge rfl rfl rfl) ?_
              refine .pt rfl rfl rfl rfl <|
                .mB rfl rfl ?_
              refine .gt rfl rfl rfl (fun _ => tl0) (fun hc => q_fa_i rfl underlying129 rfl (by exact sizeOf3) (by decide) rfl (rfl : _ = List.drop 4 _)) ?_
              refine .gt rfl rfl rfl (fun hc => tl1 119 (.opt hc)) (fun hc => q_load_i1 rfl isAgg3 rfl rfl) ?_
              refine .gt rfl rfl rfl (fun hc => tl1 120 (.opt hc)) (fun hc => q_ge rfl rfl rfl) ?_
              refine .pt rfl rfl rfl rfl <|
                .mB rfl rfl ?_
              refine .gt rfl rfl rfl (fun _ => tl0) (fun hc => q_fa_i rfl underlying129 rfl (by exact sizeOf3) (by decide) rfl (rfl : _ = List.drop 4 _)) ?_
              refine .gt rfl rfl rfl (fun hc => tl1 124 (.opt hc)) (fun hc => q_load_i1 rfl isAgg3 rfl rfl) ?_
              refine .gt rfl rfl rfl (fun hc => tl1 125 (.opt hc)) (fun hc => q_le rfl rfl rfl) ?_
              refine .pt rfl rfl rfl rfl <|
                .mB rfl rfl ?_
              refine .gt rfl rfl rfl (fun _ => tl0) (fun hc => q_fa_i rfl underlying129 rfl (by exact sizeOf3) (by decide) rfl (rfl : _ = List.drop 5 _)) ?_
              refine .gt rfl rfl rfl (fun hc => tl1 129 (.opt hc)) (fun hc => q_load_i1 rfl isAgg3 rfl rfl) ?_
              refine .gt rfl rfl rfl (fun hc => tl1 130 (.opt hc)) (fun hc => q_ge rfl rfl rfl) ?_
              refine .pt rfl rfl rfl rfl <|
                .aB rfl rfl <|
                .nil ?_
              exact Wk.mk (TLe.put (d := 4) (VLe.of_eq (congrArg V.bool (by simp only [beq_iff_eq, beq_eq_false_iff_ne] at *; simp_all [evOk, inN]; try grind))) (TLe.put (d := 1) (VLe.refl _) (TLe.zero _))) (HLe.refl _) ⟨rfl, rfl⟩
            · skip
              refine .seq <|
                .region <|
                .qe rfl rfl rfl <|
                .aB rfl rfl <|
                .nil ?_
              refine AW.cond rfl (fun c5 => ?_) (fun c5 => ?_)
              · skip
                refine .region <|
                  .fi rfl f129_1 rfl <|
                  .li rfl isAgg3 rfl rfl <|
                  .qg rfl rfl rfl <|
                  .mB rfl rfl ?_
                refine .gt rfl rfl rfl (fun _ => tl0) (fun hc => q_fa_i rfl underlying129 rfl (by exact sizeOf3) (by decide) rfl (rfl : _ = List.drop 2 _)) ?_
                refine .gt rfl rfl rfl (fun hc => tl1 139 (.opt hc)) (fun hc => q_load_i1 rfl isAgg3 rfl rfl) ?_
                refine .gt rfl rfl rfl (fun hc => tl1 140 (.opt hc)) (fun hc => q_ge rfl rfl rfl) ?_
                refine .pt rfl rfl rfl rfl <|
                  .mB rfl rfl ?_
                refine .gt rfl rfl rfl (fun _ => tl0) (fun hc => q_fa_i rfl underlying129 rfl (by exact sizeOf3) (by decide) rfl (rfl : _ = List.drop 2 _)) ?_
                refine .gt rfl rfl rfl (fun hc => tl1 144 (.opt hc)) (fun hc => q_load_i1 rfl isAgg3 rfl rfl) ?_
                refine .gt rfl rfl rfl (fun hc => tl1 145 (.opt hc)) (fun hc => q_le rfl rfl rfl) ?_
                refine .pt rfl rfl rfl rfl <|
                  .mB rfl rfl ?_
                refine .gt rfl rfl rfl (fun _ => tl0) (fun hc => q_fa_i rfl underlying129 rfl (by exact sizeOf3) (by decide) rfl (rfl : _ = List.drop 2 _)) ?_
                refine .gt rfl rfl rfl (fun hc => tl1 149 (.opt hc)) (fun hc => q_load_i1 rfl isAgg3 rfl rfl) ?_
                refine .gt rfl rfl rfl (fun hc => tl1 150 (.opt hc)) (fun hc => q_ne rfl rfl rfl) ?_
                refine .pt rfl rfl rfl rfl <|
                  .aB rfl rfl <|
                  .nil ?_
                exact Wk.mk (TLe.put (d := 4) (VLe.of_eq (congrArg V.bool (by simp only [beq_iff_eq, beq_eq_false_iff_ne] at *; simp_all [evOk, inN]; try grind))) (TLe.put (d := 1) (VLe.refl _) (TLe.zero _))) (HLe.refl _) ⟨rfl, rfl⟩
              · skip
                refine .seq <|
                  .region <|
                  .qe rfl rfl rfl <|
                  .aB rfl rfl <|
                  .nil ?_
                refine AW.cond rfl (fun c6 => ?_) (fun c6 => ?_)
                · skip
                  refine .region <|
                    .fi rfl f129_1 rfl <|
                    .li rfl isAgg3 rfl rfl <|
                    .qg rfl rfl rfl <|
                    .mB rfl rfl ?_
                  refine .gt rfl rfl rfl (fun _ => tl0) (fun hc => q_fa_i rfl underlying129 rfl (by exact sizeOf3) (by decide) rfl (rfl : _ = List.drop 1 _)) ?_
                  refine .gt rfl rfl rfl (fun hc => tl1 159 (.opt hc)) (fun hc => q_load_i1 rfl isAgg3 rfl rfl) ?_
                  refine .gt rfl rfl rfl (fun hc => tl1 160 (.opt hc)) (fun hc => q_le rfl rfl rfl) ?_
                  refine .pt rfl rfl rfl rfl <|
                    .mB rfl rfl ?_
                  refine .gt rfl rfl rfl (fun _ => tl0) (fun hc => q_fa_i rfl underlying129 rfl (by exact sizeOf3) (by decide) rfl (rfl : _ = List.drop 2 _)) ?_
                  refine .gt rfl rfl rfl (fun hc => tl1 164 (.opt hc)) (fun hc => q_load_i1 rfl isAgg3 rfl rfl) ?_
                  refine .gt rfl rfl rfl (fun hc => tl1 165 (.opt hc)) (fun hc => q_ge rfl rfl rfl) ?_
                  refine .pt rfl rfl rfl rfl <|
                    .mB rfl rfl ?_
                  refine .gt rfl rfl rfl (fun _ => tl0) (fun hc => q_fa_i rfl underlying129 rfl (by exact sizeOf3) (by decide) rfl (rfl : _ = List.drop 2 _)) ?_
                  refine .gt rfl rfl rfl (fun hc => tl1 169 (.opt hc)) (fun hc => q_load_i1 rfl isAgg3 rfl rfl) ?_
                  refine .gt rfl rfl rfl (fun hc => tl1 170 (.opt hc)) (fun hc => q_le rfl rfl rfl) ?_
                  refine .pt rfl rfl rfl rfl <|
                    .aB rfl rfl <|
                    .nil ?_
                  exact Wk.mk (TLe.put (d := 4) (VLe.of_eq (congrArg V.bool (by simp only [beq_iff_eq, beq_eq_false_iff_ne] at *; simp_all [evOk, inN]; try grind))) (TLe.put (d := 1) (VLe.refl _) (TLe.zero _))) (HLe.refl _) ⟨rfl, rfl⟩
                · skip
                  refine .region <|
                    .fi rfl f129_2 rfl <|
                    .li rfl isAgg3 rfl rfl <|
                    .qg rfl rfl rfl <|
                    .mB rfl rfl ?_
                  refine .gt rfl rfl rfl (fun _ => tl0) (fun hc => q_fa_i rfl underlying129 rfl (by exact sizeOf3) (by decide) rfl (rfl : _ = List.drop 2 _)) ?_
                  refine .gt rfl rfl rfl (fun hc => tl1 63 (.opt hc)) (fun hc => q_load_i1 rfl isAgg3 rfl rfl) ?_
                  refine .gt rfl rfl rfl (fun hc => tl1 64 (.opt hc)) (fun hc => q_le rfl rfl rfl) ?_
                  refine .pt rfl rfl rfl rfl <|
                    .aB rfl rfl <|
                    .nil ?_
                  exact Wk.mk (TLe.put (d := 4) (VLe.of_eq (congrArg V.bool (by simp only [beq_iff_eq, beq_eq_false_iff_ne] at *; simp_all [evOk, inN]; try grind))) (TLe.put (d := 1) (VLe.refl _) (TLe.zero _))) (HLe.refl _) ⟨rfl, rfl⟩
      · rintro T h1 ⟨rfl, rfl⟩
        refine .seq <|
          .seq <|
          .region <|
          .mB rfl rfl <|
          .nt rfl rfl <|
          .mB rfl rfl ?_
        refine .gf rfl rfl rfl (fun _ => tl0) (fun hc => q_fa_i rfl underlying129 rfl (by exact sizeOf3) (by decide) rfl (rfl : _ = List.drop 0 _)) ?_
        refine .gf rfl rfl rfl (fun hc => tl1 176 (.opt hc)) (fun hc => q_load_i1 rfl isAgg3 rfl rfl) ?_
        refine .gf rfl rfl rfl (fun hc => tl1 177 (.opt hc)) (fun hc => q_ge rfl rfl rfl) ?_
        refine .gf rfl rfl rfl (fun hc => tl1 178 (.opt hc)) (fun hc => q_mv rfl (rfl : _ = V.bool _)) ?_
        refine AOps.g (wanted_to rfl rfl) rfl rfl (fun _ => tl0) (fun hc => q_fa_i rfl underlying129 rfl (by exact sizeOf3) (by decide) rfl (rfl : _ = List.drop 0 _)) ?_
        refine AOps.g (wanted_to rfl rfl) rfl rfl (fun hc => tl1 180 (.opt hc)) (fun hc => q_load_i1 rfl isAgg3 rfl rfl) ?_
        refine AOps.g (wanted_to rfl rfl) rfl rfl (fun hc => tl1 181 (.opt hc)) (fun hc => q_le rfl rfl rfl) ?_
        refine .gf rfl rfl rfl (fun hc => tl1 179 (.opt hc)) (fun hc => q_pickg rfl rfl (fun hp => by first | exact VLe.opt hp | exact VLe.opt (by rw [hp]; rfl) | exact VLe.opt (by simp_all)) (fun hp => by exact VLe.refl _)) ?_
        refine .gf rfl rfl rfl (fun hc => tl1 183 (.opt hc)) (fun hc => q_mv rfl (rfl : _ = V.bool _)) ?_
        refine AOps.g (wanted_to rfl rfl) rfl rfl (fun _ => tl0) (fun hc => q_fa_i rfl underlying129 rfl (by exact sizeOf3) (by decide) rfl (rfl : _ = List.drop 4 _)) ?_
        refine AOps.g (wanted_to rfl rfl) rfl rfl (fun hc => tl1 185 (.opt hc)) (fun hc => q_load_i1 rfl isAgg3 rfl rfl) ?_
        refine AOps.g (wanted_to rfl rfl) rfl rfl (fun hc => tl1 186 (.opt hc)) (fun hc => q_gt rfl rfl rfl) ?_
        refine AOps.g (wanted_to rfl rfl) rfl rfl (fun hc => tl1 187 (.opt hc)) (fun hc => q_mv rfl (rfl : _ = V.bool _)) ?_
        refine AOps.g (wanted_fo rfl rfl) rfl rfl (fun _ => tl0) (fun hc => q_fa_i rfl underlying129 rfl (by exact sizeOf3) (by decide) rfl (rfl : _ = List.drop 4 _)) ?_
        refine AOps.g (wanted_fo rfl rfl) rfl rfl (fun hc => tl1 189 (.opt hc)) (fun hc => q_load_i1 rfl isAgg3 rfl rfl) ?_
        refine AOps.g (wanted_fo rfl rfl) rfl rfl (fun hc => tl1 190 (.opt hc)) (fun hc => q_lt rfl rfl rfl) ?_
        refine AOps.g (wanted_to rfl rfl) rfl rfl (fun hc => tl1 188 (.opt hc)) (fun hc => q_pickg rfl rfl (fun hp => by exact VLe.refl _) (fun hp => by first | exact VLe.opt hp | exact VLe.opt (by rw [hp]; rfl) | exact VLe.opt (by simp_all))) ?_
        refine .gf rfl rfl rfl (fun hc => tl1 184 (.opt hc)) (fun hc => q_pickg rfl rfl (fun hp => by first | exact VLe.opt hp | exact VLe.opt (by rw [hp]; rfl) | exact VLe.opt (by simp_all)) (fun hp => by exact VLe.refl _)) ?_
        refine .pf rfl rfl rfl rfl <|
          .nil ?_
        refine AW.cond rfl (fun c7 => ?_) (fun c7 => ?_)
        · skip
          refine .seq <|
            .region <|
            .aI rfl rfl <|
            .nil ?_
          refine AW.ret ?_
          exact retQ.mk' (.one _) (VLe.of_eq (congrArg (V.int .i64) (by simp at c0 c1; unfold evCheck; rw [if_neg (by simp [inN]; omega), if_neg (by simp [evSpare, evMakes]; grind), if_pos (by rw [evRanges_eq (by omega)]; revert c7; cases evOk x <;> simp <;> (intros; omega))]))) (HLe.refl _) ⟨rfl, rfl⟩
        · skip
          refine AW.skip ?_
          refine .seq <|
            .region <|
            .aI rfl rfl <|
            .nil ?_
          refine AW.ret ?_
          exact retQ.mk' (.one _) (VLe.of_eq (congrArg (V.int .i64) (by simp at c0 c1; unfold evCheck; rw [if_neg (by simp [inN]; omega), if_neg (by simp [evSpare, evMakes]; grind), if_neg (by rw [evRanges_eq (by omega)]; revert c7; cases evOk x <;> simp)]))) (HLe.refl _) ⟨rfl, rfl⟩

def remUp (l : List Int) (i k : Nat) : List Int := if k ≤ i then l.take k else l.take i ++ (l.take k).drop (i + 1)
theorem remUp_next {l : List Int} {i k : Nat} (hk : k < l.length) : remUp l i (k + 1) = if k = i then remUp l i k else remUp l i k ++ [l.getD k 0] := by
  have e : l.take (k + 1) = l.take k ++ [l.getD k 0] := by rw [List.take_add_one, List.getElem?_eq_getElem hk, getD_of hk]; rfl
  unfold remUp
  by_cases h1 : k < i
  · rw [if_pos (by omega), if_neg (by omega), if_pos (by omega), e]
  · by_cases h2 : k = i
    · subst h2
      rw [if_neg (by omega), if_pos rfl, if_pos (Nat.le_refl _), List.drop_eq_nil_of_le (by rw [List.length_take]; omega), List.append_nil]
    · rw [if_neg (by omega), if_neg h2, if_neg (by omega), e, List.drop_append_of_le_length (by rw [List.length_take]; omega), List.append_assoc]
theorem remUp_all {l : List Int} {i : Int} (h : 0 ≤ i ∧ i < l.length) : remUp l i.toNat l.length = (removeF l i).1 := by
  rw [remUp, if_neg (by omega), List.take_length, removeF, if_pos (by simp [inN]; omega)]
theorem remUp_len {l : List Int} {i k : Nat} (h : k ≤ l.length) : (remUp l i k).length ≤ k := by
  unfold remUp; split
  · rw [List.length_take]; omega
  · rw [List.length_append, List.length_drop, List.length_take, List.length_take]; omega
def insUp (l : List Int) (i : Nat) (x : Int) (k : Nat) : List Int := if k ≤ i then l.take k else l.take i ++ x :: (l.take k).drop i
theorem insUp_next {l : List Int} {i k : Nat} {x : Int} (hk : k < l.length) : insUp l i x (k + 1) = (if k = i then insUp l i x k ++ [x] else insUp l i x k) ++ [l.getD k 0] := by
  have e : l.take (k + 1) = l.take k ++ [l.getD k 0] := by rw [List.take_add_one, List.getElem?_eq_getElem hk, getD_of hk]; rfl
  unfold insUp
  by_cases h1 : k < i
  · rw [if_pos (by omega), if_neg (by omega), if_pos (by omega), e]
  · by_cases h2 : k = i
    · subst h2
      rw [if_neg (by omega), if_pos rfl, if_pos (Nat.le_refl _), e, List.drop_append_of_le_length (by rw [List.length_take]; omega), List.drop_eq_nil_of_le (by rw [List.length_take]; omega)]; simp
    · rw [if_neg (by omega), if_neg h2, if_neg (by omega), e, List.drop_append_of_le_length (by rw [List.length_take]; omega)]; simp
theorem insUp_last {l : List Int} {i : Nat} {x : Int} (hi : i ≤ l.length) : insUp l i x (l.length + 1) = if l.length = i then insUp l i x l.length ++ [x] else insUp l i x l.length := by
  unfold insUp
  rw [if_neg (by omega), List.take_of_length_le (i := l.length + 1) (l := l) (by omega)]
  by_cases h : l.length = i
  · subst h; rw [if_pos rfl, if_pos (Nat.le_refl _), List.take_length, List.drop_length]
  · rw [if_neg h, if_neg (by omega), List.take_length]
theorem insUp_all {l : List Int} {i x : Int} (h : 0 ≤ i ∧ i ≤ l.length) : insUp l i.toNat x (l.length + 1) = (insertF l i x).1 := by
  rw [insUp, if_neg (by omega), List.take_of_length_le (i := l.length + 1) (l := l) (by omega), insertF, if_pos (by simp [inN]; omega)]
theorem insUp_len {l : List Int} {i k : Nat} {x : Int} : (insUp l i x k).length ≤ k + 1 := by
  unfold insUp; split
  · rw [List.length_take]; omega
  · rw [List.length_append, List.length_cons, List.length_drop, List.length_take, List.length_take]; omega

theorem refRemove_calls (l : List Int) (a : Int) (ha : 0 ≤ a ∧ a < l.length) (hb : l.length ≤ 1000000) (h : Hp) : ACalls prog G 136 [eInts l, .int .i64 a] h fun r h' => r = eInts (removeF l a).1 ∧ h' = h := by
  refine ACalls.enter func136 rfl ntmps136 results136 rfl ?_
  refine .seq <|
    .region <|
    .aN rfl rfl <|
    .nil <|
    .seq <|
    .region ?_
  refine .u rfl rfl rfl (q_buildSl (ds := []) rfl underlying23 sizeOf3 zeroValue3 rfl rfl rfl rfl rfl) ?_
  refine .aS rfl rfl <|
    .nil <|
    .seq <|
    .seq <|
    .region <|
    .aI rfl rfl <|
    .nil <|
    .block ?_
  refine AW.loop (fun n T hh => ∃ (i : Nat) (v : V), i ≤ l.length ∧ n = l.length - i ∧ T = put (put (put (put (T0) 6 (V.int .i64 (i : Nat))) 5 (v)) 1 (V.int .i64 a)) 0 (eInts l) ∧ Go.AV.Acc h 1 (remUp l a.toNat i).length (cInts (remUp l a.toNat i)) v hh) (l.length) ?_ ?_
  · skip
    refine Wk.mk (TLe.put (d := 0) (VLe.refl _) (TLe.put (d := 1) (VLe.refl _) (TLe.put (d := 5) (VLe.refl _) (TLe.put (d := 6) (by exact VLe.of_eq (congrArg (V.int .i64) (by first | rfl | omega))) (TLe.zero _))))) (HLe.refl _) ⟨0, _, Nat.zero_le _, rfl, rfl, by exact Go.AV.Acc.full rfl⟩
  · skip
    rintro n T h' ⟨i, v, hi, rfl, rfl, hem⟩
    refine .seq <|
      .seq <|
      .region <|
      .mI rfl rfl <|
      .mS rfl rfl <|
      .ln rfl underlying23 rfl <|
      .ql rfl rfl rfl <|
      .nil ?_
    refine AW.cond rfl (fun c0 => ?_) (fun c0 => ?_)
    · have hlt : i < l.length := by have := of_decide_eq_true c0; omega
      have hul := remUp_len (l := l) (i := a.toNat) (k := i) (by omega)
      refine AW.skip ?_
      refine .seq <|
        .block <|
        .seq <|
        .region <|
        .mI rfl rfl <|
        .mI rfl rfl <|
        .qn rfl rfl rfl <|
        .nil ?_
      refine AW.cond rfl (fun c1 => ?_) (fun c1 => ?_)
      · skip
        refine .region ?_
        refine .u rfl rfl rfl (q_mv rfl (rfl : _ = _)) ?_
        refine .mS rfl rfl <|
          .mI rfl rfl ?_
        refine .u rfl rfl rfl (q_ia_s rfl underlying23 sizeOf3 rfl rfl (by omega) (by omega) (cInts_at hlt)) ?_
        refine .li rfl isAgg3 rfl rfl ?_
        refine .u rfl rfl rfl (q_buildSl rfl underlying23 sizeOf3 zeroValue3 rfl rfl rfl rfl rfl) ?_
        refine AOps.s rfl rfl rfl (a_append rfl underlying23 (i := t3) (by kernel_rfl) rfl (n := 1) (by' := 8) rfl rfl rfl rfl hem rfl rfl (by decide) (by omega) (by omega) rfl (fun v2 h2 acc => ?_))
        refine .u rfl rfl rfl (q_as rfl (rfl : _ = _)) ?_
        refine .nil <|
          .region <|
          .mI rfl rfl <|
          .ad rfl rfl rfl (by omega) <|
          .aI rfl rfl <|
          .nil ?_
        refine Wk.mk (TLe.put (d := 0) (VLe.refl _) (TLe.put (d := 1) (VLe.refl _) (TLe.put (d := 5) (VLe.refl _) (TLe.put (d := 6) (by exact VLe.of_eq (congrArg (V.int .i64) (by first | rfl | omega))) (TLe.zero _))))) (HLe.refl _) ⟨_, ?_, i + 1, _, ?_, rfl, rfl, by first | (rw [remUp_next hlt, if_neg (by have : ¬ (i : Int) = a := (by simpa using c1); omega), cInts_app, List.length_append]; exact acc) | (rw [remUp_next hlt, if_pos (by have : (i : Int) = a := (by simpa using c1); omega)]; exact hem)⟩
        · omega
        · omega
      · skip
        refine AW.skip ?_
        refine .region <|
          .mI rfl rfl <|
          .ad rfl rfl rfl (by omega) <|
          .aI rfl rfl <|
          .nil ?_
        refine Wk.mk (TLe.put (d := 0) (VLe.refl _) (TLe.put (d := 1) (VLe.refl _) (TLe.put (d := 5) (VLe.refl _) (TLe.put (d := 6) (by exact VLe.of_eq (congrArg (V.int .i64) (by first | rfl | omega))) (TLe.zero _))))) (HLe.refl _) ⟨_, ?_, i + 1, _, ?_, rfl, rfl, by first | (rw [remUp_next hlt, if_neg (by have : ¬ (i : Int) = a := (by simpa using c1); omega), cInts_app, List.length_append]; exact acc) | (rw [remUp_next hlt, if_pos (by have : (i : Int) = a := (by simpa using c1); omega)]; exact hem)⟩
        · omega
        · omega
    · obtain rfl : i = l.length := by have := of_decide_eq_false c0; omega
      rw [remUp_all ha] at hem
      refine AW.exit ?_
      refine .seq <|
        .region ?_
      refine .u rfl rfl rfl (q_mv rfl (rfl : _ = _)) ?_
      refine .u rfl rfl rfl (q_as rfl (rfl : _ = _)) ?_
      refine .nil ?_
      refine AW.ret ?_
      exact retQ.mk' (.one _) hem.vle hem.hle ⟨rfl, rfl⟩

theorem refInsert_calls (l : List Int) (a x : Int) (ha : 0 ≤ a ∧ a ≤ l.length) (hb : l.length ≤ 1000000) (h : Hp) : ACalls prog G 137 [eInts l, .int .i64 a, .int .i64 x] h fun r h' => r = eInts (insertF l a x).1 ∧ h' = h := by
  refine ACalls.enter func137 rfl ntmps137 results137 rfl ?_
  refine .seq <|
    .region <|
    .aN rfl rfl <|
    .nil <|
    .seq <|
    .region ?_
  refine .u rfl rfl rfl (q_buildSl (ds := []) rfl underlying23 sizeOf3 zeroValue3 rfl rfl rfl rfl rfl) ?_
  refine .aS rfl rfl <|
    .nil <|
    .seq <|
    .seq <|
    .region <|
    .aI rfl rfl <|
    .nil <|
    .block ?_
  refine AW.loop (fun n T hh => ∃ (i : Nat) (v : V), i ≤ l.length + 1 ∧ n = l.length + 1 - i ∧ T = put (put (put (put (put (T0) 8 (V.int .i64 (i : Nat))) 7 (v)) 2 (V.int .i64 x)) 1 (V.int .i64 a)) 0 (eInts l) ∧ Go.AV.Acc h 1 (insUp l a.toNat x i).length (cInts (insUp l a.toNat x i)) v hh) (l.length + 1) ?_ ?_
  · skip
    refine Wk.mk (TLe.put (d := 0) (VLe.refl _) (TLe.put (d := 1) (VLe.refl _) (TLe.put (d := 2) (VLe.refl _) (TLe.put (d := 7) (VLe.refl _) (TLe.put (d := 8) (by exact VLe.of_eq (congrArg (V.int .i64) (by first | rfl | omega))) (TLe.zero _)))))) (HLe.refl _) ⟨0, _, Nat.zero_le _, rfl, rfl, by exact Go.AV.Acc.full rfl⟩
  · skip
    rintro n T h' ⟨i, v, hi, rfl, rfl, hem⟩
    refine .seq <|
      .seq <|
      .region <|
      .mI rfl rfl <|
      .mS rfl rfl <|
      .ln rfl underlying23 rfl ?_
    refine .u rfl rfl rfl (q_le rfl rfl rfl) ?_
    refine .nil ?_
    refine AW.cond rfl (fun c0 => ?_) (fun c0 => ?_)
    · have hle1 : i ≤ l.length := by have := of_decide_eq_true c0; omega
      have hul := insUp_len (l := l) (i := a.toNat) (k := i) (x := x)
      refine AW.skip ?_
      refine .seq <|
        .block ?_
      refine AW.cut (fun T h1 => ∃ v2, T = put (put (put (put (put T0 0 (eInts l)) 1 (V.int .i64 a)) 2 (V.int .i64 x)) 7 v2) 8 (V.int .i64 (i : Nat)) ∧ Go.AV.Acc h 1 (if i = a.toNat then insUp l a.toNat x i ++ [x] else insUp l a.toNat x i).length (cInts (if i = a.toNat then insUp l a.toNat x i ++ [x] else insUp l a.toNat x i)) v2 h1) ?_ ?_
      · skip
        refine .seq <|
          .region <|
          .mI rfl rfl <|
          .mI rfl rfl <|
          .qe rfl rfl rfl <|
          .nil ?_
        refine AW.cond rfl (fun c1 => ?_) (fun c1 => ?_)
        · have e1 : (i : Int) = a := by simpa using c1
          refine .region ?_
          refine .u rfl rfl rfl (q_mv rfl (rfl : _ = _)) ?_
          refine .mI rfl rfl ?_
          refine .u rfl rfl rfl (q_buildSl rfl underlying23 sizeOf3 zeroValue3 rfl rfl rfl rfl rfl) ?_
          refine AOps.s rfl rfl rfl (a_append rfl underlying23 (i := t3) (by kernel_rfl) rfl (n := 1) (by' := 8) rfl rfl rfl rfl hem rfl rfl (by decide) (by omega) (by omega) rfl (fun v2 h2 acc => ?_))
          refine .u rfl rfl rfl (q_as rfl (rfl : _ = _)) ?_
          refine .nil ?_
          exact Wk.mk (TLe.put (d := 8) (.refl _) (TLe.put (d := 7) (.refl _) (TLe.put (d := 2) (.refl _) (TLe.put (d := 1) (.refl _) (TLe.put (d := 0) (.refl _) (TLe.zero _)))))) (HLe.refl _) ⟨_, rfl, by first | (rw [if_pos (by omega), cInts_app, List.length_append]; exact acc) | (rw [if_neg (by omega)]; exact hem)⟩
        · have e1 : ¬ (i : Int) = a := by simpa using c1
          refine AW.skip ?_
          exact Wk.mk (TLe.put (d := 8) (.refl _) (TLe.put (d := 7) (.refl _) (TLe.put (d := 2) (.refl _) (TLe.put (d := 1) (.refl _) (TLe.put (d := 0) (.refl _) (TLe.zero _)))))) (HLe.refl _) ⟨_, rfl, by first | (rw [if_pos (by omega), cInts_app, List.length_append]; exact acc) | (rw [if_neg (by omega)]; exact hem)⟩
      · rintro T h1 ⟨v2, rfl, hem2⟩
        have hul2 : (if i = a.toNat then insUp l a.toNat x i ++ [x] else insUp l a.toNat x i).length ≤ i + 2 := by
          split
          · rw [List.length_append]; simp; omega
          · omega
        refine .seq <|
          .region <|
          .mI rfl rfl <|
          .mS rfl rfl <|
          .ln rfl underlying23 rfl <|
          .ql rfl rfl rfl <|
          .nil ?_
        refine AW.cond rfl (fun c2 => ?_) (fun c2 => ?_)
        · have hlt : i < l.length := by have := of_decide_eq_true c2; omega
          refine .region ?_
          refine .u rfl rfl rfl (q_mv rfl (rfl : _ = _)) ?_
          refine .mS rfl rfl <|
            .mI rfl rfl ?_
          refine .u rfl rfl rfl (q_ia_s rfl underlying23 sizeOf3 rfl rfl (by omega) (by omega) (cInts_at hlt)) ?_
          refine .li rfl isAgg3 rfl rfl ?_
          refine .u rfl rfl rfl (q_buildSl rfl underlying23 sizeOf3 zeroValue3 rfl rfl rfl rfl rfl) ?_
          refine AOps.s rfl rfl rfl (a_append rfl underlying23 (i := t3) (by kernel_rfl) rfl (n := 1) (by' := 8) rfl rfl rfl rfl hem2 rfl rfl (by decide) (by omega) (by omega) rfl (fun v3 h3 acc3 => ?_))
          refine .u rfl rfl rfl (q_as rfl (rfl : _ = _)) ?_
          refine .nil <|
            .region <|
            .mI rfl rfl <|
            .ad rfl rfl rfl (by omega) <|
            .aI rfl rfl <|
            .nil ?_
          refine Wk.mk (TLe.put (d := 0) (VLe.refl _) (TLe.put (d := 1) (VLe.refl _) (TLe.put (d := 2) (VLe.refl _) (TLe.put (d := 7) (VLe.refl _) (TLe.put (d := 8) (by exact VLe.of_eq (congrArg (V.int .i64) (by first | rfl | omega))) (TLe.zero _)))))) (HLe.refl _) ⟨_, ?_, i + 1, _, ?_, rfl, rfl, by first | (rw [insUp_next (by omega), cInts_app, List.length_append]; exact acc3) | (have e2 : i = l.length := (by omega); subst e2; have e3 := insUp_last (x := x) (show a.toNat ≤ l.length by omega); rw [e3]; exact hem2)⟩
          · omega
          · omega
        · have hge : ¬ i < l.length := by have := of_decide_eq_false c2; omega
          refine AW.skip ?_
          refine .region <|
            .mI rfl rfl <|
            .ad rfl rfl rfl (by omega) <|
            .aI rfl rfl <|
            .nil ?_
          refine Wk.mk (TLe.put (d := 0) (VLe.refl _) (TLe.put (d := 1) (VLe.refl _) (TLe.put (d := 2) (VLe.refl _) (TLe.put (d := 7) (VLe.refl _) (TLe.put (d := 8) (by exact VLe.of_eq (congrArg (V.int .i64) (by first | rfl | omega))) (TLe.zero _)))))) (HLe.refl _) ⟨_, ?_, i + 1, _, ?_, rfl, rfl, by first | (rw [insUp_next (by omega), cInts_app, List.length_append]; exact acc3) | (have e2 : i = l.length := (by omega); subst e2; have e3 := insUp_last (x := x) (show a.toNat ≤ l.length by omega); rw [e3]; exact hem2)⟩
          · omega
          · omega
    · obtain rfl : i = l.length + 1 := by have := of_decide_eq_false c0; omega
      rw [insUp_all ha] at hem
      refine AW.exit ?_
      refine .seq <|
        .region ?_
      refine .u rfl rfl rfl (q_mv rfl (rfl : _ = _)) ?_
      refine .u rfl rfl rfl (q_as rfl (rfl : _ = _)) ?_
      refine .nil ?_
      refine AW.ret ?_
      exact retQ.mk' (.one _) hem.vle hem.hle ⟨rfl, rfl⟩

end Go.Proofs.YtijhmlkffkedeaaGreatDoor
