/- Walks: the document's effects that last. -/
import Derived.Test.YtnbmcbkokaoapaaGreatDoorRefbits
namespace Go.Proofs.YtnbmcbkokaoapaaGreatDoor
open Go Go.AV
set_option maxRecDepth 100000
set_option maxHeartbeats 1000000
/-- An effect that lasts, as the document lists it. -/
structure RStat where
  id : Int
  doo : Eff
def cRStat (x : RStat) : List V := .int .i64 x.id :: cEff x.doo
def cRStats (l : List RStat) : List V := l.flatMap cRStat
def rAbs (s : St) (id : Int) (l : List Abil) : List RStat := (l.filter fun a => a.when == 5).map fun a => ⟨id, a.doo⟩
def rstatsOf (s : St) (id : Int) : List RStat := rAbs s id (kindF s id).abs
def rstatsF (s : St) : List RStat := (s.lists 8).flatMap (rstatsOf s)
def rUp (s : St) (i k : Nat) : List RStat := ((s.lists 8).take i).flatMap (rstatsOf s) ++ rAbs s ((s.lists 8).getD i 0) ((kindF s ((s.lists 8).getD i 0)).abs.take k)
theorem rUp_next {s : St} {i : Nat} (h : i < (s.lists 8).length) : rUp s i (kindF s ((s.lists 8).getD i 0)).abs.length = rUp s (i + 1) 0 := by
  rw [rUp, List.take_length, rUp, List.take_zero, List.take_add_one, List.getElem?_eq_getElem h, getD_of h, Option.toList_some, List.flatMap_append]
  simp only [List.flatMap_cons, List.flatMap_nil, List.append_nil, rstatsOf, rAbs, List.filter_nil, List.map_nil]
theorem rUp_yes {s : St} {i k : Nat} (h : k < (kindF s ((s.lists 8).getD i 0)).abs.length) (c : ((kindF s ((s.lists 8).getD i 0)).abs.getD k noAb).when = 5) : rUp s i (k + 1) = rUp s i k ++ [⟨(s.lists 8).getD i 0, ((kindF s ((s.lists 8).getD i 0)).abs.getD k noAb).doo⟩] := by
  rw [getD_of' h] at c ⊢
  rw [rUp, rUp, List.take_add_one, List.getElem?_eq_getElem h, Option.toList_some, rAbs, rAbs, List.filter_append, List.map_append, List.append_assoc]
  simp only [List.filter_cons, c, List.filter_nil]; rfl
theorem rUp_no {s : St} {i k : Nat} (h : k < (kindF s ((s.lists 8).getD i 0)).abs.length) (c : ¬ ((kindF s ((s.lists 8).getD i 0)).abs.getD k noAb).when = 5) : rUp s i (k + 1) = rUp s i k := by
  rw [getD_of' h] at c
  rw [rUp, rUp, List.take_add_one, List.getElem?_eq_getElem h, Option.toList_some, rAbs, rAbs, List.filter_append, List.map_append]
  have : ((kindF s ((s.lists 8).getD i 0)).abs[k].when == 5) = false := by simpa using c
  simp only [List.filter_cons, this, List.filter_nil]; simp
theorem rUp_all {s : St} : rUp s (s.lists 8).length 0 = rstatsF s := by simp [rUp, rstatsF, rAbs]
theorem rstat_app (l : List RStat) (x : RStat) : cRStats (l ++ [x]) = cRStats l ++ cRStat x := by simp [cRStats]
theorem rAbs_len {s : St} {id : Int} {l : List Abil} : (rAbs s id l).length ≤ l.length := by rw [rAbs, List.length_map]; exact List.length_filter_le _ _
theorem rUp_len {s : St} (hl : (s.lists 8).length ≤ 1000000) {i k : Nat} : (rUp s i k).length ≤ 10000000 := by
  have h1 : ∀ id, (rstatsOf s id).length ≤ 4 := fun id => Nat.le_trans rAbs_len (cardE_abs _)
  have h2 : ∀ l : List Int, (l.flatMap (rstatsOf s)).length ≤ l.length * 4 := fun l => by
    induction l with
    | nil => simp
    | cons a l ih => rw [List.flatMap_cons, List.length_append, List.length_cons]; have := h1 a; omega
  have h3 := h2 ((s.lists 8).take i)
  have h4 : ((s.lists 8).take i).length ≤ 1000000 := Nat.le_trans (List.length_take_le' _ _) hl
  have h5 : (rAbs s ((s.lists 8).getD i 0) ((kindF s ((s.lists 8).getD i 0)).abs.take k)).length ≤ 4 := Nat.le_trans rAbs_len (Nat.le_trans (List.length_take_le' _ _) (cardE_abs _))
  rw [rUp, List.length_append]; omega
theorem abil_elem_n {l : List Abil} {k : Nat} (h : k < l.length) : ((l.flatMap cAbil).drop (Int.toNat (k : Int) * 14)).take 14 = cAbil (l.getD k noAb) := flat_at (f := cAbil) (n := 14) (fun _ => rfl) noAb h
theorem rstat_elem {l : List RStat} {z : RStat} {k : Nat} (h : k < l.length) : ((cRStats l).drop (Int.toNat (k : Int) * 6)).take 6 = cRStat (l.getD k z) := flat_at (f := cRStat) (n := 6) (fun _ => rfl) z h
def withinF (s : St) (x : RStat) (i : Int) : Bool :=
  let same := s.objs.getD i.toNat noObj 2 == s.objs.getD x.id.toNat noObj 2
  x.doo.n == 0 || x.doo.n == 1 && same || x.doo.n == 2 && !same || x.doo.n == 3 && same && x.id != i

theorem refKind_calls (s : St) (i : Int) (hi : 0 ≤ i ∧ i < s.objs.length) (h : Hp) : ACalls Tryz.prog G 60 [eState s, .int .i64 i] h fun r h' => r = eCard (kindF s i) ∧ h' = h := by
  refine ACalls.enter Tryz.func60 rfl Tryz.ntmps60 Tryz.results60 rfl ?_
  refine AW.seq ?_
  refine AW.region ?_
  refine AOps.q rfl rfl rfl (q_boxa rfl (rfl : _ = V.agg _)) ?_
  refine AOps.s rfl rfl rfl (a_alloc rfl Tryz.zeroValue92 rfl (fun id4 hid4 => ?_))
  refine AOps.nil ?_
  refine AW.seq ?_
  refine AW.region ?_
  refine AOps.q rfl rfl rfl (q_fa_i rfl Tryz.underlying29 rfl (by exact Tryz.sizeOf22) (by decide) rfl (rfl : _ = List.drop 0 _)) ?_
  refine AOps.q rfl rfl rfl (q_load_i1 rfl Tryz.isAgg22 rfl rfl) ?_
  refine AOps.q rfl rfl rfl (q_mv rfl (rfl : _ = V.int _ _)) ?_
  refine AOps.q rfl rfl rfl (q_ia_s rfl Tryz.underlying22 Tryz.sizeOf49 rfl rfl (by omega) (by omega) (cObjs_elem' (by omega) (by omega))) ?_
  refine AOps.q rfl rfl rfl (q_ia_ai rfl Tryz.underlying49 Tryz.sizeOf3 rfl rfl (by decide) (by decide) rfl) ?_
  refine AOps.q rfl rfl rfl (q_load_i1 rfl Tryz.isAgg3 rfl rfl) ?_
  refine AOps.q rfl rfl rfl (QOp.call rfl (by exact Tryz.call90) fun h' hl' => by exact refCard_calls _ h') ?_
  refine AOps.q rfl rfl rfl (q_mv rfl (rfl : _ = V.tup _)) ?_
  refine AOps.q rfl rfl rfl (q_extract rfl rfl rfl) ?_
  refine AOps.q rfl rfl rfl (q_extract rfl rfl rfl) ?_
  refine AOps.s rfl rfl rfl (a_alloc rfl Tryz.zeroValue92 rfl (fun id5 hid5 => ?_))
  refine AOps.s0 rfl rfl (a_storeWA rfl Tryz.sizeOf92 rfl rfl (rfl : _ = V.agg _) rfl rfl ?_)
  refine AOps.done 5 rfl hid5 ?_
  refine AOps.q rfl rfl rfl (q_as rfl (rfl : _ = V.bool _)) ?_
  refine AOps.nil ?_
  refine AW.seq ?_
  refine AW.region ?_
  refine AOps.q rfl rfl rfl (q_load_iW rfl Tryz.isAgg92 Tryz.sizeOf92 rfl (by rfl)) ?_
  refine AOps.s0 rfl rfl (a_storeWA rfl Tryz.sizeOf92 rfl rfl (rfl : _ = V.agg _) rfl rfl ?_)
  refine AOps.nil ?_
  refine AW.ret ?_
  exact retQ.mk' (Res.cellB Tryz.isAgg92 Tryz.sizeOf92 rfl (by exact Hp.box_setBox _ _ _) rfl) (VLe.refl _) (HLe.setBox hid4.1) ⟨rfl, rfl⟩

theorem refIs_calls (s : St) (i : Int) (h : Hp) : ACalls Tryz.prog G 36 [eState s, .int .i64 i] h fun r h' => r = .bool (creatureF s i) ∧ h' = h := by
  refine ACalls.enter Tryz.func36 rfl Tryz.ntmps36 Tryz.results36 rfl ?_
  refine AW.seq ?_
  refine AW.region ?_
  refine AOps.q rfl rfl rfl (q_boxa rfl (rfl : _ = V.agg _)) ?_
  refine AOps.q rfl rfl rfl (q_as rfl (rfl : _ = V.bool _)) ?_
  refine AOps.nil ?_
  refine AW.seq ?_
  refine AW.region ?_
  refine AOps.q rfl rfl rfl (q_mv rfl (rfl : _ = V.int _ _)) ?_
  refine AOps.q rfl rfl rfl (q_ge rfl rfl rfl) ?_
  refine AOps.q rfl rfl rfl (q_mv rfl (rfl : _ = V.bool _)) ?_
  refine AOps.g (wanted_t rfl rfl) rfl rfl (fun hc => TLe.refl _) (fun hc => q_mv rfl (rfl : _ = V.int _ _)) ?_
  refine AOps.g (wanted_t rfl rfl) rfl rfl (fun hc => TLe.refl _) (fun hc => q_fa_i rfl Tryz.underlying29 rfl (by exact Tryz.sizeOf22) (by decide) rfl (rfl : _ = List.drop 0 _)) ?_
  refine AOps.g (wanted_t rfl rfl) rfl rfl (fun hc => TLe.put (d := 9) (VLe.opt hc) (TLe.refl _)) (fun hc => q_load_i1 rfl Tryz.isAgg22 rfl rfl) ?_
  refine AOps.g (wanted_t rfl rfl) rfl rfl (fun hc => TLe.put (d := 10) (VLe.opt hc) (TLe.refl _)) (fun hc => q_len rfl Tryz.underlying22 rfl) ?_
  refine AOps.g (wanted_t rfl rfl) rfl rfl (fun hc => TLe.put (d := 11) (VLe.opt hc) (TLe.put (d := 8) (VLe.opt hc) (TLe.refl _))) (fun hc => q_lt rfl rfl rfl) ?_
  refine AOps.q rfl rfl rfl (q_pickg rfl rfl (fun hp => by exact VLe.opt hp) (fun hp => by exact VLe.refl _)) ?_
  refine AOps.q rfl rfl rfl (q_mv rfl (rfl : _ = V.bool _)) ?_
  refine AOps.g (wanted_t rfl rfl) rfl rfl (fun hc => TLe.refl _) (fun hc => q_fa_i rfl Tryz.underlying29 rfl (by exact Tryz.sizeOf22) (by decide) rfl (rfl : _ = List.drop 0 _)) ?_
  refine AOps.g (wanted_t rfl rfl) rfl rfl (fun hc => TLe.put (d := 15) (VLe.opt hc) (TLe.refl _)) (fun hc => q_load_i1 rfl Tryz.isAgg22 rfl rfl) ?_
  refine AOps.g (wanted_t rfl rfl) rfl rfl (fun hc => TLe.refl _) (fun hc => q_mv rfl (rfl : _ = V.int _ _)) ?_
  refine AOps.g (wanted_t rfl rfl) rfl rfl (fun hc => TLe.put (d := 17) (VLe.opt hc) (TLe.put (d := 16) (VLe.opt hc) (TLe.refl _))) (fun hc => q_ia_s rfl Tryz.underlying22 Tryz.sizeOf49 rfl rfl (cr_in hc).1 (cr_in hc).2 (cObjs_elem' (cr_in hc).1 (cr_in hc).2)) ?_
  refine AOps.g (wanted_t rfl rfl) rfl rfl (fun hc => TLe.put (d := 18) (VLe.opt hc) (TLe.refl _)) (fun hc => q_ia_ai rfl Tryz.underlying49 Tryz.sizeOf3 rfl rfl (by decide) (by decide) rfl) ?_
  refine AOps.g (wanted_t rfl rfl) rfl rfl (fun hc => TLe.put (d := 19) (VLe.opt hc) (TLe.refl _)) (fun hc => q_load_i1 rfl Tryz.isAgg3 rfl rfl) ?_
  refine AOps.g (wanted_t rfl rfl) rfl rfl (fun hc => TLe.put (d := 20) (VLe.opt hc) (TLe.refl _)) (fun hc => q_eq rfl rfl rfl) ?_
  refine AOps.q rfl rfl rfl (q_pickg rfl rfl (fun hp => by exact VLe.opt hp) (fun hp => by exact VLe.refl _)) ?_
  refine AOps.q rfl rfl rfl (q_mv rfl (rfl : _ = V.bool _)) ?_
  refine AOps.g (wanted_t rfl rfl) rfl rfl (fun hc => TLe.refl _) (fun hc => q_load_iW rfl Tryz.isAgg29 Tryz.sizeOf29 rfl (by rfl)) ?_
  refine AOps.g (wanted_t rfl rfl) rfl rfl (fun hc => TLe.refl _) (fun hc => q_mv rfl (rfl : _ = V.int _ _)) ?_
  refine AOps.g (wanted_t rfl rfl) rfl rfl (fun hc => TLe.put (d := 25) (VLe.opt hc) (TLe.put (d := 24) (VLe.opt hc) (TLe.refl _))) (fun hc => QOp.call rfl (by exact Tryz.call60) fun h' hl' => by exact refKind_calls _ _ (cr_in2 hc) h') ?_
  refine AOps.g (wanted_t rfl rfl) rfl rfl (fun hc => TLe.put (d := 26) (VLe.opt hc) (TLe.refl _)) (fun hc => q_f1 rfl Tryz.underlying92 rfl (by exact Tryz.isAgg3) rfl rfl) ?_
  refine AOps.g (wanted_t rfl rfl) rfl rfl (fun hc => TLe.put (d := 27) (VLe.opt hc) (TLe.refl _)) (fun hc => q_eq rfl rfl rfl) ?_
  refine AOps.q rfl rfl rfl (q_pickg rfl rfl (fun hp => by exact VLe.opt hp) (fun hp => by exact VLe.refl _)) ?_
  refine AOps.q rfl rfl rfl (q_as rfl (rfl : _ = V.bool _)) ?_
  refine AOps.nil ?_
  refine AW.ret ?_
  exact retQ.mk' (.one _) (VLe.of_eq (congrArg V.bool (cr_eq))) (HLe.refl _) ⟨rfl, rfl⟩

theorem refStatics_calls (s : St) (hz : ∀ id ∈ s.lists 8, 0 ≤ id ∧ id < s.objs.length) (hl : (s.lists 8).length ≤ 1000000) (h : Hp) : ACalls Tryz.prog G 61 [eState s] h fun r h' => r = .sl .imm 6 (rstatsF s).length (cRStats (rstatsF s)) ∧ h' = h := by
  refine ACalls.enter Tryz.func61 rfl Tryz.ntmps61 Tryz.results61 rfl ?_
  refine AW.seq ?_
  refine AW.region ?_
  refine AOps.q rfl rfl rfl (q_boxa rfl (rfl : _ = V.agg _)) ?_
  refine AOps.q rfl rfl rfl (q_as rfl (rfl : _ = V.snil)) ?_
  refine AOps.nil ?_
  refine AW.seq ?_
  refine AW.region ?_
  refine AOps.q rfl rfl rfl (q_buildSl (ds := []) rfl Tryz.underlying95 Tryz.sizeOf101 Tryz.zeroValue101 rfl rfl rfl rfl rfl) ?_
  refine AOps.q rfl rfl rfl (q_as rfl (rfl : _ = V.sl _ _ _ _)) ?_
  refine AOps.nil ?_
  refine AW.seq ?_
  refine AW.seq ?_
  refine AW.region ?_
  refine AOps.q rfl rfl rfl (q_fa_i rfl Tryz.underlying29 rfl (by exact Tryz.sizeOf24) (by decide) rfl (rfl : _ = List.drop 1 _)) ?_
  refine AOps.q rfl rfl rfl (q_ia_ai rfl Tryz.underlying24 Tryz.sizeOf23 rfl rfl (by decide) (by decide) rfl) ?_
  refine AOps.q rfl rfl rfl (q_load_i1 rfl Tryz.isAgg23 rfl rfl) ?_
  refine AOps.q rfl rfl rfl (q_len rfl Tryz.underlying23 rfl) ?_
  refine AOps.q rfl rfl rfl (q_mv rfl (rfl : _ = V.int _ _)) ?_
  refine AOps.nil ?_
  refine AW.block ?_
  refine AW.loop (fun n T hh => ∃ (i : Nat) (v : V), i ≤ (s.lists 8).length ∧ n = (s.lists 8).length - i ∧ T = put (put (put (put (put (T0) 13 (V.int .i64 (i : Nat))) 12 (V.int .i64 (s.lists 8).length)) 11 (eInts (s.lists 8))) 3 (v)) 1 (V.iptr (cState s)) ∧ Go.AV.Acc h 6 (rUp s i 0).length (cRStats (rUp s i 0)) v hh) ((s.lists 8).length) ?_ ?_
  · skip
    refine Wk.mk (TLe.put (d := 1) (VLe.refl _) (TLe.put (d := 3) (VLe.refl _) (TLe.put (d := 11) (VLe.refl _) (TLe.put (d := 12) (VLe.refl _) (TLe.put (d := 13) (by exact VLe.of_eq (congrArg (V.int .i64) (by first | rfl | omega))) (TLe.zero _)))))) (HLe.refl _) ⟨0, _, Nat.zero_le _, rfl, rfl, by exact Go.AV.Acc.full rfl⟩
  · skip
    rintro n T h' ⟨i, v, hi, rfl, rfl, hem⟩
    refine AW.seq ?_
    refine AW.region ?_
    refine AOps.q rfl rfl rfl (q_lt rfl rfl rfl) ?_
    refine AOps.nil ?_
    refine AW.seq ?_
    refine AW.cond rfl (fun c0 => ?_) (fun c0 => ?_)
    · have hlt : i < (s.lists 8).length := by have := of_decide_eq_true c0; omega
      have hid := hz _ (getD_mem hlt)
      have hab : (kindF s ((s.lists 8).getD i 0)).abs.length ≤ 4 := cardE_abs (s.objs.getD ((s.lists 8).getD i 0).toNat noObj 0)
      refine AW.skip ?_
      refine AW.seq ?_
      refine AW.block ?_
      refine AW.seq ?_
      refine AW.region ?_
      refine AOps.q rfl rfl rfl (q_ia_s rfl Tryz.underlying23 Tryz.sizeOf3 rfl rfl (by omega) (by omega) (cInts_at hlt)) ?_
      refine AOps.q rfl rfl rfl (q_load_i1 rfl Tryz.isAgg3 rfl rfl) ?_
      refine AOps.q rfl rfl rfl (q_as rfl (rfl : _ = V.int _ _)) ?_
      refine AOps.nil ?_
      refine AW.seq ?_
      refine AW.region ?_
      refine AOps.q rfl rfl rfl (q_load_iW rfl Tryz.isAgg29 Tryz.sizeOf29 rfl (by rfl)) ?_
      refine AOps.q rfl rfl rfl (q_mv rfl (rfl : _ = V.int _ _)) ?_
      refine AOps.q rfl rfl rfl (QOp.call rfl (by exact Tryz.call60) fun h' hl' => by exact refKind_calls s _ hid h') ?_
      refine AOps.q rfl rfl rfl (q_f1 rfl Tryz.underlying92 rfl (by exact Tryz.isAgg90) rfl rfl) ?_
      refine AOps.q rfl rfl rfl (q_len rfl Tryz.underlying90 rfl) ?_
      refine AOps.q rfl rfl rfl (q_mv rfl (rfl : _ = V.int _ _)) ?_
      refine AOps.nil ?_
      refine AW.block ?_
      refine AW.loop (fun n T hh => ∃ (k : Nat) (v2 : V), k ≤ (kindF s ((s.lists 8).getD i 0)).abs.length ∧ n = (kindF s ((s.lists 8).getD i 0)).abs.length - k ∧ T = put (put (put (put (put (put (put (put (put (T0) 22 (V.int .i64 (k : Nat))) 21 (V.int .i64 (kindF s ((s.lists 8).getD i 0)).abs.length)) 20 (V.sl .imm 14 (kindF s ((s.lists 8).getD i 0)).abs.length ((kindF s ((s.lists 8).getD i 0)).abs.flatMap cAbil))) 13 (V.int .i64 (i : Nat))) 12 (V.int .i64 (s.lists 8).length)) 11 (eInts (s.lists 8))) 5 (V.int .i64 ((s.lists 8).getD i 0))) 3 (v2)) 1 (V.iptr (cState s)) ∧ Go.AV.Acc h 6 (rUp s i k).length (cRStats (rUp s i k)) v2 hh) ((kindF s ((s.lists 8).getD i 0)).abs.length) ?_ ?_
      · skip
        refine Wk.mk (TLe.put (d := 1) (VLe.refl _) (TLe.put (d := 3) (VLe.refl _) (TLe.put (d := 5) (VLe.refl _) (TLe.put (d := 11) (VLe.refl _) (TLe.put (d := 12) (VLe.refl _) (TLe.put (d := 13) (VLe.refl _) (TLe.put (d := 20) (VLe.refl _) (TLe.put (d := 21) (VLe.refl _) (TLe.put (d := 22) (by exact VLe.of_eq (congrArg (V.int .i64) (by first | rfl | omega))) (TLe.zero _)))))))))) (HLe.refl _) ⟨0, v, Nat.zero_le _, rfl, rfl, by exact hem⟩
      · skip
        rintro n T h' ⟨k, v2, hk, rfl, rfl, hem2⟩
        refine AW.seq ?_
        refine AW.region ?_
        refine AOps.q rfl rfl rfl (q_lt rfl rfl rfl) ?_
        refine AOps.nil ?_
        refine AW.seq ?_
        refine AW.cond rfl (fun c1 => ?_) (fun c1 => ?_)
        · have hltk : k < (kindF s ((s.lists 8).getD i 0)).abs.length := by have := of_decide_eq_true c1; omega
          have hul := rUp_len hl (i := i) (k := k)
          refine AW.skip ?_
          refine AW.seq ?_
          refine AW.block ?_
          refine AW.seq ?_
          refine AW.region ?_
          refine AOps.q rfl rfl rfl (q_ia_s rfl Tryz.underlying90 Tryz.sizeOf136 rfl rfl (by omega) (by omega) (abil_elem_n hltk)) ?_
          refine AOps.q rfl rfl rfl (q_load_iW rfl Tryz.isAgg136 Tryz.sizeOf136 rfl (by rfl)) ?_
          refine AOps.s rfl rfl rfl (a_alloc rfl Tryz.zeroValue136 rfl (fun id7 hid7 => ?_))
          refine AOps.s0 rfl rfl (a_storeWA rfl Tryz.sizeOf136 rfl rfl (rfl : _ = V.agg _) rfl rfl ?_)
          refine AOps.done 7 rfl hid7 ?_
          refine AOps.nil ?_
          refine AW.seq ?_
          refine AW.region ?_
          refine AOps.q rfl rfl rfl (q_fa_i rfl Tryz.underlying136 rfl (by exact Tryz.sizeOf3) (by decide) rfl (rfl : _ = List.drop 0 _)) ?_
          refine AOps.q rfl rfl rfl (q_load_i1 rfl Tryz.isAgg3 rfl rfl) ?_
          refine AOps.q rfl rfl rfl (q_eq rfl rfl rfl) ?_
          refine AOps.nil ?_
          refine AW.cond rfl (fun c2 => ?_) (fun c2 => ?_)
          · have c5 : ((kindF s ((s.lists 8).getD i 0)).abs.getD k noAb).when = 5 := by simpa using c2
            refine AW.region ?_
            refine AOps.q rfl rfl rfl (q_mv rfl (rfl : _ = _)) ?_
            refine AOps.q rfl rfl rfl (q_mv rfl (rfl : _ = V.int _ _)) ?_
            refine AOps.q rfl rfl rfl (q_fa_i rfl Tryz.underlying136 rfl (by exact Tryz.sizeOf99) (by decide) rfl (rfl : _ = List.drop 9 _)) ?_
            refine AOps.q rfl rfl rfl (q_load_iN (ds := cEff ((kindF s ((s.lists 8).getD i 0)).abs.getD k noAb).doo) rfl Tryz.isAgg99 Tryz.sizeOf99 rfl rfl rfl) ?_
            refine AOps.q rfl rfl rfl (q_buildS (ds := cRStat ⟨(s.lists 8).getD i 0, ((kindF s ((s.lists 8).getD i 0)).abs.getD k noAb).doo⟩) rfl Tryz.zeroValue101 Tryz.underlying101 (pl101 Tryz.underlying101) rfl (by kernel_rfl)) ?_
            refine AOps.q rfl rfl rfl (q_buildSl (ds := cRStat ⟨(s.lists 8).getD i 0, ((kindF s ((s.lists 8).getD i 0)).abs.getD k noAb).doo⟩) rfl Tryz.underlying95 Tryz.sizeOf101 Tryz.zeroValue101 rfl rfl rfl rfl (by kernel_rfl)) ?_
            refine AOps.s rfl rfl rfl (a_append rfl Tryz.underlying95 (i := Tryz.t101) (by kernel_rfl) rfl (n := 6) (by' := 64) rfl rfl rfl rfl hem2 rfl rfl (by decide) (by omega) (by omega) rfl (fun v3 h3 acc => ?_))
            refine AOps.q rfl rfl rfl (q_as rfl (rfl : _ = _)) ?_
            refine AOps.nil ?_
            refine AW.region ?_
            refine AOps.q rfl rfl rfl (q_add' rfl rfl rfl (by omega)) ?_
            refine AOps.q rfl rfl rfl (q_mv rfl (rfl : _ = V.int _ _)) ?_
            refine AOps.nil ?_
            refine Wk.mk (TLe.put (d := 1) (VLe.refl _) (TLe.put (d := 3) (VLe.refl _) (TLe.put (d := 5) (VLe.refl _) (TLe.put (d := 11) (VLe.refl _) (TLe.put (d := 12) (VLe.refl _) (TLe.put (d := 13) (VLe.refl _) (TLe.put (d := 20) (VLe.refl _) (TLe.put (d := 21) (VLe.refl _) (TLe.put (d := 22) (by exact VLe.of_eq (congrArg (V.int .i64) (by first | rfl | omega))) (TLe.zero _)))))))))) (HLe.refl _) ⟨_, ?_, k + 1, _, ?_, rfl, rfl, by first | (rw [rUp_yes hltk c5, rstat_app, List.length_append]; exact acc) | (rw [rUp_no hltk c5]; exact hem2)⟩
            · omega
            · omega
          · have c5 : ¬ ((kindF s ((s.lists 8).getD i 0)).abs.getD k noAb).when = 5 := by simpa using c2
            refine AW.skip ?_
            refine AW.region ?_
            refine AOps.q rfl rfl rfl (q_add' rfl rfl rfl (by omega)) ?_
            refine AOps.q rfl rfl rfl (q_mv rfl (rfl : _ = V.int _ _)) ?_
            refine AOps.nil ?_
            refine Wk.mk (TLe.put (d := 1) (VLe.refl _) (TLe.put (d := 3) (VLe.refl _) (TLe.put (d := 5) (VLe.refl _) (TLe.put (d := 11) (VLe.refl _) (TLe.put (d := 12) (VLe.refl _) (TLe.put (d := 13) (VLe.refl _) (TLe.put (d := 20) (VLe.refl _) (TLe.put (d := 21) (VLe.refl _) (TLe.put (d := 22) (by exact VLe.of_eq (congrArg (V.int .i64) (by first | rfl | omega))) (TLe.zero _)))))))))) (HLe.refl _) ⟨_, ?_, k + 1, _, ?_, rfl, rfl, by first | (rw [rUp_yes hltk c5, rstat_app, List.length_append]; exact acc) | (rw [rUp_no hltk c5]; exact hem2)⟩
            · omega
            · omega
        · obtain rfl : k = (kindF s ((s.lists 8).getD i 0)).abs.length := by have := of_decide_eq_false c1; omega
          refine AW.exit ?_
          refine AW.region ?_
          refine AOps.q rfl rfl rfl (q_add' rfl rfl rfl (by omega)) ?_
          refine AOps.q rfl rfl rfl (q_mv rfl (rfl : _ = V.int _ _)) ?_
          refine AOps.nil ?_
          refine Wk.mk (TLe.put (d := 1) (VLe.refl _) (TLe.put (d := 3) (VLe.refl _) (TLe.put (d := 11) (VLe.refl _) (TLe.put (d := 12) (VLe.refl _) (TLe.put (d := 13) (by exact VLe.of_eq (congrArg (V.int .i64) (by first | rfl | omega))) (TLe.zero _)))))) (HLe.refl _) ⟨_, ?_, i + 1, _, ?_, rfl, rfl, by rw [← rUp_next hlt]; exact hem2⟩
          · omega
          · omega
    · obtain rfl : i = (s.lists 8).length := by have := of_decide_eq_false c0; omega
      refine AW.exit ?_
      refine AW.seq ?_
      refine AW.region ?_
      refine AOps.q rfl rfl rfl (q_mv rfl (rfl : _ = _)) ?_
      refine AOps.q rfl rfl rfl (q_as rfl (rfl : _ = _)) ?_
      refine AOps.nil ?_
      refine AW.ret ?_
      rw [rUp_all] at hem
      exact retQ.mk' (.one _) hem.vle hem.hle ⟨rfl, rfl⟩

theorem within_calls (s : St) (x : RStat) (i : Int) (hi : 0 ≤ i ∧ i < s.objs.length) (hx : 0 ≤ x.id ∧ x.id < s.objs.length) (h : Hp) : ACalls Tryz.prog G 62 [eState s, .agg (cRStat x), .int .i64 i] h fun r h' => r = .bool (withinF s x i) ∧ h' = h := by
  refine ACalls.enter Tryz.func62 rfl Tryz.ntmps62 Tryz.results62 rfl ?_
  refine AW.seq ?_
  refine AW.region ?_
  refine AOps.q rfl rfl rfl (q_boxa rfl (rfl : _ = V.agg _)) ?_
  refine AOps.q rfl rfl rfl (q_boxa rfl (rfl : _ = V.agg _)) ?_
  refine AOps.q rfl rfl rfl (q_as rfl (rfl : _ = V.bool _)) ?_
  refine AOps.nil ?_
  refine AW.seq ?_
  refine AW.draw [] [] [(0, true), (1, true), (2, true), (3, true), (4, true), (5, true), (6, true), (7, true), (8, true), (9, true), (10, true), (11, true), (12, true), (13, true), (14, true)] mixed (by kernel_rfl) rfl (by kernel_rfl) ?_
  refine AOrd.q rfl rfl rfl rfl (q_fa_i rfl Tryz.underlying29 rfl (by exact Tryz.sizeOf22) (by decide) rfl (rfl : _ = List.drop 0 _)) ?_
  refine AOrd.q rfl rfl rfl rfl (q_load_i1 rfl Tryz.isAgg22 rfl rfl) ?_
  refine AOrd.q rfl rfl rfl rfl (q_mv rfl (rfl : _ = V.int _ _)) ?_
  refine AOrd.q rfl rfl rfl rfl (q_ia_s rfl Tryz.underlying22 Tryz.sizeOf49 rfl rfl (by omega) (by omega) (cObjs_elem' (by omega) (by omega))) ?_
  refine AOrd.q rfl rfl rfl rfl (q_ia_ai rfl Tryz.underlying49 Tryz.sizeOf3 rfl rfl (by decide) (by decide) rfl) ?_
  refine AOrd.q rfl rfl rfl rfl (q_load_i1 rfl Tryz.isAgg3 rfl rfl) ?_
  refine AOrd.q rfl rfl rfl rfl (q_fa_i rfl Tryz.underlying29 rfl (by exact Tryz.sizeOf22) (by decide) rfl (rfl : _ = List.drop 0 _)) ?_
  refine AOrd.q rfl rfl rfl rfl (q_load_i1 rfl Tryz.isAgg22 rfl rfl) ?_
  refine AOrd.q rfl rfl rfl rfl (q_fa_i rfl Tryz.underlying101 rfl (by exact Tryz.sizeOf3) (by decide) rfl (rfl : _ = List.drop 0 _)) ?_
  refine AOrd.q rfl rfl rfl rfl (q_load_i1 rfl Tryz.isAgg3 rfl rfl) ?_
  refine AOrd.q rfl rfl rfl rfl (q_ia_s rfl Tryz.underlying22 Tryz.sizeOf49 rfl rfl (by omega) (by omega) (cObjs_elem' (by omega) (by omega))) ?_
  refine AOrd.q rfl rfl rfl rfl (q_ia_ai rfl Tryz.underlying49 Tryz.sizeOf3 rfl rfl (by decide) (by decide) rfl) ?_
  refine AOrd.q rfl rfl rfl rfl (q_load_i1 rfl Tryz.isAgg3 rfl rfl) ?_
  refine AOrd.q rfl rfl rfl rfl (q_eq rfl rfl rfl) ?_
  refine AOrd.q rfl rfl rfl rfl (q_as rfl (rfl : _ = V.bool _)) ?_
  refine AOrd.nil ?_
  refine AW.seq ?_
  refine AW.region ?_
  refine AOps.q rfl rfl rfl (q_fa_i rfl Tryz.underlying101 rfl (by exact Tryz.sizeOf99) (by decide) rfl (rfl : _ = List.drop 1 _)) ?_
  refine AOps.q rfl rfl rfl (q_fa_i rfl Tryz.underlying99 rfl (by exact Tryz.sizeOf3) (by decide) rfl (rfl : _ = List.drop 1 _)) ?_
  refine AOps.q rfl rfl rfl (q_load_i1 rfl Tryz.isAgg3 rfl rfl) ?_
  refine AOps.q rfl rfl rfl (q_eq rfl rfl rfl) ?_
  refine AOps.q rfl rfl rfl (q_mv rfl (rfl : _ = V.bool _)) ?_
  refine AOps.g (wanted_f rfl rfl) rfl rfl (fun hc => TLe.refl _) (fun hc => q_fa_i rfl Tryz.underlying101 rfl (by exact Tryz.sizeOf99) (by decide) rfl (rfl : _ = List.drop 1 _)) ?_
  refine AOps.g (wanted_f rfl rfl) rfl rfl (fun hc => TLe.put (d := 27) (VLe.opt hc) (TLe.refl _)) (fun hc => q_fa_i rfl Tryz.underlying99 rfl (by exact Tryz.sizeOf3) (by decide) rfl (rfl : _ = List.drop 1 _)) ?_
  refine AOps.g (wanted_f rfl rfl) rfl rfl (fun hc => TLe.put (d := 28) (VLe.opt hc) (TLe.refl _)) (fun hc => q_load_i1 rfl Tryz.isAgg3 rfl rfl) ?_
  refine AOps.g (wanted_f rfl rfl) rfl rfl (fun hc => TLe.put (d := 29) (VLe.opt hc) (TLe.refl _)) (fun hc => q_eq rfl rfl rfl) ?_
  refine AOps.g (wanted_f rfl rfl) rfl rfl (fun hc => TLe.put (d := 30) (VLe.opt hc) (TLe.refl _)) (fun hc => q_mv rfl (rfl : _ = V.bool _)) ?_
  refine AOps.g (wanted_to rfl rfl) rfl rfl (fun hc => TLe.refl _) (fun hc => q_mv rfl (rfl : _ = V.bool _)) ?_
  refine AOps.g (wanted_f rfl rfl) rfl rfl (fun hc => TLe.put (d := 31) (VLe.opt hc) (TLe.refl _)) (fun hc => q_pickg rfl rfl (fun hp => by first | exact VLe.opt hp | exact VLe.opt (by rw [hp]; rfl) | exact VLe.opt (by simp_all)) (fun hp => by exact VLe.refl _)) ?_
  refine AOps.q rfl rfl rfl (q_pickg rfl rfl (fun hp => by exact VLe.refl _) (fun hp => by first | exact VLe.opt hp | exact VLe.opt (by rw [hp]; rfl) | exact VLe.opt (by simp_all))) ?_
  refine AOps.q rfl rfl rfl (q_mv rfl (rfl : _ = V.bool _)) ?_
  refine AOps.g (wanted_f rfl rfl) rfl rfl (fun hc => TLe.refl _) (fun hc => q_fa_i rfl Tryz.underlying101 rfl (by exact Tryz.sizeOf99) (by decide) rfl (rfl : _ = List.drop 1 _)) ?_
  refine AOps.g (wanted_f rfl rfl) rfl rfl (fun hc => TLe.put (d := 36) (VLe.opt hc) (TLe.refl _)) (fun hc => q_fa_i rfl Tryz.underlying99 rfl (by exact Tryz.sizeOf3) (by decide) rfl (rfl : _ = List.drop 1 _)) ?_
  refine AOps.g (wanted_f rfl rfl) rfl rfl (fun hc => TLe.put (d := 37) (VLe.opt hc) (TLe.refl _)) (fun hc => q_load_i1 rfl Tryz.isAgg3 rfl rfl) ?_
  refine AOps.g (wanted_f rfl rfl) rfl rfl (fun hc => TLe.put (d := 38) (VLe.opt hc) (TLe.refl _)) (fun hc => q_eq rfl rfl rfl) ?_
  refine AOps.g (wanted_f rfl rfl) rfl rfl (fun hc => TLe.put (d := 39) (VLe.opt hc) (TLe.refl _)) (fun hc => q_mv rfl (rfl : _ = V.bool _)) ?_
  refine AOps.g (wanted_to rfl rfl) rfl rfl (fun hc => TLe.refl _) (fun hc => q_mv rfl (rfl : _ = V.bool _)) ?_
  refine AOps.g (wanted_to rfl rfl) rfl rfl (fun hc => TLe.put (d := 41) (VLe.opt hc) (TLe.refl _)) (fun hc => q_not rfl rfl) ?_
  refine AOps.g (wanted_f rfl rfl) rfl rfl (fun hc => TLe.put (d := 40) (VLe.opt hc) (TLe.refl _)) (fun hc => q_pickg rfl rfl (fun hp => by first | exact VLe.opt hp | exact VLe.opt (by rw [hp]; rfl) | exact VLe.opt (by simp_all)) (fun hp => by exact VLe.refl _)) ?_
  refine AOps.q rfl rfl rfl (q_pickg rfl rfl (fun hp => by exact VLe.refl _) (fun hp => by first | exact VLe.opt hp | exact VLe.opt (by rw [hp]; rfl) | exact VLe.opt (by simp_all))) ?_
  refine AOps.q rfl rfl rfl (q_mv rfl (rfl : _ = V.bool _)) ?_
  refine AOps.g (wanted_f rfl rfl) rfl rfl (fun hc => TLe.refl _) (fun hc => q_fa_i rfl Tryz.underlying101 rfl (by exact Tryz.sizeOf99) (by decide) rfl (rfl : _ = List.drop 1 _)) ?_
  refine AOps.g (wanted_f rfl rfl) rfl rfl (fun hc => TLe.put (d := 46) (VLe.opt hc) (TLe.refl _)) (fun hc => q_fa_i rfl Tryz.underlying99 rfl (by exact Tryz.sizeOf3) (by decide) rfl (rfl : _ = List.drop 1 _)) ?_
  refine AOps.g (wanted_f rfl rfl) rfl rfl (fun hc => TLe.put (d := 47) (VLe.opt hc) (TLe.refl _)) (fun hc => q_load_i1 rfl Tryz.isAgg3 rfl rfl) ?_
  refine AOps.g (wanted_f rfl rfl) rfl rfl (fun hc => TLe.put (d := 48) (VLe.opt hc) (TLe.refl _)) (fun hc => q_eq rfl rfl rfl) ?_
  refine AOps.g (wanted_f rfl rfl) rfl rfl (fun hc => TLe.put (d := 49) (VLe.opt hc) (TLe.refl _)) (fun hc => q_mv rfl (rfl : _ = V.bool _)) ?_
  refine AOps.g (wanted_to rfl rfl) rfl rfl (fun hc => TLe.refl _) (fun hc => q_mv rfl (rfl : _ = V.bool _)) ?_
  refine AOps.g (wanted_f rfl rfl) rfl rfl (fun hc => TLe.put (d := 50) (VLe.opt hc) (TLe.refl _)) (fun hc => q_pickg rfl rfl (fun hp => by first | exact VLe.opt hp | exact VLe.opt (by rw [hp]; rfl) | exact VLe.opt (by simp_all)) (fun hp => by exact VLe.refl _)) ?_
  refine AOps.g (wanted_f rfl rfl) rfl rfl (fun hc => TLe.put (d := 52) (VLe.opt hc) (TLe.refl _)) (fun hc => q_mv rfl (rfl : _ = V.bool _)) ?_
  refine AOps.g (wanted_to rfl rfl) rfl rfl (fun hc => TLe.refl _) (fun hc => q_fa_i rfl Tryz.underlying101 rfl (by exact Tryz.sizeOf3) (by decide) rfl (rfl : _ = List.drop 0 _)) ?_
  refine AOps.g (wanted_to rfl rfl) rfl rfl (fun hc => TLe.put (d := 54) (VLe.opt hc) (TLe.refl _)) (fun hc => q_load_i1 rfl Tryz.isAgg3 rfl rfl) ?_
  refine AOps.g (wanted_to rfl rfl) rfl rfl (fun hc => TLe.refl _) (fun hc => q_mv rfl (rfl : _ = V.int _ _)) ?_
  refine AOps.g (wanted_to rfl rfl) rfl rfl (fun hc => TLe.put (d := 56) (VLe.opt hc) (TLe.put (d := 55) (VLe.opt hc) (TLe.refl _))) (fun hc => q_ne rfl rfl rfl) ?_
  refine AOps.g (wanted_f rfl rfl) rfl rfl (fun hc => TLe.put (d := 53) (VLe.opt hc) (TLe.refl _)) (fun hc => q_pickg rfl rfl (fun hp => by first | exact VLe.opt hp | exact VLe.opt (by rw [hp]; rfl) | exact VLe.opt (by simp_all)) (fun hp => by exact VLe.refl _)) ?_
  refine AOps.q rfl rfl rfl (q_pickg rfl rfl (fun hp => by exact VLe.refl _) (fun hp => by first | exact VLe.opt hp | exact VLe.opt (by rw [hp]; rfl) | exact VLe.opt (by simp_all))) ?_
  refine AOps.q rfl rfl rfl (q_as rfl (rfl : _ = V.bool _)) ?_
  refine AOps.nil ?_
  refine AW.ret ?_
  exact retQ.mk' (.one _) (VLe.of_eq (congrArg V.bool (by simp only [withinF]; cases (x.doo.n == 0) <;> cases (x.doo.n == 1) <;> cases (x.doo.n == 2) <;> cases (x.doo.n == 3) <;> cases (s.objs.getD i.toNat noObj 2 == s.objs.getD x.id.toNat noObj 2) <;> cases (x.id != i) <;> rfl))) (HLe.refl _) ⟨rfl, rfl⟩

end Go.Proofs.YtnbmcbkokaoapaaGreatDoor
