/- Walks: the effects that last. -/
import Derived.Test.YtnbmcbkokaoapaaGreatDoorShape1
namespace Go.Proofs.YtnbmcbkokaoapaaGreatDoor
open Go Go.AV
set_option maxRecDepth 100000
set_option maxHeartbeats 1000000
theorem cardF_subs : ∀ k : Fin 120, ((cardF (k.val : Int)).abs.all fun a => a.when != 5 || 0 < a.doo.subs.length) = true := by decide +kernel
theorem cardE_subs (n : Int) : ∀ a ∈ (cardE n).1.abs, a.when = 5 → 0 < a.doo.subs.length := by
  intro a ha hw
  unfold cardE at ha
  split at ha
  · simp [noCard] at ha
  · rename_i h
    have := cardF_subs ⟨n.toNat, by omega⟩
    have e : ((n.toNat : Nat) : Int) = n := by omega
    simp only [e, List.all_eq_true] at this
    have := this a ha
    simpa [hw] using this
def noEff0 : Eff0 := ⟨0, 0, 0, 0⟩
def staticOf (s : St) (id : Int) (j : Int) : Static := ⟨id, s.objs.getD id.toNat noObj 2, ((kindF s id).abs.getD j.toNat noAb).doo.n, ((kindF s id).abs.getD j.toNat noAb).doo.subs.getD 0 noEff0⟩
def staticsOf (s : St) (id : Int) : List Static := (usesF (kindF s id) 5).map (staticOf s id)
/-- The effects that last. -/
def staticsF (s : St) : List Static := (s.lists 8).flatMap (staticsOf s)
def stUp (s : St) (i k : Nat) : List Static := ((s.lists 8).take i).flatMap (staticsOf s) ++ (staticsOf s ((s.lists 8).getD i 0)).take k
theorem stUp_next {s : St} {i : Nat} (h : i < (s.lists 8).length) : stUp s i (usesF (kindF s ((s.lists 8).getD i 0)) 5).length = stUp s (i + 1) 0 := by
  have e : (staticsOf s ((s.lists 8).getD i 0)).length = (usesF (kindF s ((s.lists 8).getD i 0)) 5).length := by simp [staticsOf]
  rw [stUp, ← e, List.take_length, stUp, List.take_zero, List.append_nil, List.take_add_one, List.getElem?_eq_getElem h, getD_of h, Option.toList_some, List.flatMap_append]
  simp only [List.flatMap_cons, List.flatMap_nil, List.append_nil]
theorem stUp_succ {s : St} {i k : Nat} (h : k < (usesF (kindF s ((s.lists 8).getD i 0)) 5).length) : stUp s i (k + 1) = stUp s i k ++ [staticOf s ((s.lists 8).getD i 0) ((usesF (kindF s ((s.lists 8).getD i 0)) 5).getD k 0)] := by
  rw [stUp, stUp, List.take_add_one, staticsOf, List.getElem?_map, List.getElem?_eq_getElem h, getD_of h, List.append_assoc]; rfl
theorem stUp_all {s : St} : stUp s (s.lists 8).length 0 = staticsF s := by simp [stUp, staticsF]
def cStatics (l : List Static) : List V := l.flatMap cStatic
theorem uses_in {c : Card} {w : Int} {x : Int} (h : x ∈ usesF c w) : 0 ≤ x ∧ x < c.abs.length ∧ (c.abs.getD x.toNat noAb).when = w := by
  simp only [usesF, usesUp, List.mem_map, List.mem_filter, List.mem_range, beq_iff_eq] at h
  obtain ⟨j, ⟨h1, h2⟩, rfl⟩ := h
  exact ⟨by omega, by omega, by simpa using h2⟩

theorem sub_at {l : List Eff0} (h : 0 < l.length) : ((l.flatMap cEff0).drop (Int.toNat 0 * 5)).take 5 = cEff0 (l.getD 0 noEff0) := flat_at (f := cEff0) (n := 5) (fun _ => rfl) noEff0 (i := 0) h
theorem static_app (l : List Static) (x : Static) : cStatics (l ++ [x]) = cStatics l ++ cStatic x := by simp [cStatics]
theorem static_pos {s : St} {id x : Int} (h : x ∈ usesF (kindF s id) 5) : 0 < ((kindF s id).abs.getD x.toNat noAb).doo.subs.length := by
  obtain ⟨h0, h1, h2⟩ := uses_in h
  have hlt : x.toNat < (kindF s id).abs.length := by omega
  refine cardE_subs (s.objs.getD id.toNat noObj 0) _ ?_ h2
  rw [getD_of' hlt]; exact List.getElem_mem hlt
theorem abil_elem {l : List Abil} {i : Int} (h0 : 0 ≤ i) (h1 : i < l.length) : ((l.flatMap cAbil).drop (i.toNat * 14)).take 14 = cAbil (l.getD i.toNat noAb) := flat_at (f := cAbil) (n := 14) (fun _ => rfl) noAb (by omega)
theorem stUp_len {s : St} (hl : (s.lists 8).length ≤ 1000000) {i k : Nat} : (stUp s i k).length ≤ 10000000 := by
  have h1 : ∀ id, (staticsOf s id).length ≤ 4 := fun id => by
    rw [staticsOf, List.length_map]; exact Nat.le_trans uses_le (cardE_abs _)
  have h2 : ∀ l : List Int, (l.flatMap (staticsOf s)).length ≤ l.length * 4 := fun l => by
    induction l with
    | nil => simp
    | cons a l ih => rw [List.flatMap_cons, List.length_append, List.length_cons]; have := h1 a; omega
  have h3 := h2 ((s.lists 8).take i)
  have h4 : ((s.lists 8).take i).length ≤ 1000000 := Nat.le_trans (List.length_take_le' _ _) hl
  have h5 : ((staticsOf s ((s.lists 8).getD i 0)).take k).length ≤ 4 := Nat.le_trans (List.length_take_le' _ _) (h1 _)
  rw [stUp, List.length_append]; omega

theorem statics_calls (s : St) (hz : ∀ id ∈ s.lists 8, 0 ≤ id ∧ id < s.objs.length) (hl : (s.lists 8).length ≤ 1000000) (h : Hp) : ACalls Tryz.prog G 122 [eState s] h fun r h' => r = .sl .imm 8 (staticsF s).length (cStatics (staticsF s)) ∧ h' = h := by
  refine ACalls.enter Tryz.func122 rfl Tryz.ntmps122 Tryz.results122 rfl ?_
  refine AW.seq ?_
  refine AW.region ?_
  refine AOps.q rfl rfl rfl (q_boxa rfl (rfl : _ = V.agg _)) ?_
  refine AOps.q rfl rfl rfl (q_as rfl (rfl : _ = V.snil)) ?_
  refine AOps.nil ?_
  refine AW.seq ?_
  refine AW.region ?_
  refine AOps.q rfl rfl rfl (q_as rfl (rfl : _ = V.snil)) ?_
  refine AOps.nil ?_
  refine AW.seq ?_
  refine AW.seq ?_
  refine AW.region ?_
  refine AOps.q rfl rfl rfl (q_fa_i rfl Tryz.underlying29 rfl (by exact Tryz.sizeOf24) (by decide) rfl (rfl : _ = List.drop 1 _)) ?_
  refine AOps.q rfl rfl rfl (q_ia_ai rfl Tryz.underlying24 Tryz.sizeOf23 rfl rfl (by decide) (by decide) rfl) ?_
  refine AOps.q rfl rfl rfl (q_load_i1 rfl Tryz.isAgg23 rfl rfl) ?_
  refine AOps.q rfl rfl rfl (q_len rfl Tryz.underlying23 rfl) ?_
  refine AOps.q rfl rfl rfl (q_mv rfl (rfl : _ = V.int _ _)) ?_
  refine AOps.nil ?_
  refine AW.block ?_
  refine AW.loop (fun n T hh => ∃ (i : Nat) (v : V), i ≤ (s.lists 8).length ∧ n = (s.lists 8).length - i ∧ T = put (put (put (put (put (T0) 14 (V.int .i64 (i : Nat))) 13 (V.int .i64 (s.lists 8).length)) 12 (eInts (s.lists 8))) 3 (v)) 1 (V.iptr (cState s)) ∧ Go.AV.Acc h 8 (stUp s i 0).length (cStatics (stUp s i 0)) v hh) ((s.lists 8).length) ?_ ?_
  · skip
    refine Wk.mk (TLe.put (d := 1) (VLe.refl _) (TLe.put (d := 3) (VLe.refl _) (TLe.put (d := 12) (VLe.refl _) (TLe.put (d := 13) (VLe.refl _) (TLe.put (d := 14) (by exact VLe.of_eq (congrArg (V.int .i64) (by first | rfl | omega))) (TLe.zero _)))))) (HLe.refl _) ⟨0, V.snil, Nat.zero_le _, rfl, rfl, by exact Go.AV.Acc.nil h 8⟩
  · skip
    rintro n T h' ⟨i, v, hi, rfl, rfl, hem⟩
    refine AW.seq ?_
    refine AW.region ?_
    refine AOps.q rfl rfl rfl (q_lt rfl rfl rfl) ?_
    refine AOps.nil ?_
    refine AW.seq ?_
    refine AW.cond rfl (fun c0 => ?_) (fun c0 => ?_)
    · have hlt : i < (s.lists 8).length := by have := of_decide_eq_true c0; omega
      have hid := hz _ (getD_mem hlt)
      have hab := cardE_abs (s.objs.getD ((s.lists 8).getD i 0).toNat noObj 0)
      refine AW.skip ?_
      refine AW.seq ?_
      refine AW.block ?_
      refine AW.seq ?_
      refine AW.region ?_
      refine AOps.q rfl rfl rfl (q_ia_s rfl Tryz.underlying23 Tryz.sizeOf3 rfl rfl (by omega) (by omega) (cInts_at hlt)) ?_
      refine AOps.q rfl rfl rfl (q_load_i1 rfl Tryz.isAgg3 rfl rfl) ?_
      refine AOps.q rfl rfl rfl (q_as rfl (rfl : _ = V.int _ _)) ?_
      refine AOps.nil ?_
      refine AW.seq ?_
      refine AW.region ?_
      refine AOps.q rfl rfl rfl (q_load_iW rfl Tryz.isAgg29 Tryz.sizeOf29 rfl (by rfl)) ?_
      refine AOps.q rfl rfl rfl (q_mv rfl (rfl : _ = V.int _ _)) ?_
      refine AOps.q rfl rfl rfl (QOp.call rfl (by exact Tryz.call121) fun h' hl' => by exact kind_calls s _ hid h') ?_
      refine AOps.s rfl rfl rfl (a_alloc rfl Tryz.zeroValue92 rfl (fun id6 hid6 => ?_))
      refine AOps.s0 rfl rfl (a_storeWA rfl Tryz.sizeOf92 rfl rfl (rfl : _ = V.agg _) rfl rfl ?_)
      refine AOps.done 6 rfl hid6 ?_
      refine AOps.nil ?_
      refine AW.seq ?_
      refine AW.region ?_
      refine AOps.q rfl rfl rfl (q_load_iW rfl Tryz.isAgg92 Tryz.sizeOf92 rfl (by rfl)) ?_
      refine AOps.q rfl rfl rfl (QOp.call rfl (by exact Tryz.call113) fun h' hl' => by exact uses_calls _ 5 (by have := hab; unfold kindF; omega) h') ?_
      refine AOps.q rfl rfl rfl (q_len rfl Tryz.underlying23 rfl) ?_
      refine AOps.q rfl rfl rfl (q_mv rfl (rfl : _ = V.int _ _)) ?_
      refine AOps.nil ?_
      refine AW.block ?_
      refine AW.loop (fun n T hh => ∃ (k : Nat) (v2 : V), k ≤ (usesF (kindF s ((s.lists 8).getD i 0)) 5).length ∧ n = (usesF (kindF s ((s.lists 8).getD i 0)) 5).length - k ∧ T = put (put (put (put (put (put (put (put (put (put (T0) 24 (V.int .i64 (k : Nat))) 23 (V.int .i64 (usesF (kindF s ((s.lists 8).getD i 0)) 5).length)) 22 (eInts (usesF (kindF s ((s.lists 8).getD i 0)) 5))) 14 (V.int .i64 (i : Nat))) 13 (V.int .i64 (s.lists 8).length)) 12 (eInts (s.lists 8))) 6 (V.iptr (cCard (kindF s ((s.lists 8).getD i 0))))) 5 (V.int .i64 ((s.lists 8).getD i 0))) 3 (v2)) 1 (V.iptr (cState s)) ∧ Go.AV.Acc h 8 (stUp s i k).length (cStatics (stUp s i k)) v2 hh) ((usesF (kindF s ((s.lists 8).getD i 0)) 5).length) ?_ ?_
      · skip
        refine Wk.mk (TLe.put (d := 1) (VLe.refl _) (TLe.put (d := 3) (VLe.refl _) (TLe.put (d := 5) (VLe.refl _) (TLe.put (d := 6) (VLe.refl _) (TLe.put (d := 12) (VLe.refl _) (TLe.put (d := 13) (VLe.refl _) (TLe.put (d := 14) (VLe.refl _) (TLe.put (d := 22) (VLe.refl _) (TLe.put (d := 23) (VLe.refl _) (TLe.put (d := 24) (by exact VLe.of_eq (congrArg (V.int .i64) (by first | rfl | omega))) (TLe.zero _))))))))))) (HLe.refl _) ⟨0, v, Nat.zero_le _, rfl, rfl, by exact hem⟩
      · skip
        rintro n T h' ⟨k, v2, hk, rfl, rfl, hem2⟩
        refine AW.seq ?_
        refine AW.region ?_
        refine AOps.q rfl rfl rfl (q_lt rfl rfl rfl) ?_
        refine AOps.nil ?_
        refine AW.seq ?_
        refine AW.cond rfl (fun c1 => ?_) (fun c1 => ?_)
        · have hltk : k < (usesF (kindF s ((s.lists 8).getD i 0)) 5).length := by have := of_decide_eq_true c1; omega
          have hu := uses_in (getD_mem hltk)
          have hug : (usesF (kindF s ((s.lists 8).getD i 0)) 5).length ≤ 4 := Nat.le_trans uses_le (cardE_abs _)
          have hsub := static_pos (getD_mem hltk)
          have hul := stUp_len hl (i := i) (k := k)
          refine AW.skip ?_
          refine AW.seq ?_
          refine AW.block ?_
          refine AW.seq ?_
          refine AW.region ?_
          refine AOps.q rfl rfl rfl (q_ia_s rfl Tryz.underlying23 Tryz.sizeOf3 rfl rfl (by omega) (by omega) (cInts_at hltk)) ?_
          refine AOps.q rfl rfl rfl (q_load_i1 rfl Tryz.isAgg3 rfl rfl) ?_
          refine AOps.q rfl rfl rfl (q_as rfl (rfl : _ = V.int _ _)) ?_
          refine AOps.nil ?_
          refine AW.seq ?_
          refine AW.region ?_
          refine AOps.q rfl rfl rfl (q_fa_i rfl Tryz.underlying92 rfl (by exact Tryz.sizeOf90) (by decide) rfl (rfl : _ = List.drop 12 _)) ?_
          refine AOps.q rfl rfl rfl (q_load_i1 rfl Tryz.isAgg90 rfl rfl) ?_
          refine AOps.q rfl rfl rfl (q_mv rfl (rfl : _ = V.int _ _)) ?_
          refine AOps.q rfl rfl rfl (q_ia_s rfl Tryz.underlying90 Tryz.sizeOf136 rfl rfl hu.1 hu.2.1 (abil_elem hu.1 hu.2.1)) ?_
          refine AOps.q rfl rfl rfl (q_fa_i rfl Tryz.underlying136 rfl (by exact Tryz.sizeOf99) (by decide) rfl (rfl : _ = List.drop 9 _)) ?_
          refine AOps.q rfl rfl rfl (q_load_iN (ds := cEff ((kindF s ((s.lists 8).getD i 0)).abs.getD ((usesF (kindF s ((s.lists 8).getD i 0)) 5).getD k 0).toNat noAb).doo) rfl Tryz.isAgg99 Tryz.sizeOf99 rfl rfl rfl) ?_
          refine AOps.s rfl rfl rfl (a_alloc rfl Tryz.zeroValue99 rfl (fun id9 hid9 => ?_))
          refine AOps.s0 rfl rfl (a_storeWA rfl Tryz.sizeOf99 rfl rfl (rfl : _ = V.agg _) rfl rfl ?_)
          refine AOps.done 9 rfl hid9 ?_
          refine AOps.nil ?_
          refine AW.draw [16] [1, 2, 3, 4, 5, 6, 7, 8, 9, 10, 11, 12, 13] [(0, true), (1, true), (2, true), (3, true), (4, true), (5, true), (6, true), (7, true), (8, true), (9, true), (10, true), (11, true), (12, true), (13, true), (14, false), (15, true), (16, false), (17, true)] mixed (by kernel_rfl) rfl (by kernel_rfl) ?_
          refine AOrd.q rfl rfl rfl rfl (q_mv rfl (rfl : _ = _)) ?_
          refine AOrd.p rfl rfl rfl (fun _ => q_mv rfl (rfl : _ = V.int _ _)) ?_
          refine AOrd.p rfl rfl rfl (fun _ => q_fa_i rfl Tryz.underlying29 rfl (by exact Tryz.sizeOf22) (by decide) rfl (rfl : _ = List.drop 0 _)) ?_
          refine AOrd.p rfl rfl rfl (fun _ => q_load_i1 rfl Tryz.isAgg22 rfl rfl) ?_
          refine AOrd.p rfl rfl rfl (fun _ => q_mv rfl (rfl : _ = V.int _ _)) ?_
          refine AOrd.p rfl rfl rfl (fun _ => q_ia_s rfl Tryz.underlying22 Tryz.sizeOf49 rfl rfl hid.1 hid.2 (cObjs_elem' hid.1 hid.2)) ?_
          refine AOrd.p rfl rfl rfl (fun _ => q_ia_ai rfl Tryz.underlying49 Tryz.sizeOf3 rfl rfl (by decide) (by decide) rfl) ?_
          refine AOrd.p rfl rfl rfl (fun _ => q_load_i1 rfl Tryz.isAgg3 rfl rfl) ?_
          refine AOrd.p rfl rfl rfl (fun _ => q_fa_i rfl Tryz.underlying99 rfl (by exact Tryz.sizeOf3) (by decide) rfl (rfl : _ = List.drop 1 _)) ?_
          refine AOrd.p rfl rfl rfl (fun _ => q_load_i1 rfl Tryz.isAgg3 rfl rfl) ?_
          refine AOrd.p rfl rfl rfl (fun _ => q_fa_i rfl Tryz.underlying99 rfl (by exact Tryz.sizeOf97) (by decide) rfl (rfl : _ = List.drop 4 _)) ?_
          refine AOrd.p rfl rfl rfl (fun _ => q_load_i1 rfl Tryz.isAgg97 rfl rfl) ?_
          refine AOrd.p rfl rfl rfl (fun _ => q_ia_s rfl Tryz.underlying97 Tryz.sizeOf99 rfl rfl (by decide) (by omega) (sub_at hsub)) ?_
          refine AOrd.p rfl rfl rfl (fun _ => q_load_iW rfl Tryz.isAgg99 Tryz.sizeOf99 rfl (by rfl)) ?_
          refine AOrd.qf rfl rfl rfl (q_buildS (ds := cStatic (staticOf s ((s.lists 8).getD i 0) ((usesF (kindF s ((s.lists 8).getD i 0)) 5).getD k 0))) rfl Tryz.zeroValue162 Tryz.underlying162 (pl162 Tryz.underlying162) rfl (by kernel_rfl)) ?_
          refine AOrd.q rfl rfl rfl rfl (q_buildSl (ds := cStatic (staticOf s ((s.lists 8).getD i 0) ((usesF (kindF s ((s.lists 8).getD i 0)) 5).getD k 0))) rfl Tryz.underlying159 Tryz.sizeOf162 Tryz.zeroValue162 rfl rfl rfl rfl (by kernel_rfl)) ?_
          refine AOrd.s rfl rfl rfl rfl (a_append rfl Tryz.underlying159 (i := Tryz.t162) (by kernel_rfl) rfl (n := 8) (by' := 80) rfl rfl rfl rfl hem2 rfl rfl (by decide) (by omega) (by omega) rfl (fun v3 h3 acc => ?_))
          refine AOrd.q rfl rfl rfl rfl (q_as rfl (rfl : _ = _)) ?_
          refine AOrd.nil ?_
          refine AW.region ?_
          refine AOps.q rfl rfl rfl (q_add' rfl rfl rfl (by omega)) ?_
          refine AOps.q rfl rfl rfl (q_mv rfl (rfl : _ = V.int _ _)) ?_
          refine AOps.nil ?_
          refine Wk.mk (TLe.put (d := 1) (VLe.refl _) (TLe.put (d := 3) (VLe.refl _) (TLe.put (d := 5) (VLe.refl _) (TLe.put (d := 6) (VLe.refl _) (TLe.put (d := 12) (VLe.refl _) (TLe.put (d := 13) (VLe.refl _) (TLe.put (d := 14) (VLe.refl _) (TLe.put (d := 22) (VLe.refl _) (TLe.put (d := 23) (VLe.refl _) (TLe.put (d := 24) (by exact VLe.of_eq (congrArg (V.int .i64) (by first | rfl | omega))) (TLe.zero _))))))))))) (HLe.refl _) ⟨_, ?_, k + 1, _, ?_, rfl, rfl, by rw [stUp_succ hltk, static_app, List.length_append]; exact acc⟩
          · omega
          · omega
        · obtain rfl : k = (usesF (kindF s ((s.lists 8).getD i 0)) 5).length := by have := of_decide_eq_false c1; omega
          refine AW.exit ?_
          refine AW.region ?_
          refine AOps.q rfl rfl rfl (q_add' rfl rfl rfl (by omega)) ?_
          refine AOps.q rfl rfl rfl (q_mv rfl (rfl : _ = V.int _ _)) ?_
          refine AOps.nil ?_
          refine Wk.mk (TLe.put (d := 1) (VLe.refl _) (TLe.put (d := 3) (VLe.refl _) (TLe.put (d := 12) (VLe.refl _) (TLe.put (d := 13) (VLe.refl _) (TLe.put (d := 14) (by exact VLe.of_eq (congrArg (V.int .i64) (by first | rfl | omega))) (TLe.zero _)))))) (HLe.refl _) ⟨_, ?_, i + 1, _, ?_, rfl, rfl, by rw [← stUp_next hlt]; exact hem2⟩
          · omega
          · omega
    · obtain rfl : i = (s.lists 8).length := by have := of_decide_eq_false c0; omega
      refine AW.exit ?_
      refine AW.seq ?_
      refine AW.region ?_
      refine AOps.q rfl rfl rfl (q_mv rfl (rfl : _ = _)) ?_
      refine AOps.q rfl rfl rfl (q_as rfl (rfl : _ = _)) ?_
      refine AOps.nil ?_
      refine AW.ret ?_
      rw [stUp_all] at hem
      exact retQ.mk' (.one _) hem.vle hem.hle ⟨rfl, rfl⟩

end Go.Proofs.YtnbmcbkokaoapaaGreatDoor
