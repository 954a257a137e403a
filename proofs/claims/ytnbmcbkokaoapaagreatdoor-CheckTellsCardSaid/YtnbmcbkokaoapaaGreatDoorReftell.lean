/- Walks: who has lost and what is dying, by the document. -/
import Derived.Test.YtnbmcbkokaoapaaGreatDoorRefof
import Derived.Test.YtnbmcbkokaoapaaGreatDoorPlain3
namespace Go.Proofs.YtnbmcbkokaoapaaGreatDoor
open Go Go.AV
set_option maxRecDepth 100000
set_option maxHeartbeats 1000000
theorem pp_in {p : Int} (h : (bif p == 0 then true else p == 1) = true) : 0 ≤ p ∧ p < 2 := by
  by_cases e : p = 0
  · omega
  · have : p = 1 := by simpa [e] using h
    omega
theorem pp_in2 {p : Int} {b : Bool} (h : ((bif p == 0 then true else p == 1) && b) = true) : 0 ≤ p ∧ p < 2 := pp_in (by simp only [Bool.and_eq_true] at h; exact h.1)
theorem pl_hd {s : St} {p j : Int} (h0 : 0 ≤ p ∧ p < 2) (h1 : 0 ≤ j ∧ j < 9) : (List.drop (j.toNat * 1) (List.drop (p.toNat * 9) (List.drop 12 (cState s))))[0]? = some (.int .i64 (s.pl p.toNat j.toNat)) := by
  obtain ⟨n, rfl⟩ := Int.eq_ofNat_of_zero_le h1.1
  obtain ⟨m, rfl⟩ := Int.eq_ofNat_of_zero_le h0.1
  match m, h0.2, n, h1.2 with
  | 0, _, 0, _ | 0, _, 1, _ | 0, _, 2, _ | 0, _, 3, _ | 0, _, 4, _ | 0, _, 5, _ | 0, _, 6, _ | 0, _, 7, _ | 0, _, 8, _ => rfl
  | 1, _, 0, _ | 1, _, 1, _ | 1, _, 2, _ | 1, _, 3, _ | 1, _, 4, _ | 1, _, 5, _ | 1, _, 6, _ | 1, _, 7, _ | 1, _, 8, _ => rfl
theorem lost_bits {s : St} {p : Int} : (bif (bif p == 0 then true else p == 1) then (bif decide (s.pl p.toNat 0 ≤ 0) then true else s.pl p.toNat 8 == 1) else false) = lostF s p := by
  unfold lostF
  cases p == 0 <;> cases p == 1 <;> cases decide (s.pl p.toNat 0 ≤ 0) <;> rfl
/-- What is dying, by the document. -/
def refDies (s : St) (id : Int) : Bool := bif creatureF s id then decide ((rofF s id).t - s.objs.getD id.toNat noObj 6 ≤ 0) else false
def refDyingUp (s : St) (i : Nat) : List Int := ((s.lists 8).take i).filter (refDies s)
def refDyingF (s : St) : List Int := if refCheck s ≠ 0 then [] else (s.lists 8).filter (refDies s)
theorem refDying_all {s : St} : refDyingUp s (s.lists 8).length = (s.lists 8).filter (refDies s) := by simp [refDyingUp]
theorem refDying_step {s : St} {i : Nat} (h : i < (s.lists 8).length) : refDyingUp s (i + 1) = refDyingUp s i ++ if refDies s ((s.lists 8).getD i 0) then [(s.lists 8).getD i 0] else [] := by
  rw [refDyingUp, List.take_add_one, List.getElem?_eq_getElem h, getD_of h, Option.toList_some, List.filter_append, refDyingUp]; simp only [List.filter_cons, List.filter_nil]
theorem refDying_yes {s : St} {i : Nat} (h : i < (s.lists 8).length) (c : refDies s ((s.lists 8).getD i 0) = true) : refDyingUp s (i + 1) = refDyingUp s i ++ [(s.lists 8).getD i 0] := by rw [refDying_step h, if_pos c]
theorem refDying_no {s : St} {i : Nat} (h : i < (s.lists 8).length) (c : refDies s ((s.lists 8).getD i 0) = false) : refDyingUp s (i + 1) = refDyingUp s i := by rw [refDying_step h, if_neg (by rw [c]; decide), List.append_nil]
theorem refDying_le {s : St} {i : Nat} : (refDyingUp s i).length ≤ (s.lists 8).length := Nat.le_trans (List.length_filter_le _ _) (by rw [List.length_take]; omega)

theorem refLost_calls (s : St) (p : Int) (h : Hp) : ACalls Tryz.prog G 17 [eState s, .int .i64 p] h fun r h' => r = .bool (lostF s p) ∧ h' = h := by
  refine ACalls.enter Tryz.func17 rfl Tryz.ntmps17 Tryz.results17 rfl ?_
  refine AW.seq ?_
  refine AW.region ?_
  refine AOps.q rfl rfl rfl (q_boxa rfl (rfl : _ = V.agg _)) ?_
  refine AOps.q rfl rfl rfl (q_as rfl (rfl : _ = V.bool _)) ?_
  refine AOps.nil ?_
  refine AW.seq ?_
  refine AW.region ?_
  refine AOps.q rfl rfl rfl (q_mv rfl (rfl : _ = V.int _ _)) ?_
  refine AOps.q rfl rfl rfl (q_eq rfl rfl rfl) ?_
  refine AOps.q rfl rfl rfl (q_mv rfl (rfl : _ = V.bool _)) ?_
  refine AOps.g (wanted_f rfl rfl) rfl rfl (fun hc => TLe.refl _) (fun hc => q_mv rfl (rfl : _ = V.int _ _)) ?_
  refine AOps.g (wanted_f rfl rfl) rfl rfl (fun hc => TLe.put (d := 8) (VLe.opt hc) (TLe.refl _)) (fun hc => q_eq rfl rfl rfl) ?_
  refine AOps.q rfl rfl rfl (q_pickg rfl rfl (fun hp => by exact VLe.refl _) (fun hp => by first | exact VLe.opt hp | exact VLe.opt (by rw [hp]; rfl) | exact VLe.opt (by simp_all))) ?_
  refine AOps.q rfl rfl rfl (q_mv rfl (rfl : _ = V.bool _)) ?_
  refine AOps.g (wanted_t rfl rfl) rfl rfl (fun hc => TLe.refl _) (fun hc => q_mv rfl (rfl : _ = V.int _ _)) ?_
  refine AOps.g (wanted_t rfl rfl) rfl rfl (fun hc => TLe.refl _) (fun hc => q_fa_i rfl Tryz.underlying29 rfl (by exact Tryz.sizeOf26) (by decide) rfl (rfl : _ = List.drop 12 _)) ?_
  refine AOps.g (wanted_t rfl rfl) rfl rfl (fun hc => TLe.put (d := 13) (VLe.opt hc) (TLe.put (d := 12) (VLe.opt hc) (TLe.refl _))) (fun hc => q_ia_ai rfl Tryz.underlying26 Tryz.sizeOf25 rfl rfl (pp_in hc).1 (pp_in hc).2 rfl) ?_
  refine AOps.g (wanted_t rfl rfl) rfl rfl (fun hc => TLe.put (d := 14) (VLe.opt hc) (TLe.refl _)) (fun hc => q_ia_ai rfl Tryz.underlying25 Tryz.sizeOf3 rfl rfl (by decide) (by decide) rfl) ?_
  refine AOps.g (wanted_t rfl rfl) rfl rfl (fun hc => TLe.put (d := 15) (VLe.opt hc) (TLe.refl _)) (fun hc => q_load_i1 rfl Tryz.isAgg3 rfl (pl_hd (pp_in hc) (by decide))) ?_
  refine AOps.g (wanted_t rfl rfl) rfl rfl (fun hc => TLe.put (d := 16) (VLe.opt hc) (TLe.refl _)) (fun hc => q_le rfl rfl rfl) ?_
  refine AOps.g (wanted_t rfl rfl) rfl rfl (fun hc => TLe.put (d := 17) (VLe.opt hc) (TLe.refl _)) (fun hc => q_mv rfl (rfl : _ = V.bool _)) ?_
  refine AOps.g (wanted_fo rfl rfl) rfl rfl (fun hc => TLe.refl _) (fun hc => q_mv rfl (rfl : _ = V.int _ _)) ?_
  refine AOps.g (wanted_fo rfl rfl) rfl rfl (fun hc => TLe.refl _) (fun hc => q_fa_i rfl Tryz.underlying29 rfl (by exact Tryz.sizeOf26) (by decide) rfl (rfl : _ = List.drop 12 _)) ?_
  refine AOps.g (wanted_fo rfl rfl) rfl rfl (fun hc => TLe.put (d := 20) (VLe.opt hc) (TLe.put (d := 19) (VLe.opt hc) (TLe.refl _))) (fun hc => q_ia_ai rfl Tryz.underlying26 Tryz.sizeOf25 rfl rfl (pp_in2 hc).1 (pp_in2 hc).2 rfl) ?_
  refine AOps.g (wanted_fo rfl rfl) rfl rfl (fun hc => TLe.put (d := 21) (VLe.opt hc) (TLe.refl _)) (fun hc => q_ia_ai rfl Tryz.underlying25 Tryz.sizeOf3 rfl rfl (by decide) (by decide) rfl) ?_
  refine AOps.g (wanted_fo rfl rfl) rfl rfl (fun hc => TLe.put (d := 22) (VLe.opt hc) (TLe.refl _)) (fun hc => q_load_i1 rfl Tryz.isAgg3 rfl (pl_hd (pp_in2 hc) (by decide))) ?_
  refine AOps.g (wanted_fo rfl rfl) rfl rfl (fun hc => TLe.put (d := 23) (VLe.opt hc) (TLe.refl _)) (fun hc => q_eq rfl rfl rfl) ?_
  refine AOps.g (wanted_t rfl rfl) rfl rfl (fun hc => TLe.put (d := 18) (VLe.opt hc) (TLe.refl _)) (fun hc => q_pickg rfl rfl (fun hp => by exact VLe.refl _) (fun hp => by first | exact VLe.opt hp | exact VLe.opt (by rw [hp]; rfl) | exact VLe.opt (by simp_all))) ?_
  refine AOps.q rfl rfl rfl (q_pickg rfl rfl (fun hp => by first | exact VLe.opt hp | exact VLe.opt (by rw [hp]; rfl) | exact VLe.opt (by simp_all)) (fun hp => by exact VLe.refl _)) ?_
  refine AOps.q rfl rfl rfl (q_as rfl (rfl : _ = V.bool _)) ?_
  refine AOps.nil ?_
  refine AW.ret ?_
  exact retQ.mk' (.one _) (VLe.of_eq (congrArg V.bool (lost_bits))) (HLe.refl _) ⟨rfl, rfl⟩

theorem refDying_calls (s : St) (hb : s.objs.length ≤ 1000000) (hl : ∀ z, (s.lists z).length ≤ 1000000) (h : Hp) : ACalls Tryz.prog G 16 [eState s] h fun r h' => r = eInts (refDyingF s) ∧ h' = h := by
  have hl8 := hl 8
  refine ACalls.enter Tryz.func16 rfl Tryz.ntmps16 Tryz.results16 rfl ?_
  refine AW.seq ?_
  refine AW.region ?_
  refine AOps.q rfl rfl rfl (q_boxa rfl (rfl : _ = V.agg _)) ?_
  refine AOps.q rfl rfl rfl (q_as rfl (rfl : _ = V.snil)) ?_
  refine AOps.nil ?_
  refine AW.seq ?_
  refine AW.region ?_
  refine AOps.q rfl rfl rfl (q_buildSl (ds := []) rfl Tryz.underlying23 Tryz.sizeOf3 Tryz.zeroValue3 rfl rfl rfl rfl rfl) ?_
  refine AOps.q rfl rfl rfl (q_as rfl (rfl : _ = V.sl _ _ _ _)) ?_
  refine AOps.nil ?_
  refine AW.seq ?_
  refine AW.seq ?_
  refine AW.region ?_
  refine AOps.q rfl rfl rfl (q_load_iW rfl Tryz.isAgg29 Tryz.sizeOf29 rfl (by rfl)) ?_
  refine AOps.q rfl rfl rfl (QOp.call rfl (by exact Tryz.call9) fun h' hl' => by exact refCheck_calls _ (by assumption) (by assumption) h') ?_
  refine AOps.q rfl rfl rfl (q_ne rfl rfl rfl) ?_
  refine AOps.nil ?_
  refine AW.cond rfl (fun c0 => ?_) (fun c0 => ?_)
  · skip
    refine AW.seq ?_
    refine AW.region ?_
    refine AOps.q rfl rfl rfl (q_mv rfl (rfl : _ = V.sl _ _ _ _)) ?_
    refine AOps.q rfl rfl rfl (q_as rfl (rfl : _ = V.sl _ _ _ _)) ?_
    refine AOps.nil ?_
    refine AW.ret ?_
    exact retQ.mk' (.one _) (by rw [refDyingF, if_pos (by simpa using c0)]; exact .fullimm) (HLe.refl _) ⟨rfl, rfl⟩
  · have hc0 : refCheck s = 0 := by simpa using c0
    obtain ⟨p1, p2, p3, p4⟩ := right_parts (refCheck_eq ▸ hc0)
    have hz : ∀ id ∈ s.lists 8, 0 ≤ id ∧ id < s.objs.length := fun id hid => ⟨(right_ids p3 (by decide) id hid).1, (right_ids p3 (by decide) id hid).2.1⟩
    refine AW.skip ?_
    refine AW.seq ?_
    refine AW.seq ?_
    refine AW.region ?_
    refine AOps.q rfl rfl rfl (q_fa_i rfl Tryz.underlying29 rfl (by exact Tryz.sizeOf24) (by decide) rfl (rfl : _ = List.drop 1 _)) ?_
    refine AOps.q rfl rfl rfl (q_ia_ai rfl Tryz.underlying24 Tryz.sizeOf23 rfl rfl (by decide) (by decide) rfl) ?_
    refine AOps.q rfl rfl rfl (q_load_i1 rfl Tryz.isAgg23 rfl rfl) ?_
    refine AOps.q rfl rfl rfl (q_len rfl Tryz.underlying23 rfl) ?_
    refine AOps.q rfl rfl rfl (q_mv rfl (rfl : _ = V.int _ _)) ?_
    refine AOps.nil ?_
    refine AW.block ?_
    refine AW.loop (fun n T hh => ∃ (i : Nat) (v : V), i ≤ (s.lists 8).length ∧ n = (s.lists 8).length - i ∧ T = put (put (put (put (put (T0) 15 (V.int .i64 (i : Nat))) 14 (V.int .i64 (s.lists 8).length)) 13 (eInts (s.lists 8))) 3 (v)) 1 (V.iptr (cState s)) ∧ Go.AV.Acc h 1 (refDyingUp s i).length (cInts (refDyingUp s i)) v hh) ((s.lists 8).length) ?_ ?_
    · skip
      refine Wk.mk (TLe.put (d := 1) (VLe.refl _) (TLe.put (d := 3) (VLe.refl _) (TLe.put (d := 13) (VLe.refl _) (TLe.put (d := 14) (VLe.refl _) (TLe.put (d := 15) (by exact VLe.of_eq (congrArg (V.int .i64) (by first | rfl | omega))) (TLe.zero _)))))) (HLe.refl _) ⟨0, _, Nat.zero_le _, rfl, rfl, by exact Go.AV.Acc.full rfl⟩
    · skip
      rintro n T h' ⟨i, v, hi, rfl, rfl, hem⟩
      refine AW.seq ?_
      refine AW.region ?_
      refine AOps.q rfl rfl rfl (q_lt rfl rfl rfl) ?_
      refine AOps.nil ?_
      refine AW.seq ?_
      refine AW.cond rfl (fun c1 => ?_) (fun c1 => ?_)
      · have hlt : i < (s.lists 8).length := by have := of_decide_eq_true c1; omega
        have hul := refDying_le (s := s) (i := i)
        have hid := hz _ (getD_mem hlt)
        have hob := right_obd p2 hid
        have h10 : 0 ≤ s.objs.getD ((s.lists 8).getD i 0).toNat noObj 10 ∧ s.objs.getD ((s.lists 8).getD i 0).toNat noObj 10 < 18446744073709551616 := by
          have h := right_obj p2 (i := ((s.lists 8).getD i 0).toNat) (by omega) 10 (by decide)
          exact ⟨h.1, Int.lt_of_le_of_lt h.2 (by simp only [oHi]; omega)⟩
        have h6 : 0 ≤ s.objs.getD ((s.lists 8).getD i 0).toNat noObj 6 ∧ s.objs.getD ((s.lists 8).getD i 0).toNat noObj 6 ≤ 1073741824 := right_obj p2 (by omega) 6 (by decide)
        have hpb := pumUp_bd hz hob _ (Nat.le_refl _)
        rw [pumUp_all] at hpb
        unfold bd2 at hpb
        obtain ⟨_, _, o9, o9'⟩ := id hob
        have hsl : (rstatsF s).length ≤ 10000000 := by rw [← rUp_all]; exact rUp_len hl8
        have ht : (rofF s ((s.lists 8).getD i 0)).t = (pumF s ((s.lists 8).getD i 0)).2 + s.objs.getD ((s.lists 8).getD i 0).toNat noObj 9 := rfl
        refine AW.skip ?_
        refine AW.seq ?_
        refine AW.block ?_
        refine AW.seq ?_
        refine AW.region ?_
        refine AOps.q rfl rfl rfl (q_ia_s rfl Tryz.underlying23 Tryz.sizeOf3 rfl rfl (by omega) (by omega) (cInts_at hlt)) ?_
        refine AOps.q rfl rfl rfl (q_load_i1 rfl Tryz.isAgg3 rfl rfl) ?_
        refine AOps.q rfl rfl rfl (q_as rfl (rfl : _ = V.int _ _)) ?_
        refine AOps.nil ?_
        refine AW.seq ?_
        refine AW.draw [] [] [(0, true), (1, true), (2, true), (3, true), (4, true), (5, true), (6, true), (7, true), (8, true), (9, true), (10, true), (11, true), (12, true), (13, true), (14, true), (15, true), (16, true)] mixed (by kernel_rfl) rfl (by kernel_rfl) ?_
        refine AOrd.q rfl rfl rfl rfl (q_load_iW rfl Tryz.isAgg29 Tryz.sizeOf29 rfl (by rfl)) ?_
        refine AOrd.q rfl rfl rfl rfl (q_mv rfl (rfl : _ = V.int _ _)) ?_
        refine AOrd.q rfl rfl rfl rfl (QOp.call rfl (by exact Tryz.call36) fun h' hl' => by exact refIs_calls _ _ h') ?_
        refine AOrd.q rfl rfl rfl rfl (q_mv rfl (rfl : _ = V.bool _)) ?_
        refine AOrd.g rfl rfl (wanted_t rfl rfl) rfl (fun hc => TLe.refl _) (fun hc => q_load_iW rfl Tryz.isAgg29 Tryz.sizeOf29 rfl (by rfl)) ?_
        refine AOrd.g rfl rfl (wanted_t rfl rfl) rfl (fun hc => TLe.refl _) (fun hc => q_mv rfl (rfl : _ = V.int _ _)) ?_
        refine AOrd.g rfl rfl (wanted_t rfl rfl) rfl (fun hc => TLe.put (d := 24) (VLe.opt hc) (TLe.put (d := 23) (VLe.opt hc) (TLe.refl _))) (fun hc => QOp.call rfl (by exact Tryz.call37) fun h' hl' => by exact refOf_calls s _ hid hz hl8 hob h10 h') ?_
        refine AOrd.g rfl rfl (wanted_t rfl rfl) rfl (fun hc => TLe.put (d := 25) (VLe.opt hc) (TLe.refl _)) (fun hc => q_f1 rfl Tryz.underlying64 rfl (by exact Tryz.isAgg3) rfl rfl) ?_
        refine AOrd.g rfl rfl (wanted_t rfl rfl) rfl (fun hc => TLe.refl _) (fun hc => q_fa_i rfl Tryz.underlying29 rfl (by exact Tryz.sizeOf22) (by decide) rfl (rfl : _ = List.drop 0 _)) ?_
        refine AOrd.g rfl rfl (wanted_t rfl rfl) rfl (fun hc => TLe.put (d := 27) (VLe.opt hc) (TLe.refl _)) (fun hc => q_load_i1 rfl Tryz.isAgg22 rfl rfl) ?_
        refine AOrd.g rfl rfl (wanted_t rfl rfl) rfl (fun hc => TLe.refl _) (fun hc => q_mv rfl (rfl : _ = V.int _ _)) ?_
        refine AOrd.g rfl rfl (wanted_t rfl rfl) rfl (fun hc => TLe.put (d := 29) (VLe.opt hc) (TLe.put (d := 28) (VLe.opt hc) (TLe.refl _))) (fun hc => q_ia_s rfl Tryz.underlying22 Tryz.sizeOf49 rfl rfl hid.1 hid.2 (cObjs_elem' hid.1 hid.2)) ?_
        refine AOrd.g rfl rfl (wanted_t rfl rfl) rfl (fun hc => TLe.put (d := 30) (VLe.opt hc) (TLe.refl _)) (fun hc => q_ia_ai rfl Tryz.underlying49 Tryz.sizeOf3 rfl rfl (by decide) (by decide) rfl) ?_
        refine AOrd.g rfl rfl (wanted_t rfl rfl) rfl (fun hc => TLe.put (d := 31) (VLe.opt hc) (TLe.refl _)) (fun hc => q_load_i1 rfl Tryz.isAgg3 rfl rfl) ?_
        refine AOrd.g rfl rfl (wanted_t rfl rfl) rfl (fun hc => TLe.put (d := 32) (VLe.opt hc) (TLe.put (d := 26) (VLe.opt hc) (TLe.refl _))) (fun hc => q_sub' rfl rfl rfl (by omega)) ?_
        refine AOrd.g rfl rfl (wanted_t rfl rfl) rfl (fun hc => TLe.put (d := 33) (VLe.opt hc) (TLe.refl _)) (fun hc => q_le rfl rfl rfl) ?_
        refine AOrd.q rfl rfl rfl rfl (q_pickg rfl rfl (fun hp => by exact VLe.opt hp) (fun hp => by exact VLe.refl _)) ?_
        refine AOrd.nil ?_
        refine AW.cond rfl (fun c2 => ?_) (fun c2 => ?_)
        · skip
          refine AW.region ?_
          refine AOps.q rfl rfl rfl (q_mv rfl (rfl : _ = _)) ?_
          refine AOps.q rfl rfl rfl (q_mv rfl (rfl : _ = V.int _ _)) ?_
          refine AOps.q rfl rfl rfl (q_buildSl rfl Tryz.underlying23 Tryz.sizeOf3 Tryz.zeroValue3 rfl rfl rfl rfl rfl) ?_
          refine AOps.s rfl rfl rfl (a_append rfl Tryz.underlying23 (i := Tryz.t3) (by kernel_rfl) rfl (n := 1) (by' := 8) rfl rfl rfl rfl hem rfl rfl (by decide) (by omega) (by omega) rfl (fun v2 h2 acc => ?_))
          refine AOps.q rfl rfl rfl (q_as rfl (rfl : _ = _)) ?_
          refine AOps.nil ?_
          refine AW.region ?_
          refine AOps.q rfl rfl rfl (q_add' rfl rfl rfl (by omega)) ?_
          refine AOps.q rfl rfl rfl (q_mv rfl (rfl : _ = V.int _ _)) ?_
          refine AOps.nil ?_
          refine Wk.mk (TLe.put (d := 1) (VLe.refl _) (TLe.put (d := 3) (VLe.refl _) (TLe.put (d := 13) (VLe.refl _) (TLe.put (d := 14) (VLe.refl _) (TLe.put (d := 15) (by exact VLe.of_eq (congrArg (V.int .i64) (by first | rfl | omega))) (TLe.zero _)))))) (HLe.refl _) ⟨_, ?_, i + 1, _, ?_, rfl, rfl, by first | (rw [refDying_yes hlt c2, cInts_app, List.length_append]; exact acc) | (rw [refDying_no hlt c2]; exact hem)⟩
          · omega
          · omega
        · skip
          refine AW.skip ?_
          refine AW.region ?_
          refine AOps.q rfl rfl rfl (q_add' rfl rfl rfl (by omega)) ?_
          refine AOps.q rfl rfl rfl (q_mv rfl (rfl : _ = V.int _ _)) ?_
          refine AOps.nil ?_
          refine Wk.mk (TLe.put (d := 1) (VLe.refl _) (TLe.put (d := 3) (VLe.refl _) (TLe.put (d := 13) (VLe.refl _) (TLe.put (d := 14) (VLe.refl _) (TLe.put (d := 15) (by exact VLe.of_eq (congrArg (V.int .i64) (by first | rfl | omega))) (TLe.zero _)))))) (HLe.refl _) ⟨_, ?_, i + 1, _, ?_, rfl, rfl, by first | (rw [refDying_yes hlt c2, cInts_app, List.length_append]; exact acc) | (rw [refDying_no hlt c2]; exact hem)⟩
          · omega
          · omega
      · obtain rfl : i = (s.lists 8).length := by have := of_decide_eq_false c1; omega
        rw [refDying_all] at hem
        refine AW.exit ?_
        refine AW.seq ?_
        refine AW.region ?_
        refine AOps.q rfl rfl rfl (q_mv rfl (rfl : _ = _)) ?_
        refine AOps.q rfl rfl rfl (q_as rfl (rfl : _ = _)) ?_
        refine AOps.nil ?_
        refine AW.ret ?_
        exact retQ.mk' (.one _) (by rw [refDyingF, if_neg (by simpa using c0)]; exact hem.vle) hem.hle ⟨rfl, rfl⟩

/-! The document's shape is the program's. -/
def toStat (s : St) (x : RStat) : Static := ⟨x.id, s.objs.getD x.id.toNat noObj 2, x.doo.n, e0 x⟩
theorem range_getD {α : Type} (z : α) (l : List α) : (List.range l.length).map (fun j => l.getD j z) = l := by
  refine List.ext_getElem (by simp) fun j h1 h2 => ?_
  simp [List.getD_eq_getElem?_getD, h2]
theorem statics_eq {s : St} : staticsF s = (rstatsF s).map (toStat s) := by
  unfold staticsF rstatsF
  rw [List.map_flatMap]
  congr 1; funext id
  unfold staticsOf rstatsOf rAbs usesF usesUp
  have h := range_getD noAb (kindF s id).abs
  rw [List.map_map, List.map_map]
  conv => rhs; rw [← h, List.filter_map, List.map_map]
  rfl
theorem reach_eq {s : St} {x : RStat} {i : Int} (h : 0 ≤ x.doo.n ∧ x.doo.n ≤ 3) : reachesF (toStat s x) s i = withinF s x i := by
  have hn : x.doo.n = 0 ∨ x.doo.n = 1 ∨ x.doo.n = 2 ∨ x.doo.n = 3 := by omega
  rcases hn with e | e | e | e <;> simp [reachesF, withinF, toStat, e, bne_comm]
theorem step_eq {s : St} {i : Int} {x : RStat} (h : 0 ≤ x.doo.n ∧ x.doo.n ≤ 3) (a : Sum) : ((evStep s i a (toStat s x)).out.p, (evStep s i a (toStat s x)).out.t) = becStep s i (a.out.p, a.out.t) x ∧
    ∀ c d, ((evStep s i a (toStat s x)).more.p + c, (evStep s i a (toStat s x)).more.t + d) = pumStep s i (a.more.p + c, a.more.t + d) x := by
  unfold evStep becStep pumStep
  rw [reach_eq h]
  have e0' : (toStat s x).doo = e0 x := rfl
  rw [e0']
  cases hw : withinF s x i with
  | false => simp
  | true =>
    by_cases h1 : (e0 x).op = 24
    · simp [h1]
    · by_cases h2 : (e0 x).op = 10
      · simp [h2]; intro c d; omega
      · by_cases h3 : (e0 x).op = 23
        · simp [h3]
        · by_cases h4 : (e0 x).op = 25
          · simp [h4]
          · have b1 : ((e0 x).op == 24) = false := by simpa using h1
            have b2 : ((e0 x).op == 10) = false := by simpa using h2
            simp [h1, h2, h3, h4, b1, b2]
theorem fold_eq {s : St} {i : Int} : ∀ (l : List RStat) (_ : ∀ x ∈ l, 0 ≤ x.doo.n ∧ x.doo.n ≤ 3) (a : Sum), ((((l.map (toStat s)).foldl (evStep s i) a).out.p, ((l.map (toStat s)).foldl (evStep s i) a).out.t) = l.foldl (becStep s i) (a.out.p, a.out.t)) ∧
    ∀ c d, ((((l.map (toStat s)).foldl (evStep s i) a).more.p + c, ((l.map (toStat s)).foldl (evStep s i) a).more.t + d) = l.foldl (pumStep s i) (a.more.p + c, a.more.t + d))
  | [], _, a => ⟨rfl, fun _ _ => rfl⟩
  | x :: l, h, a => by
    obtain ⟨h1, h2⟩ := step_eq (i := i) (h x (by simp)) a
    obtain ⟨g1, g2⟩ := fold_eq l (fun y hy => h y (by simp [hy])) (evStep s i a (toStat s x))
    simp only [List.map_cons, List.foldl_cons]
    exact ⟨by rw [g1, h1], fun c d => by rw [g2, h2]⟩
theorem rof_eq {s : St} {i : Int} (hz : ∀ id ∈ s.lists 8, 0 ≤ id ∧ id < s.objs.length) : (rofF s i).p = (evalF s i).p ∧ (rofF s i).t = (evalF s i).t := by
  obtain ⟨g1, g2⟩ := fold_eq (i := i) (rstatsF s) (fun x hx => (rstat_ok hz x hx).2.2.2.1) (ev0 s i)
  have hb : ((evSum s i (staticsF s)).out.p, (evSum s i (staticsF s)).out.t) = becF s i := by
    unfold evSum; rw [statics_eq, g1]; rfl
  have hp : pumF s i = ((evSum s i (staticsF s)).more.p + ((becF s i).1 - s.objs.getD i.toNat noObj 8), (evSum s i (staticsF s)).more.t + ((becF s i).2 - s.objs.getD i.toNat noObj 9)) := by
    unfold evSum; rw [statics_eq, g2, pumF]
    congr 1
    simp only [ev0, Prod.mk.injEq]; omega
  have h1 : (rofF s i).p = (pumF s i).1 + s.objs.getD i.toNat noObj 8 := rfl
  have h2 : (rofF s i).t = (pumF s i).2 + s.objs.getD i.toNat noObj 9 := rfl
  have h3 : (evalF s i).p = (evSum s i (staticsF s)).out.p + (evSum s i (staticsF s)).more.p := rfl
  have h4 : (evalF s i).t = (evSum s i (staticsF s)).out.t + (evSum s i (staticsF s)).more.t := rfl
  rw [h1, h2, h3, h4, hp, ← hb]; simp only; omega
/-- What is dying by the document is dying. -/
theorem refDying_eq {s : St} : refDyingF s = dyingF s := by
  unfold refDyingF dyingF
  rw [refCheck_eq]
  by_cases h : checkF s = 0
  · rw [if_neg (by simpa using h)]
    obtain ⟨p1, p2, p3, p4⟩ := right_parts h
    have hz : ∀ id ∈ s.lists 8, 0 ≤ id ∧ id < s.objs.length := fun id hid => ⟨(right_ids p3 (by decide) id hid).1, (right_ids p3 (by decide) id hid).2.1⟩
    refine List.filter_congr fun id hid => ?_
    unfold refDies dies leftF ofF
    rw [(rof_eq hz).2]
    cases hc : creatureF s id <;> simp [h]
  · rw [if_pos h]
    refine (List.filter_eq_nil_iff.2 fun id hid => ?_).symm
    unfold dies leftF ofF
    simp [h]

end Go.Proofs.YtnbmcbkokaoapaaGreatDoor
