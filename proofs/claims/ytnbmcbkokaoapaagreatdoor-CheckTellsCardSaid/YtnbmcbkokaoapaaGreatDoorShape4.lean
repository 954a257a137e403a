/- Walks: what is left of a creature; what is dying. -/
import Derived.Test.YtnbmcbkokaoapaaGreatDoorShape3
namespace Go.Proofs.YtnbmcbkokaoapaaGreatDoor
open Go Go.AV
set_option maxRecDepth 100000
set_option maxHeartbeats 1000000
theorem right_parts {s : St} (h : checkF s = 0) : s.objs.length ≤ 400 ∧ rangesF s = true ∧ zonesF s = true ∧ ∀ o ∈ s.objs, formedF o = true := by
  unfold checkF at h
  split at h
  · cases h
  split at h
  · cases h
  split at h
  · cases h
  split at h
  · cases h
  rename_i a b c d
  refine ⟨by omega, by simpa using b, by simpa using c, fun o ho => ?_⟩
  simp only [List.any_eq_true, not_exists, not_and] at d
  have := d o ho; simpa using this
theorem right_ids {s : St} (h : zonesF s = true) {z : Nat} (hz : z < 11) : ∀ id ∈ s.lists z, 0 ≤ id ∧ id < s.objs.length ∧ objAt s id 3 = z ∧ standsF (objAt s id) z = true := by
  simp only [zonesF, Bool.and_eq_true, List.all_eq_true, List.mem_range] at h
  intro id hid
  have := h.1.1 z hz id hid
  simp only [standsAt, Bool.and_eq_true, beq_iff_eq] at this
  obtain ⟨⟨a, b⟩, c⟩ := this
  have : 0 ≤ id ∧ id < s.objs.length := by simpa [inN] using a
  exact ⟨this.1, this.2, b, c⟩
theorem right_obj {s : St} (h : rangesF s = true) {i : Nat} (hi : i < s.objs.length) (f : Nat) (hf : f < 18) : oLo s.objs.length f ≤ s.objs.getD i noObj f ∧ s.objs.getD i noObj f ≤ oHi s.objs.length f := by
  simp only [rangesF, Bool.and_eq_true] at h
  have := (List.all_eq_true.1 h.1.1) _ (getD_mem' (z := noObj) hi)
  have := (all_up.1 this) f hf
  simpa [inB] using this
theorem right_obd {s : St} (h : rangesF s = true) {i : Int} (hi : 0 ≤ i ∧ i < s.objs.length) : obd (s.objs.getD i.toNat noObj) :=
  have hl : i.toNat < s.objs.length := by omega
  ⟨right_obj h hl 7 (by decide), right_obj h hl 8 (by decide), right_obj h hl 9 (by decide)⟩
theorem creature_in {s : St} {i : Int} (h : creatureF s i = true) : 0 ≤ i ∧ i < s.objs.length := by
  simp only [creatureF, Bool.and_eq_true] at h; simpa [inN] using h.1.1
def ofF (s : St) (i : Int) : Sh × Int := if checkF s ≠ 0 then (⟨0, 0, 0⟩, checkF s) else if creatureF s i = false then (⟨0, 0, 0⟩, 4) else (evalF s i, 0)
theorem of_ok {s : St} {i : Int} (h : (ofF s i).2 = 0) : checkF s = 0 ∧ creatureF s i = true ∧ ofF s i = (evalF s i, 0) := by
  unfold ofF at *
  split at h
  · rename_i a; exact absurd h a
  split at h
  · cases h
  · rename_i a b; exact ⟨by omega, by simpa using b, by rw [if_neg a, if_neg b]⟩
def leftF (s : St) (i : Int) : Int × Int := if (ofF s i).2 ≠ 0 then (0, (ofF s i).2) else ((ofF s i).1.t - s.objs.getD i.toNat noObj 6, 0)
def dies (s : St) (id : Int) : Bool := (leftF s id).2 == 0 && decide ((leftF s id).1 ≤ 0)
def dyingUp (s : St) (i : Nat) : List Int := ((s.lists 8).take i).filter (dies s)
/-- What is dying. -/
def dyingF (s : St) : List Int := (s.lists 8).filter (dies s)
theorem dying_all {s : St} : dyingUp s (s.lists 8).length = dyingF s := by simp [dyingUp, dyingF]
theorem dying_step {s : St} {i : Nat} (h : i < (s.lists 8).length) : dyingUp s (i + 1) = dyingUp s i ++ if dies s ((s.lists 8).getD i 0) then [(s.lists 8).getD i 0] else [] := by
  rw [dyingUp, List.take_add_one, List.getElem?_eq_getElem h, getD_of h, Option.toList_some, List.filter_append, dyingUp]; simp only [List.filter_cons, List.filter_nil]
theorem dying_yes {s : St} {i : Nat} (h : i < (s.lists 8).length) (c : dies s ((s.lists 8).getD i 0) = true) : dyingUp s (i + 1) = dyingUp s i ++ [(s.lists 8).getD i 0] := by rw [dying_step h, if_pos c]
theorem dying_no {s : St} {i : Nat} (h : i < (s.lists 8).length) (c : dies s ((s.lists 8).getD i 0) = false) : dyingUp s (i + 1) = dyingUp s i := by rw [dying_step h, if_neg (by simp [-List.getD_eq_getElem?_getD, c]), List.append_nil]
theorem dying_le {s : St} {i : Nat} : (dyingUp s i).length ≤ (s.lists 8).length := Nat.le_trans (List.length_filter_le _ _) (by rw [List.length_take]; omega)
def quietF (s : St) : Bool := s.game 6 != 0 || (resultF s == 0 && ((dyingF s).length : Int) == 0)
def settledF (s : St) : Bool := checkF s == 0 && quietF s

theorem of_calls (s : St) (i : Int) (hb : s.objs.length ≤ 1000000) (hl : ∀ z, (s.lists z).length ≤ 1000000) (h : Hp) : ACalls Tryz.prog G 64 [eState s, .int .i64 i] h fun r h' => r = .tup [.agg (cSh (ofF s i).1), eE (ofF s i).2] ∧ h' = h := by
  refine ACalls.enter Tryz.func64 rfl Tryz.ntmps64 Tryz.results64 rfl ?_
  refine AW.seq ?_
  refine AW.region ?_
  refine AOps.q rfl rfl rfl (q_boxa rfl (rfl : _ = V.agg _)) ?_
  refine AOps.s rfl rfl rfl (a_alloc rfl Tryz.zeroValue104 rfl (fun id4 hid4 => ?_))
  refine AOps.q rfl rfl rfl (q_as rfl (rfl : _ = V.inil)) ?_
  refine AOps.nil ?_
  refine AW.seq ?_
  refine AW.seq ?_
  refine AW.region ?_
  refine AOps.q rfl rfl rfl (q_load_iW rfl Tryz.isAgg29 Tryz.sizeOf29 rfl (by rfl)) ?_
  refine AOps.q rfl rfl rfl (QOp.call rfl (by exact Tryz.call30) fun h' hl' => by exact check_calls _ (by assumption) (by assumption) h') ?_
  refine AOps.q rfl rfl rfl (q_as rfl (rfl : _ = eErr _ _)) ?_
  refine AOps.nil ?_
  refine AW.seq ?_
  refine AW.region ?_
  refine AOps.q rfl rfl rfl (q_mv rfl (rfl : _ = eErr _ _)) ?_
  refine AOps.q rfl rfl rfl (q_neerr Tryz.underlying38 rfl rfl) ?_
  refine AOps.nil ?_
  refine AW.cond rfl (fun c0 => ?_) (fun c0 => ?_)
  · skip
    refine AW.seq ?_
    refine AW.region ?_
    refine AOps.q rfl rfl rfl (q_buildS rfl Tryz.zeroValue104 Tryz.underlying104 (pl104 Tryz.underlying104) rfl rfl) ?_
    refine AOps.q rfl rfl rfl (q_mv rfl (rfl : _ = eErr _ _)) ?_
    refine AOps.s0 rfl rfl (a_storeWA rfl Tryz.sizeOf104 rfl rfl (rfl : _ = V.agg _) rfl rfl ?_)
    refine AOps.q rfl rfl rfl (q_as rfl (rfl : _ = eErr _ _)) ?_
    refine AOps.nil ?_
    refine AW.ret ?_
    exact retQ.mk' (Res.cellB1 Tryz.isAgg104 Tryz.sizeOf104 rfl (by exact Hp.box_setBox _ _ _) rfl) (VLe.of_eq (by rw [show ofF s i = (⟨0, 0, 0⟩, checkF s) by rw [ofF, if_pos (by simpa using c0)]]; rfl)) (HLe.setBox hid4.1) ⟨rfl, rfl⟩
  · skip
    refine AW.skip ?_
    refine AW.seq ?_
    refine AW.seq ?_
    refine AW.region ?_
    refine AOps.q rfl rfl rfl (q_load_iW rfl Tryz.isAgg29 Tryz.sizeOf29 rfl (by rfl)) ?_
    refine AOps.q rfl rfl rfl (q_mv rfl (rfl : _ = V.int _ _)) ?_
    refine AOps.q rfl rfl rfl (QOp.call rfl (by exact Tryz.call93) fun h' hl' => by exact creature_calls _ _ h') ?_
    refine AOps.q rfl rfl rfl (q_not rfl rfl) ?_
    refine AOps.nil ?_
    refine AW.cond rfl (fun c1 => ?_) (fun c1 => ?_)
    · skip
      refine AW.seq ?_
      refine AW.region ?_
      refine AOps.q rfl rfl rfl (q_buildS rfl Tryz.zeroValue104 Tryz.underlying104 (pl104 Tryz.underlying104) rfl rfl) ?_
      refine AOps.q rfl rfl rfl (q_iface rfl Tryz.underlying62 rfl) ?_
      refine AOps.s0 rfl rfl (a_storeWA rfl Tryz.sizeOf104 rfl rfl (rfl : _ = V.agg _) rfl rfl ?_)
      refine AOps.q rfl rfl rfl (q_as rfl (rfl : _ = V.iface _ _)) ?_
      refine AOps.nil ?_
      refine AW.ret ?_
      exact retQ.mk' (Res.cellB1 Tryz.isAgg104 Tryz.sizeOf104 rfl (by exact Hp.box_setBox _ _ _) rfl) (VLe.of_eq (by rw [show ofF s i = (⟨0, 0, 0⟩, 4) by rw [ofF, if_neg (by simpa using c0), if_pos (by simpa using c1)]]; rw [show eE 4 = V.iface _ _ from eErr_ne (by decide)]; rfl)) (HLe.setBox hid4.1) ⟨rfl, rfl⟩
    · have hc0 : checkF s = 0 := by simpa using c0
      have hcr : creatureF s i = true := by simpa using c1
      obtain ⟨p1, p2, p3, p4⟩ := right_parts hc0
      have hi := creature_in hcr
      refine AW.skip ?_
      refine AW.seq ?_
      refine AW.region ?_
      refine AOps.q rfl rfl rfl (q_load_iW rfl Tryz.isAgg29 Tryz.sizeOf29 rfl (by rfl)) ?_
      refine AOps.q rfl rfl rfl (q_mv rfl (rfl : _ = V.int _ _)) ?_
      refine AOps.q rfl rfl rfl (QOp.call rfl (by exact Tryz.call94) fun h' hl' => by exact eval_calls s i hi (fun id hid => ⟨(right_ids p3 (by decide) id hid).1, (right_ids p3 (by decide) id hid).2.1⟩) (hl 8) (right_obd p2 hi) h') ?_
      refine AOps.s0 rfl rfl (a_storeWA rfl Tryz.sizeOf104 rfl rfl (rfl : _ = V.agg _) rfl rfl ?_)
      refine AOps.q rfl rfl rfl (q_as rfl (rfl : _ = V.inil)) ?_
      refine AOps.nil ?_
      refine AW.ret ?_
      exact retQ.mk' (Res.cellB1 Tryz.isAgg104 Tryz.sizeOf104 rfl (by exact Hp.box_setBox _ _ _) rfl) (VLe.of_eq (by rw [show ofF s i = (evalF s i, 0) by rw [ofF, if_neg (by simpa using c0), if_neg (by rw [hcr]; decide)]]; rw [show eE 0 = V.inil from eErr_zero _]; rfl)) (HLe.setBox hid4.1) ⟨rfl, rfl⟩

theorem left_calls (s : St) (i : Int) (hb : s.objs.length ≤ 1000000) (hl : ∀ z, (s.lists z).length ≤ 1000000) (h : Hp) : ACalls Tryz.prog G 38 [eState s, .int .i64 i] h fun r h' => r = .tup [.int .i64 (leftF s i).1, eE (leftF s i).2] ∧ h' = h := by
  refine ACalls.enter Tryz.func38 rfl Tryz.ntmps38 Tryz.results38 rfl ?_
  refine AW.seq ?_
  refine AW.region ?_
  refine AOps.q rfl rfl rfl (q_boxa rfl (rfl : _ = V.agg _)) ?_
  refine AOps.q rfl rfl rfl (q_as rfl (rfl : _ = V.int _ _)) ?_
  refine AOps.q rfl rfl rfl (q_as rfl (rfl : _ = V.inil)) ?_
  refine AOps.nil ?_
  refine AW.seq ?_
  refine AW.region ?_
  refine AOps.q rfl rfl rfl (q_load_iW rfl Tryz.isAgg29 Tryz.sizeOf29 rfl (by rfl)) ?_
  refine AOps.q rfl rfl rfl (q_mv rfl (rfl : _ = V.int _ _)) ?_
  refine AOps.q rfl rfl rfl (QOp.call rfl (by exact Tryz.call64) fun h' hl' => by exact of_calls _ _ (by assumption) (by assumption) h') ?_
  refine AOps.q rfl rfl rfl (q_mv rfl (rfl : _ = V.tup _)) ?_
  refine AOps.q rfl rfl rfl (q_extract rfl rfl rfl) ?_
  refine AOps.q rfl rfl rfl (q_extract rfl rfl rfl) ?_
  refine AOps.s rfl rfl rfl (a_alloc rfl Tryz.zeroValue104 rfl (fun id6 hid6 => ?_))
  refine AOps.s0 rfl rfl (a_storeWA rfl Tryz.sizeOf104 rfl rfl (rfl : _ = V.agg _) rfl rfl ?_)
  refine AOps.done 6 rfl hid6 ?_
  refine AOps.q rfl rfl rfl (q_as rfl (rfl : _ = eErr _ _)) ?_
  refine AOps.nil ?_
  refine AW.seq ?_
  refine AW.seq ?_
  refine AW.region ?_
  refine AOps.q rfl rfl rfl (q_mv rfl (rfl : _ = eErr _ _)) ?_
  refine AOps.q rfl rfl rfl (q_neerr Tryz.underlying38 rfl rfl) ?_
  refine AOps.nil ?_
  refine AW.cond rfl (fun c0 => ?_) (fun c0 => ?_)
  · skip
    refine AW.seq ?_
    refine AW.region ?_
    refine AOps.q rfl rfl rfl (q_mv rfl (rfl : _ = eErr _ _)) ?_
    refine AOps.q rfl rfl rfl (q_as rfl (rfl : _ = V.int _ _)) ?_
    refine AOps.q rfl rfl rfl (q_as rfl (rfl : _ = eErr _ _)) ?_
    refine AOps.nil ?_
    refine AW.ret ?_
    exact retQ.mk' (.two _ _) (VLe.of_eq (by rw [show leftF s i = (0, (ofF s i).2) by rw [leftF, if_pos (by simpa using c0)]]; rfl)) (HLe.refl _) ⟨rfl, rfl⟩
  · have hz0 : (ofF s i).2 = 0 := by simpa using c0
    obtain ⟨hc0, hcr, ho⟩ := of_ok hz0
    obtain ⟨p1, p2, p3, p4⟩ := right_parts hc0
    have hi := creature_in hcr
    have hsl : (staticsF s).length ≤ 10000000 := by rw [← stUp_all]; exact stUp_len (hl 8)
    have hbd := evUp_bd (right_obd p2 hi) _ (Nat.le_refl _)
    rw [evUp_all] at hbd
    obtain ⟨⟨q1, q2, q3, q4⟩, q5, q6, q7, q8⟩ := hbd
    have hd : 0 ≤ s.objs.getD i.toNat noObj 6 ∧ s.objs.getD i.toNat noObj 6 ≤ 1073741824 := right_obj p2 (by omega) 6 (by decide)
    have ht : (ofF s i).1.t = (evSum s i (staticsF s)).out.t + (evSum s i (staticsF s)).more.t := by rw [ho]; rfl
    refine AW.skip ?_
    refine AW.seq ?_
    refine AW.draw [] [] [(0, true), (1, true), (2, true), (3, true), (4, true), (5, true), (6, true), (7, true), (8, true), (9, true), (10, true)] mixed (by kernel_rfl) rfl (by kernel_rfl) ?_
    refine AOrd.q rfl rfl rfl rfl (q_fa_i rfl Tryz.underlying104 rfl (by exact Tryz.sizeOf3) (by decide) rfl (rfl : _ = List.drop 1 _)) ?_
    refine AOrd.q rfl rfl rfl rfl (q_load_i1 rfl Tryz.isAgg3 rfl rfl) ?_
    refine AOrd.q rfl rfl rfl rfl (q_fa_i rfl Tryz.underlying29 rfl (by exact Tryz.sizeOf22) (by decide) rfl (rfl : _ = List.drop 0 _)) ?_
    refine AOrd.q rfl rfl rfl rfl (q_load_i1 rfl Tryz.isAgg22 rfl rfl) ?_
    refine AOrd.q rfl rfl rfl rfl (q_mv rfl (rfl : _ = V.int _ _)) ?_
    refine AOrd.q rfl rfl rfl rfl (q_ia_s rfl Tryz.underlying22 Tryz.sizeOf49 rfl rfl hi.1 hi.2 (cObjs_elem' hi.1 hi.2)) ?_
    refine AOrd.q rfl rfl rfl rfl (q_ia_ai rfl Tryz.underlying49 Tryz.sizeOf3 rfl rfl (by decide) (by decide) rfl) ?_
    refine AOrd.q rfl rfl rfl rfl (q_load_i1 rfl Tryz.isAgg3 rfl rfl) ?_
    refine AOrd.q rfl rfl rfl rfl (q_sub' rfl rfl rfl (by omega)) ?_
    refine AOrd.q rfl rfl rfl rfl (q_as rfl (rfl : _ = V.int _ _)) ?_
    refine AOrd.q rfl rfl rfl rfl (q_as rfl (rfl : _ = V.inil)) ?_
    refine AOrd.nil ?_
    refine AW.ret ?_
    exact retQ.mk' (.two _ _) (VLe.of_eq (by rw [show leftF s i = ((ofF s i).1.t - s.objs.getD i.toNat noObj 6, 0) by rw [leftF, if_neg (by simpa using c0)]]; rw [show eE 0 = V.inil from eErr_zero _]; rfl)) (HLe.refl _) ⟨rfl, rfl⟩

theorem dying_calls (s : St) (hb : s.objs.length ≤ 1000000) (hl : ∀ z, (s.lists z).length ≤ 1000000) (h : Hp) : ACalls Tryz.prog G 20 [eState s] h fun r h' => r = eInts (dyingF s) ∧ h' = h := by
  have hl8 := hl 8
  refine ACalls.enter Tryz.func20 rfl Tryz.ntmps20 Tryz.results20 rfl ?_
  refine AW.seq ?_
  refine AW.region ?_
  refine AOps.q rfl rfl rfl (q_boxa rfl (rfl : _ = V.agg _)) ?_
  refine AOps.q rfl rfl rfl (q_as rfl (rfl : _ = V.snil)) ?_
  refine AOps.nil ?_
  refine AW.seq ?_
  refine AW.region ?_
  refine AOps.q rfl rfl rfl (q_as rfl (rfl : _ = V.snil)) ?_
  refine AOps.nil ?_
  refine AW.seq ?_
  refine AW.seq ?_
  refine AW.region ?_
  refine AOps.q rfl rfl rfl (q_fa_i rfl Tryz.underlying29 rfl (by exact Tryz.sizeOf24) (by decide) rfl (rfl : _ = List.drop 1 _)) ?_
  refine AOps.q rfl rfl rfl (q_ia_ai rfl Tryz.underlying24 Tryz.sizeOf23 rfl rfl (by decide) (by decide) rfl) ?_
  refine AOps.q rfl rfl rfl (q_load_i1 rfl Tryz.isAgg23 rfl rfl) ?_
  refine AOps.q rfl rfl rfl (q_len rfl Tryz.underlying23 rfl) ?_
  refine AOps.q rfl rfl rfl (q_mv rfl (rfl : _ = V.int _ _)) ?_
  refine AOps.nil ?_
  refine AW.block ?_
  refine AW.loop (fun n T hh => ∃ (i : Nat) (v : V), i ≤ (s.lists 8).length ∧ n = (s.lists 8).length - i ∧ T = put (put (put (put (put (T0) 12 (V.int .i64 (i : Nat))) 11 (V.int .i64 (s.lists 8).length)) 10 (eInts (s.lists 8))) 3 (v)) 1 (V.iptr (cState s)) ∧ Go.AV.Acc h 1 (dyingUp s i).length (cInts (dyingUp s i)) v hh) ((s.lists 8).length) ?_ ?_
  · skip
    refine Wk.mk (TLe.put (d := 1) (VLe.refl _) (TLe.put (d := 3) (VLe.refl _) (TLe.put (d := 10) (VLe.refl _) (TLe.put (d := 11) (VLe.refl _) (TLe.put (d := 12) (by exact VLe.of_eq (congrArg (V.int .i64) (by first | rfl | omega))) (TLe.zero _)))))) (HLe.refl _) ⟨0, V.snil, Nat.zero_le _, rfl, rfl, by exact Go.AV.Acc.nil h 1⟩
  · skip
    rintro n T h' ⟨i, v, hi, rfl, rfl, hem⟩
    refine AW.seq ?_
    refine AW.region ?_
    refine AOps.q rfl rfl rfl (q_lt rfl rfl rfl) ?_
    refine AOps.nil ?_
    refine AW.seq ?_
    refine AW.cond rfl (fun c0 => ?_) (fun c0 => ?_)
    · have hlt : i < (s.lists 8).length := by have := of_decide_eq_true c0; omega
      have hul := dying_le (s := s) (i := i)
      refine AW.skip ?_
      refine AW.seq ?_
      refine AW.block ?_
      refine AW.seq ?_
      refine AW.region ?_
      refine AOps.q rfl rfl rfl (q_ia_s rfl Tryz.underlying23 Tryz.sizeOf3 rfl rfl (by omega) (by omega) (cInts_at hlt)) ?_
      refine AOps.q rfl rfl rfl (q_load_i1 rfl Tryz.isAgg3 rfl rfl) ?_
      refine AOps.q rfl rfl rfl (q_as rfl (rfl : _ = V.int _ _)) ?_
      refine AOps.nil ?_
      refine AW.seq ?_
      refine AW.region ?_
      refine AOps.q rfl rfl rfl (q_load_iW rfl Tryz.isAgg29 Tryz.sizeOf29 rfl (by rfl)) ?_
      refine AOps.q rfl rfl rfl (q_mv rfl (rfl : _ = V.int _ _)) ?_
      refine AOps.q rfl rfl rfl (QOp.call rfl (by exact Tryz.call38) fun h' hl' => by exact left_calls _ _ (by assumption) (by assumption) h') ?_
      refine AOps.q rfl rfl rfl (q_mv rfl (rfl : _ = V.tup _)) ?_
      refine AOps.q rfl rfl rfl (q_extract rfl rfl rfl) ?_
      refine AOps.q rfl rfl rfl (q_extract rfl rfl rfl) ?_
      refine AOps.q rfl rfl rfl (q_as rfl (rfl : _ = V.int _ _)) ?_
      refine AOps.q rfl rfl rfl (q_as rfl (rfl : _ = eErr _ _)) ?_
      refine AOps.nil ?_
      refine AW.seq ?_
      refine AW.region ?_
      refine AOps.q rfl rfl rfl (q_mv rfl (rfl : _ = eErr _ _)) ?_
      refine AOps.q rfl rfl rfl (q_eqerr Tryz.underlying38 rfl rfl) ?_
      refine AOps.q rfl rfl rfl (q_mv rfl (rfl : _ = V.bool _)) ?_
      refine AOps.g (wanted_t rfl rfl) rfl rfl (fun hc => TLe.refl _) (fun hc => q_mv rfl (rfl : _ = V.int _ _)) ?_
      refine AOps.g (wanted_t rfl rfl) rfl rfl (fun hc => TLe.put (d := 25) (VLe.opt hc) (TLe.refl _)) (fun hc => q_le rfl rfl rfl) ?_
      refine AOps.q rfl rfl rfl (q_pickg rfl rfl (fun hp => by exact VLe.opt hp) (fun hp => by exact VLe.refl _)) ?_
      refine AOps.nil ?_
      refine AW.cond rfl (fun c1 => ?_) (fun c1 => ?_)
      · skip
        refine AW.region ?_
        refine AOps.q rfl rfl rfl (q_mv rfl (rfl : _ = _)) ?_
        refine AOps.q rfl rfl rfl (q_mv rfl (rfl : _ = V.int _ _)) ?_
        refine AOps.q rfl rfl rfl (q_buildSl rfl Tryz.underlying23 Tryz.sizeOf3 Tryz.zeroValue3 rfl rfl rfl rfl rfl) ?_
        refine AOps.s rfl rfl rfl (a_append rfl Tryz.underlying23 (i := Tryz.t3) (by kernel_rfl) rfl (n := 1) (by' := 8) rfl rfl rfl rfl hem rfl rfl (by decide) (by omega) (by omega) rfl (fun v2 h2 acc => ?_))
        refine AOps.q rfl rfl rfl (q_as rfl (rfl : _ = _)) ?_
        refine AOps.nil ?_
        refine AW.region ?_
        refine AOps.q rfl rfl rfl (q_add' rfl rfl rfl (by omega)) ?_
        refine AOps.q rfl rfl rfl (q_mv rfl (rfl : _ = V.int _ _)) ?_
        refine AOps.nil ?_
        refine Wk.mk (TLe.put (d := 1) (VLe.refl _) (TLe.put (d := 3) (VLe.refl _) (TLe.put (d := 10) (VLe.refl _) (TLe.put (d := 11) (VLe.refl _) (TLe.put (d := 12) (by exact VLe.of_eq (congrArg (V.int .i64) (by first | rfl | omega))) (TLe.zero _)))))) (HLe.refl _) ⟨_, ?_, i + 1, _, ?_, rfl, rfl, by first | (rw [dying_yes hlt (by simpa [dies] using c1), cInts_app, List.length_append]; exact acc) | (rw [dying_no hlt (by simpa [dies] using c1)]; exact hem)⟩
        · omega
        · omega
      · skip
        refine AW.skip ?_
        refine AW.region ?_
        refine AOps.q rfl rfl rfl (q_add' rfl rfl rfl (by omega)) ?_
        refine AOps.q rfl rfl rfl (q_mv rfl (rfl : _ = V.int _ _)) ?_
        refine AOps.nil ?_
        refine Wk.mk (TLe.put (d := 1) (VLe.refl _) (TLe.put (d := 3) (VLe.refl _) (TLe.put (d := 10) (VLe.refl _) (TLe.put (d := 11) (VLe.refl _) (TLe.put (d := 12) (by exact VLe.of_eq (congrArg (V.int .i64) (by first | rfl | omega))) (TLe.zero _)))))) (HLe.refl _) ⟨_, ?_, i + 1, _, ?_, rfl, rfl, by first | (rw [dying_yes hlt (by simpa [dies] using c1), cInts_app, List.length_append]; exact acc) | (rw [dying_no hlt (by simpa [dies] using c1)]; exact hem)⟩
        · omega
        · omega
    · obtain rfl : i = (s.lists 8).length := by have := of_decide_eq_false c0; omega
      rw [dying_all] at hem
      refine AW.exit ?_
      refine AW.seq ?_
      refine AW.region ?_
      refine AOps.q rfl rfl rfl (q_mv rfl (rfl : _ = _)) ?_
      refine AOps.q rfl rfl rfl (q_as rfl (rfl : _ = _)) ?_
      refine AOps.nil ?_
      refine AW.ret ?_
      exact retQ.mk' (.one _) hem.vle hem.hle ⟨rfl, rfl⟩

theorem quiet_calls (s : St) (hb : s.objs.length ≤ 1000000) (hl : ∀ z, (s.lists z).length ≤ 1000000) (h : Hp) : ACalls Tryz.prog G 33 [eState s] h fun r h' => r = .bool (quietF s) ∧ h' = h := by
  refine ACalls.enter Tryz.func33 rfl Tryz.ntmps33 Tryz.results33 rfl ?_
  refine AW.seq ?_
  refine AW.region ?_
  refine AOps.q rfl rfl rfl (q_boxa rfl (rfl : _ = V.agg _)) ?_
  refine AOps.q rfl rfl rfl (q_as rfl (rfl : _ = V.bool _)) ?_
  refine AOps.nil ?_
  refine AW.seq ?_
  refine AW.region ?_
  refine AOps.q rfl rfl rfl (q_fa_i rfl Tryz.underlying29 rfl (by exact Tryz.sizeOf27) (by decide) rfl (rfl : _ = List.drop 30 _)) ?_
  refine AOps.q rfl rfl rfl (q_ia_ai rfl Tryz.underlying27 Tryz.sizeOf3 rfl rfl (by decide) (by decide) rfl) ?_
  refine AOps.q rfl rfl rfl (q_load_i1 rfl Tryz.isAgg3 rfl rfl) ?_
  refine AOps.q rfl rfl rfl (q_ne rfl rfl rfl) ?_
  refine AOps.q rfl rfl rfl (q_mv rfl (rfl : _ = V.bool _)) ?_
  refine AOps.g (wanted_f rfl rfl) rfl rfl (fun hc => TLe.refl _) (fun hc => q_load_iW rfl Tryz.isAgg29 Tryz.sizeOf29 rfl (by rfl)) ?_
  refine AOps.g (wanted_f rfl rfl) rfl rfl (fun hc => TLe.put (d := 8) (VLe.opt hc) (TLe.refl _)) (fun hc => QOp.call rfl (by exact Tryz.call55) fun h' hl' => by exact result_calls _ h') ?_
  refine AOps.g (wanted_f rfl rfl) rfl rfl (fun hc => TLe.put (d := 9) (VLe.opt hc) (TLe.refl _)) (fun hc => q_eq rfl rfl rfl) ?_
  refine AOps.g (wanted_f rfl rfl) rfl rfl (fun hc => TLe.put (d := 10) (VLe.opt hc) (TLe.refl _)) (fun hc => q_mv rfl (rfl : _ = V.bool _)) ?_
  refine AOps.g (wanted_to rfl rfl) rfl rfl (fun hc => TLe.refl _) (fun hc => q_load_iW rfl Tryz.isAgg29 Tryz.sizeOf29 rfl (by rfl)) ?_
  refine AOps.g (wanted_to rfl rfl) rfl rfl (fun hc => TLe.put (d := 12) (VLe.opt hc) (TLe.refl _)) (fun hc => QOp.call rfl (by exact Tryz.call20) fun h' hl' => by exact dying_calls _ (by assumption) (by assumption) h') ?_
  refine AOps.g (wanted_to rfl rfl) rfl rfl (fun hc => TLe.put (d := 13) (VLe.opt hc) (TLe.refl _)) (fun hc => q_len rfl Tryz.underlying23 rfl) ?_
  refine AOps.g (wanted_to rfl rfl) rfl rfl (fun hc => TLe.put (d := 14) (VLe.opt hc) (TLe.refl _)) (fun hc => q_eq rfl rfl rfl) ?_
  refine AOps.g (wanted_f rfl rfl) rfl rfl (fun hc => TLe.put (d := 11) (VLe.opt hc) (TLe.refl _)) (fun hc => q_pickg rfl rfl (fun hp => by first | exact VLe.opt hp | exact VLe.opt (by rw [hp]; rfl) | exact VLe.opt (by simp_all)) (fun hp => by exact VLe.refl _)) ?_
  refine AOps.q rfl rfl rfl (q_pickg rfl rfl (fun hp => by exact VLe.refl _) (fun hp => by first | exact VLe.opt hp | exact VLe.opt (by rw [hp]; rfl) | exact VLe.opt (by simp_all))) ?_
  refine AOps.q rfl rfl rfl (q_as rfl (rfl : _ = V.bool _)) ?_
  refine AOps.nil ?_
  refine AW.ret ?_
  exact retQ.mk' (.one _) (VLe.of_eq (congrArg V.bool (by rw [quietF]; cases h1 : s.game 6 == 0 <;> cases h2 : resultF s == 0 <;> simp_all))) (HLe.refl _) ⟨rfl, rfl⟩

theorem settled_calls (s : St) (hb : s.objs.length ≤ 1000000) (hl : ∀ z, (s.lists z).length ≤ 1000000) (h : Hp) : ACalls Tryz.prog G 15 [eState s] h fun r h' => r = .bool (settledF s) ∧ h' = h := by
  refine ACalls.enter Tryz.func15 rfl Tryz.ntmps15 Tryz.results15 rfl ?_
  refine AW.seq ?_
  refine AW.region ?_
  refine AOps.q rfl rfl rfl (q_boxa rfl (rfl : _ = V.agg _)) ?_
  refine AOps.q rfl rfl rfl (q_as rfl (rfl : _ = V.bool _)) ?_
  refine AOps.nil ?_
  refine AW.seq ?_
  refine AW.region ?_
  refine AOps.q rfl rfl rfl (q_load_iW rfl Tryz.isAgg29 Tryz.sizeOf29 rfl (by rfl)) ?_
  refine AOps.q rfl rfl rfl (QOp.call rfl (by exact Tryz.call30) fun h' hl' => by exact check_calls _ (by assumption) (by assumption) h') ?_
  refine AOps.q rfl rfl rfl (q_eqerr Tryz.underlying38 rfl rfl) ?_
  refine AOps.q rfl rfl rfl (q_mv rfl (rfl : _ = V.bool _)) ?_
  refine AOps.g (wanted_t rfl rfl) rfl rfl (fun hc => TLe.refl _) (fun hc => q_load_iW rfl Tryz.isAgg29 Tryz.sizeOf29 rfl (by rfl)) ?_
  refine AOps.g (wanted_t rfl rfl) rfl rfl (fun hc => TLe.put (d := 7) (VLe.opt hc) (TLe.refl _)) (fun hc => QOp.call rfl (by exact Tryz.call33) fun h' hl' => by exact quiet_calls _ (by assumption) (by assumption) h') ?_
  refine AOps.q rfl rfl rfl (q_pickg rfl rfl (fun hp => by first | exact VLe.opt hp | exact VLe.opt (by rw [hp]; rfl) | exact VLe.opt (by simp_all)) (fun hp => by exact VLe.refl _)) ?_
  refine AOps.q rfl rfl rfl (q_as rfl (rfl : _ = V.bool _)) ?_
  refine AOps.nil ?_
  refine AW.ret ?_
  exact retQ.mk' (.one _) (VLe.of_eq (congrArg V.bool (by rw [settledF]; cases h1 : checkF s == 0 <;> simp_all))) (HLe.refl _) ⟨rfl, rfl⟩

end Go.Proofs.YtnbmcbkokaoapaaGreatDoor
