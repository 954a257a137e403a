/- Walks: the lists of a state. -/
import Derived.Test.YtnbmcbkokaoapaaGreatDoorChk2
namespace Go.Proofs.YtnbmcbkokaoapaaGreatDoor
open Go Go.AV
set_option maxRecDepth 100000
set_option maxHeartbeats 400000
/-- All that stand somewhere. -/
def ids (s : St) : List Int := (List.range 11).flatMap s.lists
def objAt (s : St) (id : Int) : Obj := s.objs.getD id.toNat noObj
def standsAt (s : St) (z : Nat) (id : Int) : Bool := inN id s.objs.length && objAt s id 3 == z && standsF (objAt s id) z
def zonesF (s : St) : Bool := (List.range 11).all (fun z => (s.lists z).all (standsAt s z)) && decide (ids s).Nodup && decide ((ids s).length = s.objs.length)
def upto (s : St) (z k : Nat) : List Int := (List.range z).flatMap s.lists ++ (s.lists z).take k
theorem upto_next {s : St} {z : Nat} : upto s z (s.lists z).length = upto s (z + 1) 0 := by simp [upto, List.range_succ, List.flatMap_append]
theorem upto_succ {s : St} {z k : Nat} (h : k < (s.lists z).length) : upto s z (k + 1) = upto s z k ++ [(s.lists z).getD k 0] := by
  rw [upto, upto, List.take_add_one, List.getElem?_eq_getElem h, getD_of h, List.append_assoc]; rfl
theorem upto_all {s : St} : upto s 11 0 = ids s := by simp [upto, ids]
theorem upto_len {s : St} (hl : ∀ z, (s.lists z).length ≤ 1000000) (z k : Nat) : (upto s z k).length ≤ z * 1000000 + 1000000 := by
  have h1 : ((List.range z).flatMap s.lists).length ≤ z * 1000000 := by
    induction z with
    | zero => simp
    | succ z ih => rw [List.range_succ, List.flatMap_append, List.length_append]; simp only [List.flatMap_cons, List.flatMap_nil, List.append_nil]; have := hl z; omega
  have h2 : ((s.lists z).take k).length ≤ 1000000 := Nat.le_trans (List.length_take_le' _ _) (hl z)
  simp only [upto, List.length_append]; omega
theorem upto_pre {s : St} {z k : Nat} (hz : z < 11) : List.Sublist (upto s z k) (ids s) := by
  have h1 : ids s = (List.range z).flatMap s.lists ++ (s.lists z ++ ((List.range 11).drop (z + 1)).flatMap s.lists) := by
    have : List.range 11 = List.range z ++ z :: (List.range 11).drop (z + 1) := by
      match z, hz with
      | 0, _ | 1, _ | 2, _ | 3, _ | 4, _ | 5, _ | 6, _ | 7, _ | 8, _ | 9, _ | 10, _ => rfl
    unfold ids
    conv => lhs; rw [this]
    rw [List.flatMap_append, List.flatMap_cons]
  rw [h1, upto]
  exact List.Sublist.append (List.Sublist.refl _) ((List.take_sublist _ _).trans (List.sublist_append_left _ _))
def seenL (n : Nat) (l : List Int) : List V := (List.range n).map fun (j : Nat) => V.bool (decide ((j : Int) ∈ l))
theorem seen_nil (n : Nat) : List.replicate n (V.bool false) = seenL n [] := by
  symm; simp [seenL, List.eq_replicate_iff]
theorem seen_get {n : Nat} {l : List Int} {x : Int} (h0 : 0 ≤ x) (h1 : x < n) : (seenL n l)[0 + x.toNat * 1]? = some (V.bool (decide (x ∈ l))) := by
  have h2 : x.toNat < n := by omega
  have h3 : ((x.toNat : Nat) : Int) = x := by omega
  simp [seenL, h2, h3]
theorem seen_len (n : Nat) (l : List Int) : (seenL n l).length = n := by simp [seenL]
theorem seen_step {n : Nat} {l : List Int} {x : Int} (h0 : 0 ≤ x) (h1 : x < n) : splice (seenL n l) (0 + x.toNat * 1) [V.bool true] = seenL n (l ++ [x]) := by
  apply List.ext_getElem?
  intro j
  rw [splice_get _ _ _ _ (by rw [seen_len]; simp; omega)]
  by_cases hj : j < n
  · by_cases e : j = x.toNat
    · subst e
      have h3 : ((x.toNat : Nat) : Int) = x := by omega
      rw [if_pos (by simp)]; simp [seenL, hj, h3]
    · rw [if_neg (by simp; omega)]
      have h3 : ((j : Nat) : Int) ≠ x := by omega
      simp [seenL, hj, h3]
  · have hj' : ¬ j < (seenL n l).length := by rw [seen_len]; exact hj
    rw [if_neg (by simp; omega), List.getElem?_eq_none (by omega), List.getElem?_eq_none (by rw [seen_len]; omega)]
theorem cInts_at {l : List Int} {k : Nat} (h : k < l.length) : ((cInts l).drop ((k : Int).toNat * 1)).take 1 = [.int .i64 (l.getD k 0)] := by
  have := cInts_elem (l := l) (i := k) (by omega) (by omega)
  simpa using this
theorem getD_mem {l : List Int} {k : Nat} (h : k < l.length) : l.getD k 0 ∈ l := by
  rw [getD_of h]; exact List.getElem_mem h
theorem list_all {l : List Int} {p : Int → Bool} : l.all p = true ↔ ∀ j, j < l.length → p (l.getD j 0) = true := by
  rw [List.all_eq_true]
  refine ⟨fun h j hj => h _ (getD_mem hj), fun h x hx => ?_⟩
  obtain ⟨j, hj, rfl⟩ := List.getElem_of_mem hx
  have := h j hj
  rwa [getD_of hj] at this
theorem zones_bad {s : St} {z k : Nat} (hz : z < 11) (hk : k < (s.lists z).length) (h : standsAt s z ((s.lists z).getD k 0) = false ∨ (s.lists z).getD k 0 ∈ upto s z k) : zonesF s = false := by
  rcases h with h | h
  · rw [zonesF, all_bad (j := z) hz]
    · rfl
    · cases e : (s.lists z).all (standsAt s z) with
      | false => rfl
      | true => rw [list_all.1 e k hk] at h; cases h
  · have : ¬ (ids s).Nodup := fun hn => by
      have h1 := hn.sublist (upto_pre (k := k + 1) hz)
      rw [upto_succ hk, List.nodup_append] at h1
      exact h1.2.2 _ h _ (by simp) rfl
    simp [zonesF, this]
theorem stands_no {s : St} {z : Nat} {x : Int} (h : (bif s.objs.getD x.toNat noObj 3 != z then true else !standsF (s.objs.getD x.toNat noObj) z) = true) : standsAt s z x = false := by
  simp only [standsAt, objAt]
  cases e : (s.objs.getD x.toNat noObj 3 == (z : Int)) with
  | false => simp
  | true => simp only [bne, e, Bool.not_true, cond_false] at h; simp [-List.getD_eq_getElem?_getD] at h; simp [-List.getD_eq_getElem?_getD, h]
theorem stands_yes {s : St} {z : Nat} {x : Int} (h0 : 0 ≤ x) (h1 : x < s.objs.length) (h : (bif s.objs.getD x.toNat noObj 3 != z then true else !standsF (s.objs.getD x.toNat noObj) z) = false) : standsAt s z x = true := by
  simp only [standsAt, objAt, inN]
  cases e : (s.objs.getD x.toNat noObj 3 == (z : Int)) with
  | false => simp [-List.getD_eq_getElem?_getD, bne, e] at h
  | true => simp only [bne, e, Bool.not_true, cond_false] at h; simp [-List.getD_eq_getElem?_getD] at h; simp [-List.getD_eq_getElem?_getD, h, h0, h1]

theorem zones_calls (s : St) (hb : s.objs.length ≤ 1000000) (hl : ∀ z, (s.lists z).length ≤ 1000000) (h : Hp) : ACalls Tryz.prog G 51 [eState s] h fun r h' => r = .bool (zonesF s) ∧ h' = h := by
  refine ACalls.enter Tryz.func51 rfl Tryz.ntmps51 Tryz.results51 rfl ?_
  refine AW.seq ?_
  refine AW.region ?_
  refine AOps.q rfl rfl rfl (q_boxa rfl (rfl : _ = V.agg _)) ?_
  refine AOps.q rfl rfl rfl (q_as rfl (rfl : _ = V.bool _)) ?_
  refine AOps.nil ?_
  refine AW.seq ?_
  refine AW.region ?_
  refine AOps.q rfl rfl rfl (q_fa_i rfl Tryz.underlying29 rfl (by exact Tryz.sizeOf22) (by decide) rfl (rfl : _ = List.drop 0 _)) ?_
  refine AOps.q rfl rfl rfl (q_load_i1 rfl Tryz.isAgg22 rfl rfl) ?_
  refine AOps.q rfl rfl rfl (q_len rfl Tryz.underlying22 rfl) ?_
  refine AOps.s rfl rfl rfl (a_makeSl rfl Tryz.underlying121 (i := Tryz.t4) (by kernel_rfl) rfl rfl rfl (by decide) rfl rfl (by omega) (by omega) rfl (fun id13 hid13 => ?_))
  refine AOps.q rfl rfl rfl (q_as rfl (rfl : _ = V.msl _ _ _)) ?_
  refine AOps.nil ?_
  refine AW.seq ?_
  refine AW.region ?_
  refine AOps.q rfl rfl rfl (q_as rfl (rfl : _ = V.int _ _)) ?_
  refine AOps.nil ?_
  refine AW.seq ?_
  refine AW.seq ?_
  refine AW.region ?_
  refine AOps.q rfl rfl rfl (q_fa_i rfl Tryz.underlying29 rfl (by exact Tryz.sizeOf24) (by decide) rfl (rfl : _ = List.drop 1 _)) ?_
  refine AOps.q rfl rfl rfl (q_load_iN rfl Tryz.isAgg24 Tryz.sizeOf24 rfl (by rfl) rfl) ?_
  refine AOps.q rfl rfl rfl (q_mv rfl (rfl : _ = V.int _ _)) ?_
  refine AOps.nil ?_
  refine AW.block ?_
  refine AW.loop (fun n T hh => ∃ (z : Nat) , z ≤ 11 ∧ n = 11 - z ∧ T = put (put (put (put (put (T0) 16 (V.int .i64 (z : Nat))) 15 (V.agg (((cState s).drop 1).take 11))) 4 (V.int .i64 (upto s z 0).length)) 3 (V.msl id13 0 s.objs.length)) 1 (V.iptr (cState s)) ∧ hh = h.setBox id13 (seenL s.objs.length (upto s z 0)) ∧ (∀ y, y < z → (s.lists y).all (standsAt s y) = true) ∧ (upto s z 0).Nodup) (11) ?_ ?_
  · skip
    refine Wk.mk (TLe.put (d := 1) (VLe.refl _) (TLe.put (d := 3) (VLe.refl _) (TLe.put (d := 4) (by exact VLe.of_eq (congrArg (V.int .i64) (by first | rfl | omega))) (TLe.put (d := 15) (VLe.refl _) (TLe.put (d := 16) (by exact VLe.of_eq (congrArg (V.int .i64) (by first | rfl | omega))) (TLe.zero _)))))) (HLe.refl _) ⟨0, Nat.zero_le _, rfl, rfl, by simp [upto, ← seen_nil]; rfl, ⟨fun j hj => by omega, by simp [upto]⟩⟩
  · skip
    rintro n T h' ⟨z, hz, rfl, rfl, rfl, ⟨hz, hnd⟩⟩
    refine AW.seq ?_
    refine AW.region ?_
    refine AOps.q rfl rfl rfl (q_lt rfl rfl rfl) ?_
    refine AOps.nil ?_
    refine AW.seq ?_
    refine AW.cond rfl (fun c0 => ?_) (fun c0 => ?_)
    · have hltz : z < 11 := by have := of_decide_eq_true c0; omega
      refine AW.skip ?_
      refine AW.seq ?_
      refine AW.block ?_
      refine AW.seq ?_
      refine AW.region ?_
      refine AOps.q rfl rfl rfl (q_mv rfl (rfl : _ = V.int _ _)) ?_
      refine AOps.q rfl rfl rfl (q_ix1 rfl Tryz.underlying24 Tryz.sizeOf23 Tryz.isAgg23 rfl rfl (by omega) (by omega) (lists_ix (by omega) (by omega))) ?_
      refine AOps.q rfl rfl rfl (q_as rfl (rfl : _ = V.int _ _)) ?_
      refine AOps.q rfl rfl rfl (q_as rfl (rfl : _ = V.sl _ _ _ _)) ?_
      refine AOps.nil ?_
      refine AW.seq ?_
      refine AW.region ?_
      refine AOps.q rfl rfl rfl (q_mv rfl (rfl : _ = V.sl _ _ _ _)) ?_
      refine AOps.q rfl rfl rfl (q_len rfl Tryz.underlying23 rfl) ?_
      refine AOps.q rfl rfl rfl (q_mv rfl (rfl : _ = V.int _ _)) ?_
      refine AOps.nil ?_
      refine AW.block ?_
      refine AW.loop (fun n T hh => ∃ (k : Nat) , k ≤ (s.lists z).length ∧ n = (s.lists z).length - k ∧ T = put (put (put (put (put (put (put (put (put (T0) 22 (V.int .i64 (k : Nat))) 21 (V.int .i64 (s.lists z).length)) 20 (eInts (s.lists z))) 16 (V.int .i64 (z : Nat))) 15 (V.agg (((cState s).drop 1).take 11))) 5 (V.int .i64 (z : Nat))) 4 (V.int .i64 (upto s z k).length)) 3 (V.msl id13 0 s.objs.length)) 1 (V.iptr (cState s)) ∧ hh = h.setBox id13 (seenL s.objs.length (upto s z k)) ∧ (∀ j, j < k → standsAt s z ((s.lists z).getD j 0) = true) ∧ (upto s z k).Nodup) ((s.lists z).length) ?_ ?_
      · skip
        refine Wk.mk (TLe.put (d := 1) (VLe.refl _) (TLe.put (d := 3) (VLe.refl _) (TLe.put (d := 4) (by exact VLe.of_eq (congrArg (V.int .i64) (by first | rfl | omega))) (TLe.put (d := 5) (VLe.refl _) (TLe.put (d := 15) (VLe.refl _) (TLe.put (d := 16) (VLe.refl _) (TLe.put (d := 20) (VLe.refl _) (TLe.put (d := 21) (VLe.refl _) (TLe.put (d := 22) (by exact VLe.of_eq (congrArg (V.int .i64) (by first | rfl | omega))) (TLe.zero _)))))))))) (HLe.refl _) ⟨0, Nat.zero_le _, rfl, rfl, rfl, ⟨fun j hj => by omega, hnd⟩⟩
      · skip
        rintro n T h' ⟨k, hk, rfl, rfl, rfl, ⟨hk, hnd⟩⟩
        refine AW.seq ?_
        refine AW.region ?_
        refine AOps.q rfl rfl rfl (q_lt rfl rfl rfl) ?_
        refine AOps.nil ?_
        refine AW.seq ?_
        refine AW.cond rfl (fun c1 => ?_) (fun c1 => ?_)
        · have hltk : k < (s.lists z).length := by have := of_decide_eq_true c1; omega
          refine AW.skip ?_
          refine AW.seq ?_
          refine AW.block ?_
          refine AW.seq ?_
          refine AW.region ?_
          refine AOps.q rfl rfl rfl (q_ia_s rfl Tryz.underlying23 Tryz.sizeOf3 rfl rfl (by omega) (by omega) (cInts_at hltk)) ?_
          refine AOps.q rfl rfl rfl (q_load_i1 rfl Tryz.isAgg3 rfl rfl) ?_
          refine AOps.q rfl rfl rfl (q_as rfl (rfl : _ = V.int _ _)) ?_
          refine AOps.nil ?_
          refine AW.seq ?_
          refine AW.seq ?_
          refine AW.region ?_
          refine AOps.q rfl rfl rfl (q_mv rfl (rfl : _ = V.int _ _)) ?_
          refine AOps.q rfl rfl rfl (q_lt rfl rfl rfl) ?_
          refine AOps.q rfl rfl rfl (q_mv rfl (rfl : _ = V.bool _)) ?_
          refine AOps.g (wanted_f rfl rfl) rfl rfl (fun hc => TLe.refl _) (fun hc => q_mv rfl (rfl : _ = V.int _ _)) ?_
          refine AOps.g (wanted_f rfl rfl) rfl rfl (fun hc => TLe.refl _) (fun hc => q_mv rfl (rfl : _ = V.msl _ _ _)) ?_
          refine AOps.g (wanted_f rfl rfl) rfl rfl (fun hc => TLe.put (d := 30) (VLe.opt hc) (TLe.refl _)) (fun hc => q_len rfl Tryz.underlying121 rfl) ?_
          refine AOps.g (wanted_f rfl rfl) rfl rfl (fun hc => TLe.put (d := 31) (VLe.opt hc) (TLe.put (d := 29) (VLe.opt hc) (TLe.refl _))) (fun hc => q_ge rfl rfl rfl) ?_
          refine AOps.q rfl rfl rfl (q_pickg rfl rfl (fun hp => by exact VLe.refl _) (fun hp => by first | exact VLe.opt hp | exact VLe.opt (by rw [hp]; rfl) | exact VLe.opt (by simp_all))) ?_
          refine AOps.q rfl rfl rfl (q_mv rfl (rfl : _ = V.bool _)) ?_
          refine AOps.g (wanted_f rfl rfl) rfl rfl (fun hc => TLe.refl _) (fun hc => q_mv rfl (rfl : _ = V.msl _ _ _)) ?_
          refine AOps.g (wanted_f rfl rfl) rfl rfl (fun hc => TLe.refl _) (fun hc => q_mv rfl (rfl : _ = V.int _ _)) ?_
          refine AOps.g (wanted_f rfl rfl) rfl rfl (fun hc => TLe.put (d := 36) (VLe.opt hc) (TLe.put (d := 35) (VLe.opt hc) (TLe.refl _))) (fun hc => q_ia_m rfl Tryz.underlying121 Tryz.sizeOf4 rfl rfl (by simp [-List.getD_eq_getElem?_getD] at hc; omega) (by simp [-List.getD_eq_getElem?_getD] at hc; omega)) ?_
          refine AOps.g (wanted_f rfl rfl) rfl rfl (fun hc => TLe.put (d := 37) (VLe.opt hc) (TLe.refl _)) (fun hc => q_load_b1 rfl Tryz.isAgg4 rfl (by exact Hp.box_setBox _ _ _) (by simp [-List.getD_eq_getElem?_getD] at hc; exact seen_get (by omega) (by omega))) ?_
          refine AOps.q rfl rfl rfl (q_pickg rfl rfl (fun hp => by exact VLe.refl _) (fun hp => by exact VLe.opt (by simp_all))) ?_
          refine AOps.nil ?_
          refine AW.cond rfl (fun c2 => ?_) (fun c2 => ?_)
          · skip
            refine AW.seq ?_
            refine AW.region ?_
            refine AOps.q rfl rfl rfl (q_as rfl (rfl : _ = V.bool _)) ?_
            refine AOps.nil ?_
            refine AW.ret ?_
            exact retQ.mk' (.one _) (VLe.of_eq (congrArg V.bool ((zones_bad hltz hltk (by simp [-List.getD_eq_getElem?_getD] at c2; simp [-List.getD_eq_getElem?_getD, standsAt, inN]; grind)).symm))) (HLe.setBox hid13.1) ⟨rfl, rfl⟩
          · have hx : 0 ≤ (s.lists z).getD k 0 ∧ (s.lists z).getD k 0 < s.objs.length ∧ (s.lists z).getD k 0 ∉ upto s z k := by simp [-List.getD_eq_getElem?_getD] at c2; grind
            have hul := upto_len hl z k
            have hlz := hl z
            refine AW.skip ?_
            refine AW.seq ?_
            refine AW.region ?_
            refine AOps.q rfl rfl rfl (q_fa_i rfl Tryz.underlying29 rfl (by exact Tryz.sizeOf22) (by decide) rfl (rfl : _ = List.drop 0 _)) ?_
            refine AOps.q rfl rfl rfl (q_load_i1 rfl Tryz.isAgg22 rfl rfl) ?_
            refine AOps.q rfl rfl rfl (q_mv rfl (rfl : _ = V.int _ _)) ?_
            refine AOps.q rfl rfl rfl (q_ia_s rfl Tryz.underlying22 Tryz.sizeOf49 rfl rfl (by omega) (by omega) (cObjs_elem' (by omega) (by omega))) ?_
            refine AOps.q rfl rfl rfl (q_load_iW rfl Tryz.isAgg49 Tryz.sizeOf49 rfl (by rfl)) ?_
            refine AOps.s rfl rfl rfl (a_alloc rfl Tryz.zeroValue49 rfl (fun id9 hid9 => ?_))
            refine AOps.s0 rfl rfl (a_storeWA rfl Tryz.sizeOf49 rfl rfl (rfl : _ = V.agg _) rfl rfl ?_)
            refine AOps.done 9 rfl hid9 ?_
            refine AOps.nil ?_
            refine AW.seq ?_
            refine AW.seq ?_
            refine AW.region ?_
            refine AOps.q rfl rfl rfl (q_ia_ai rfl Tryz.underlying49 Tryz.sizeOf3 rfl rfl (by decide) (by decide) rfl) ?_
            refine AOps.q rfl rfl rfl (q_load_i1 rfl Tryz.isAgg3 rfl rfl) ?_
            refine AOps.q rfl rfl rfl (q_mv rfl (rfl : _ = V.int _ _)) ?_
            refine AOps.q rfl rfl rfl (q_ne rfl rfl rfl) ?_
            refine AOps.q rfl rfl rfl (q_mv rfl (rfl : _ = V.bool _)) ?_
            refine AOps.g (wanted_f rfl rfl) rfl rfl (fun hc => TLe.refl _) (fun hc => q_load_iW rfl Tryz.isAgg49 Tryz.sizeOf49 rfl (by rfl)) ?_
            refine AOps.g (wanted_f rfl rfl) rfl rfl (fun hc => TLe.refl _) (fun hc => q_mv rfl (rfl : _ = V.int _ _)) ?_
            refine AOps.g (wanted_f rfl rfl) rfl rfl (fun hc => TLe.put (d := 51) (VLe.opt hc) (TLe.put (d := 50) (VLe.opt hc) (TLe.refl _))) (fun hc => QOp.call rfl (by exact Tryz.call74) fun h' hl' => by exact stands_calls _ _ h') ?_
            refine AOps.g (wanted_f rfl rfl) rfl rfl (fun hc => TLe.put (d := 52) (VLe.opt hc) (TLe.refl _)) (fun hc => q_not rfl rfl) ?_
            refine AOps.q rfl rfl rfl (q_pickg rfl rfl (fun hp => by exact VLe.refl _) (fun hp => by first | exact VLe.opt hp | exact VLe.opt (by rw [hp]; rfl) | exact VLe.opt (by simp_all))) ?_
            refine AOps.nil ?_
            refine AW.cond rfl (fun c3 => ?_) (fun c3 => ?_)
            · skip
              refine AW.seq ?_
              refine AW.region ?_
              refine AOps.q rfl rfl rfl (q_as rfl (rfl : _ = V.bool _)) ?_
              refine AOps.nil ?_
              refine AW.ret ?_
              exact retQ.mk' (.one _) (VLe.of_eq (congrArg V.bool ((zones_bad hltz hltk (.inl (stands_no c3))).symm))) (HLe.setBox hid13.1) ⟨rfl, rfl⟩
            · skip
              refine AW.skip ?_
              refine AW.seq ?_
              refine AW.region ?_
              refine AOps.q rfl rfl rfl (q_mv rfl (rfl : _ = V.msl _ _ _)) ?_
              refine AOps.q rfl rfl rfl (q_mv rfl (rfl : _ = V.int _ _)) ?_
              refine AOps.q rfl rfl rfl (q_ia_m rfl Tryz.underlying121 Tryz.sizeOf4 rfl rfl (by omega) (by omega)) ?_
              refine AOps.s0 rfl rfl (a_store1 rfl Tryz.sizeOf4 rfl (by exact Hp.box_setBox _ _ _) (rfl : _ = V.bool _) rfl rfl (by rw [seen_len]; omega) ?_)
              refine AOps.nil ?_
              refine AW.region ?_
              refine AOps.q rfl rfl rfl (q_mv rfl (rfl : _ = V.int _ _)) ?_
              refine AOps.q rfl rfl rfl (q_add' rfl rfl rfl (by omega)) ?_
              refine AOps.q rfl rfl rfl (q_as rfl (rfl : _ = V.int _ _)) ?_
              refine AOps.nil ?_
              refine AW.region ?_
              refine AOps.q rfl rfl rfl (q_add' rfl rfl rfl (by omega)) ?_
              refine AOps.q rfl rfl rfl (q_mv rfl (rfl : _ = V.int _ _)) ?_
              refine AOps.nil ?_
              refine Wk.mk (TLe.put (d := 1) (VLe.refl _) (TLe.put (d := 3) (VLe.refl _) (TLe.put (d := 4) (by exact VLe.of_eq (congrArg (V.int .i64) (by rw [upto_succ hltk, List.length_append]; simp))) (TLe.put (d := 5) (VLe.refl _) (TLe.put (d := 15) (VLe.refl _) (TLe.put (d := 16) (VLe.refl _) (TLe.put (d := 20) (VLe.refl _) (TLe.put (d := 21) (VLe.refl _) (TLe.put (d := 22) (by exact VLe.of_eq (congrArg (V.int .i64) (by first | rfl | omega))) (TLe.zero _)))))))))) (HLe.refl _) ⟨_, ?_, k + 1, ?_, rfl, rfl, by rw [Hp.setBox_setBox, seen_step hx.1 hx.2.1, upto_succ hltk], ⟨all_step hk (stands_yes hx.1 hx.2.1 c3), by rw [upto_succ hltk, List.nodup_append]; exact ⟨hnd, by simp, by simp [-List.getD_eq_getElem?_getD]; exact fun a ha e => hx.2.2 (e ▸ ha)⟩⟩⟩
              · omega
              · omega
        · obtain rfl : k = (s.lists z).length := by have := of_decide_eq_false c1; omega
          refine AW.exit ?_
          refine AW.region ?_
          refine AOps.q rfl rfl rfl (q_add' rfl rfl rfl (by omega)) ?_
          refine AOps.q rfl rfl rfl (q_mv rfl (rfl : _ = V.int _ _)) ?_
          refine AOps.nil ?_
          refine Wk.mk (TLe.put (d := 1) (VLe.refl _) (TLe.put (d := 3) (VLe.refl _) (TLe.put (d := 4) (by exact VLe.of_eq (congrArg (V.int .i64) (by rw [upto_next]))) (TLe.put (d := 15) (VLe.refl _) (TLe.put (d := 16) (by exact VLe.of_eq (congrArg (V.int .i64) (by first | rfl | omega))) (TLe.zero _)))))) (HLe.refl _) ⟨_, ?_, z + 1, ?_, rfl, rfl, by rw [upto_next], ⟨all_step hz (list_all.2 hk), by rw [← upto_next]; exact hnd⟩⟩
          · omega
          · omega
    · obtain rfl : z = 11 := by have := of_decide_eq_false c0; omega
      refine AW.exit ?_
      refine AW.seq ?_
      refine AW.region ?_
      refine AOps.q rfl rfl rfl (q_mv rfl (rfl : _ = V.int _ _)) ?_
      refine AOps.q rfl rfl rfl (q_mv rfl (rfl : _ = V.msl _ _ _)) ?_
      refine AOps.q rfl rfl rfl (q_len rfl Tryz.underlying121 rfl) ?_
      refine AOps.q rfl rfl rfl (q_eq rfl rfl rfl) ?_
      refine AOps.q rfl rfl rfl (q_as rfl (rfl : _ = V.bool _)) ?_
      refine AOps.nil ?_
      refine AW.ret ?_
      exact retQ.mk' (.one _) (VLe.of_eq (congrArg V.bool (by rw [zonesF, all_up.2 hz, ← upto_all, decide_eq_true hnd, Bool.true_and, Bool.true_and, Bool.eq_iff_iff]; simp; omega))) (HLe.setBox hid13.1) ⟨rfl, rfl⟩

end Go.Proofs.YtnbmcbkokaoapaaGreatDoor
