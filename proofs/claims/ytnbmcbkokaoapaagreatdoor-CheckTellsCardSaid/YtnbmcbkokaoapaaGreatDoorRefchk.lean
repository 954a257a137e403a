/- Walks: the document's answer to whether a state is right. -/
import Derived.Test.YtnbmcbkokaoapaaGreatDoorShape3
namespace Go.Proofs.YtnbmcbkokaoapaaGreatDoor
open Go Go.AV
set_option maxRecDepth 100000
set_option maxHeartbeats 1000000
/-- Nothing stands in a list that isn't. -/
def Few (s : St) : Prop := ∀ z, 11 ≤ z → s.lists z = []
def refPl (p : Nat → Int) : Bool := (inB (p 0) (-1073741824) 1073741824 && inB (p 7) 0 1 && inB (p 8) 0 1) && (List.range 6).all fun k => inB (p (k + 1)) 0 1000
def refGame (g : Nat → Int) : Bool := inB (g 0) 0 1073741824 && inB (g 1) 0 1 && inB (g 2) 0 7 && inB (g 3) 0 1 && inB (g 4) 0 1 && inB (g 5) 0 4096 && inB (g 6) 0 3
def refRanges (s : St) : Bool := (s.objs.all fun o => refObject o s.objs.length) && (List.range 2).all (fun p => refPl (s.pl p)) && refGame s.game
theorem plRow_at1 {g : Nat → Int} {k : Nat} (h : k < 6) : ((plRow g).drop (((k : Int) + 1).toNat * 1))[0]? = some (.int .i64 (g (k + 1))) := by
  have := plRow_at (g := g) (k := k + 1) (by omega)
  have e : (((k + 1 : Nat) : Int)) = (k : Int) + 1 := by omega
  rwa [e] at this
theorem rr_obj {s : St} {i : Nat} (hi : i < s.objs.length) (h : refObject (s.objs.getD i noObj) s.objs.length = false) : refRanges s = false := by
  have : (s.objs.all fun o => refObject o s.objs.length) = false := by
    cases e : (s.objs.all fun o => refObject o s.objs.length) with
    | false => rfl
    | true => rw [objs_all.1 e i hi] at h; cases h
  simp only [refRanges, this, Bool.false_and]
theorem rr_pl {s : St} {p : Nat} (hp : p < 2) (h : refPl (s.pl p) = false) : refRanges s = false := by
  have : (List.range 2).all (fun p => refPl (s.pl p)) = false := all_bad hp h
  simp only [refRanges, this, Bool.and_false, Bool.false_and]
theorem rp_head {p : Nat → Int} (h : (inB (p 0) (-1073741824) 1073741824 = false ∨ inB (p 7) 0 1 = false) ∨ inB (p 8) 0 1 = false) : refPl p = false := by
  rcases h with (h | h) | h <;> simp [refPl, h]
theorem rp_field {p : Nat → Int} {k : Nat} (hk : k < 6) (h : inB (p (k + 1)) 0 1000 = false) : refPl p = false := by
  have : (List.range 6).all (fun k => inB (p (k + 1)) 0 1000) = false := all_bad hk h
  simp only [refPl, this, Bool.and_false]

theorem refRanges_calls (s : St) (hb : s.objs.length ≤ 1000000) (h : Hp) : ACalls Tryz.prog G 25 [eState s] h fun r h' => r = .bool (refRanges s) ∧ h' = h := by
  refine ACalls.enter Tryz.func25 rfl Tryz.ntmps25 Tryz.results25 rfl ?_
  refine AW.seq ?_
  refine AW.region ?_
  refine AOps.q rfl rfl rfl (q_boxa rfl (rfl : _ = V.agg _)) ?_
  refine AOps.q rfl rfl rfl (q_as rfl (rfl : _ = V.bool _)) ?_
  refine AOps.nil ?_
  refine AW.seq ?_
  refine AW.seq ?_
  refine AW.region ?_
  refine AOps.q rfl rfl rfl (q_fa_i rfl Tryz.underlying29 rfl (by exact Tryz.sizeOf22) (by decide) rfl (rfl : _ = List.drop 0 _)) ?_
  refine AOps.q rfl rfl rfl (q_load_i1 rfl Tryz.isAgg22 rfl rfl) ?_
  refine AOps.q rfl rfl rfl (q_len rfl Tryz.underlying22 rfl) ?_
  refine AOps.q rfl rfl rfl (q_mv rfl (rfl : _ = V.int _ _)) ?_
  refine AOps.nil ?_
  refine AW.block ?_
  refine AW.loop (fun n T hh => ∃ (i : Nat) , i ≤ s.objs.length ∧ n = s.objs.length - i ∧ T = put (put (put (put (T0) 12 (V.int .i64 (i : Nat))) 11 (V.int .i64 s.objs.length)) 10 (eObjs s.objs)) 1 (V.iptr (cState s)) ∧ hh = h ∧ ∀ j, j < i → refObject (s.objs.getD j noObj) s.objs.length = true) (s.objs.length) ?_ ?_
  · skip
    refine Wk.mk (TLe.put (d := 1) (VLe.refl _) (TLe.put (d := 10) (VLe.refl _) (TLe.put (d := 11) (VLe.refl _) (TLe.put (d := 12) (by exact VLe.of_eq (congrArg (V.int .i64) (by first | rfl | omega))) (TLe.zero _))))) (HLe.refl _) ⟨0, Nat.zero_le _, rfl, rfl, rfl, fun j hj => by omega⟩
  · skip
    rintro n T h' ⟨i, hi, rfl, rfl, rfl, hj⟩
    refine AW.seq ?_
    refine AW.region ?_
    refine AOps.q rfl rfl rfl (q_lt rfl rfl rfl) ?_
    refine AOps.nil ?_
    refine AW.seq ?_
    refine AW.cond rfl (fun c0 => ?_) (fun c0 => ?_)
    · have hlt : i < s.objs.length := by have := of_decide_eq_true c0; omega
      refine AW.skip ?_
      refine AW.seq ?_
      refine AW.block ?_
      refine AW.seq ?_
      refine AW.region ?_
      refine AOps.q rfl rfl rfl (q_ia_s rfl Tryz.underlying22 Tryz.sizeOf49 rfl rfl (by omega) (by omega) (cObjs_elem' (by omega) (by omega))) ?_
      refine AOps.q rfl rfl rfl (q_load_iW rfl Tryz.isAgg49 Tryz.sizeOf49 rfl (by rfl)) ?_
      refine AOps.s rfl rfl rfl (a_alloc rfl Tryz.zeroValue49 rfl (fun id4 hid4 => ?_))
      refine AOps.s0 rfl rfl (a_storeWA rfl Tryz.sizeOf49 rfl rfl (rfl : _ = V.agg _) rfl rfl ?_)
      refine AOps.done 4 rfl hid4 ?_
      refine AOps.nil ?_
      refine AW.seq ?_
      refine AW.region ?_
      refine AOps.q rfl rfl rfl (q_load_iW rfl Tryz.isAgg49 Tryz.sizeOf49 rfl (by rfl)) ?_
      refine AOps.q rfl rfl rfl (q_fa_i rfl Tryz.underlying29 rfl (by exact Tryz.sizeOf22) (by decide) rfl (rfl : _ = List.drop 0 _)) ?_
      refine AOps.q rfl rfl rfl (q_load_i1 rfl Tryz.isAgg22 rfl rfl) ?_
      refine AOps.q rfl rfl rfl (q_len rfl Tryz.underlying22 rfl) ?_
      refine AOps.q rfl rfl rfl (QOp.call rfl (by exact Tryz.call47) fun h' hl' => by exact refObject_calls _ _ h') ?_
      refine AOps.q rfl rfl rfl (q_not rfl rfl) ?_
      refine AOps.nil ?_
      refine AW.cond rfl (fun c1 => ?_) (fun c1 => ?_)
      · skip
        refine AW.seq ?_
        refine AW.region ?_
        refine AOps.q rfl rfl rfl (q_as rfl (rfl : _ = V.bool _)) ?_
        refine AOps.nil ?_
        refine AW.ret ?_
        exact retQ.mk' (.one _) (VLe.of_eq (congrArg V.bool (by rw [rr_obj hlt (by simpa using c1)]))) (HLe.refl _) ⟨rfl, rfl⟩
      · skip
        refine AW.skip ?_
        refine AW.region ?_
        refine AOps.q rfl rfl rfl (q_add' rfl rfl rfl (by omega)) ?_
        refine AOps.q rfl rfl rfl (q_mv rfl (rfl : _ = V.int _ _)) ?_
        refine AOps.nil ?_
        refine Wk.mk (TLe.put (d := 1) (VLe.refl _) (TLe.put (d := 10) (VLe.refl _) (TLe.put (d := 11) (VLe.refl _) (TLe.put (d := 12) (by exact VLe.of_eq (congrArg (V.int .i64) (by first | rfl | omega))) (TLe.zero _))))) (HLe.refl _) ⟨_, ?_, i + 1, ?_, rfl, rfl, rfl, all_step (p := fun j => refObject (s.objs.getD j noObj) s.objs.length) hj (by simpa using c1)⟩
        · omega
        · omega
    · obtain rfl : i = s.objs.length := by have := of_decide_eq_false c0; omega
      refine AW.exit ?_
      refine AW.seq ?_
      refine AW.seq ?_
      refine AW.region ?_
      refine AOps.q rfl rfl rfl (q_as rfl (rfl : _ = V.int _ _)) ?_
      refine AOps.nil ?_
      refine AW.block ?_
      refine AW.loop (fun n T hh => ∃ (p : Nat) , p ≤ 2 ∧ n = 2 - p ∧ T = put (put (T0) 5 (V.int .i64 (p : Nat))) 1 (V.iptr (cState s)) ∧ hh = h' ∧ ∀ j, j < p → refPl (s.pl j) = true) (2) ?_ ?_
      · skip
        refine Wk.mk (TLe.put (d := 1) (VLe.refl _) (TLe.put (d := 5) (by exact VLe.of_eq (congrArg (V.int .i64) (by first | rfl | omega))) (TLe.zero _))) (HLe.refl _) ⟨0, Nat.zero_le _, rfl, rfl, rfl, fun j hj => by omega⟩
      · skip
        rintro n T h' ⟨p, hp, rfl, rfl, rfl, hp2⟩
        refine AW.seq ?_
        refine AW.seq ?_
        refine AW.region ?_
        refine AOps.q rfl rfl rfl (q_mv rfl (rfl : _ = V.int _ _)) ?_
        refine AOps.q rfl rfl rfl (q_lt rfl rfl rfl) ?_
        refine AOps.nil ?_
        refine AW.cond rfl (fun c2 => ?_) (fun c2 => ?_)
        · have hltp : p < 2 := by have := of_decide_eq_true c2; omega
          refine AW.skip ?_
          refine AW.seq ?_
          refine AW.block ?_
          refine AW.seq ?_
          refine AW.region ?_
          refine AOps.q rfl rfl rfl (q_mv rfl (rfl : _ = V.int _ _)) ?_
          refine AOps.q rfl rfl rfl (q_fa_i rfl Tryz.underlying29 rfl (by exact Tryz.sizeOf26) (by decide) rfl (rfl : _ = List.drop 12 _)) ?_
          refine AOps.q rfl rfl rfl (q_ia_ai rfl Tryz.underlying26 Tryz.sizeOf25 rfl rfl (by omega) (by omega) rfl) ?_
          refine AOps.q rfl rfl rfl (q_load_iN (ds := plRow (s.pl (Int.toNat (p : Int)))) rfl Tryz.isAgg25 Tryz.sizeOf25 rfl rfl (plp_at (by omega) (by omega))) ?_
          refine AOps.s rfl rfl rfl (a_alloc rfl Tryz.zeroValue25 rfl (fun id6 hid6 => ?_))
          refine AOps.s0 rfl rfl (a_storeWA rfl Tryz.sizeOf25 rfl rfl (rfl : _ = V.agg _) rfl rfl ?_)
          refine AOps.done 6 rfl hid6 ?_
          refine AOps.nil ?_
          refine AW.seq ?_
          refine AW.seq ?_
          refine AW.region ?_
          refine AOps.q rfl rfl rfl (q_ia_ai rfl Tryz.underlying25 Tryz.sizeOf3 rfl rfl (by decide) (by decide) rfl) ?_
          refine AOps.q rfl rfl rfl (q_load_i1 rfl Tryz.isAgg3 rfl rfl) ?_
          refine AOps.q rfl rfl rfl (QOp.call rfl (by exact Tryz.call48) fun h' hl' => by exact refIn_calls _ _ _ h') ?_
          refine AOps.q rfl rfl rfl (q_not rfl rfl) ?_
          refine AOps.q rfl rfl rfl (q_mv rfl (rfl : _ = V.bool _)) ?_
          refine AOps.g (wanted_f rfl rfl) rfl rfl (fun hc => TLe.refl _) (fun hc => q_ia_ai rfl Tryz.underlying25 Tryz.sizeOf3 rfl rfl (by decide) (by decide) rfl) ?_
          refine AOps.g (wanted_f rfl rfl) rfl rfl (fun hc => TLe.put (d := 36) (VLe.opt hc) (TLe.refl _)) (fun hc => q_load_i1 rfl Tryz.isAgg3 rfl rfl) ?_
          refine AOps.g (wanted_f rfl rfl) rfl rfl (fun hc => TLe.put (d := 37) (VLe.opt hc) (TLe.refl _)) (fun hc => QOp.call rfl (by exact Tryz.call48) fun h' hl' => by exact refIn_calls _ _ _ h') ?_
          refine AOps.g (wanted_f rfl rfl) rfl rfl (fun hc => TLe.put (d := 38) (VLe.opt hc) (TLe.refl _)) (fun hc => q_not rfl rfl) ?_
          refine AOps.q rfl rfl rfl (q_pickg rfl rfl (fun hp => by exact VLe.refl _) (fun hp => by first | exact VLe.opt hp | exact VLe.opt (by rw [hp]; rfl) | exact VLe.opt (by simp_all))) ?_
          refine AOps.q rfl rfl rfl (q_mv rfl (rfl : _ = V.bool _)) ?_
          refine AOps.g (wanted_f rfl rfl) rfl rfl (fun hc => TLe.refl _) (fun hc => q_ia_ai rfl Tryz.underlying25 Tryz.sizeOf3 rfl rfl (by decide) (by decide) rfl) ?_
          refine AOps.g (wanted_f rfl rfl) rfl rfl (fun hc => TLe.put (d := 42) (VLe.opt hc) (TLe.refl _)) (fun hc => q_load_i1 rfl Tryz.isAgg3 rfl rfl) ?_
          refine AOps.g (wanted_f rfl rfl) rfl rfl (fun hc => TLe.put (d := 43) (VLe.opt hc) (TLe.refl _)) (fun hc => QOp.call rfl (by exact Tryz.call48) fun h' hl' => by exact refIn_calls _ _ _ h') ?_
          refine AOps.g (wanted_f rfl rfl) rfl rfl (fun hc => TLe.put (d := 44) (VLe.opt hc) (TLe.refl _)) (fun hc => q_not rfl rfl) ?_
          refine AOps.q rfl rfl rfl (q_pickg rfl rfl (fun hp => by exact VLe.refl _) (fun hp => by first | exact VLe.opt hp | exact VLe.opt (by rw [hp]; rfl) | exact VLe.opt (by simp_all))) ?_
          refine AOps.nil ?_
          refine AW.cond rfl (fun c3 => ?_) (fun c3 => ?_)
          · skip
            refine AW.seq ?_
            refine AW.region ?_
            refine AOps.q rfl rfl rfl (q_as rfl (rfl : _ = V.bool _)) ?_
            refine AOps.nil ?_
            refine AW.ret ?_
            exact retQ.mk' (.one _) (VLe.of_eq (congrArg V.bool (by rw [rr_pl hltp (rp_head (by simpa using c3))]))) (HLe.refl _) ⟨rfl, rfl⟩
          · skip
            refine AW.skip ?_
            refine AW.seq ?_
            refine AW.region ?_
            refine AOps.q rfl rfl rfl (q_as rfl (rfl : _ = V.int _ _)) ?_
            refine AOps.nil ?_
            refine AW.block ?_
            refine AW.loop (fun n T hh => ∃ (k : Nat) , k ≤ 6 ∧ n = 6 - k ∧ T = put (put (put (put (T0) 7 (V.int .i64 ((k : Nat) + 1))) 6 (V.iptr (plRow (s.pl p)))) 5 (V.int .i64 (p : Nat))) 1 (V.iptr (cState s)) ∧ hh = h' ∧ ∀ j, j < k → inB (s.pl p (j + 1)) 0 1000 = true) (6) ?_ ?_
            · skip
              refine Wk.mk (TLe.put (d := 1) (VLe.refl _) (TLe.put (d := 5) (VLe.refl _) (TLe.put (d := 6) (VLe.refl _) (TLe.put (d := 7) (by exact VLe.of_eq (congrArg (V.int .i64) (by first | rfl | omega))) (TLe.zero _))))) (HLe.refl _) ⟨0, Nat.zero_le _, rfl, rfl, rfl, fun j hj => by omega⟩
            · skip
              rintro n T h' ⟨k, hk, rfl, rfl, rfl, hk2⟩
              refine AW.seq ?_
              refine AW.seq ?_
              refine AW.region ?_
              refine AOps.q rfl rfl rfl (q_mv rfl (rfl : _ = V.int _ _)) ?_
              refine AOps.q rfl rfl rfl (q_le rfl rfl rfl) ?_
              refine AOps.nil ?_
              refine AW.cond rfl (fun c4 => ?_) (fun c4 => ?_)
              · have hltk : k < 6 := by have := of_decide_eq_true c4; omega
                refine AW.skip ?_
                refine AW.seq ?_
                refine AW.block ?_
                refine AW.seq ?_
                refine AW.region ?_
                refine AOps.q rfl rfl rfl (q_mv rfl (rfl : _ = V.int _ _)) ?_
                refine AOps.q rfl rfl rfl (q_ia_ai rfl Tryz.underlying25 Tryz.sizeOf3 rfl rfl (by omega) (by omega) rfl) ?_
                refine AOps.q rfl rfl rfl (q_load_i1 rfl Tryz.isAgg3 rfl (plRow_at1 hltk)) ?_
                refine AOps.q rfl rfl rfl (QOp.call rfl (by exact Tryz.call48) fun h' hl' => by exact refIn_calls _ _ _ h') ?_
                refine AOps.q rfl rfl rfl (q_not rfl rfl) ?_
                refine AOps.nil ?_
                refine AW.cond rfl (fun c5 => ?_) (fun c5 => ?_)
                · skip
                  refine AW.seq ?_
                  refine AW.region ?_
                  refine AOps.q rfl rfl rfl (q_as rfl (rfl : _ = V.bool _)) ?_
                  refine AOps.nil ?_
                  refine AW.ret ?_
                  exact retQ.mk' (.one _) (VLe.of_eq (congrArg V.bool (by rw [rr_pl hltp (rp_field hltk (by simpa using c5))]))) (HLe.refl _) ⟨rfl, rfl⟩
                · skip
                  refine AW.skip ?_
                  refine AW.region ?_
                  refine AOps.q rfl rfl rfl (q_mv rfl (rfl : _ = V.int _ _)) ?_
                  refine AOps.q rfl rfl rfl (q_add' rfl rfl rfl (by omega)) ?_
                  refine AOps.q rfl rfl rfl (q_as rfl (rfl : _ = V.int _ _)) ?_
                  refine AOps.nil ?_
                  refine Wk.mk (TLe.put (d := 1) (VLe.refl _) (TLe.put (d := 5) (VLe.refl _) (TLe.put (d := 6) (VLe.refl _) (TLe.put (d := 7) (by exact VLe.of_eq (congrArg (V.int .i64) (by first | rfl | omega))) (TLe.zero _))))) (HLe.refl _) ⟨_, ?_, k + 1, ?_, rfl, rfl, rfl, all_step (p := fun j => inB (s.pl p (j + 1)) 0 1000) hk2 (by simpa using c5)⟩
                  · omega
                  · omega
              · obtain rfl : k = 6 := by have := of_decide_eq_false c4; omega
                refine AW.exit ?_
                refine AW.region ?_
                refine AOps.q rfl rfl rfl (q_mv rfl (rfl : _ = V.int _ _)) ?_
                refine AOps.q rfl rfl rfl (q_add' rfl rfl rfl (by omega)) ?_
                refine AOps.q rfl rfl rfl (q_as rfl (rfl : _ = V.int _ _)) ?_
                refine AOps.nil ?_
                refine Wk.mk (TLe.put (d := 1) (VLe.refl _) (TLe.put (d := 5) (by exact VLe.of_eq (congrArg (V.int .i64) (by first | rfl | omega))) (TLe.zero _))) (HLe.refl _) ⟨_, ?_, p + 1, ?_, rfl, rfl, rfl, all_step (p := fun j => refPl (s.pl j)) hp2 (by simp only [refPl, Bool.and_eq_true]; exact ⟨by simpa using c3, all_up.2 hk2⟩)⟩
                · omega
                · omega
        · obtain rfl : p = 2 := by have := of_decide_eq_false c2; omega
          refine AW.exit ?_
          refine AW.seq ?_
          refine AW.region ?_
          refine AOps.q rfl rfl rfl (q_fa_i rfl Tryz.underlying29 rfl (by exact Tryz.sizeOf27) (by decide) rfl (rfl : _ = List.drop 30 _)) ?_
          refine AOps.q rfl rfl rfl (q_load_iN rfl Tryz.isAgg27 Tryz.sizeOf27 rfl (by rfl) rfl) ?_
          refine AOps.s rfl rfl rfl (a_alloc rfl Tryz.zeroValue27 rfl (fun id8 hid8 => ?_))
          refine AOps.s0 rfl rfl (a_storeWA rfl Tryz.sizeOf27 rfl rfl (rfl : _ = V.agg _) rfl rfl ?_)
          refine AOps.done 8 rfl hid8 ?_
          refine AOps.nil ?_
          refine AW.seq ?_
          refine AW.region ?_
          refine AOps.q rfl rfl rfl (q_ia_ai rfl Tryz.underlying27 Tryz.sizeOf3 rfl rfl (by decide) (by decide) rfl) ?_
          refine AOps.q rfl rfl rfl (q_load_i1 rfl Tryz.isAgg3 rfl rfl) ?_
          refine AOps.q rfl rfl rfl (QOp.call rfl (by exact Tryz.call48) fun h' hl' => by exact refIn_calls _ _ _ h') ?_
          refine AOps.q rfl rfl rfl (q_mv rfl (rfl : _ = V.bool _)) ?_
          refine AOps.g (wanted_t rfl rfl) rfl rfl (fun hc => TLe.refl _) (fun hc => q_ia_ai rfl Tryz.underlying27 Tryz.sizeOf3 rfl rfl (by decide) (by decide) rfl) ?_
          refine AOps.g (wanted_t rfl rfl) rfl rfl (fun hc => TLe.put (d := 62) (VLe.opt hc) (TLe.refl _)) (fun hc => q_load_i1 rfl Tryz.isAgg3 rfl rfl) ?_
          refine AOps.g (wanted_t rfl rfl) rfl rfl (fun hc => TLe.put (d := 63) (VLe.opt hc) (TLe.refl _)) (fun hc => QOp.call rfl (by exact Tryz.call48) fun h' hl' => by exact refIn_calls _ _ _ h') ?_
          refine AOps.q rfl rfl rfl (q_pickg rfl rfl (fun hp => by first | exact VLe.opt hp | exact VLe.opt (by rw [hp]; rfl) | exact VLe.opt (by simp_all)) (fun hp => by exact VLe.refl _)) ?_
          refine AOps.q rfl rfl rfl (q_mv rfl (rfl : _ = V.bool _)) ?_
          refine AOps.g (wanted_t rfl rfl) rfl rfl (fun hc => TLe.refl _) (fun hc => q_ia_ai rfl Tryz.underlying27 Tryz.sizeOf3 rfl rfl (by decide) (by decide) rfl) ?_
          refine AOps.g (wanted_t rfl rfl) rfl rfl (fun hc => TLe.put (d := 67) (VLe.opt hc) (TLe.refl _)) (fun hc => q_load_i1 rfl Tryz.isAgg3 rfl rfl) ?_
          refine AOps.g (wanted_t rfl rfl) rfl rfl (fun hc => TLe.put (d := 68) (VLe.opt hc) (TLe.refl _)) (fun hc => QOp.call rfl (by exact Tryz.call48) fun h' hl' => by exact refIn_calls _ _ _ h') ?_
          refine AOps.q rfl rfl rfl (q_pickg rfl rfl (fun hp => by first | exact VLe.opt hp | exact VLe.opt (by rw [hp]; rfl) | exact VLe.opt (by simp_all)) (fun hp => by exact VLe.refl _)) ?_
          refine AOps.q rfl rfl rfl (q_mv rfl (rfl : _ = V.bool _)) ?_
          refine AOps.g (wanted_t rfl rfl) rfl rfl (fun hc => TLe.refl _) (fun hc => q_ia_ai rfl Tryz.underlying27 Tryz.sizeOf3 rfl rfl (by decide) (by decide) rfl) ?_
          refine AOps.g (wanted_t rfl rfl) rfl rfl (fun hc => TLe.put (d := 72) (VLe.opt hc) (TLe.refl _)) (fun hc => q_load_i1 rfl Tryz.isAgg3 rfl rfl) ?_
          refine AOps.g (wanted_t rfl rfl) rfl rfl (fun hc => TLe.put (d := 73) (VLe.opt hc) (TLe.refl _)) (fun hc => QOp.call rfl (by exact Tryz.call48) fun h' hl' => by exact refIn_calls _ _ _ h') ?_
          refine AOps.q rfl rfl rfl (q_pickg rfl rfl (fun hp => by first | exact VLe.opt hp | exact VLe.opt (by rw [hp]; rfl) | exact VLe.opt (by simp_all)) (fun hp => by exact VLe.refl _)) ?_
          refine AOps.q rfl rfl rfl (q_mv rfl (rfl : _ = V.bool _)) ?_
          refine AOps.g (wanted_t rfl rfl) rfl rfl (fun hc => TLe.refl _) (fun hc => q_ia_ai rfl Tryz.underlying27 Tryz.sizeOf3 rfl rfl (by decide) (by decide) rfl) ?_
          refine AOps.g (wanted_t rfl rfl) rfl rfl (fun hc => TLe.put (d := 77) (VLe.opt hc) (TLe.refl _)) (fun hc => q_load_i1 rfl Tryz.isAgg3 rfl rfl) ?_
          refine AOps.g (wanted_t rfl rfl) rfl rfl (fun hc => TLe.put (d := 78) (VLe.opt hc) (TLe.refl _)) (fun hc => QOp.call rfl (by exact Tryz.call48) fun h' hl' => by exact refIn_calls _ _ _ h') ?_
          refine AOps.q rfl rfl rfl (q_pickg rfl rfl (fun hp => by first | exact VLe.opt hp | exact VLe.opt (by rw [hp]; rfl) | exact VLe.opt (by simp_all)) (fun hp => by exact VLe.refl _)) ?_
          refine AOps.q rfl rfl rfl (q_mv rfl (rfl : _ = V.bool _)) ?_
          refine AOps.g (wanted_t rfl rfl) rfl rfl (fun hc => TLe.refl _) (fun hc => q_ia_ai rfl Tryz.underlying27 Tryz.sizeOf3 rfl rfl (by decide) (by decide) rfl) ?_
          refine AOps.g (wanted_t rfl rfl) rfl rfl (fun hc => TLe.put (d := 82) (VLe.opt hc) (TLe.refl _)) (fun hc => q_load_i1 rfl Tryz.isAgg3 rfl rfl) ?_
          refine AOps.g (wanted_t rfl rfl) rfl rfl (fun hc => TLe.put (d := 83) (VLe.opt hc) (TLe.refl _)) (fun hc => QOp.call rfl (by exact Tryz.call48) fun h' hl' => by exact refIn_calls _ _ _ h') ?_
          refine AOps.q rfl rfl rfl (q_pickg rfl rfl (fun hp => by first | exact VLe.opt hp | exact VLe.opt (by rw [hp]; rfl) | exact VLe.opt (by simp_all)) (fun hp => by exact VLe.refl _)) ?_
          refine AOps.q rfl rfl rfl (q_mv rfl (rfl : _ = V.bool _)) ?_
          refine AOps.g (wanted_t rfl rfl) rfl rfl (fun hc => TLe.refl _) (fun hc => q_ia_ai rfl Tryz.underlying27 Tryz.sizeOf3 rfl rfl (by decide) (by decide) rfl) ?_
          refine AOps.g (wanted_t rfl rfl) rfl rfl (fun hc => TLe.put (d := 87) (VLe.opt hc) (TLe.refl _)) (fun hc => q_load_i1 rfl Tryz.isAgg3 rfl rfl) ?_
          refine AOps.g (wanted_t rfl rfl) rfl rfl (fun hc => TLe.put (d := 88) (VLe.opt hc) (TLe.refl _)) (fun hc => QOp.call rfl (by exact Tryz.call48) fun h' hl' => by exact refIn_calls _ _ _ h') ?_
          refine AOps.q rfl rfl rfl (q_pickg rfl rfl (fun hp => by first | exact VLe.opt hp | exact VLe.opt (by rw [hp]; rfl) | exact VLe.opt (by simp_all)) (fun hp => by exact VLe.refl _)) ?_
          refine AOps.q rfl rfl rfl (q_as rfl (rfl : _ = V.bool _)) ?_
          refine AOps.nil ?_
          refine AW.ret ?_
          exact retQ.mk' (.one _) (VLe.of_eq (congrArg V.bool (by rw [refRanges, objs_all.2 hj, all_up.2 hp2, refGame]; simp))) (HLe.refl _) ⟨rfl, rfl⟩

def refStand (o : Obj) : Bool := !((decide (o 3 < 8) && (o 1 != o 3 % 2 || o 13 != 0)) || (o 3 == 8 && o 13 == 2))
def refOcc (s : St) (i : Nat) : Bool := decide ((ids s).count (i : Int) = 1) && ((List.range 11).all fun z => (s.lists z).all fun x => x != (i : Int) || (s.objs.getD i noObj 3 == (z : Int))) && refStand (s.objs.getD i noObj)
def refZones (s : St) : Bool := ((List.range 11).all fun z => (s.lists z).all fun x => inN x s.objs.length) && (List.range s.objs.length).all (refOcc s)
theorem rz_in {s : St} {z k : Nat} (hz : z < 11) (hk : k < (s.lists z).length) (h : inN ((s.lists z).getD k 0) s.objs.length = false) : refZones s = false := by
  have : (s.lists z).all (fun x => inN x s.objs.length) = false := by
    cases e : (s.lists z).all (fun x => inN x s.objs.length) with
    | false => rfl
    | true => rw [list_all.1 e k hk] at h; cases h
  have : ((List.range 11).all fun z => (s.lists z).all fun x => inN x s.objs.length) = false := all_bad hz this
  simp only [refZones, this, Bool.false_and]
theorem rz_occ {s : St} {i : Nat} (hi : i < s.objs.length) (h : refOcc s i = false) : refZones s = false := by
  have : (List.range s.objs.length).all (refOcc s) = false := all_bad hi h
  simp only [refZones, this, Bool.and_false]
theorem ro_zone {s : St} {i z k : Nat} (hz : z < 11) (hk : k < (s.lists z).length) (hx : (s.lists z).getD k 0 = (i : Int)) (h : (z : Int) ≠ s.objs.getD i noObj 3) : refOcc s i = false := by
  have : (s.lists z).all (fun x => x != (i : Int) || (s.objs.getD i noObj 3 == (z : Int))) = false := by
    cases e : (s.lists z).all (fun x => x != (i : Int) || (s.objs.getD i noObj 3 == (z : Int))) with
    | false => rfl
    | true =>
      have := list_all.1 e k hk
      rw [hx] at this
      simp at this; exact absurd this.symm h
  have : ((List.range 11).all fun z => (s.lists z).all fun x => x != (i : Int) || (s.objs.getD i noObj 3 == (z : Int))) = false := all_bad hz this
  simp only [refOcc, this, Bool.and_false, Bool.false_and]
theorem ro_count {s : St} {i : Nat} (h : ((ids s).count (i : Int) : Int) ≠ 1) : refOcc s i = false := by
  have : decide ((ids s).count (i : Int) = 1) = false := decide_eq_false (by omega)
  simp only [refOcc, this, Bool.false_and]
theorem lists_at {s : St} {z : Nat} (h : z < 11) : (((cState s).drop 1).drop ((z : Int).toNat * 1))[0]? = some (eInts (s.lists z)) := by
  rw [Int.toNat_natCast, Nat.mul_one]
  match z, h with
  | 0, _ | 1, _ | 2, _ | 3, _ | 4, _ | 5, _ | 6, _ | 7, _ | 8, _ | 9, _ | 10, _ => rfl
theorem rz_yes {x n : Int} (c : (bif decide (x < 0) then true else decide (n ≤ x)) = false) : inN x n = true := by
  cases h : decide (x < 0)
  · rw [h] at c; simp at c h; simp [inN]; omega
  · rw [h] at c; cases c
theorem rz_no {x n : Int} (c : (bif decide (x < 0) then true else decide (n ≤ x)) = true) : inN x n = false := by
  cases h : decide (x < 0)
  · rw [h] at c; simp at c h; simp [inN]; omega
  · simp at h; simp [inN]; omega
theorem occ_yes {x i z o : Int} (h : (z != o) = false) : (x != i || (o == z)) = true := by
  have : z = o := by simpa using h
  simp [this]
theorem occ_no {x i : Int} {b : Bool} (h : (x == i) = false) : (x != i || b) = true := by
  simp [bne, h]
theorem stand_pick {o : Obj} : (bif (bif decide (o 3 < 8) then (bif o 1 != o 3 % 2 then true else o 13 != 0) else false) then true else (bif o 3 == 8 then o 13 == 2 else false)) = !refStand o := by
  unfold refStand
  generalize decide (o 3 < 8) = a; generalize (o 1 != o 3 % 2) = b; generalize (o 13 != 0) = c; generalize (o 3 == 8) = d; generalize (o 13 == 2) = e
  cases a <;> cases b <;> cases c <;> cases d <;> cases e <;> rfl
theorem ro_stand {s : St} {i : Nat} (h : (!refStand (s.objs.getD i noObj)) = true) : refOcc s i = false := by
  have : refStand (s.objs.getD i noObj) = false := by simpa using h
  simp only [refOcc, this, Bool.and_false]
theorem ro_all {s : St} {i : Nat} (h1 : (((upto s 11 0).count (i : Int) : Nat) : Int) = 1) (h2 : ∀ j, j < 11 → (s.lists j).all (fun x => x != (i : Int) || (s.objs.getD i noObj 3 == (j : Int))) = true) (h3 : (!refStand (s.objs.getD i noObj)) = false) : refOcc s i = true := by
  have e3 : refStand (s.objs.getD i noObj) = true := by simpa using h3
  have e1 : (ids s).count (i : Int) = 1 := by rw [← upto_all]; omega
  have e2 := all_up.2 h2
  simp only [refOcc, e3, e2, decide_eq_true e1, Bool.and_self]
theorem cnt_succ {s : St} {z k i : Nat} (h : k < (s.lists z).length) : (upto s z (k + 1)).count (i : Int) = (upto s z k).count (i : Int) + if (s.lists z).getD k 0 = (i : Int) then 1 else 0 := by
  rw [upto_succ h, List.count_append, List.count_singleton]; simp only [beq_iff_eq]
theorem cnt_len {s : St} (hl : ∀ z, (s.lists z).length ≤ 1000000) (z k : Nat) (x : Int) (hz : z ≤ 11) : (upto s z k).count x ≤ 12000000 := by
  have h1 := upto_len hl z k
  have h2 := List.count_le_length (a := x) (l := upto s z k)
  have : z * 1000000 ≤ 11 * 1000000 := Nat.mul_le_mul_right _ hz
  omega

theorem refZones_calls (s : St) (hb : s.objs.length ≤ 1000000) (hl : ∀ z, (s.lists z).length ≤ 1000000) (h3 : ∀ i, i < s.objs.length → 0 ≤ s.objs.getD i noObj 3 ∧ s.objs.getD i noObj 3 ≤ 10) (h : Hp) : ACalls Tryz.prog G 26 [eState s] h fun r h' => r = .bool (refZones s) ∧ h' = h := by
  refine ACalls.enter Tryz.func26 rfl Tryz.ntmps26 Tryz.results26 rfl ?_
  refine AW.seq ?_
  refine AW.region ?_
  refine AOps.q rfl rfl rfl (q_boxa rfl (rfl : _ = V.agg _)) ?_
  refine AOps.q rfl rfl rfl (q_as rfl (rfl : _ = V.bool _)) ?_
  refine AOps.nil ?_
  refine AW.seq ?_
  refine AW.seq ?_
  refine AW.region ?_
  refine AOps.q rfl rfl rfl (q_as rfl (rfl : _ = V.int _ _)) ?_
  refine AOps.nil ?_
  refine AW.block ?_
  refine AW.loop (fun n T hh => ∃ (z : Nat) , z ≤ 11 ∧ n = 11 - z ∧ T = put (put (T0) 3 (V.int .i64 (z : Nat))) 1 (V.iptr (cState s)) ∧ hh = h ∧ ∀ j, j < z → (s.lists j).all (fun x => inN x s.objs.length) = true) (11) ?_ ?_
  · skip
    refine Wk.mk (TLe.put (d := 1) (VLe.refl _) (TLe.put (d := 3) (by exact VLe.of_eq (congrArg (V.int .i64) (by first | rfl | omega))) (TLe.zero _))) (HLe.refl _) ⟨0, Nat.zero_le _, rfl, rfl, rfl, fun j hj => by omega⟩
  · skip
    rintro n T h' ⟨z, hz, rfl, rfl, rfl, hz2⟩
    refine AW.seq ?_
    refine AW.seq ?_
    refine AW.region ?_
    refine AOps.q rfl rfl rfl (q_mv rfl (rfl : _ = V.int _ _)) ?_
    refine AOps.q rfl rfl rfl (q_lt rfl rfl rfl) ?_
    refine AOps.nil ?_
    refine AW.cond rfl (fun c0 => ?_) (fun c0 => ?_)
    · have hltz : z < 11 := by have := of_decide_eq_true c0; omega
      have hlz := hl z
      refine AW.skip ?_
      refine AW.seq ?_
      refine AW.block ?_
      refine AW.seq ?_
      refine AW.region ?_
      refine AOps.q rfl rfl rfl (q_mv rfl (rfl : _ = V.int _ _)) ?_
      refine AOps.q rfl rfl rfl (q_fa_i rfl Tryz.underlying29 rfl (by exact Tryz.sizeOf24) (by decide) rfl (rfl : _ = List.drop 1 _)) ?_
      refine AOps.q rfl rfl rfl (q_ia_ai rfl Tryz.underlying24 Tryz.sizeOf23 rfl rfl (by omega) (by omega) rfl) ?_
      refine AOps.q rfl rfl rfl (q_load_i1 rfl Tryz.isAgg23 rfl (lists_at hltz)) ?_
      refine AOps.q rfl rfl rfl (q_len rfl Tryz.underlying23 rfl) ?_
      refine AOps.q rfl rfl rfl (q_mv rfl (rfl : _ = V.int _ _)) ?_
      refine AOps.nil ?_
      refine AW.block ?_
      refine AW.loop (fun n T hh => ∃ (k : Nat) , k ≤ (s.lists z).length ∧ n = (s.lists z).length - k ∧ T = put (put (put (put (put (T0) 21 (V.int .i64 (k : Nat))) 20 (V.int .i64 (s.lists z).length)) 19 (eInts (s.lists z))) 3 (V.int .i64 (z : Nat))) 1 (V.iptr (cState s)) ∧ hh = h' ∧ ∀ j, j < k → inN ((s.lists z).getD j 0) s.objs.length = true) ((s.lists z).length) ?_ ?_
      · skip
        refine Wk.mk (TLe.put (d := 1) (VLe.refl _) (TLe.put (d := 3) (VLe.refl _) (TLe.put (d := 19) (VLe.refl _) (TLe.put (d := 20) (VLe.refl _) (TLe.put (d := 21) (by exact VLe.of_eq (congrArg (V.int .i64) (by first | rfl | omega))) (TLe.zero _)))))) (HLe.refl _) ⟨0, Nat.zero_le _, rfl, rfl, rfl, fun j hj => by omega⟩
      · skip
        rintro n T h' ⟨k, hk, rfl, rfl, rfl, hk2⟩
        refine AW.seq ?_
        refine AW.region ?_
        refine AOps.q rfl rfl rfl (q_lt rfl rfl rfl) ?_
        refine AOps.nil ?_
        refine AW.seq ?_
        refine AW.cond rfl (fun c1 => ?_) (fun c1 => ?_)
        · have hltk : k < (s.lists z).length := by have := of_decide_eq_true c1; omega
          refine AW.skip ?_
          refine AW.seq ?_
          refine AW.block ?_
          refine AW.seq ?_
          refine AW.region ?_
          refine AOps.q rfl rfl rfl (q_ia_s rfl Tryz.underlying23 Tryz.sizeOf3 rfl rfl (by omega) (by omega) (cInts_at hltk)) ?_
          refine AOps.q rfl rfl rfl (q_load_i1 rfl Tryz.isAgg3 rfl rfl) ?_
          refine AOps.q rfl rfl rfl (q_as rfl (rfl : _ = V.int _ _)) ?_
          refine AOps.nil ?_
          refine AW.seq ?_
          refine AW.region ?_
          refine AOps.q rfl rfl rfl (q_mv rfl (rfl : _ = V.int _ _)) ?_
          refine AOps.q rfl rfl rfl (q_lt rfl rfl rfl) ?_
          refine AOps.q rfl rfl rfl (q_mv rfl (rfl : _ = V.bool _)) ?_
          refine AOps.g (wanted_f rfl rfl) rfl rfl (fun hc => TLe.refl _) (fun hc => q_mv rfl (rfl : _ = V.int _ _)) ?_
          refine AOps.g (wanted_f rfl rfl) rfl rfl (fun hc => TLe.refl _) (fun hc => q_fa_i rfl Tryz.underlying29 rfl (by exact Tryz.sizeOf22) (by decide) rfl (rfl : _ = List.drop 0 _)) ?_
          refine AOps.g (wanted_f rfl rfl) rfl rfl (fun hc => TLe.put (d := 29) (VLe.opt hc) (TLe.refl _)) (fun hc => q_load_i1 rfl Tryz.isAgg22 rfl rfl) ?_
          refine AOps.g (wanted_f rfl rfl) rfl rfl (fun hc => TLe.put (d := 30) (VLe.opt hc) (TLe.refl _)) (fun hc => q_len rfl Tryz.underlying22 rfl) ?_
          refine AOps.g (wanted_f rfl rfl) rfl rfl (fun hc => TLe.put (d := 31) (VLe.opt hc) (TLe.put (d := 28) (VLe.opt hc) (TLe.refl _))) (fun hc => q_ge rfl rfl rfl) ?_
          refine AOps.q rfl rfl rfl (q_pickg rfl rfl (fun hp => by exact VLe.refl _) (fun hp => by first | exact VLe.opt hp | exact VLe.opt (by rw [hp]; rfl) | exact VLe.opt (by simp_all))) ?_
          refine AOps.nil ?_
          refine AW.cond rfl (fun c2 => ?_) (fun c2 => ?_)
          · skip
            refine AW.seq ?_
            refine AW.region ?_
            refine AOps.q rfl rfl rfl (q_as rfl (rfl : _ = V.bool _)) ?_
            refine AOps.nil ?_
            refine AW.ret ?_
            exact retQ.mk' (.one _) (VLe.of_eq (congrArg V.bool (by rw [rz_in hltz hltk (rz_no c2)]))) (HLe.refl _) ⟨rfl, rfl⟩
          · skip
            refine AW.skip ?_
            refine AW.region ?_
            refine AOps.q rfl rfl rfl (q_add' rfl rfl rfl (by omega)) ?_
            refine AOps.q rfl rfl rfl (q_mv rfl (rfl : _ = V.int _ _)) ?_
            refine AOps.nil ?_
            refine Wk.mk (TLe.put (d := 1) (VLe.refl _) (TLe.put (d := 3) (VLe.refl _) (TLe.put (d := 19) (VLe.refl _) (TLe.put (d := 20) (VLe.refl _) (TLe.put (d := 21) (by exact VLe.of_eq (congrArg (V.int .i64) (by first | rfl | omega))) (TLe.zero _)))))) (HLe.refl _) ⟨_, ?_, k + 1, ?_, rfl, rfl, rfl, all_step (p := fun j => inN ((s.lists z).getD j 0) s.objs.length) hk2 (rz_yes c2)⟩
            · omega
            · omega
        · obtain rfl : k = (s.lists z).length := by have := of_decide_eq_false c1; omega
          refine AW.exit ?_
          refine AW.region ?_
          refine AOps.q rfl rfl rfl (q_mv rfl (rfl : _ = V.int _ _)) ?_
          refine AOps.q rfl rfl rfl (q_add' rfl rfl rfl (by omega)) ?_
          refine AOps.q rfl rfl rfl (q_as rfl (rfl : _ = V.int _ _)) ?_
          refine AOps.nil ?_
          refine Wk.mk (TLe.put (d := 1) (VLe.refl _) (TLe.put (d := 3) (by exact VLe.of_eq (congrArg (V.int .i64) (by first | rfl | omega))) (TLe.zero _))) (HLe.refl _) ⟨_, ?_, z + 1, ?_, rfl, rfl, rfl, all_step (p := fun j => (s.lists j).all (fun x => inN x s.objs.length)) hz2 (list_all.2 hk2)⟩
          · omega
          · omega
    · obtain rfl : z = 11 := by have := of_decide_eq_false c0; omega
      refine AW.exit ?_
      refine AW.seq ?_
      refine AW.seq ?_
      refine AW.region ?_
      refine AOps.q rfl rfl rfl (q_fa_i rfl Tryz.underlying29 rfl (by exact Tryz.sizeOf22) (by decide) rfl (rfl : _ = List.drop 0 _)) ?_
      refine AOps.q rfl rfl rfl (q_load_i1 rfl Tryz.isAgg22 rfl rfl) ?_
      refine AOps.q rfl rfl rfl (q_len rfl Tryz.underlying22 rfl) ?_
      refine AOps.q rfl rfl rfl (q_mv rfl (rfl : _ = V.int _ _)) ?_
      refine AOps.nil ?_
      refine AW.block ?_
      refine AW.loop (fun n T hh => ∃ (i : Nat) , i ≤ s.objs.length ∧ n = s.objs.length - i ∧ T = put (put (put (put (T0) 38 (V.int .i64 (i : Nat))) 37 (V.int .i64 s.objs.length)) 36 (eObjs s.objs)) 1 (V.iptr (cState s)) ∧ hh = h' ∧ ∀ j, j < i → refOcc s j = true) (s.objs.length) ?_ ?_
      · skip
        refine Wk.mk (TLe.put (d := 1) (VLe.refl _) (TLe.put (d := 36) (VLe.refl _) (TLe.put (d := 37) (VLe.refl _) (TLe.put (d := 38) (by exact VLe.of_eq (congrArg (V.int .i64) (by first | rfl | omega))) (TLe.zero _))))) (HLe.refl _) ⟨0, Nat.zero_le _, rfl, rfl, rfl, fun j hj => by omega⟩
      · skip
        rintro n T h' ⟨i, hi, rfl, rfl, rfl, hj⟩
        refine AW.seq ?_
        refine AW.region ?_
        refine AOps.q rfl rfl rfl (q_lt rfl rfl rfl) ?_
        refine AOps.nil ?_
        refine AW.seq ?_
        refine AW.cond rfl (fun c3 => ?_) (fun c3 => ?_)
        · have hlt : i < s.objs.length := by have := of_decide_eq_true c3; omega
          have h3i := h3 i hlt
          refine AW.skip ?_
          refine AW.seq ?_
          refine AW.block ?_
          refine AW.seq ?_
          refine AW.region ?_
          refine AOps.q rfl rfl rfl (q_mv rfl (rfl : _ = V.int _ _)) ?_
          refine AOps.q rfl rfl rfl (q_ia_s rfl Tryz.underlying22 Tryz.sizeOf49 rfl rfl (by omega) (by omega) (cObjs_elem' (by omega) (by omega))) ?_
          refine AOps.q rfl rfl rfl (q_load_iW rfl Tryz.isAgg49 Tryz.sizeOf49 rfl (by rfl)) ?_
          refine AOps.s rfl rfl rfl (a_alloc rfl Tryz.zeroValue49 rfl (fun id7 hid7 => ?_))
          refine AOps.q rfl rfl rfl (q_as rfl (rfl : _ = V.int _ _)) ?_
          refine AOps.s0 rfl rfl (a_storeWA rfl Tryz.sizeOf49 rfl rfl (rfl : _ = V.agg _) rfl rfl ?_)
          refine AOps.done 7 rfl hid7 ?_
          refine AOps.nil ?_
          refine AW.seq ?_
          refine AW.region ?_
          refine AOps.q rfl rfl rfl (q_as rfl (rfl : _ = V.int _ _)) ?_
          refine AOps.nil ?_
          refine AW.seq ?_
          refine AW.seq ?_
          refine AW.region ?_
          refine AOps.q rfl rfl rfl (q_as rfl (rfl : _ = V.int _ _)) ?_
          refine AOps.nil ?_
          refine AW.block ?_
          refine AW.loop (fun n T hh => ∃ (y : Nat) , y ≤ 11 ∧ n = 11 - y ∧ T = put (put (put (put (put (put (put (put (T0) 9 (V.int .i64 (y : Nat))) 8 (V.int .i64 ((upto s y 0).count (i : Int) : Nat))) 7 (V.iptr (cObj (s.objs.getD i noObj)))) 6 (V.int .i64 (i : Nat))) 38 (V.int .i64 (i : Nat))) 37 (V.int .i64 s.objs.length)) 36 (eObjs s.objs)) 1 (V.iptr (cState s)) ∧ hh = h' ∧ ∀ j, j < y → (s.lists j).all (fun x => x != (i : Int) || (s.objs.getD i noObj 3 == (j : Int))) = true) (11) ?_ ?_
          · skip
            refine Wk.mk (TLe.put (d := 1) (VLe.refl _) (TLe.put (d := 36) (VLe.refl _) (TLe.put (d := 37) (VLe.refl _) (TLe.put (d := 38) (VLe.refl _) (TLe.put (d := 6) (VLe.refl _) (TLe.put (d := 7) (VLe.refl _) (TLe.put (d := 8) (by exact VLe.refl _) (TLe.put (d := 9) (by exact VLe.of_eq (congrArg (V.int .i64) (by first | rfl | omega))) (TLe.zero _))))))))) (HLe.refl _) ⟨0, Nat.zero_le _, rfl, rfl, rfl, fun j hj => by omega⟩
          · skip
            rintro n T h' ⟨y, hy, rfl, rfl, rfl, hy2⟩
            refine AW.seq ?_
            refine AW.seq ?_
            refine AW.region ?_
            refine AOps.q rfl rfl rfl (q_mv rfl (rfl : _ = V.int _ _)) ?_
            refine AOps.q rfl rfl rfl (q_lt rfl rfl rfl) ?_
            refine AOps.nil ?_
            refine AW.cond rfl (fun c4 => ?_) (fun c4 => ?_)
            · have hlty : y < 11 := by have := of_decide_eq_true c4; omega
              have hly := hl y
              refine AW.skip ?_
              refine AW.seq ?_
              refine AW.block ?_
              refine AW.seq ?_
              refine AW.region ?_
              refine AOps.q rfl rfl rfl (q_mv rfl (rfl : _ = V.int _ _)) ?_
              refine AOps.q rfl rfl rfl (q_fa_i rfl Tryz.underlying29 rfl (by exact Tryz.sizeOf24) (by decide) rfl (rfl : _ = List.drop 1 _)) ?_
              refine AOps.q rfl rfl rfl (q_ia_ai rfl Tryz.underlying24 Tryz.sizeOf23 rfl rfl (by omega) (by omega) rfl) ?_
              refine AOps.q rfl rfl rfl (q_load_i1 rfl Tryz.isAgg23 rfl (lists_at hlty)) ?_
              refine AOps.q rfl rfl rfl (q_len rfl Tryz.underlying23 rfl) ?_
              refine AOps.q rfl rfl rfl (q_mv rfl (rfl : _ = V.int _ _)) ?_
              refine AOps.nil ?_
              refine AW.block ?_
              refine AW.loop (fun n T hh => ∃ (q : Nat) , q ≤ (s.lists y).length ∧ n = (s.lists y).length - q ∧ T = put (put (put (put (put (put (put (put (put (put (put (T0) 52 (V.int .i64 (q : Nat))) 51 (V.int .i64 (s.lists y).length)) 50 (eInts (s.lists y))) 9 (V.int .i64 (y : Nat))) 8 (V.int .i64 ((upto s y q).count (i : Int) : Nat))) 7 (V.iptr (cObj (s.objs.getD i noObj)))) 6 (V.int .i64 (i : Nat))) 38 (V.int .i64 (i : Nat))) 37 (V.int .i64 s.objs.length)) 36 (eObjs s.objs)) 1 (V.iptr (cState s)) ∧ hh = h' ∧ ∀ j, j < q → ((s.lists y).getD j 0 != (i : Int) || (s.objs.getD i noObj 3 == (y : Int))) = true) ((s.lists y).length) ?_ ?_
              · skip
                refine Wk.mk (TLe.put (d := 1) (VLe.refl _) (TLe.put (d := 36) (VLe.refl _) (TLe.put (d := 37) (VLe.refl _) (TLe.put (d := 38) (VLe.refl _) (TLe.put (d := 6) (VLe.refl _) (TLe.put (d := 7) (VLe.refl _) (TLe.put (d := 8) (by exact VLe.of_eq (congrArg (V.int .i64) (by first | rfl | omega))) (TLe.put (d := 9) (VLe.refl _) (TLe.put (d := 50) (VLe.refl _) (TLe.put (d := 51) (VLe.refl _) (TLe.put (d := 52) (by exact VLe.of_eq (congrArg (V.int .i64) (by first | rfl | omega))) (TLe.zero _)))))))))))) (HLe.refl _) ⟨0, Nat.zero_le _, rfl, rfl, rfl, fun j hj => by omega⟩
              · skip
                rintro n T h' ⟨q, hq, rfl, rfl, rfl, hq2⟩
                refine AW.seq ?_
                refine AW.region ?_
                refine AOps.q rfl rfl rfl (q_lt rfl rfl rfl) ?_
                refine AOps.nil ?_
                refine AW.seq ?_
                refine AW.cond rfl (fun c5 => ?_) (fun c5 => ?_)
                · have hltq : q < (s.lists y).length := by have := of_decide_eq_true c5; omega
                  have hcl := cnt_len hl y q (i : Int) (by omega)
                  refine AW.skip ?_
                  refine AW.seq ?_
                  refine AW.block ?_
                  refine AW.seq ?_
                  refine AW.region ?_
                  refine AOps.q rfl rfl rfl (q_ia_s rfl Tryz.underlying23 Tryz.sizeOf3 rfl rfl (by omega) (by omega) (cInts_at hltq)) ?_
                  refine AOps.q rfl rfl rfl (q_load_i1 rfl Tryz.isAgg3 rfl rfl) ?_
                  refine AOps.q rfl rfl rfl (q_as rfl (rfl : _ = V.int _ _)) ?_
                  refine AOps.nil ?_
                  refine AW.seq ?_
                  refine AW.region ?_
                  refine AOps.q rfl rfl rfl (q_mv rfl (rfl : _ = V.int _ _)) ?_
                  refine AOps.q rfl rfl rfl (q_mv rfl (rfl : _ = V.int _ _)) ?_
                  refine AOps.q rfl rfl rfl (q_eq rfl rfl rfl) ?_
                  refine AOps.nil ?_
                  refine AW.cond rfl (fun c6 => ?_) (fun c6 => ?_)
                  · skip
                    refine AW.seq ?_
                    refine AW.region ?_
                    refine AOps.q rfl rfl rfl (q_mv rfl (rfl : _ = V.int _ _)) ?_
                    refine AOps.q rfl rfl rfl (q_add' rfl rfl rfl (by omega)) ?_
                    refine AOps.q rfl rfl rfl (q_as rfl (rfl : _ = V.int _ _)) ?_
                    refine AOps.nil ?_
                    refine AW.seq ?_
                    refine AW.region ?_
                    refine AOps.q rfl rfl rfl (q_mv rfl (rfl : _ = V.int _ _)) ?_
                    refine AOps.q rfl rfl rfl (q_ia_ai rfl Tryz.underlying49 Tryz.sizeOf3 rfl rfl (by decide) (by decide) rfl) ?_
                    refine AOps.q rfl rfl rfl (q_load_i1 rfl Tryz.isAgg3 rfl rfl) ?_
                    refine AOps.q rfl rfl rfl (q_ne rfl rfl rfl) ?_
                    refine AOps.nil ?_
                    refine AW.cond rfl (fun c7 => ?_) (fun c7 => ?_)
                    · skip
                      refine AW.seq ?_
                      refine AW.region ?_
                      refine AOps.q rfl rfl rfl (q_as rfl (rfl : _ = V.bool _)) ?_
                      refine AOps.nil ?_
                      refine AW.ret ?_
                      exact retQ.mk' (.one _) (VLe.of_eq (congrArg V.bool (by rw [rz_occ hlt (ro_zone hlty hltq (by simpa using c6) (by simpa using c7))]))) (HLe.refl _) ⟨rfl, rfl⟩
                    · skip
                      refine AW.skip ?_
                      refine AW.region ?_
                      refine AOps.q rfl rfl rfl (q_add' rfl rfl rfl (by omega)) ?_
                      refine AOps.q rfl rfl rfl (q_mv rfl (rfl : _ = V.int _ _)) ?_
                      refine AOps.nil ?_
                      refine Wk.mk (TLe.put (d := 1) (VLe.refl _) (TLe.put (d := 36) (VLe.refl _) (TLe.put (d := 37) (VLe.refl _) (TLe.put (d := 38) (VLe.refl _) (TLe.put (d := 6) (VLe.refl _) (TLe.put (d := 7) (VLe.refl _) (TLe.put (d := 8) (by exact VLe.of_eq (congrArg (V.int .i64) (by rw [cnt_succ hltq]; first | (rw [if_pos (by simpa using c6)]; all_goals omega) | (rw [if_neg (by simpa using c6)]; all_goals omega)))) (TLe.put (d := 9) (VLe.refl _) (TLe.put (d := 50) (VLe.refl _) (TLe.put (d := 51) (VLe.refl _) (TLe.put (d := 52) (by exact VLe.of_eq (congrArg (V.int .i64) (by first | rfl | omega))) (TLe.zero _)))))))))))) (HLe.refl _) ⟨_, ?_, q + 1, ?_, rfl, rfl, rfl, all_step (p := fun j => (s.lists y).getD j 0 != (i : Int) || (s.objs.getD i noObj 3 == (y : Int))) hq2 (by first | exact occ_yes c7 | exact occ_no c6)⟩
                      · omega
                      · omega
                  · skip
                    refine AW.skip ?_
                    refine AW.region ?_
                    refine AOps.q rfl rfl rfl (q_add' rfl rfl rfl (by omega)) ?_
                    refine AOps.q rfl rfl rfl (q_mv rfl (rfl : _ = V.int _ _)) ?_
                    refine AOps.nil ?_
                    refine Wk.mk (TLe.put (d := 1) (VLe.refl _) (TLe.put (d := 36) (VLe.refl _) (TLe.put (d := 37) (VLe.refl _) (TLe.put (d := 38) (VLe.refl _) (TLe.put (d := 6) (VLe.refl _) (TLe.put (d := 7) (VLe.refl _) (TLe.put (d := 8) (by exact VLe.of_eq (congrArg (V.int .i64) (by rw [cnt_succ hltq]; first | (rw [if_pos (by simpa using c6)]; all_goals omega) | (rw [if_neg (by simpa using c6)]; all_goals omega)))) (TLe.put (d := 9) (VLe.refl _) (TLe.put (d := 50) (VLe.refl _) (TLe.put (d := 51) (VLe.refl _) (TLe.put (d := 52) (by exact VLe.of_eq (congrArg (V.int .i64) (by first | rfl | omega))) (TLe.zero _)))))))))))) (HLe.refl _) ⟨_, ?_, q + 1, ?_, rfl, rfl, rfl, all_step (p := fun j => (s.lists y).getD j 0 != (i : Int) || (s.objs.getD i noObj 3 == (y : Int))) hq2 (by first | exact occ_yes c7 | exact occ_no c6)⟩
                    · omega
                    · omega
                · obtain rfl : q = (s.lists y).length := by have := of_decide_eq_false c5; omega
                  refine AW.exit ?_
                  refine AW.region ?_
                  refine AOps.q rfl rfl rfl (q_mv rfl (rfl : _ = V.int _ _)) ?_
                  refine AOps.q rfl rfl rfl (q_add' rfl rfl rfl (by omega)) ?_
                  refine AOps.q rfl rfl rfl (q_as rfl (rfl : _ = V.int _ _)) ?_
                  refine AOps.nil ?_
                  refine Wk.mk (TLe.put (d := 1) (VLe.refl _) (TLe.put (d := 36) (VLe.refl _) (TLe.put (d := 37) (VLe.refl _) (TLe.put (d := 38) (VLe.refl _) (TLe.put (d := 6) (VLe.refl _) (TLe.put (d := 7) (VLe.refl _) (TLe.put (d := 8) (by exact VLe.of_eq (congrArg (V.int .i64) (by rw [upto_next]))) (TLe.put (d := 9) (by exact VLe.of_eq (congrArg (V.int .i64) (by first | rfl | omega))) (TLe.zero _))))))))) (HLe.refl _) ⟨_, ?_, y + 1, ?_, rfl, rfl, rfl, all_step (p := fun j => (s.lists j).all (fun x => x != (i : Int) || (s.objs.getD i noObj 3 == (j : Int)))) hy2 (list_all.2 hq2)⟩
                  · omega
                  · omega
            · obtain rfl : y = 11 := by have := of_decide_eq_false c4; omega
              refine AW.exit ?_
              refine AW.seq ?_
              refine AW.seq ?_
              refine AW.region ?_
              refine AOps.q rfl rfl rfl (q_mv rfl (rfl : _ = V.int _ _)) ?_
              refine AOps.q rfl rfl rfl (q_ne rfl rfl rfl) ?_
              refine AOps.nil ?_
              refine AW.cond rfl (fun c8 => ?_) (fun c8 => ?_)
              · skip
                refine AW.seq ?_
                refine AW.region ?_
                refine AOps.q rfl rfl rfl (q_as rfl (rfl : _ = V.bool _)) ?_
                refine AOps.nil ?_
                refine AW.ret ?_
                exact retQ.mk' (.one _) (VLe.of_eq (congrArg V.bool (by rw [rz_occ hlt (ro_count (by rw [← upto_all]; simpa using c8))]))) (HLe.refl _) ⟨rfl, rfl⟩
              · skip
                refine AW.skip ?_
                refine AW.seq ?_
                refine AW.region ?_
                refine AOps.q rfl rfl rfl (q_ia_ai rfl Tryz.underlying49 Tryz.sizeOf3 rfl rfl (by decide) (by decide) rfl) ?_
                refine AOps.q rfl rfl rfl (q_load_i1 rfl Tryz.isAgg3 rfl rfl) ?_
                refine AOps.q rfl rfl rfl (q_lt rfl rfl rfl) ?_
                refine AOps.q rfl rfl rfl (q_mv rfl (rfl : _ = V.bool _)) ?_
                refine AOps.g (wanted_t rfl rfl) rfl rfl (fun hc => TLe.refl _) (fun hc => q_ia_ai rfl Tryz.underlying49 Tryz.sizeOf3 rfl rfl (by decide) (by decide) rfl) ?_
                refine AOps.g (wanted_t rfl rfl) rfl rfl (fun hc => TLe.put (d := 72) (VLe.opt hc) (TLe.refl _)) (fun hc => q_load_i1 rfl Tryz.isAgg3 rfl rfl) ?_
                refine AOps.g (wanted_t rfl rfl) rfl rfl (fun hc => TLe.refl _) (fun hc => q_ia_ai rfl Tryz.underlying49 Tryz.sizeOf3 rfl rfl (by decide) (by decide) rfl) ?_
                refine AOps.g (wanted_t rfl rfl) rfl rfl (fun hc => TLe.put (d := 74) (VLe.opt hc) (TLe.refl _)) (fun hc => q_load_i1 rfl Tryz.isAgg3 rfl rfl) ?_
                refine AOps.g (wanted_t rfl rfl) rfl rfl (fun hc => TLe.put (d := 75) (VLe.opt hc) (TLe.refl _)) (fun hc => q_rem' rfl rfl rfl (by omega) (by omega)) ?_
                refine AOps.g (wanted_t rfl rfl) rfl rfl (fun hc => TLe.put (d := 76) (VLe.opt hc) (TLe.put (d := 73) (VLe.opt hc) (TLe.refl _))) (fun hc => q_ne rfl rfl rfl) ?_
                refine AOps.g (wanted_t rfl rfl) rfl rfl (fun hc => TLe.put (d := 77) (VLe.opt hc) (TLe.refl _)) (fun hc => q_mv rfl (rfl : _ = V.bool _)) ?_
                refine AOps.g (wanted_fo rfl rfl) rfl rfl (fun hc => TLe.refl _) (fun hc => q_ia_ai rfl Tryz.underlying49 Tryz.sizeOf3 rfl rfl (by decide) (by decide) rfl) ?_
                refine AOps.g (wanted_fo rfl rfl) rfl rfl (fun hc => TLe.put (d := 79) (VLe.opt hc) (TLe.refl _)) (fun hc => q_load_i1 rfl Tryz.isAgg3 rfl rfl) ?_
                refine AOps.g (wanted_fo rfl rfl) rfl rfl (fun hc => TLe.put (d := 80) (VLe.opt hc) (TLe.refl _)) (fun hc => q_ne rfl rfl rfl) ?_
                refine AOps.g (wanted_t rfl rfl) rfl rfl (fun hc => TLe.put (d := 78) (VLe.opt hc) (TLe.refl _)) (fun hc => q_pickg rfl rfl (fun hp => by exact VLe.refl _) (fun hp => by first | exact VLe.opt hp | exact VLe.opt (by rw [hp]; rfl) | exact VLe.opt (by simp_all))) ?_
                refine AOps.q rfl rfl rfl (q_pickg rfl rfl (fun hp => by first | exact VLe.opt hp | exact VLe.opt (by rw [hp]; rfl) | exact VLe.opt (by simp_all)) (fun hp => by exact VLe.refl _)) ?_
                refine AOps.q rfl rfl rfl (q_mv rfl (rfl : _ = V.bool _)) ?_
                refine AOps.g (wanted_f rfl rfl) rfl rfl (fun hc => TLe.refl _) (fun hc => q_ia_ai rfl Tryz.underlying49 Tryz.sizeOf3 rfl rfl (by decide) (by decide) rfl) ?_
                refine AOps.g (wanted_f rfl rfl) rfl rfl (fun hc => TLe.put (d := 85) (VLe.opt hc) (TLe.refl _)) (fun hc => q_load_i1 rfl Tryz.isAgg3 rfl rfl) ?_
                refine AOps.g (wanted_f rfl rfl) rfl rfl (fun hc => TLe.put (d := 86) (VLe.opt hc) (TLe.refl _)) (fun hc => q_eq rfl rfl rfl) ?_
                refine AOps.g (wanted_f rfl rfl) rfl rfl (fun hc => TLe.put (d := 87) (VLe.opt hc) (TLe.refl _)) (fun hc => q_mv rfl (rfl : _ = V.bool _)) ?_
                refine AOps.g (wanted_to rfl rfl) rfl rfl (fun hc => TLe.refl _) (fun hc => q_ia_ai rfl Tryz.underlying49 Tryz.sizeOf3 rfl rfl (by decide) (by decide) rfl) ?_
                refine AOps.g (wanted_to rfl rfl) rfl rfl (fun hc => TLe.put (d := 89) (VLe.opt hc) (TLe.refl _)) (fun hc => q_load_i1 rfl Tryz.isAgg3 rfl rfl) ?_
                refine AOps.g (wanted_to rfl rfl) rfl rfl (fun hc => TLe.put (d := 90) (VLe.opt hc) (TLe.refl _)) (fun hc => q_eq rfl rfl rfl) ?_
                refine AOps.g (wanted_f rfl rfl) rfl rfl (fun hc => TLe.put (d := 88) (VLe.opt hc) (TLe.refl _)) (fun hc => q_pickg rfl rfl (fun hp => by first | exact VLe.opt hp | exact VLe.opt (by rw [hp]; rfl) | exact VLe.opt (by simp_all)) (fun hp => by exact VLe.refl _)) ?_
                refine AOps.q rfl rfl rfl (q_pickg rfl rfl (fun hp => by exact VLe.refl _) (fun hp => by first | exact VLe.opt hp | exact VLe.opt (by rw [hp]; rfl) | exact VLe.opt (by simp_all))) ?_
                refine AOps.nil ?_
                refine AW.cond rfl (fun c9 => ?_) (fun c9 => ?_)
                · skip
                  refine AW.seq ?_
                  refine AW.region ?_
                  refine AOps.q rfl rfl rfl (q_as rfl (rfl : _ = V.bool _)) ?_
                  refine AOps.nil ?_
                  refine AW.ret ?_
                  exact retQ.mk' (.one _) (VLe.of_eq (congrArg V.bool (by rw [rz_occ hlt (ro_stand (stand_pick.symm.trans c9))]))) (HLe.refl _) ⟨rfl, rfl⟩
                · skip
                  refine AW.skip ?_
                  refine AW.region ?_
                  refine AOps.q rfl rfl rfl (q_add' rfl rfl rfl (by omega)) ?_
                  refine AOps.q rfl rfl rfl (q_mv rfl (rfl : _ = V.int _ _)) ?_
                  refine AOps.nil ?_
                  refine Wk.mk (TLe.put (d := 1) (VLe.refl _) (TLe.put (d := 36) (VLe.refl _) (TLe.put (d := 37) (VLe.refl _) (TLe.put (d := 38) (by exact VLe.of_eq (congrArg (V.int .i64) (by first | rfl | omega))) (TLe.zero _))))) (HLe.refl _) ⟨_, ?_, i + 1, ?_, rfl, rfl, rfl, all_step (p := refOcc s) hj (ro_all (by simpa using c8) hy2 (stand_pick.symm.trans c9))⟩
                  · omega
                  · omega
        · obtain rfl : i = s.objs.length := by have := of_decide_eq_false c3; omega
          refine AW.exit ?_
          refine AW.seq ?_
          refine AW.region ?_
          refine AOps.q rfl rfl rfl (q_as rfl (rfl : _ = V.bool _)) ?_
          refine AOps.nil ?_
          refine AW.ret ?_
          exact retQ.mk' (.one _) (VLe.of_eq (congrArg V.bool (by rw [refZones, all_up.2 hz2, all_up.2 hj]; rfl))) (HLe.refl _) ⟨rfl, rfl⟩

def refCheck (s : St) : Int := if 400 < (s.objs.length : Int) then 5 else if refRanges s = false then 1 else if refZones s = false then 12 else if s.objs.any (fun o => !formedF o) then 2 else 0
theorem rr_zone {s : St} (h : refRanges s = true) (i : Nat) (hi : i < s.objs.length) : 0 ≤ s.objs.getD i noObj 3 ∧ s.objs.getD i noObj 3 ≤ 10 := by
  simp only [refRanges, Bool.and_eq_true] at h
  have := objs_all.1 h.1.1 i hi
  simp only [refObject, Bool.and_eq_true] at this
  have := this.1.1.1.1.1.1.1.1.1.1.1.1.1.1.2
  simpa [inB] using this

theorem refCheck_calls (s : St) (hb : s.objs.length ≤ 1000000) (hl : ∀ z, (s.lists z).length ≤ 1000000) (h : Hp) : ACalls Tryz.prog G 9 [eState s] h fun r h' => r = .int .i64 (refCheck s) ∧ h' = h := by
  refine ACalls.enter Tryz.func9 rfl Tryz.ntmps9 Tryz.results9 rfl ?_
  refine AW.seq ?_
  refine AW.region ?_
  refine AOps.q rfl rfl rfl (q_boxa rfl (rfl : _ = V.agg _)) ?_
  refine AOps.q rfl rfl rfl (q_as rfl (rfl : _ = V.int _ _)) ?_
  refine AOps.nil ?_
  refine AW.seq ?_
  refine AW.seq ?_
  refine AW.region ?_
  refine AOps.q rfl rfl rfl (q_fa_i rfl Tryz.underlying29 rfl (by exact Tryz.sizeOf22) (by decide) rfl (rfl : _ = List.drop 0 _)) ?_
  refine AOps.q rfl rfl rfl (q_load_i1 rfl Tryz.isAgg22 rfl rfl) ?_
  refine AOps.q rfl rfl rfl (q_len rfl Tryz.underlying22 rfl) ?_
  refine AOps.q rfl rfl rfl (q_gt rfl rfl rfl) ?_
  refine AOps.nil ?_
  refine AW.cond rfl (fun c0 => ?_) (fun c0 => ?_)
  · skip
    refine AW.seq ?_
    refine AW.region ?_
    refine AOps.q rfl rfl rfl (q_as rfl (rfl : _ = V.int _ _)) ?_
    refine AOps.nil ?_
    refine AW.ret ?_
    exact retQ.mk' (.one _) (VLe.of_eq (congrArg (V.int .i64) (by rw [refCheck, if_pos (by simpa using c0)]))) (HLe.refl _) ⟨rfl, rfl⟩
  · skip
    refine AW.skip ?_
    refine AW.seq ?_
    refine AW.seq ?_
    refine AW.region ?_
    refine AOps.q rfl rfl rfl (q_load_iW rfl Tryz.isAgg29 Tryz.sizeOf29 rfl (by rfl)) ?_
    refine AOps.q rfl rfl rfl (QOp.call rfl (by exact Tryz.call25) fun h' hl' => by exact refRanges_calls _ (by assumption) h') ?_
    refine AOps.q rfl rfl rfl (q_not rfl rfl) ?_
    refine AOps.nil ?_
    refine AW.cond rfl (fun c1 => ?_) (fun c1 => ?_)
    · skip
      refine AW.seq ?_
      refine AW.region ?_
      refine AOps.q rfl rfl rfl (q_as rfl (rfl : _ = V.int _ _)) ?_
      refine AOps.nil ?_
      refine AW.ret ?_
      exact retQ.mk' (.one _) (VLe.of_eq (congrArg (V.int .i64) (by rw [refCheck, if_neg (by simpa using c0), if_pos (by simpa using c1)]))) (HLe.refl _) ⟨rfl, rfl⟩
    · have hrr : refRanges s = true := by simpa using c1
      refine AW.skip ?_
      refine AW.seq ?_
      refine AW.seq ?_
      refine AW.region ?_
      refine AOps.q rfl rfl rfl (q_load_iW rfl Tryz.isAgg29 Tryz.sizeOf29 rfl (by rfl)) ?_
      refine AOps.q rfl rfl rfl (QOp.call rfl (by exact Tryz.call26) fun h' hl' => by exact refZones_calls s hb hl (rr_zone hrr) h') ?_
      refine AOps.q rfl rfl rfl (q_not rfl rfl) ?_
      refine AOps.nil ?_
      refine AW.cond rfl (fun c2 => ?_) (fun c2 => ?_)
      · skip
        refine AW.seq ?_
        refine AW.region ?_
        refine AOps.q rfl rfl rfl (q_as rfl (rfl : _ = V.int _ _)) ?_
        refine AOps.nil ?_
        refine AW.ret ?_
        exact retQ.mk' (.one _) (VLe.of_eq (congrArg (V.int .i64) (by rw [refCheck, if_neg (by simpa using c0), if_neg (by simpa using c1), if_pos (by simpa using c2)]))) (HLe.refl _) ⟨rfl, rfl⟩
      · skip
        refine AW.skip ?_
        refine AW.seq ?_
        refine AW.seq ?_
        refine AW.region ?_
        refine AOps.q rfl rfl rfl (q_fa_i rfl Tryz.underlying29 rfl (by exact Tryz.sizeOf22) (by decide) rfl (rfl : _ = List.drop 0 _)) ?_
        refine AOps.q rfl rfl rfl (q_load_i1 rfl Tryz.isAgg22 rfl rfl) ?_
        refine AOps.q rfl rfl rfl (q_len rfl Tryz.underlying22 rfl) ?_
        refine AOps.q rfl rfl rfl (q_mv rfl (rfl : _ = V.int _ _)) ?_
        refine AOps.nil ?_
        refine AW.block ?_
        refine AW.loop (fun n T hh => ∃ (i : Nat) , i ≤ s.objs.length ∧ n = s.objs.length - i ∧ T = put (put (put (put (T0) 18 (V.int .i64 (i : Nat))) 17 (V.int .i64 s.objs.length)) 16 (eObjs s.objs)) 1 (V.iptr (cState s)) ∧ hh = h ∧ ∀ j, j < i → formedF (s.objs.getD j noObj) = true) (s.objs.length) ?_ ?_
        · skip
          refine Wk.mk (TLe.put (d := 1) (VLe.refl _) (TLe.put (d := 16) (VLe.refl _) (TLe.put (d := 17) (VLe.refl _) (TLe.put (d := 18) (by exact VLe.of_eq (congrArg (V.int .i64) (by first | rfl | omega))) (TLe.zero _))))) (HLe.refl _) ⟨0, Nat.zero_le _, rfl, rfl, rfl, fun j hj => by omega⟩
        · skip
          rintro n T h' ⟨i, hi, rfl, rfl, rfl, hj⟩
          refine AW.seq ?_
          refine AW.region ?_
          refine AOps.q rfl rfl rfl (q_lt rfl rfl rfl) ?_
          refine AOps.nil ?_
          refine AW.seq ?_
          refine AW.cond rfl (fun c3 => ?_) (fun c3 => ?_)
          · have hlt : i < s.objs.length := by have := of_decide_eq_true c3; omega
            refine AW.skip ?_
            refine AW.seq ?_
            refine AW.block ?_
            refine AW.seq ?_
            refine AW.region ?_
            refine AOps.q rfl rfl rfl (q_ia_s rfl Tryz.underlying22 Tryz.sizeOf49 rfl rfl (by omega) (by omega) (cObjs_elem' (by omega) (by omega))) ?_
            refine AOps.q rfl rfl rfl (q_load_iW rfl Tryz.isAgg49 Tryz.sizeOf49 rfl (by rfl)) ?_
            refine AOps.s rfl rfl rfl (a_alloc rfl Tryz.zeroValue49 rfl (fun id4 hid4 => ?_))
            refine AOps.s0 rfl rfl (a_storeWA rfl Tryz.sizeOf49 rfl rfl (rfl : _ = V.agg _) rfl rfl ?_)
            refine AOps.done 4 rfl hid4 ?_
            refine AOps.nil ?_
            refine AW.seq ?_
            refine AW.region ?_
            refine AOps.q rfl rfl rfl (q_load_iW rfl Tryz.isAgg49 Tryz.sizeOf49 rfl (by rfl)) ?_
            refine AOps.q rfl rfl rfl (QOp.call rfl (by exact Tryz.call27) fun h' hl' => by exact refFormed_calls _ h') ?_
            refine AOps.q rfl rfl rfl (q_not rfl rfl) ?_
            refine AOps.nil ?_
            refine AW.cond rfl (fun c4 => ?_) (fun c4 => ?_)
            · skip
              refine AW.seq ?_
              refine AW.region ?_
              refine AOps.q rfl rfl rfl (q_as rfl (rfl : _ = V.int _ _)) ?_
              refine AOps.nil ?_
              refine AW.ret ?_
              exact retQ.mk' (.one _) (VLe.of_eq (congrArg (V.int .i64) (by rw [refCheck, if_neg (by simpa using c0), if_neg (by simpa using c1), if_neg (by simpa using c2), if_pos (List.any_eq_true.2 ⟨_, getD_mem' (z := noObj) hlt, c4⟩)]))) (HLe.refl _) ⟨rfl, rfl⟩
            · skip
              refine AW.skip ?_
              refine AW.region ?_
              refine AOps.q rfl rfl rfl (q_add' rfl rfl rfl (by omega)) ?_
              refine AOps.q rfl rfl rfl (q_mv rfl (rfl : _ = V.int _ _)) ?_
              refine AOps.nil ?_
              refine Wk.mk (TLe.put (d := 1) (VLe.refl _) (TLe.put (d := 16) (VLe.refl _) (TLe.put (d := 17) (VLe.refl _) (TLe.put (d := 18) (by exact VLe.of_eq (congrArg (V.int .i64) (by first | rfl | omega))) (TLe.zero _))))) (HLe.refl _) ⟨_, ?_, i + 1, ?_, rfl, rfl, rfl, all_step (p := fun j => formedF (s.objs.getD j noObj)) hj (by simpa using c4)⟩
              · omega
              · omega
          · obtain rfl : i = s.objs.length := by have := of_decide_eq_false c3; omega
            refine AW.exit ?_
            refine AW.seq ?_
            refine AW.region ?_
            refine AOps.q rfl rfl rfl (q_as rfl (rfl : _ = V.int _ _)) ?_
            refine AOps.nil ?_
            refine AW.ret ?_
            exact retQ.mk' (.one _) (VLe.of_eq (congrArg (V.int .i64) (by rw [refCheck, if_neg (by simpa using c0), if_neg (by simpa using c1), if_neg (by simpa using c2), if_neg (by rw [Bool.not_eq_true, List.any_eq_false]; intro o ho; have := List.all_eq_true.1 (objs_all.2 hj) o ho; simpa using this)]))) (HLe.refl _) ⟨rfl, rfl⟩

end Go.Proofs.YtnbmcbkokaoapaaGreatDoor
