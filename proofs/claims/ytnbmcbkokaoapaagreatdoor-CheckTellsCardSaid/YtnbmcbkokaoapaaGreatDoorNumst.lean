/- Walks: two states, side by side. -/
import Derived.Test.YtnbmcbkokaoapaaGreatDoorRefchk
namespace Go.Proofs.YtnbmcbkokaoapaaGreatDoor
open Go Go.AV
set_option maxRecDepth 100000
set_option maxHeartbeats 1000000
def objN (o : Obj) : List Int := [o 0, o 1, o 2, o 3, o 4, o 5, o 6, o 7, o 8, o 9, o 10, o 11, o 12, o 13, o 14, o 15, o 16, o 17]
def plN (s : St) : List Int := [s.pl 0 0, s.pl 0 1, s.pl 0 2, s.pl 0 3, s.pl 0 4, s.pl 0 5, s.pl 0 6, s.pl 0 7, s.pl 0 8, s.pl 1 0, s.pl 1 1, s.pl 1 2, s.pl 1 3, s.pl 1 4, s.pl 1 5, s.pl 1 6, s.pl 1 7, s.pl 1 8]
def gameN (s : St) : List Int := [s.game 0, s.game 1, s.game 2, s.game 3, s.game 4, s.game 5, s.game 6]
/-- The same states. -/
def statesF (a b : St) : Bool := (decide (a.objs.length = b.objs.length) && decide (plN a = plN b) && decide (gameN a = gameN b)) && (List.range a.objs.length).all (fun i => decide (objN (a.objs.getD i noObj) = objN (b.objs.getD i noObj))) && (List.range 11).all (fun z => intsF (a.lists z) (b.lists z))
theorem statesF_refl (a : St) : statesF a a = true := by
  simp [statesF, intsF]
theorem sf_head {a b : St} (h : (bif (bif (a.objs.length : Int) != b.objs.length then true else !(decide (plN a = plN b))) then true else !(decide (gameN a = gameN b))) = true) : statesF a b = false := by
  cases h0 : decide (a.objs.length = b.objs.length)
  · simp [statesF, h0]
  · have e : ((a.objs.length : Int) != b.objs.length) = false := by simp at h0 ⊢; omega
    rw [e] at h
    cases h1 : decide (plN a = plN b)
    · simp [statesF, h1]
    · rw [h1] at h
      have h2 : decide (gameN a = gameN b) = false := by simpa using h
      simp [statesF, h2]
theorem sf_body {a b : St} (h : (bif (bif (a.objs.length : Int) != b.objs.length then true else !(decide (plN a = plN b))) then true else !(decide (gameN a = gameN b))) = false) : (decide (a.objs.length = b.objs.length) && decide (plN a = plN b) && decide (gameN a = gameN b)) = true := by
  cases h0 : decide (a.objs.length = b.objs.length)
  · have e : ((a.objs.length : Int) != b.objs.length) = true := by simp at h0 ⊢; omega
    rw [e] at h; cases h
  · have e : ((a.objs.length : Int) != b.objs.length) = false := by simp at h0 ⊢; omega
    rw [e] at h
    cases h1 : decide (plN a = plN b)
    · rw [h1] at h; cases h
    · rw [h1] at h
      simpa using h
theorem sf_obj {a b : St} {i : Nat} (hi : i < a.objs.length) (h : decide (objN (a.objs.getD i noObj) = objN (b.objs.getD i noObj)) = false) : statesF a b = false := by
  have : (List.range a.objs.length).all (fun i => decide (objN (a.objs.getD i noObj) = objN (b.objs.getD i noObj))) = false := all_bad hi h
  simp only [statesF, this, Bool.and_false, Bool.false_and]
theorem sf_list {a b : St} {z : Nat} (hz : z < 11) (h : intsF (a.lists z) (b.lists z) = false) : statesF a b = false := by
  have : (List.range 11).all (fun z => intsF (a.lists z) (b.lists z)) = false := all_bad hz h
  simp only [statesF, this, Bool.and_false]

theorem states_calls (a b : St) (hl : ∀ z, (a.lists z).length ≤ 1000000) (hb : a.objs.length ≤ 1000000) (h : Hp) : ACalls Tryz.prog G 14 [eState a, eState b] h fun r h' => r = .bool (statesF a b) ∧ h' = h := by
  refine ACalls.enter Tryz.func14 rfl Tryz.ntmps14 Tryz.results14 rfl ?_
  refine AW.seq ?_
  refine AW.region ?_
  refine AOps.q rfl rfl rfl (q_boxa rfl (rfl : _ = V.agg _)) ?_
  refine AOps.q rfl rfl rfl (q_boxa rfl (rfl : _ = V.agg _)) ?_
  refine AOps.q rfl rfl rfl (q_as rfl (rfl : _ = V.bool _)) ?_
  refine AOps.nil ?_
  refine AW.seq ?_
  refine AW.seq ?_
  refine AW.region ?_
  refine AOps.q rfl rfl rfl (q_fa_i rfl Tryz.underlying29 rfl (by exact Tryz.sizeOf22) (by decide) rfl (rfl : _ = List.drop 0 _)) ?_
  refine AOps.q rfl rfl rfl (q_load_i1 rfl Tryz.isAgg22 rfl rfl) ?_
  refine AOps.q rfl rfl rfl (q_len rfl Tryz.underlying22 rfl) ?_
  refine AOps.q rfl rfl rfl (q_fa_i rfl Tryz.underlying29 rfl (by exact Tryz.sizeOf22) (by decide) rfl (rfl : _ = List.drop 0 _)) ?_
  refine AOps.q rfl rfl rfl (q_load_i1 rfl Tryz.isAgg22 rfl rfl) ?_
  refine AOps.q rfl rfl rfl (q_len rfl Tryz.underlying22 rfl) ?_
  refine AOps.q rfl rfl rfl (q_ne rfl rfl rfl) ?_
  refine AOps.q rfl rfl rfl (q_mv rfl (rfl : _ = V.bool _)) ?_
  refine AOps.g (wanted_f rfl rfl) rfl rfl (fun hc => TLe.refl _) (fun hc => q_fa_i rfl Tryz.underlying29 rfl (by exact Tryz.sizeOf26) (by decide) rfl (rfl : _ = List.drop 12 _)) ?_
  refine AOps.g (wanted_f rfl rfl) rfl rfl (fun hc => TLe.put (d := 15) (VLe.opt hc) (TLe.refl _)) (fun hc => q_load_iN rfl Tryz.isAgg26 Tryz.sizeOf26 rfl (by rfl) rfl) ?_
  refine AOps.g (wanted_f rfl rfl) rfl rfl (fun hc => TLe.refl _) (fun hc => q_fa_i rfl Tryz.underlying29 rfl (by exact Tryz.sizeOf26) (by decide) rfl (rfl : _ = List.drop 12 _)) ?_
  refine AOps.g (wanted_f rfl rfl) rfl rfl (fun hc => TLe.put (d := 17) (VLe.opt hc) (TLe.refl _)) (fun hc => q_load_iN rfl Tryz.isAgg26 Tryz.sizeOf26 rfl (by rfl) rfl) ?_
  refine AOps.g (wanted_f rfl rfl) rfl rfl (fun hc => TLe.put (d := 18) (VLe.opt hc) (TLe.put (d := 16) (VLe.opt hc) (TLe.refl _))) (fun hc => q_neI (EqI.array (EqI.array (EqI.int Tryz.isAgg3 Tryz.underlying3) Tryz.isAgg25 Tryz.underlying25 Tryz.sizeOf3 Tryz.sizeOf25 rfl) Tryz.isAgg26 Tryz.underlying26 Tryz.sizeOf25 Tryz.sizeOf26 rfl) Tryz.isAgg26 Tryz.sizeOf26 (by kernel_rfl) rfl (a := plN a) (b := plN b) rfl rfl rfl rfl) ?_
  refine AOps.q rfl rfl rfl (q_pickg rfl rfl (fun hp => by exact VLe.refl _) (fun hp => by first | exact VLe.opt hp | exact VLe.opt (by rw [hp]; rfl) | exact VLe.opt (by simp_all))) ?_
  refine AOps.q rfl rfl rfl (q_mv rfl (rfl : _ = V.bool _)) ?_
  refine AOps.g (wanted_f rfl rfl) rfl rfl (fun hc => TLe.refl _) (fun hc => q_fa_i rfl Tryz.underlying29 rfl (by exact Tryz.sizeOf27) (by decide) rfl (rfl : _ = List.drop 30 _)) ?_
  refine AOps.g (wanted_f rfl rfl) rfl rfl (fun hc => TLe.put (d := 22) (VLe.opt hc) (TLe.refl _)) (fun hc => q_load_iN rfl Tryz.isAgg27 Tryz.sizeOf27 rfl (by rfl) rfl) ?_
  refine AOps.g (wanted_f rfl rfl) rfl rfl (fun hc => TLe.refl _) (fun hc => q_fa_i rfl Tryz.underlying29 rfl (by exact Tryz.sizeOf27) (by decide) rfl (rfl : _ = List.drop 30 _)) ?_
  refine AOps.g (wanted_f rfl rfl) rfl rfl (fun hc => TLe.put (d := 24) (VLe.opt hc) (TLe.refl _)) (fun hc => q_load_iN rfl Tryz.isAgg27 Tryz.sizeOf27 rfl (by rfl) rfl) ?_
  refine AOps.g (wanted_f rfl rfl) rfl rfl (fun hc => TLe.put (d := 25) (VLe.opt hc) (TLe.put (d := 23) (VLe.opt hc) (TLe.refl _))) (fun hc => q_neI (EqI.array (EqI.int Tryz.isAgg3 Tryz.underlying3) Tryz.isAgg27 Tryz.underlying27 Tryz.sizeOf3 Tryz.sizeOf27 rfl) Tryz.isAgg27 Tryz.sizeOf27 (by kernel_rfl) rfl (a := gameN a) (b := gameN b) rfl rfl rfl rfl) ?_
  refine AOps.q rfl rfl rfl (q_pickg rfl rfl (fun hp => by exact VLe.refl _) (fun hp => by first | exact VLe.opt hp | exact VLe.opt (by rw [hp]; rfl) | exact VLe.opt (by simp_all))) ?_
  refine AOps.nil ?_
  refine AW.cond rfl (fun c0 => ?_) (fun c0 => ?_)
  · skip
    refine AW.seq ?_
    refine AW.region ?_
    refine AOps.q rfl rfl rfl (q_as rfl (rfl : _ = V.bool _)) ?_
    refine AOps.nil ?_
    refine AW.ret ?_
    exact retQ.mk' (.one _) (VLe.of_eq (congrArg V.bool (by rw [sf_head c0]))) (HLe.refl _) ⟨rfl, rfl⟩
  · have hlen : a.objs.length = b.objs.length := by have := sf_body c0; simp only [Bool.and_eq_true, decide_eq_true_eq] at this; exact this.1.1
    refine AW.skip ?_
    refine AW.seq ?_
    refine AW.seq ?_
    refine AW.region ?_
    refine AOps.q rfl rfl rfl (q_fa_i rfl Tryz.underlying29 rfl (by exact Tryz.sizeOf22) (by decide) rfl (rfl : _ = List.drop 0 _)) ?_
    refine AOps.q rfl rfl rfl (q_load_i1 rfl Tryz.isAgg22 rfl rfl) ?_
    refine AOps.q rfl rfl rfl (q_len rfl Tryz.underlying22 rfl) ?_
    refine AOps.q rfl rfl rfl (q_mv rfl (rfl : _ = V.int _ _)) ?_
    refine AOps.nil ?_
    refine AW.block ?_
    refine AW.loop (fun n T hh => ∃ (i : Nat) , i ≤ a.objs.length ∧ n = a.objs.length - i ∧ T = put (put (put (put (T0) 31 (V.int .i64 (i : Nat))) 30 (V.int .i64 a.objs.length)) 3 (V.iptr (cState b))) 2 (V.iptr (cState a)) ∧ hh = h ∧ ∀ j, j < i → decide (objN (a.objs.getD j noObj) = objN (b.objs.getD j noObj)) = true) (a.objs.length) ?_ ?_
    · skip
      refine Wk.mk (TLe.put (d := 2) (VLe.refl _) (TLe.put (d := 3) (VLe.refl _) (TLe.put (d := 30) (VLe.refl _) (TLe.put (d := 31) (by exact VLe.of_eq (congrArg (V.int .i64) (by first | rfl | omega))) (TLe.zero _))))) (HLe.refl _) ⟨0, Nat.zero_le _, rfl, rfl, rfl, fun j hj => by omega⟩
    · skip
      rintro n T h' ⟨i, hi, rfl, rfl, rfl, hj⟩
      refine AW.seq ?_
      refine AW.region ?_
      refine AOps.q rfl rfl rfl (q_lt rfl rfl rfl) ?_
      refine AOps.nil ?_
      refine AW.seq ?_
      refine AW.cond rfl (fun c1 => ?_) (fun c1 => ?_)
      · have hlt : i < a.objs.length := by have := of_decide_eq_true c1; omega
        refine AW.skip ?_
        refine AW.seq ?_
        refine AW.block ?_
        refine AW.seq ?_
        refine AW.region ?_
        refine AOps.q rfl rfl rfl (q_mv rfl (rfl : _ = V.int _ _)) ?_
        refine AOps.q rfl rfl rfl (q_as rfl (rfl : _ = V.int _ _)) ?_
        refine AOps.nil ?_
        refine AW.seq ?_
        refine AW.draw [] [] [(0, true), (1, true), (2, true), (3, true), (4, true), (5, true), (6, true), (7, true), (8, true), (9, true), (10, true)] mixed (by kernel_rfl) rfl (by kernel_rfl) ?_
        refine AOrd.q rfl rfl rfl rfl (q_fa_i rfl Tryz.underlying29 rfl (by exact Tryz.sizeOf22) (by decide) rfl (rfl : _ = List.drop 0 _)) ?_
        refine AOrd.q rfl rfl rfl rfl (q_load_i1 rfl Tryz.isAgg22 rfl rfl) ?_
        refine AOrd.q rfl rfl rfl rfl (q_mv rfl (rfl : _ = V.int _ _)) ?_
        refine AOrd.q rfl rfl rfl rfl (q_ia_s rfl Tryz.underlying22 Tryz.sizeOf49 rfl rfl (by omega) (by omega) (cObjs_elem' (l := a.objs) (by omega) (by omega))) ?_
        refine AOrd.q rfl rfl rfl rfl (q_load_iW rfl Tryz.isAgg49 Tryz.sizeOf49 rfl (by rfl)) ?_
        refine AOrd.q rfl rfl rfl rfl (q_fa_i rfl Tryz.underlying29 rfl (by exact Tryz.sizeOf22) (by decide) rfl (rfl : _ = List.drop 0 _)) ?_
        refine AOrd.q rfl rfl rfl rfl (q_load_i1 rfl Tryz.isAgg22 rfl rfl) ?_
        refine AOrd.q rfl rfl rfl rfl (q_mv rfl (rfl : _ = V.int _ _)) ?_
        refine AOrd.q rfl rfl rfl rfl (q_ia_s rfl Tryz.underlying22 Tryz.sizeOf49 rfl rfl (by omega) (by omega) (cObjs_elem' (l := b.objs) (by omega) (by omega))) ?_
        refine AOrd.q rfl rfl rfl rfl (q_load_iW rfl Tryz.isAgg49 Tryz.sizeOf49 rfl (by rfl)) ?_
        refine AOrd.q rfl rfl rfl rfl (q_neI (EqI.array (EqI.int Tryz.isAgg3 Tryz.underlying3) Tryz.isAgg49 Tryz.underlying49 Tryz.sizeOf3 Tryz.sizeOf49 rfl) Tryz.isAgg49 Tryz.sizeOf49 (by kernel_rfl) rfl (a := objN (a.objs.getD i noObj)) (b := objN (b.objs.getD i noObj)) rfl rfl rfl rfl) ?_
        refine AOrd.nil ?_
        refine AW.cond rfl (fun c2 => ?_) (fun c2 => ?_)
        · skip
          refine AW.seq ?_
          refine AW.region ?_
          refine AOps.q rfl rfl rfl (q_as rfl (rfl : _ = V.bool _)) ?_
          refine AOps.nil ?_
          refine AW.ret ?_
          exact retQ.mk' (.one _) (VLe.of_eq (congrArg V.bool (by rw [sf_obj hlt (by simpa using c2)]))) (HLe.refl _) ⟨rfl, rfl⟩
        · skip
          refine AW.skip ?_
          refine AW.region ?_
          refine AOps.q rfl rfl rfl (q_add' rfl rfl rfl (by omega)) ?_
          refine AOps.q rfl rfl rfl (q_mv rfl (rfl : _ = V.int _ _)) ?_
          refine AOps.nil ?_
          refine Wk.mk (TLe.put (d := 2) (VLe.refl _) (TLe.put (d := 3) (VLe.refl _) (TLe.put (d := 30) (VLe.refl _) (TLe.put (d := 31) (by exact VLe.of_eq (congrArg (V.int .i64) (by first | rfl | omega))) (TLe.zero _))))) (HLe.refl _) ⟨_, ?_, i + 1, ?_, rfl, rfl, rfl, all_step (p := fun j => decide (objN (a.objs.getD j noObj) = objN (b.objs.getD j noObj))) hj (by simpa using c2)⟩
          · omega
          · omega
      · obtain rfl : i = a.objs.length := by have := of_decide_eq_false c1; omega
        refine AW.exit ?_
        refine AW.seq ?_
        refine AW.seq ?_
        refine AW.region ?_
        refine AOps.q rfl rfl rfl (q_mv rfl (rfl : _ = V.int _ _)) ?_
        refine AOps.nil ?_
        refine AW.block ?_
        refine AW.loop (fun n T hh => ∃ (z : Nat) , z ≤ 11 ∧ n = 11 - z ∧ T = put (put (put (T0) 46 (V.int .i64 (z : Nat))) 3 (V.iptr (cState b))) 2 (V.iptr (cState a)) ∧ hh = h' ∧ ∀ j, j < z → intsF (a.lists j) (b.lists j) = true) (11) ?_ ?_
        · skip
          refine Wk.mk (TLe.put (d := 2) (VLe.refl _) (TLe.put (d := 3) (VLe.refl _) (TLe.put (d := 46) (by exact VLe.of_eq (congrArg (V.int .i64) (by first | rfl | omega))) (TLe.zero _)))) (HLe.refl _) ⟨0, Nat.zero_le _, rfl, rfl, rfl, fun j hj => by omega⟩
        · skip
          rintro n T h' ⟨z, hz, rfl, rfl, rfl, hz2⟩
          refine AW.seq ?_
          refine AW.region ?_
          refine AOps.q rfl rfl rfl (q_lt rfl rfl rfl) ?_
          refine AOps.nil ?_
          refine AW.seq ?_
          refine AW.cond rfl (fun c3 => ?_) (fun c3 => ?_)
          · have hltz : z < 11 := by have := of_decide_eq_true c3; omega
            refine AW.skip ?_
            refine AW.seq ?_
            refine AW.block ?_
            refine AW.seq ?_
            refine AW.region ?_
            refine AOps.q rfl rfl rfl (q_mv rfl (rfl : _ = V.int _ _)) ?_
            refine AOps.q rfl rfl rfl (q_as rfl (rfl : _ = V.int _ _)) ?_
            refine AOps.nil ?_
            refine AW.seq ?_
            refine AW.draw [] [] [(0, true), (1, true), (2, true), (3, true), (4, true), (5, true), (6, true), (7, true), (8, true), (9, true)] mixed (by kernel_rfl) rfl (by kernel_rfl) ?_
            refine AOrd.q rfl rfl rfl rfl (q_mv rfl (rfl : _ = V.int _ _)) ?_
            refine AOrd.q rfl rfl rfl rfl (q_fa_i rfl Tryz.underlying29 rfl (by exact Tryz.sizeOf24) (by decide) rfl (rfl : _ = List.drop 1 _)) ?_
            refine AOrd.q rfl rfl rfl rfl (q_ia_ai rfl Tryz.underlying24 Tryz.sizeOf23 rfl rfl (by omega) (by omega) rfl) ?_
            refine AOrd.q rfl rfl rfl rfl (q_load_i1 rfl Tryz.isAgg23 rfl (lists_at hltz)) ?_
            refine AOrd.q rfl rfl rfl rfl (q_mv rfl (rfl : _ = V.int _ _)) ?_
            refine AOrd.q rfl rfl rfl rfl (q_fa_i rfl Tryz.underlying29 rfl (by exact Tryz.sizeOf24) (by decide) rfl (rfl : _ = List.drop 1 _)) ?_
            refine AOrd.q rfl rfl rfl rfl (q_ia_ai rfl Tryz.underlying24 Tryz.sizeOf23 rfl rfl (by omega) (by omega) rfl) ?_
            refine AOrd.q rfl rfl rfl rfl (q_load_i1 rfl Tryz.isAgg23 rfl (lists_at hltz)) ?_
            refine AOrd.q rfl rfl rfl rfl (QOp.call rfl (by exact Tryz.call19) fun h' hl' => by exact ints_calls _ _ (hl z) h') ?_
            refine AOrd.q rfl rfl rfl rfl (q_not rfl rfl) ?_
            refine AOrd.nil ?_
            refine AW.cond rfl (fun c4 => ?_) (fun c4 => ?_)
            · skip
              refine AW.seq ?_
              refine AW.region ?_
              refine AOps.q rfl rfl rfl (q_as rfl (rfl : _ = V.bool _)) ?_
              refine AOps.nil ?_
              refine AW.ret ?_
              exact retQ.mk' (.one _) (VLe.of_eq (congrArg V.bool (by rw [sf_list hltz (by simpa using c4)]))) (HLe.refl _) ⟨rfl, rfl⟩
            · skip
              refine AW.skip ?_
              refine AW.region ?_
              refine AOps.q rfl rfl rfl (q_add' rfl rfl rfl (by omega)) ?_
              refine AOps.q rfl rfl rfl (q_mv rfl (rfl : _ = V.int _ _)) ?_
              refine AOps.nil ?_
              refine Wk.mk (TLe.put (d := 2) (VLe.refl _) (TLe.put (d := 3) (VLe.refl _) (TLe.put (d := 46) (by exact VLe.of_eq (congrArg (V.int .i64) (by first | rfl | omega))) (TLe.zero _)))) (HLe.refl _) ⟨_, ?_, z + 1, ?_, rfl, rfl, rfl, all_step (p := fun j => intsF (a.lists j) (b.lists j)) hz2 (by simpa using c4)⟩
              · omega
              · omega
          · obtain rfl : z = 11 := by have := of_decide_eq_false c3; omega
            refine AW.exit ?_
            refine AW.seq ?_
            refine AW.region ?_
            refine AOps.q rfl rfl rfl (q_as rfl (rfl : _ = V.bool _)) ?_
            refine AOps.nil ?_
            refine AW.ret ?_
            exact retQ.mk' (.one _) (VLe.of_eq (congrArg V.bool (by rw [statesF, sf_body c0, all_up.2 hj, all_up.2 hz2]; rfl))) (HLe.refl _) ⟨rfl, rfl⟩

end Go.Proofs.YtnbmcbkokaoapaaGreatDoor
