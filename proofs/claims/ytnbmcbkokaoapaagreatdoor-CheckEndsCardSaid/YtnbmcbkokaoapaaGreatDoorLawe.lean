/- Walks: rounds with enough fuel. -/
import Derived.Test.YtnbmcbkokaoapaaGreatDoorLawa
namespace Go.Proofs.YtnbmcbkokaoapaaGreatDoor
open Go Go.AV
set_option maxRecDepth 100000
set_option maxHeartbeats 1000000
/-- What holds of rounds with enough fuel. -/
structure Ends (s : St) (m : Em) (n : Int) : Prop where
  err : m.err = 0
  few : n ≤ (s.objs.length : Int) + 1
  quiet : quietF m.now = true
  right : checkF m.now = 0
  len : m.now.objs.length = s.objs.length
  over : s.game 6 ≠ 0 → n = 0 ∧ m.now = s
  goes : s.game 6 = 0 → m.now.game 6 = resultF s ∧ m.now.pl = s.pl ∧ (resultF s = 0 ∨ n = 1 ∧ m.now.lists 8 = s.lists 8)
theorem ends_a {s : St} {m : Em} {n : Int} (h : Ends s m n) (hst : m.state = m.now) : (bif (bif (bif m.err != 0 then true else decide (runN m n > (s.objs.length : Int) + 1)) then true else !settledF m.state) then true else (m.state.objs.length : Int) != s.objs.length) = false := by
  rw [hst, settledF, h.quiet, h.right, h.err, runN, if_pos h.err, h.len]
  have := h.few
  simp; omega
theorem ends_b {s : St} {m : Em} {n : Int} (h : Ends s m n) (hst : m.state = m.now) (h6 : s.game 6 ≠ 0) : (bif (runN m n == 0) then statesF s m.state else false) = true := by
  obtain ⟨a, b⟩ := h.over h6
  rw [hst, b, statesF_refl, runN, if_pos h.err, a]; rfl
theorem ends_c {s : St} {m : Em} {n : Int} (h : Ends s m n) (hst : m.state = m.now) (h6 : s.game 6 = 0) :
    (bif (bif (m.state.game 6 == resultF s) then decide (plN m.state = plN s) else false) then (bif (resultF s == 0) then true else (bif (runN m n == 1) then intsF (m.state.lists 8) (s.lists 8) else false)) else false) = true := by
  obtain ⟨a, b, c⟩ := h.goes h6
  rw [hst, a, runN, if_pos h.err]
  have e : plN m.now = plN s := by simp only [plN, b]
  rw [e]
  rcases c with c | ⟨c, d⟩
  · simp [c]
  · rw [c, d]; simp [intsF]

theorem checkEnds_calls (s : St) (hf : Few s) (H : longF s 40 = false → refCheck s = 0 → ∀ m n, Runs ((s.objs.length : Int) + 1) (newF s []) 0 m n → Ends s m n) (h : Hp) : ACalls Tryz.prog G 5 [eState s] h fun r h' => r = .bool true ∧ h' = h := by
  refine ACalls.enter Tryz.func5 rfl Tryz.ntmps5 Tryz.results5 rfl ?_
  refine AW.seq ?_
  refine AW.region ?_
  refine AOps.q rfl rfl rfl (q_boxa rfl (rfl : _ = V.agg _)) ?_
  refine AOps.q rfl rfl rfl (q_as rfl (rfl : _ = V.bool _)) ?_
  refine AOps.nil ?_
  refine AW.seq ?_
  refine AW.seq ?_
  refine AW.region ?_
  refine AOps.q rfl rfl rfl (QOp.call rfl (by exact Tryz.call7) fun h' hl' => by exact alive_calls h') ?_
  refine AOps.q rfl rfl rfl (q_not rfl rfl) ?_
  refine AOps.nil ?_
  refine AW.cond rfl (fun c0 => ?_) (fun c0 => ?_)
  · cases c0
  · skip
    refine AW.skip ?_
    refine AW.seq ?_
    refine AW.seq ?_
    refine AW.region ?_
    refine AOps.q rfl rfl rfl (q_load_iW rfl Tryz.isAgg29 Tryz.sizeOf29 rfl (by rfl)) ?_
    refine AOps.q rfl rfl rfl (QOp.call rfl (by exact Tryz.call8) fun h' hl' => by exact long_calls s 40 (by decide) h') ?_
    refine AOps.q rfl rfl rfl (q_mv rfl (rfl : _ = V.bool _)) ?_
    refine AOps.g (wanted_f rfl rfl) rfl rfl (fun hc => TLe.refl _) (fun hc => q_load_iW rfl Tryz.isAgg29 Tryz.sizeOf29 rfl (by rfl)) ?_
    refine AOps.g (wanted_f rfl rfl) rfl rfl (fun hc => TLe.put (d := 14) (VLe.opt hc) (TLe.refl _)) (fun hc => QOp.call rfl (by exact Tryz.call9) fun h' hl' => by exact refCheck_calls s (long_hb hf (by simpa using hc)).1 (long_hb hf (by simpa using hc)).2 h') ?_
    refine AOps.g (wanted_f rfl rfl) rfl rfl (fun hc => TLe.put (d := 15) (VLe.opt hc) (TLe.refl _)) (fun hc => q_ne rfl rfl rfl) ?_
    refine AOps.q rfl rfl rfl (q_pickg rfl rfl (fun hp => by exact VLe.refl _) (fun hp => by first | exact VLe.opt hp | exact VLe.opt (by rw [hp]; rfl) | exact VLe.opt (by simp_all))) ?_
    refine AOps.nil ?_
    refine AW.cond rfl (fun c1 => ?_) (fun c1 => ?_)
    · skip
      refine AW.seq ?_
      refine AW.region ?_
      refine AOps.q rfl rfl rfl (q_as rfl (rfl : _ = V.bool _)) ?_
      refine AOps.nil ?_
      refine AW.ret ?_
      exact retQ.mk' (.one _) (VLe.refl _) (HLe.refl _) ⟨rfl, rfl⟩
    · obtain ⟨hlo, hrc⟩ := ref_no c1
      refine AW.skip ?_
      refine AW.seq ?_
      refine AW.region ?_
      refine AOps.q rfl rfl rfl (q_load_iW rfl Tryz.isAgg29 Tryz.sizeOf29 rfl (by rfl)) ?_
      refine AOps.s rfl rfl rfl ((AStep.call rfl (by exact Tryz.call10) (new_nil s (long_hb hf hlo).1 (long_hb hf hlo).2 _)).mono ?_)
      rintro x3 h3 ⟨id, rfl, he⟩
      refine AOps.q rfl rfl rfl (q_as rfl (rfl : _ = V.ptr _ _)) ?_
      refine AOps.nil ?_
      refine AW.seq ?_
      refine AW.region ?_
      refine AOps.q rfl rfl rfl (q_mv rfl (rfl : _ = V.ptr _ _)) ?_
      refine AOps.q rfl rfl rfl (q_load_iW rfl Tryz.isAgg29 Tryz.sizeOf29 rfl (by rfl)) ?_
      refine AOps.q rfl rfl rfl (QOp.call rfl (by exact Tryz.call21) fun h' hl' => by exact fuel_calls s (long_hb hf hlo).1 h') ?_
      refine AOps.s rfl rfl rfl ((AStep.call rfl (by exact Tryz.call11) (run_calls _ he (new_p hf))).mono ?_)
      rintro x4 h4 ⟨m2, n2, hr, hP2, rfl, he2⟩
      obtain ⟨ve, vp, hbx⟩ := EmI.box he2
      have hE := H hlo hrc m2 n2 hr
      have hst : m2.state = m2.now := by unfold Em.state; rw [if_pos hE.err]
      refine AOps.q rfl rfl rfl (q_as rfl (rfl : _ = V.int _ _)) ?_
      refine AOps.nil ?_
      refine AW.seq ?_
      refine AW.region ?_
      refine AOps.q rfl rfl rfl (q_mv rfl (rfl : _ = V.ptr _ _)) ?_
      refine AOps.q rfl rfl rfl (QOp.call rfl (by exact Tryz.call12) fun h' hl' => by exact state_calls (hl'.box _ _ hbx) hP2.inv.st) ?_
      refine AOps.s rfl rfl rfl (a_alloc rfl Tryz.zeroValue29 rfl (fun id5 hid5 => ?_))
      refine AOps.s0 rfl rfl (a_storeWA rfl Tryz.sizeOf29 rfl rfl (rfl : _ = V.agg _) rfl rfl ?_)
      refine AOps.done 5 rfl hid5 ?_
      refine AOps.nil ?_
      refine AW.seq ?_
      refine AW.seq ?_
      refine AW.region ?_
      refine AOps.q rfl rfl rfl (q_mv rfl (rfl : _ = V.ptr _ _)) ?_
      refine AOps.q rfl rfl rfl (QOp.call rfl (by exact Tryz.call13) fun h' hl' => by exact err_calls (hl'.box _ _ hbx)) ?_
      refine AOps.q rfl rfl rfl (q_neerr Tryz.underlying38 rfl rfl) ?_
      refine AOps.q rfl rfl rfl (q_mv rfl (rfl : _ = V.bool _)) ?_
      refine AOps.g (wanted_f rfl rfl) rfl rfl (fun hc => TLe.refl _) (fun hc => q_mv rfl (rfl : _ = V.int _ _)) ?_
      refine AOps.g (wanted_f rfl rfl) rfl rfl (fun hc => TLe.refl _) (fun hc => q_load_iW rfl Tryz.isAgg29 Tryz.sizeOf29 rfl (by rfl)) ?_
      refine AOps.g (wanted_f rfl rfl) rfl rfl (fun hc => TLe.put (d := 31) (VLe.opt hc) (TLe.refl _)) (fun hc => QOp.call rfl (by exact Tryz.call21) fun h' hl' => by exact fuel_calls s (long_hb hf hlo).1 h') ?_
      refine AOps.g (wanted_f rfl rfl) rfl rfl (fun hc => TLe.put (d := 32) (VLe.opt hc) (TLe.put (d := 30) (VLe.opt hc) (TLe.refl _))) (fun hc => q_gt rfl rfl rfl) ?_
      refine AOps.q rfl rfl rfl (q_pickg rfl rfl (fun hp => by exact VLe.refl _) (fun hp => by first | exact VLe.opt hp | exact VLe.opt (by rw [hp]; rfl) | exact VLe.opt (by simp_all))) ?_
      refine AOps.q rfl rfl rfl (q_mv rfl (rfl : _ = V.bool _)) ?_
      refine AOps.g (wanted_f rfl rfl) rfl rfl (fun hc => TLe.refl _) (fun hc => q_load_iW rfl Tryz.isAgg29 Tryz.sizeOf29 rfl (by rfl)) ?_
      refine AOps.g (wanted_f rfl rfl) rfl rfl (fun hc => TLe.put (d := 36) (VLe.opt hc) (TLe.refl _)) (fun hc => QOp.call rfl (by exact Tryz.call15) fun h' hl' => by exact settled_calls _ hP2.inv.st2.1 hP2.inv.st2.2 h') ?_
      refine AOps.g (wanted_f rfl rfl) rfl rfl (fun hc => TLe.put (d := 37) (VLe.opt hc) (TLe.refl _)) (fun hc => q_not rfl rfl) ?_
      refine AOps.q rfl rfl rfl (q_pickg rfl rfl (fun hp => by exact VLe.refl _) (fun hp => by first | exact VLe.opt hp | exact VLe.opt (by rw [hp]; rfl) | exact VLe.opt (by simp_all))) ?_
      refine AOps.q rfl rfl rfl (q_mv rfl (rfl : _ = V.bool _)) ?_
      refine AOps.g (wanted_f rfl rfl) rfl rfl (fun hc => TLe.refl _) (fun hc => q_fa_i rfl Tryz.underlying29 rfl (by exact Tryz.sizeOf22) (by decide) rfl (rfl : _ = List.drop 0 _)) ?_
      refine AOps.g (wanted_f rfl rfl) rfl rfl (fun hc => TLe.put (d := 41) (VLe.opt hc) (TLe.refl _)) (fun hc => q_load_i1 rfl Tryz.isAgg22 rfl rfl) ?_
      refine AOps.g (wanted_f rfl rfl) rfl rfl (fun hc => TLe.put (d := 42) (VLe.opt hc) (TLe.refl _)) (fun hc => q_len rfl Tryz.underlying22 rfl) ?_
      refine AOps.g (wanted_f rfl rfl) rfl rfl (fun hc => TLe.refl _) (fun hc => q_fa_i rfl Tryz.underlying29 rfl (by exact Tryz.sizeOf22) (by decide) rfl (rfl : _ = List.drop 0 _)) ?_
      refine AOps.g (wanted_f rfl rfl) rfl rfl (fun hc => TLe.put (d := 44) (VLe.opt hc) (TLe.refl _)) (fun hc => q_load_i1 rfl Tryz.isAgg22 rfl rfl) ?_
      refine AOps.g (wanted_f rfl rfl) rfl rfl (fun hc => TLe.put (d := 45) (VLe.opt hc) (TLe.refl _)) (fun hc => q_len rfl Tryz.underlying22 rfl) ?_
      refine AOps.g (wanted_f rfl rfl) rfl rfl (fun hc => TLe.put (d := 46) (VLe.opt hc) (TLe.put (d := 43) (VLe.opt hc) (TLe.refl _))) (fun hc => q_ne rfl rfl rfl) ?_
      refine AOps.q rfl rfl rfl (q_pickg rfl rfl (fun hp => by exact VLe.refl _) (fun hp => by first | exact VLe.opt hp | exact VLe.opt (by rw [hp]; rfl) | exact VLe.opt (by simp_all))) ?_
      refine AOps.nil ?_
      refine AW.cond rfl (fun c2 => ?_) (fun c2 => ?_)
      · exact absurd c2 (by rw [ends_a hE hst]; decide)
      · skip
        refine AW.skip ?_
        refine AW.seq ?_
        refine AW.draw [] [] [(0, true), (1, true), (2, true), (3, true), (4, true), (5, true)] mixed (by kernel_rfl) rfl (by kernel_rfl) ?_
        refine AOrd.q rfl rfl rfl rfl (q_load_iW rfl Tryz.isAgg29 Tryz.sizeOf29 rfl (by rfl)) ?_
        refine AOrd.q rfl rfl rfl rfl (QOp.call rfl (by exact Tryz.call18) fun h' hl' => by exact lost_calls _ _ h') ?_
        refine AOrd.q rfl rfl rfl rfl (q_load_iW rfl Tryz.isAgg29 Tryz.sizeOf29 rfl (by rfl)) ?_
        refine AOrd.q rfl rfl rfl rfl (QOp.call rfl (by exact Tryz.call18) fun h' hl' => by exact lost_calls _ _ h') ?_
        refine AOrd.q rfl rfl rfl rfl (q_as rfl (rfl : _ = V.bool _)) ?_
        refine AOrd.q rfl rfl rfl rfl (q_as rfl (rfl : _ = V.bool _)) ?_
        refine AOrd.nil ?_
        refine AW.seq ?_
        refine AW.region ?_
        refine AOps.q rfl rfl rfl (q_as rfl (rfl : _ = V.int _ _)) ?_
        refine AOps.nil ?_
        refine AW.cut (fun T h1 => T = put (put (put (put (put (put (T0) 1 (V.iptr (cState s))) 4 (V.int .i64 (runN m2 n2))) 5 (V.iptr (cState m2.state))) 6 (V.bool (lostF s 0))) 7 (V.bool (lostF s 1))) 8 (V.int .i64 (if lostF s 0 = true then 2 else 0)) ∧ h4 = h1) ?_ ?_
        · skip
          refine AW.seq ?_
          refine AW.region ?_
          refine AOps.q rfl rfl rfl (q_mv rfl (rfl : _ = V.bool _)) ?_
          refine AOps.nil ?_
          refine AW.cond rfl (fun c3 => ?_) (fun c3 => ?_)
          · skip
            refine AW.region ?_
            refine AOps.q rfl rfl rfl (q_as rfl (rfl : _ = V.int _ _)) ?_
            refine AOps.nil ?_
            exact Wk.mk (TLe.put (d := 8) (VLe.of_eq (congrArg (V.int .i64) (by first | rw [if_pos c3] | rw [if_neg (show ¬ lostF s 0 = true by rw [c3]; decide)]))) (TLe.put (d := 7) (VLe.refl _) (TLe.put (d := 6) (VLe.refl _) (TLe.put (d := 5) (VLe.refl _) (TLe.put (d := 4) (VLe.refl _) (TLe.put (d := 1) (VLe.refl _) (TLe.zero _))))))) (HLe.refl _) ⟨rfl, rfl⟩
          · skip
            refine AW.skip ?_
            exact Wk.mk (TLe.put (d := 8) (VLe.of_eq (congrArg (V.int .i64) (by first | rw [if_pos c3] | rw [if_neg (show ¬ lostF s 0 = true by rw [c3]; decide)]))) (TLe.put (d := 7) (VLe.refl _) (TLe.put (d := 6) (VLe.refl _) (TLe.put (d := 5) (VLe.refl _) (TLe.put (d := 4) (VLe.refl _) (TLe.put (d := 1) (VLe.refl _) (TLe.zero _))))))) (HLe.refl _) ⟨rfl, rfl⟩
        · rintro T h1 ⟨rfl, rfl⟩
          refine AW.cut (fun T h1 => T = put (put (put (put (put (put (T0) 1 (V.iptr (cState s))) 4 (V.int .i64 (runN m2 n2))) 5 (V.iptr (cState m2.state))) 6 (V.bool (lostF s 0))) 7 (V.bool (lostF s 1))) 8 (V.int .i64 (if lostF s 1 = true then 1 else if lostF s 0 = true then 2 else 0)) ∧ h4 = h1) ?_ ?_
          · skip
            refine AW.seq ?_
            refine AW.region ?_
            refine AOps.q rfl rfl rfl (q_mv rfl (rfl : _ = V.bool _)) ?_
            refine AOps.nil ?_
            refine AW.cond rfl (fun c4 => ?_) (fun c4 => ?_)
            · skip
              refine AW.region ?_
              refine AOps.q rfl rfl rfl (q_as rfl (rfl : _ = V.int _ _)) ?_
              refine AOps.nil ?_
              exact Wk.mk (TLe.put (d := 8) (VLe.of_eq (congrArg (V.int .i64) (by first | rw [if_pos c4] | rw [if_neg (show ¬ lostF s 1 = true by rw [c4]; decide)]))) (TLe.put (d := 7) (VLe.refl _) (TLe.put (d := 6) (VLe.refl _) (TLe.put (d := 5) (VLe.refl _) (TLe.put (d := 4) (VLe.refl _) (TLe.put (d := 1) (VLe.refl _) (TLe.zero _))))))) (HLe.refl _) ⟨rfl, rfl⟩
            · skip
              refine AW.skip ?_
              exact Wk.mk (TLe.put (d := 8) (VLe.of_eq (congrArg (V.int .i64) (by first | rw [if_pos c4] | rw [if_neg (show ¬ lostF s 1 = true by rw [c4]; decide)]))) (TLe.put (d := 7) (VLe.refl _) (TLe.put (d := 6) (VLe.refl _) (TLe.put (d := 5) (VLe.refl _) (TLe.put (d := 4) (VLe.refl _) (TLe.put (d := 1) (VLe.refl _) (TLe.zero _))))))) (HLe.refl _) ⟨rfl, rfl⟩
          · rintro T h1 ⟨rfl, rfl⟩
            refine AW.cut (fun T h1 => T = put (put (put (put (put (put (T0) 1 (V.iptr (cState s))) 4 (V.int .i64 (runN m2 n2))) 5 (V.iptr (cState m2.state))) 6 (V.bool (lostF s 0))) 7 (V.bool (lostF s 1))) 8 (V.int .i64 (resultF s)) ∧ h4 = h1) ?_ ?_
            · skip
              refine AW.seq ?_
              refine AW.region ?_
              refine AOps.q rfl rfl rfl (q_mv rfl (rfl : _ = V.bool _)) ?_
              refine AOps.q rfl rfl rfl (q_mv rfl (rfl : _ = V.bool _)) ?_
              refine AOps.g (wanted_t rfl rfl) rfl rfl (fun hc => TLe.refl _) (fun hc => q_mv rfl (rfl : _ = V.bool _)) ?_
              refine AOps.q rfl rfl rfl (q_pickg rfl rfl (fun hp => by first | exact VLe.opt hp | exact VLe.opt (by rw [hp]; rfl) | exact VLe.opt (by simp_all)) (fun hp => by exact VLe.refl _)) ?_
              refine AOps.nil ?_
              refine AW.cond rfl (fun c5 => ?_) (fun c5 => ?_)
              · skip
                refine AW.region ?_
                refine AOps.q rfl rfl rfl (q_as rfl (rfl : _ = V.int _ _)) ?_
                refine AOps.nil ?_
                exact Wk.mk (TLe.put (d := 8) (VLe.of_eq (congrArg (V.int .i64) (by rw [resultF]; revert c5; cases lostF s 0 <;> cases lostF s 1 <;> simp))) (TLe.put (d := 7) (VLe.refl _) (TLe.put (d := 6) (VLe.refl _) (TLe.put (d := 5) (VLe.refl _) (TLe.put (d := 4) (VLe.refl _) (TLe.put (d := 1) (VLe.refl _) (TLe.zero _))))))) (HLe.refl _) ⟨rfl, rfl⟩
              · skip
                refine AW.skip ?_
                exact Wk.mk (TLe.put (d := 8) (VLe.of_eq (congrArg (V.int .i64) (by rw [resultF]; revert c5; cases lostF s 0 <;> cases lostF s 1 <;> simp))) (TLe.put (d := 7) (VLe.refl _) (TLe.put (d := 6) (VLe.refl _) (TLe.put (d := 5) (VLe.refl _) (TLe.put (d := 4) (VLe.refl _) (TLe.put (d := 1) (VLe.refl _) (TLe.zero _))))))) (HLe.refl _) ⟨rfl, rfl⟩
            · rintro T h1 ⟨rfl, rfl⟩
              refine AW.seq ?_
              refine AW.seq ?_
              refine AW.region ?_
              refine AOps.q rfl rfl rfl (q_fa_i rfl Tryz.underlying29 rfl (by exact Tryz.sizeOf27) (by decide) rfl (rfl : _ = List.drop 30 _)) ?_
              refine AOps.q rfl rfl rfl (q_ia_ai rfl Tryz.underlying27 Tryz.sizeOf3 rfl rfl (by decide) (by decide) rfl) ?_
              refine AOps.q rfl rfl rfl (q_load_i1 rfl Tryz.isAgg3 rfl rfl) ?_
              refine AOps.q rfl rfl rfl (q_ne rfl rfl rfl) ?_
              refine AOps.nil ?_
              refine AW.cond rfl (fun c6 => ?_) (fun c6 => ?_)
              · skip
                refine AW.seq ?_
                refine AW.region ?_
                refine AOps.q rfl rfl rfl (q_mv rfl (rfl : _ = V.int _ _)) ?_
                refine AOps.q rfl rfl rfl (q_eq rfl rfl rfl) ?_
                refine AOps.q rfl rfl rfl (q_mv rfl (rfl : _ = V.bool _)) ?_
                refine AOps.g (wanted_t rfl rfl) rfl rfl (fun hc => TLe.refl _) (fun hc => q_load_iW rfl Tryz.isAgg29 Tryz.sizeOf29 rfl (by rfl)) ?_
                refine AOps.g (wanted_t rfl rfl) rfl rfl (fun hc => TLe.refl _) (fun hc => q_load_iW rfl Tryz.isAgg29 Tryz.sizeOf29 rfl (by rfl)) ?_
                refine AOps.g (wanted_t rfl rfl) rfl rfl (fun hc => TLe.put (d := 67) (VLe.opt hc) (TLe.put (d := 66) (VLe.opt hc) (TLe.refl _))) (fun hc => QOp.call rfl (by exact Tryz.call14) fun h' hl' => by exact states_calls _ _ (long_hb hf hlo).2 (long_hb hf hlo).1 h') ?_
                refine AOps.q rfl rfl rfl (q_pickg rfl rfl (fun hp => by first | exact VLe.opt hp | exact VLe.opt (by rw [hp]; rfl) | exact VLe.opt (by simp_all)) (fun hp => by exact VLe.refl _)) ?_
                refine AOps.q rfl rfl rfl (q_as rfl (rfl : _ = V.bool _)) ?_
                refine AOps.nil ?_
                refine AW.ret ?_
                exact retQ.mk' (.one _) (VLe.of_eq (congrArg V.bool (ends_b hE hst (by simpa using c6)))) he2.le ⟨rfl, rfl⟩
              · skip
                refine AW.skip ?_
                refine AW.seq ?_
                refine AW.region ?_
                refine AOps.q rfl rfl rfl (q_fa_i rfl Tryz.underlying29 rfl (by exact Tryz.sizeOf27) (by decide) rfl (rfl : _ = List.drop 30 _)) ?_
                refine AOps.q rfl rfl rfl (q_ia_ai rfl Tryz.underlying27 Tryz.sizeOf3 rfl rfl (by decide) (by decide) rfl) ?_
                refine AOps.q rfl rfl rfl (q_load_i1 rfl Tryz.isAgg3 rfl rfl) ?_
                refine AOps.q rfl rfl rfl (q_mv rfl (rfl : _ = V.int _ _)) ?_
                refine AOps.q rfl rfl rfl (q_eq rfl rfl rfl) ?_
                refine AOps.q rfl rfl rfl (q_mv rfl (rfl : _ = V.bool _)) ?_
                refine AOps.g (wanted_t rfl rfl) rfl rfl (fun hc => TLe.refl _) (fun hc => q_fa_i rfl Tryz.underlying29 rfl (by exact Tryz.sizeOf26) (by decide) rfl (rfl : _ = List.drop 12 _)) ?_
                refine AOps.g (wanted_t rfl rfl) rfl rfl (fun hc => TLe.put (d := 76) (VLe.opt hc) (TLe.refl _)) (fun hc => q_load_iN rfl Tryz.isAgg26 Tryz.sizeOf26 rfl (by rfl) rfl) ?_
                refine AOps.g (wanted_t rfl rfl) rfl rfl (fun hc => TLe.refl _) (fun hc => q_fa_i rfl Tryz.underlying29 rfl (by exact Tryz.sizeOf26) (by decide) rfl (rfl : _ = List.drop 12 _)) ?_
                refine AOps.g (wanted_t rfl rfl) rfl rfl (fun hc => TLe.put (d := 78) (VLe.opt hc) (TLe.refl _)) (fun hc => q_load_iN rfl Tryz.isAgg26 Tryz.sizeOf26 rfl (by rfl) rfl) ?_
                refine AOps.g (wanted_t rfl rfl) rfl rfl (fun hc => TLe.put (d := 79) (VLe.opt hc) (TLe.put (d := 77) (VLe.opt hc) (TLe.refl _))) (fun hc => q_eqI (EqI.array (EqI.array (EqI.int Tryz.isAgg3 Tryz.underlying3) Tryz.isAgg25 Tryz.underlying25 Tryz.sizeOf3 Tryz.sizeOf25 rfl) Tryz.isAgg26 Tryz.underlying26 Tryz.sizeOf25 Tryz.sizeOf26 rfl) Tryz.isAgg26 Tryz.sizeOf26 (by kernel_rfl) rfl (a := plN m2.state) (b := plN s) rfl rfl rfl rfl) ?_
                refine AOps.q rfl rfl rfl (q_pickg rfl rfl (fun hp => by first | exact VLe.opt hp | exact VLe.opt (by rw [hp]; rfl) | exact VLe.opt (by simp_all)) (fun hp => by exact VLe.refl _)) ?_
                refine AOps.q rfl rfl rfl (q_mv rfl (rfl : _ = V.bool _)) ?_
                refine AOps.g (wanted_t rfl rfl) rfl rfl (fun hc => TLe.refl _) (fun hc => q_mv rfl (rfl : _ = V.int _ _)) ?_
                refine AOps.g (wanted_t rfl rfl) rfl rfl (fun hc => TLe.put (d := 83) (VLe.opt hc) (TLe.refl _)) (fun hc => q_eq rfl rfl rfl) ?_
                refine AOps.g (wanted_t rfl rfl) rfl rfl (fun hc => TLe.put (d := 84) (VLe.opt hc) (TLe.refl _)) (fun hc => q_mv rfl (rfl : _ = V.bool _)) ?_
                refine AOps.g (wanted_fo rfl rfl) rfl rfl (fun hc => TLe.refl _) (fun hc => q_mv rfl (rfl : _ = V.int _ _)) ?_
                refine AOps.g (wanted_fo rfl rfl) rfl rfl (fun hc => TLe.put (d := 86) (VLe.opt hc) (TLe.refl _)) (fun hc => q_eq rfl rfl rfl) ?_
                refine AOps.g (wanted_fo rfl rfl) rfl rfl (fun hc => TLe.put (d := 87) (VLe.opt hc) (TLe.refl _)) (fun hc => q_mv rfl (rfl : _ = V.bool _)) ?_
                refine AOps.g (wanted_to rfl rfl) rfl rfl (fun hc => TLe.refl _) (fun hc => q_fa_i rfl Tryz.underlying29 rfl (by exact Tryz.sizeOf24) (by decide) rfl (rfl : _ = List.drop 1 _)) ?_
                refine AOps.g (wanted_to rfl rfl) rfl rfl (fun hc => TLe.put (d := 89) (VLe.opt hc) (TLe.refl _)) (fun hc => q_ia_ai rfl Tryz.underlying24 Tryz.sizeOf23 rfl rfl (by decide) (by decide) rfl) ?_
                refine AOps.g (wanted_to rfl rfl) rfl rfl (fun hc => TLe.put (d := 90) (VLe.opt hc) (TLe.refl _)) (fun hc => q_load_i1 rfl Tryz.isAgg23 rfl rfl) ?_
                refine AOps.g (wanted_to rfl rfl) rfl rfl (fun hc => TLe.refl _) (fun hc => q_fa_i rfl Tryz.underlying29 rfl (by exact Tryz.sizeOf24) (by decide) rfl (rfl : _ = List.drop 1 _)) ?_
                refine AOps.g (wanted_to rfl rfl) rfl rfl (fun hc => TLe.put (d := 92) (VLe.opt hc) (TLe.refl _)) (fun hc => q_ia_ai rfl Tryz.underlying24 Tryz.sizeOf23 rfl rfl (by decide) (by decide) rfl) ?_
                refine AOps.g (wanted_to rfl rfl) rfl rfl (fun hc => TLe.put (d := 93) (VLe.opt hc) (TLe.refl _)) (fun hc => q_load_i1 rfl Tryz.isAgg23 rfl rfl) ?_
                refine AOps.g (wanted_to rfl rfl) rfl rfl (fun hc => TLe.put (d := 94) (VLe.opt hc) (TLe.put (d := 91) (VLe.opt hc) (TLe.refl _))) (fun hc => QOp.call rfl (by exact Tryz.call19) fun h' hl' => by exact ints_calls _ _ (hP2.inv.st2.2 8) h') ?_
                refine AOps.g (wanted_fo rfl rfl) rfl rfl (fun hc => TLe.put (d := 88) (VLe.opt hc) (TLe.refl _)) (fun hc => q_pickg rfl rfl (fun hp => by first | exact VLe.opt hp | exact VLe.opt (by rw [hp]; rfl) | exact VLe.opt (by simp_all)) (fun hp => by exact VLe.refl _)) ?_
                refine AOps.g (wanted_t rfl rfl) rfl rfl (fun hc => TLe.put (d := 85) (VLe.opt hc) (TLe.refl _)) (fun hc => q_pickg rfl rfl (fun hp => by exact VLe.refl _) (fun hp => by first | exact VLe.opt hp | exact VLe.opt (by rw [hp]; rfl) | exact VLe.opt (by simp_all))) ?_
                refine AOps.q rfl rfl rfl (q_pickg rfl rfl (fun hp => by first | exact VLe.opt hp | exact VLe.opt (by rw [hp]; rfl) | exact VLe.opt (by simp_all)) (fun hp => by exact VLe.refl _)) ?_
                refine AOps.q rfl rfl rfl (q_as rfl (rfl : _ = V.bool _)) ?_
                refine AOps.nil ?_
                refine AW.ret ?_
                exact retQ.mk' (.one _) (VLe.of_eq (congrArg V.bool (ends_c hE hst (by simpa using c6)))) he2.le ⟨rfl, rfl⟩

end Go.Proofs.YtnbmcbkokaoapaaGreatDoor
