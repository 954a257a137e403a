/- Walks: what follows of itself: rounds. -/
import Derived.Test.YtnbmcbkokaoapaaGreatDoorPut
import Derived.Test.YtnbmcbkokaoapaaGreatDoorShape4
namespace Go.Proofs.YtnbmcbkokaoapaaGreatDoor
open Go Go.AV
set_option maxRecDepth 100000
set_option maxHeartbeats 1000000
/-- What holds of an emitter that only puts and sets. -/
structure EmP (m : Em) : Prop where
  inv : EmI m
  pend : m.pend.length ≤ 4 * m.evs.length
theorem gameF_same {m : Em} {f n : Int} : Same m (m.gameF f n) := by
  unfold Em.gameF; split
  · exact .rfl'
  · split
    · exact doL_same (by simp)
    · exact set_same (by simp)
theorem gameF_p {m : Em} {f n : Int} (h : EmP m) : EmP (m.gameF f n) := by
  have := gameF_same (m := m) (f := f) (n := n)
  exact ⟨gameF_inv h.inv, by rw [this.pend]; have := this.evs; have := h.pend; omega⟩
theorem putF_p {m : Em} {i b : Int} (h : EmP m) : EmP (m.putF i b) := ⟨putF_inv h.inv, putF_evs.2.2.1 h.pend⟩
/-- Some are put to the grave. -/
def Em.putL (m : Em) (l : List Int) : Em := l.foldl (fun m i => m.putF i 4) m
theorem putL_p {m : Em} {l : List Int} (h : EmP m) : EmP (m.putL l) := by
  induction l generalizing m with
  | nil => exact h
  | cons i l ih => exact ih (m := m.putF i 4) (putF_p h)
theorem putL_evs {m : Em} {l : List Int} : m.evs.length ≤ (m.putL l).evs.length ∧ ((m.putL l).err = 0 → m.err = 0 ∧ m.evs.length + l.length ≤ (m.putL l).evs.length) := by
  induction l generalizing m with
  | nil => exact ⟨Nat.le_refl _, fun e => ⟨e, Nat.le_refl _⟩⟩
  | cons i l ih =>
    have h1 := ih (m := m.putF i 4)
    obtain ⟨a, b, _⟩ := putF_evs (m := m) (i := i) (base := 4)
    refine ⟨Nat.le_trans a h1.1, fun e => ?_⟩
    obtain ⟨c, d⟩ := h1.2 e
    obtain ⟨c', d'⟩ := b c
    refine ⟨c', ?_⟩
    show m.evs.length + (l.length + 1) ≤ ((m.putF i 4).putL l).evs.length
    omega
theorem putL_next {m : Em} {l : List Int} {k : Nat} (h : k < l.length) : m.putL (l.take (k + 1)) = (m.putL (l.take k)).putF (l.getD k 0) 4 := by
  rw [Em.putL, Em.putL, List.take_add_one, List.getElem?_eq_getElem h, getD_of h, List.foldl_append]; rfl
/-- One round. -/
def roundF (m : Em) : Em := if resultF m.state ≠ 0 then m.gameF 6 (resultF m.state) else m.putL (dyingF m.state)
theorem round_p {m : Em} (h : EmP m) : EmP (roundF m) := by
  unfold roundF; split
  · exact gameF_p h
  · exact putL_p h
theorem EmI.st {m : Em} (h : EmI m) : m.err = 0 → m.now.objs.length ≤ 1000000 ∧ ∀ z, (m.now.lists z).length ≤ 1000000 := fun e =>
  ⟨by have := (h.sz e).objs; omega, fun z => by have := (h.sz e).lists z; omega⟩
theorem EmI.st2 {m : Em} (h : EmI m) : m.state.objs.length ≤ 1000000 ∧ ∀ z, (m.state.lists z).length ≤ 1000000 := by
  unfold Em.state; split
  · rename_i e; exact h.st e
  · exact ⟨by simp [noSt], fun z => by simp [noSt]⟩
theorem EmI.box {h0 : Hp} {id : Nat} {m : Em} {h : Hp} (e : EmAt h0 id m h) : ∃ ve vp, h.box id = some (emCells m ve vp) := by
  obtain ⟨ve, vp, _, rfl⟩ := e; exact ⟨ve, vp, Hp.box_setBox _ _ _⟩
theorem gameF_more {m : Em} {n : Int} (h : m.err = 0) (hne : m.now.game 6 ≠ n) (e : (m.gameF 6 n).err = 0) : m.evs.length + 1 ≤ (m.gameF 6 n).evs.length := by
  unfold Em.gameF at *
  rw [if_neg (by simpa using h)] at e ⊢
  split at e
  · rename_i g; rw [if_pos g]; have := doL_more e; omega
  · rename_i g; rw [if_neg g]
    unfold Em.set at *
    rw [if_neg (show ¬ m.now.game (Int.toNat 6) = n from hne)] at e ⊢
    have := doL_more e; omega
theorem round_more {m : Em} (h : m.err = 0) (hq : quietF m.state = false) (e : (roundF m).err = 0) : m.evs.length + 1 ≤ (roundF m).evs.length := by
  have hs : m.state = m.now := by unfold Em.state; rw [if_pos h]
  simp only [quietF, Bool.or_eq_false_iff, bne_eq_false_iff_eq, Bool.and_eq_false_iff, beq_eq_false_iff_ne] at hq
  unfold roundF at *
  split at e
  · rename_i g; rw [if_pos g]
    refine gameF_more h ?_ e
    rw [hs] at hq; rw [hq.1]; exact Ne.symm g
  · rename_i g; rw [if_neg g]
    have := (putL_evs.2 e).2
    have hd : (dyingF m.state).length ≠ 0 := by
      rcases hq.2 with a | a
      · exact absurd a g
      · omega
    omega
theorem round_evs {m : Em} : m.evs.length ≤ (roundF m).evs.length ∧ ((roundF m).err = 0 → m.err = 0) := by
  unfold roundF; split
  · exact ⟨gameF_same.evs, gameF_same.err⟩
  · exact ⟨putL_evs.1, fun e => (putL_evs.2 e).1⟩
/-- The rounds, from one emitter and a count to another emitter and count. -/
inductive Runs (fuel : Int) : Em → Int → Em → Int → Prop
  | quiet {m n} : (m.err = 0 → quietF m.state = true) → Runs fuel m n m n
  | out {m n} : m.err = 0 → quietF m.state = false → fuel ≤ n → Runs fuel m n (m.gameF 6 3) n
  | more {m n m' n'} : m.err = 0 → quietF m.state = false → n < fuel → Runs fuel (roundF m) (n + 1) m' n' → Runs fuel m n m' n'
theorem run_yes1 {e : Int} {q : Bool} (c : (bif e == 0 then !q else false) = true) : e = 0 := by
  cases h : e == 0
  · rw [h] at c; cases c
  · simpa using h
theorem run_yes2 {e : Int} {q : Bool} (c : (bif e == 0 then !q else false) = true) : q = false := by
  cases h : e == 0
  · rw [h] at c; cases c
  · rw [h] at c; simpa using c
theorem run_no {e : Int} {q : Bool} (c : (bif e == 0 then !q else false) = false) (h : e = 0) : q = true := by
  subst h; simpa using c
def runN (m : Em) (n : Int) : Int := if m.err = 0 then n else 0

theorem round_calls {h0 : Hp} {id : Nat} {m : Em} {h : Hp} (he : EmAt h0 id m h) (hP : EmP m) : ACalls Tryz.prog G 35 [.ptr id 0] h fun r h' => r = .tup [] ∧ EmAt h0 id (roundF m) h' := by
  have hI := hP.inv
  have hst := hI.st2
  obtain ⟨ve, vp, hbx⟩ := EmI.box he
  refine ACalls.enter Tryz.func35 rfl Tryz.ntmps35 Tryz.results35 rfl ?_
  refine AW.seq ?_
  refine AW.region ?_
  refine AOps.q rfl rfl rfl (q_mv rfl (rfl : _ = V.ptr _ _)) ?_
  refine AOps.q rfl rfl rfl (QOp.call rfl (by exact Tryz.call12) fun h' hl' => by exact state_calls (hl'.box _ _ hbx) hI.st) ?_
  refine AOps.s rfl rfl rfl (a_alloc rfl Tryz.zeroValue29 rfl (fun id2 hid2 => ?_))
  refine AOps.s0 rfl rfl (a_storeWA rfl Tryz.sizeOf29 rfl rfl (rfl : _ = V.agg _) rfl rfl ?_)
  refine AOps.done 2 rfl hid2 ?_
  refine AOps.nil ?_
  refine AW.seq ?_
  refine AW.seq ?_
  refine AW.region ?_
  refine AOps.q rfl rfl rfl (q_load_iW rfl Tryz.isAgg29 Tryz.sizeOf29 rfl (by rfl)) ?_
  refine AOps.q rfl rfl rfl (QOp.call rfl (by exact Tryz.call55) fun h' hl' => by exact result_calls _ h') ?_
  refine AOps.q rfl rfl rfl (q_as rfl (rfl : _ = V.int _ _)) ?_
  refine AOps.nil ?_
  refine AW.seq ?_
  refine AW.region ?_
  refine AOps.q rfl rfl rfl (q_mv rfl (rfl : _ = V.int _ _)) ?_
  refine AOps.q rfl rfl rfl (q_ne rfl rfl rfl) ?_
  refine AOps.nil ?_
  refine AW.cond rfl (fun c0 => ?_) (fun c0 => ?_)
  · skip
    refine AW.seq ?_
    refine AW.region ?_
    refine AOps.q rfl rfl rfl (q_mv rfl (rfl : _ = V.ptr _ _)) ?_
    refine AOps.q rfl rfl rfl (q_mv rfl (rfl : _ = V.int _ _)) ?_
    refine AOps.s rfl rfl rfl ((AStep.call rfl (by exact Tryz.call34) (game'_calls 6 (resultF m.state) he hI)).mono ?_)
    rintro x9 h9 ⟨rfl, he9⟩
    refine AOps.nil ?_
    refine AW.ret ?_
    exact retQ.mk .none ⟨rfl, by rw [roundF, if_pos (by simpa using c0)]; exact he9⟩
  · skip
    refine AW.skip ?_
    refine AW.seq ?_
    refine AW.region ?_
    refine AOps.q rfl rfl rfl (q_load_iW rfl Tryz.isAgg29 Tryz.sizeOf29 rfl (by rfl)) ?_
    refine AOps.q rfl rfl rfl (QOp.call rfl (by exact Tryz.call20) fun h' hl' => by exact dying_calls _ hst.1 hst.2 h') ?_
    refine AOps.q rfl rfl rfl (q_len rfl Tryz.underlying23 rfl) ?_
    refine AOps.q rfl rfl rfl (q_mv rfl (rfl : _ = V.int _ _)) ?_
    refine AOps.nil ?_
    refine AW.block ?_
    refine AW.loop (fun n T hh => ∃ (k : Nat) , k ≤ (dyingF m.state).length ∧ n = (dyingF m.state).length - k ∧ T = put (put (put (put (T0) 18 (V.int .i64 (k : Nat))) 17 (V.int .i64 (dyingF m.state).length)) 16 (eInts (dyingF m.state))) 0 (V.ptr id 0) ∧ EmAt h0 id (m.putL ((dyingF m.state).take k)) hh) ((dyingF m.state).length) ?_ ?_
    · skip
      refine Wk.mk (TLe.put (d := 0) (VLe.refl _) (TLe.put (d := 16) (VLe.refl _) (TLe.put (d := 17) (VLe.refl _) (TLe.put (d := 18) (by exact VLe.of_eq (congrArg (V.int .i64) (by first | rfl | omega))) (TLe.zero _))))) (HLe.refl _) ⟨0, Nat.zero_le _, rfl, rfl, by rw [List.take_zero]; exact he⟩
    · skip
      rintro n T h' ⟨k, hk, rfl, rfl, hem⟩
      refine AW.seq ?_
      refine AW.region ?_
      refine AOps.q rfl rfl rfl (q_lt rfl rfl rfl) ?_
      refine AOps.nil ?_
      refine AW.seq ?_
      refine AW.cond rfl (fun c1 => ?_) (fun c1 => ?_)
      · have hltk : k < (dyingF m.state).length := by have := of_decide_eq_true c1; omega
        have hdl : (dyingF m.state).length ≤ 1000000 := Nat.le_trans (by rw [← dying_all]; exact dying_le) (hst.2 8)
        have hPk : EmP (m.putL ((dyingF m.state).take k)) := putL_p hP
        have hpk : (m.putL ((dyingF m.state).take k)).pend.length ≤ 1000000 := by have := hPk.pend; have := hPk.inv.evs; omega
        refine AW.skip ?_
        refine AW.seq ?_
        refine AW.block ?_
        refine AW.seq ?_
        refine AW.region ?_
        refine AOps.q rfl rfl rfl (q_ia_s rfl Tryz.underlying23 Tryz.sizeOf3 rfl rfl (by omega) (by omega) (cInts_at hltk)) ?_
        refine AOps.q rfl rfl rfl (q_load_i1 rfl Tryz.isAgg3 rfl rfl) ?_
        refine AOps.q rfl rfl rfl (q_as rfl (rfl : _ = V.int _ _)) ?_
        refine AOps.nil ?_
        refine AW.region ?_
        refine AOps.q rfl rfl rfl (q_mv rfl (rfl : _ = V.ptr _ _)) ?_
        refine AOps.q rfl rfl rfl (q_mv rfl (rfl : _ = V.int _ _)) ?_
        refine AOps.s rfl rfl rfl ((AStep.call rfl (by exact Tryz.call59) (putF_calls ((dyingF m.state).getD k 0) 4 hem hPk.inv hpk)).mono ?_)
        rintro x9 h9 ⟨rfl, he9⟩
        refine AOps.nil ?_
        refine AW.region ?_
        refine AOps.q rfl rfl rfl (q_add' rfl rfl rfl (by omega)) ?_
        refine AOps.q rfl rfl rfl (q_mv rfl (rfl : _ = V.int _ _)) ?_
        refine AOps.nil ?_
        refine Wk.mk (TLe.put (d := 0) (VLe.refl _) (TLe.put (d := 16) (VLe.refl _) (TLe.put (d := 17) (VLe.refl _) (TLe.put (d := 18) (by exact VLe.of_eq (congrArg (V.int .i64) (by first | rfl | omega))) (TLe.zero _))))) (HLe.refl _) ⟨_, ?_, k + 1, ?_, rfl, rfl, by rw [putL_next hltk]; exact he9⟩
        · omega
        · omega
      · obtain rfl : k = (dyingF m.state).length := by have := of_decide_eq_false c1; omega
        refine AW.exit ?_
        rw [List.take_length] at hem
        exact retQ.mk .none ⟨rfl, by rw [roundF, if_neg (by simpa using c0)]; exact hem⟩

theorem run_calls (fuel : Int) {h0 : Hp} {id : Nat} {m : Em} {h : Hp} (he : EmAt h0 id m h) (hP : EmP m) : ACalls Tryz.prog G 11 [.ptr id 0, .int .i64 fuel] h fun r h' => ∃ m2 n2, Runs fuel m 0 m2 n2 ∧ EmP m2 ∧ r = .int .i64 (runN m2 n2) ∧ EmAt h0 id m2 h' := by
  refine ACalls.enter Tryz.func11 rfl Tryz.ntmps11 Tryz.results11 rfl ?_
  refine AW.seq ?_
  refine AW.region ?_
  refine AOps.q rfl rfl rfl (q_as rfl (rfl : _ = V.int _ _)) ?_
  refine AOps.nil ?_
  refine AW.seq ?_
  refine AW.region ?_
  refine AOps.q rfl rfl rfl (q_as rfl (rfl : _ = V.int _ _)) ?_
  refine AOps.nil ?_
  refine AW.seq ?_
  refine AW.block ?_
  refine AW.loop (fun n T hh => ∃ (k : Int) (m1 : Em), T = put (put (put (put T0 0 (V.ptr id 0)) 1 (V.int .i64 fuel)) 4 (V.int .i64 0)) 5 (V.int .i64 k) ∧ EmAt h0 id m1 hh ∧ EmP m1 ∧ 0 ≤ k ∧ (m1.err = 0 → k ≤ m1.evs.length) ∧ k ≤ 65537 ∧ n = (if m1.err = 0 then 65537 - m1.evs.length else 0) ∧ ∀ m2 n2, Runs fuel m1 k m2 n2 → Runs fuel m 0 m2 n2) ((if m.err = 0 then 65537 - m.evs.length else 0)) ?_ ?_
  · skip
    refine Wk.mk (TLe.put (d := 5) (VLe.refl _) (TLe.put (d := 4) (VLe.refl _) (TLe.put (d := 1) (VLe.refl _) (TLe.put (d := 0) (VLe.refl _) (TLe.zero _))))) (HLe.refl _) ⟨0, m, rfl, he, hP, by omega, fun _ => by omega, by omega, rfl, fun _ _ h => h⟩
  · skip
    rintro n T h' ⟨k, m1, rfl, he1, hP1, hk0, hk1, hk2, rfl, hR⟩
    obtain ⟨ve1, vp1, hb1⟩ := EmI.box he1
    refine AW.seq ?_
    refine AW.seq ?_
    refine AW.region ?_
    refine AOps.q rfl rfl rfl (q_mv rfl (rfl : _ = V.ptr _ _)) ?_
    refine AOps.q rfl rfl rfl (QOp.call rfl (by exact Tryz.call13) fun h' hl' => by exact err_calls (hl'.box _ _ hb1)) ?_
    refine AOps.q rfl rfl rfl (q_eqerr Tryz.underlying38 rfl rfl) ?_
    refine AOps.q rfl rfl rfl (q_mv rfl (rfl : _ = V.bool _)) ?_
    refine AOps.g (wanted_t rfl rfl) rfl rfl (fun hc => TLe.refl _) (fun hc => q_mv rfl (rfl : _ = V.ptr _ _)) ?_
    refine AOps.g (wanted_t rfl rfl) rfl rfl (fun hc => TLe.put (d := 10) (VLe.opt hc) (TLe.refl _)) (fun hc => QOp.call rfl (by exact Tryz.call12) fun h' hl' => by exact state_calls (hl'.box _ _ hb1) hP1.inv.st) ?_
    refine AOps.g (wanted_t rfl rfl) rfl rfl (fun hc => TLe.put (d := 11) (VLe.opt hc) (TLe.refl _)) (fun hc => QOp.call rfl (by exact Tryz.call33) fun h' hl' => by exact quiet_calls _ hP1.inv.st2.1 hP1.inv.st2.2 h') ?_
    refine AOps.g (wanted_t rfl rfl) rfl rfl (fun hc => TLe.put (d := 12) (VLe.opt hc) (TLe.refl _)) (fun hc => q_not rfl rfl) ?_
    refine AOps.q rfl rfl rfl (q_pickg rfl rfl (fun hp => by first | exact VLe.opt hp | exact VLe.opt (by rw [hp]; rfl) | exact VLe.opt (by simp_all)) (fun hp => by exact VLe.refl _)) ?_
    refine AOps.nil ?_
    refine AW.cond rfl (fun c0 => ?_) (fun c0 => ?_)
    · have hz : m1.err = 0 := run_yes1 c0
      have hq : quietF m1.state = false := run_yes2 c0
      have hev := hP1.inv.evs
      have hk3 := hk1 hz
      refine AW.skip ?_
      refine AW.block ?_
      refine AW.seq ?_
      refine AW.seq ?_
      refine AW.region ?_
      refine AOps.q rfl rfl rfl (q_mv rfl (rfl : _ = V.int _ _)) ?_
      refine AOps.q rfl rfl rfl (q_mv rfl (rfl : _ = V.int _ _)) ?_
      refine AOps.q rfl rfl rfl (q_ge rfl rfl rfl) ?_
      refine AOps.nil ?_
      refine AW.cond rfl (fun c1 => ?_) (fun c1 => ?_)
      · skip
        refine AW.seq ?_
        refine AW.region ?_
        refine AOps.q rfl rfl rfl (q_mv rfl (rfl : _ = V.ptr _ _)) ?_
        refine AOps.s rfl rfl rfl ((AStep.call rfl (by exact Tryz.call34) (game'_calls 6 3 he1 hP1.inv)).mono ?_)
        rintro x9 h9 ⟨rfl, he9⟩
        obtain ⟨m2, hfin, hP2, he2⟩ : ∃ m2, Runs fuel m 0 m2 k ∧ EmP m2 ∧ EmAt h0 id m2 h9 := ⟨_, hR _ _ (.out hz hq (of_decide_eq_true c1)), gameF_p hP1, he9⟩
        obtain ⟨ve7, vp7, hb7⟩ := EmI.box he2
        refine AOps.nil ?_
        refine AW.exit ?_
        refine AW.seq ?_
        refine AW.seq ?_
        refine AW.region ?_
        refine AOps.q rfl rfl rfl (q_mv rfl (rfl : _ = V.ptr _ _)) ?_
        refine AOps.q rfl rfl rfl (QOp.call rfl (by exact Tryz.call13) fun h' hl' => by exact err_calls (hl'.box _ _ hb7)) ?_
        refine AOps.q rfl rfl rfl (q_neerr Tryz.underlying38 rfl rfl) ?_
        refine AOps.nil ?_
        refine AW.cond rfl (fun c2 => ?_) (fun c2 => ?_)
        · skip
          refine AW.seq ?_
          refine AW.region ?_
          refine AOps.q rfl rfl rfl (q_as rfl (rfl : _ = V.int _ _)) ?_
          refine AOps.nil ?_
          refine AW.ret ?_
          exact retQ.mk (.one _) ⟨m2, k, hfin, hP2, by rw [runN, if_neg (by simpa using c2)]; rfl, he2⟩
        · skip
          refine AW.skip ?_
          refine AW.seq ?_
          refine AW.region ?_
          refine AOps.q rfl rfl rfl (q_mv rfl (rfl : _ = V.int _ _)) ?_
          refine AOps.q rfl rfl rfl (q_as rfl (rfl : _ = V.int _ _)) ?_
          refine AOps.nil ?_
          refine AW.ret ?_
          exact retQ.mk (.one _) ⟨m2, k, hfin, hP2, by rw [runN, if_pos (by simpa using c2)]; rfl, he2⟩
      · skip
        refine AW.skip ?_
        refine AW.seq ?_
        refine AW.region ?_
        refine AOps.q rfl rfl rfl (q_mv rfl (rfl : _ = V.ptr _ _)) ?_
        refine AOps.s rfl rfl rfl ((AStep.call rfl (by exact Tryz.call35) (round_calls he1 hP1)).mono ?_)
        rintro x9 h9 ⟨rfl, he9⟩
        refine AOps.nil ?_
        refine AW.region ?_
        refine AOps.q rfl rfl rfl (q_mv rfl (rfl : _ = V.int _ _)) ?_
        refine AOps.q rfl rfl rfl (q_add' rfl rfl rfl (by omega)) ?_
        refine AOps.q rfl rfl rfl (q_as rfl (rfl : _ = V.int _ _)) ?_
        refine AOps.nil ?_
        have hmo := round_more hz hq
        have hev2 := (round_p hP1).inv.evs
        refine Wk.mk (TLe.put (d := 5) (VLe.refl _) (TLe.put (d := 4) (VLe.refl _) (TLe.put (d := 1) (VLe.refl _) (TLe.put (d := 0) (VLe.refl _) (TLe.zero _))))) (HLe.refl _) ⟨_, ?_, k + 1, roundF m1, rfl, he9, round_p hP1, by omega, fun e => by have := hmo e; omega, by omega, rfl, fun m2 n2 hr => hR _ _ (.more hz hq (by have := of_decide_eq_false c1; omega) hr)⟩
        rw [if_pos hz]
        split
        · rename_i e; have := hmo e; omega
        · omega
    · obtain ⟨m2, hfin, hP2, he2⟩ : ∃ m2, Runs fuel m 0 m2 k ∧ EmP m2 ∧ EmAt h0 id m2 h' := ⟨_, hR _ _ (.quiet (run_no c0)), hP1, he1⟩
      obtain ⟨ve7, vp7, hb7⟩ := EmI.box he2
      refine AW.exit ?_
      refine AW.seq ?_
      refine AW.seq ?_
      refine AW.region ?_
      refine AOps.q rfl rfl rfl (q_mv rfl (rfl : _ = V.ptr _ _)) ?_
      refine AOps.q rfl rfl rfl (QOp.call rfl (by exact Tryz.call13) fun h' hl' => by exact err_calls (hl'.box _ _ hb7)) ?_
      refine AOps.q rfl rfl rfl (q_neerr Tryz.underlying38 rfl rfl) ?_
      refine AOps.nil ?_
      refine AW.cond rfl (fun c3 => ?_) (fun c3 => ?_)
      · skip
        refine AW.seq ?_
        refine AW.region ?_
        refine AOps.q rfl rfl rfl (q_as rfl (rfl : _ = V.int _ _)) ?_
        refine AOps.nil ?_
        refine AW.ret ?_
        exact retQ.mk (.one _) ⟨m2, k, hfin, hP2, by rw [runN, if_neg (by simpa using c3)]; rfl, he2⟩
      · skip
        refine AW.skip ?_
        refine AW.seq ?_
        refine AW.region ?_
        refine AOps.q rfl rfl rfl (q_mv rfl (rfl : _ = V.int _ _)) ?_
        refine AOps.q rfl rfl rfl (q_as rfl (rfl : _ = V.int _ _)) ?_
        refine AOps.nil ?_
        refine AW.ret ?_
        exact retQ.mk (.one _) ⟨m2, k, hfin, hP2, by rw [runN, if_pos (by simpa using c3)]; rfl, he2⟩

end Go.Proofs.YtnbmcbkokaoapaaGreatDoor
