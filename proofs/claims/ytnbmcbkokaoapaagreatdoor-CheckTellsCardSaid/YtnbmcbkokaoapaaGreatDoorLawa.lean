/- Walks: the law's fixed fact; rounds again. -/
import Derived.Test.YtnbmcbkokaoapaaGreatDoorRun
import Derived.Test.YtnbmcbkokaoapaaGreatDoorNumst
namespace Go.Proofs.YtnbmcbkokaoapaaGreatDoor
open Go Go.AV
set_option maxRecDepth 100000
set_option maxHeartbeats 1000000
def aliveO : Obj := fun f => match f with | 0 => 10 | 3 => 8 | 6 => 1 | _ => 0
def aliveSt : St := ⟨[aliveO], fun z => if z = 8 then [0] else [], fun _ f => if f = 0 then 1 else 0, fun _ => 0⟩
theorem sz_of {s : St} (h : checkF s = 0) (hf : Few s) : Sz s := by
  obtain ⟨a, b, c, d⟩ := right_parts h
  refine ⟨a, ?_, hf, fun i => ?_⟩
  · simp only [zonesF, Bool.and_eq_true, decide_eq_true_eq] at c; omega
  · by_cases hi : i < s.objs.length
    · exact right_obj b hi 3 (by decide)
    · rw [List.getD_eq_getElem?_getD, List.getElem?_eq_none (by omega)]; exact ⟨by decide, by decide⟩
theorem new_eq (s : St) : newF s [] = ⟨s, [], [], [], checkF s⟩ := by
  have e : randF [] = 0 := rfl
  unfold newF Em.fail
  rw [e]; split
  · rename_i h
    have h : checkF s = 0 := h
    rw [h]
  · rfl
theorem new_p {s : St} (hf : Few s) : EmP (newF s []) := by
  rw [new_eq]
  exact ⟨⟨fun e => sz_of e hf, by simp⟩, by simp⟩
/-- A new emitter, without draws. -/
theorem new_nil (s : St) (hb : s.objs.length ≤ 1000000) (hl : ∀ z, (s.lists z).length ≤ 1000000) (h : Hp) : ACalls Tryz.prog G 10 [eState s, .snil] h fun r h' => ∃ id, r = .ptr id 0 ∧ EmAt h id (newF s []) h' :=
  .args (bs := [eState s, eInts []]) rfl (fun j => match j with | 0 => .refl _ | 1 => .nilimm | _ + 2 => .refl _) (new_calls s [] hb hl (by simp) h)
def alive0 : Em := newF aliveSt []
theorem alive_a : alive0.err = 0 ∧ quietF alive0.state = false := by decide +kernel
theorem alive_b : (roundF alive0).err = 0 ∧ quietF (roundF alive0).state = true ∧ ((roundF alive0).state.lists 4).length = 1 ∧ (roundF alive0).state.game 6 = 0 := by decide +kernel
theorem alive_runs {m : Em} {n : Int} (h : Runs 9 alive0 0 m n) : m = roundF alive0 ∧ n = 1 := by
  cases h with
  | quiet h => exact absurd (h alive_a.1) (by rw [alive_a.2]; decide)
  | out _ _ h => exact absurd h (by decide)
  | more _ _ _ h =>
    cases h with
    | quiet h => exact ⟨rfl, rfl⟩
    | out a b _ => rw [alive_b.2.1] at b; cases b
    | more a b _ _ => rw [alive_b.2.1] at b; cases b
theorem alive_few : Few aliveSt := fun z hz => by simp only [aliveSt]; rw [if_neg (by omega)]
theorem alive_le : VLe (V.agg ([V.sl .full 18 1 (cObj aliveO), .snil, .snil, .snil, .snil, .snil, .snil, .snil, .snil, V.sl .full 1 1 [.int .i64 0], .snil, .snil] ++ (cState aliveSt).drop 12)) (eState aliveSt) := by
  refine LLe.agg (LLe.append (d := (cState aliveSt).drop 12) (b := (cState aliveSt).take 12) ?_ (LLe.refl _))
  exact .cons .fullimm (.cons .nilimm (.cons .nilimm (.cons .nilimm (.cons .nilimm (.cons .nilimm (.cons .nilimm (.cons .nilimm (.cons .nilimm (.cons .fullimm (.cons .nilimm (.cons .nilimm .nil)))))))))))

theorem alive_calls (h : Hp) : ACalls Tryz.prog G 7 [] h fun r h' => r = .bool true ∧ h' = h := by
  refine ACalls.enter Tryz.func7 rfl Tryz.ntmps7 Tryz.results7 rfl ?_
  refine AW.seq ?_
  refine AW.region ?_
  refine AOps.q rfl rfl rfl (q_as rfl (rfl : _ = V.bool _)) ?_
  refine AOps.nil ?_
  refine AW.seq ?_
  refine AW.region ?_
  refine AOps.q rfl rfl rfl (q_buildA (ds := cObj aliveO) rfl Tryz.zeroValue49 Tryz.underlying49 Tryz.sizeOf3 rfl (by kernel_rfl)) ?_
  refine AOps.q rfl rfl rfl (q_buildSl rfl Tryz.underlying22 Tryz.sizeOf49 Tryz.zeroValue49 rfl rfl rfl rfl rfl) ?_
  refine AOps.q rfl rfl rfl (q_buildS (ds := [V.sl .full 18 1 (cObj aliveO), .snil, .snil, .snil, .snil, .snil, .snil, .snil, .snil, .snil, .snil, .snil] ++ zState.drop 12) rfl Tryz.zeroValue29 Tryz.underlying29 (pl29 Tryz.underlying29) rfl (by kernel_rfl)) ?_
  refine AOps.s rfl rfl rfl (a_alloc rfl Tryz.zeroValue29 rfl (fun id1 hid1 => ?_))
  refine AOps.s0 rfl rfl (a_storeWA rfl Tryz.sizeOf29 rfl rfl (rfl : _ = V.agg _) rfl rfl ?_)
  refine AOps.nil ?_
  refine AW.seq ?_
  refine AW.region ?_
  refine AOps.q rfl rfl rfl (q_buildSl rfl Tryz.underlying23 Tryz.sizeOf3 Tryz.zeroValue3 rfl rfl rfl rfl rfl) ?_
  refine AOps.q rfl rfl rfl (q_fa_b rfl Tryz.underlying29 rfl (by exact Tryz.sizeOf24) (by decide) rfl (rfl : _ = 1)) ?_
  refine AOps.q rfl rfl rfl (q_ia_ab rfl Tryz.underlying24 Tryz.sizeOf23 rfl rfl (by decide) (by decide)) ?_
  refine AOps.s0 rfl rfl (a_store1 rfl Tryz.sizeOf23 rfl (by exact Hp.box_setBox _ _ _) (rfl : _ = V.sl _ _ _ _) rfl rfl (by first | decide | exact Nat.le_of_ble_eq_true rfl) ?_)
  refine AOps.nil ?_
  refine AW.seq ?_
  refine AW.region ?_
  refine AOps.q rfl rfl rfl (q_fa_b rfl Tryz.underlying29 rfl (by exact Tryz.sizeOf26) (by decide) rfl (rfl : _ = 12)) ?_
  refine AOps.q rfl rfl rfl (q_ia_ab rfl Tryz.underlying26 Tryz.sizeOf25 rfl rfl (by decide) (by decide)) ?_
  refine AOps.q rfl rfl rfl (q_ia_ab rfl Tryz.underlying25 Tryz.sizeOf3 rfl rfl (by decide) (by decide)) ?_
  refine AOps.s0 rfl rfl (a_store1 rfl Tryz.sizeOf3 rfl (by exact Hp.box_setBox _ _ _) (rfl : _ = V.int _ _) rfl rfl (by first | decide | exact Nat.le_of_ble_eq_true rfl) ?_)
  refine AOps.q rfl rfl rfl (q_fa_b rfl Tryz.underlying29 rfl (by exact Tryz.sizeOf26) (by decide) rfl (rfl : _ = 12)) ?_
  refine AOps.q rfl rfl rfl (q_ia_ab rfl Tryz.underlying26 Tryz.sizeOf25 rfl rfl (by decide) (by decide)) ?_
  refine AOps.q rfl rfl rfl (q_ia_ab rfl Tryz.underlying25 Tryz.sizeOf3 rfl rfl (by decide) (by decide)) ?_
  refine AOps.s0 rfl rfl (a_store1 rfl Tryz.sizeOf3 rfl (by exact Hp.box_setBox _ _ _) (rfl : _ = V.int _ _) rfl rfl (by first | decide | exact Nat.le_of_ble_eq_true rfl) ?_)
  refine AOps.nil ?_
  refine AW.seq ?_
  rw [Hp.setBox_setBox, Hp.setBox_setBox, Hp.setBox_setBox]
  refine AW.done 1 rfl hid1 ?_
  refine AW.region ?_
  refine AOps.q rfl rfl rfl (q_load_iW rfl Tryz.isAgg29 Tryz.sizeOf29 rfl (by rfl)) ?_
  refine AOps.wkn (T' := put _ 17 (eState aliveSt)) (TLe.put (d := 17) (by exact alive_le) (TLe.refl _)) (HLe.refl _) ?_
  refine AOps.s rfl rfl rfl ((AStep.call rfl (by exact Tryz.call10) (new_nil aliveSt (by decide) (fun z => by by_cases e : z = 8 <;> simp [aliveSt, e]) _)).mono ?_)
  rintro x3 h3 ⟨id, rfl, he⟩
  refine AOps.q rfl rfl rfl (q_as rfl (rfl : _ = V.ptr _ _)) ?_
  refine AOps.nil ?_
  refine AW.seq ?_
  refine AW.region ?_
  refine AOps.q rfl rfl rfl (q_mv rfl (rfl : _ = V.ptr _ _)) ?_
  refine AOps.s rfl rfl rfl ((AStep.call rfl (by exact Tryz.call11) (run_calls 9 he (new_p alive_few))).mono ?_)
  rintro x4 h4 ⟨m2, n2, hr, hP2, rfl, he2⟩
  obtain ⟨rfl, rfl⟩ := alive_runs hr
  obtain ⟨ve, vp, hbx⟩ := EmI.box he2
  refine AOps.q rfl rfl rfl (q_as rfl (rfl : _ = V.int _ _)) ?_
  refine AOps.nil ?_
  refine AW.seq ?_
  refine AW.region ?_
  refine AOps.q rfl rfl rfl (q_mv rfl (rfl : _ = V.ptr _ _)) ?_
  refine AOps.q rfl rfl rfl (QOp.call rfl (by exact Tryz.call12) fun h' hl' => by exact state_calls (hl'.box _ _ hbx) hP2.inv.st) ?_
  refine AOps.s rfl rfl rfl (a_alloc rfl Tryz.zeroValue29 rfl (fun id4 hid4 => ?_))
  refine AOps.s0 rfl rfl (a_storeWA rfl Tryz.sizeOf29 rfl rfl (rfl : _ = V.agg _) rfl rfl ?_)
  refine AOps.done 4 rfl hid4 ?_
  refine AOps.nil ?_
  refine AW.seq ?_
  refine AW.region ?_
  refine AOps.q rfl rfl rfl (q_mv rfl (rfl : _ = V.int _ _)) ?_
  refine AOps.q rfl rfl rfl (q_eq rfl rfl rfl) ?_
  refine AOps.q rfl rfl rfl (q_mv rfl (rfl : _ = V.bool _)) ?_
  refine AOps.g (wanted_t rfl rfl) rfl rfl (fun hc => TLe.refl _) (fun hc => q_mv rfl (rfl : _ = V.ptr _ _)) ?_
  refine AOps.g (wanted_t rfl rfl) rfl rfl (fun hc => TLe.put (d := 26) (VLe.opt hc) (TLe.refl _)) (fun hc => QOp.call rfl (by exact Tryz.call13) fun h' hl' => by exact err_calls (hl'.box _ _ hbx)) ?_
  refine AOps.g (wanted_t rfl rfl) rfl rfl (fun hc => TLe.put (d := 27) (VLe.opt hc) (TLe.refl _)) (fun hc => q_eqerr Tryz.underlying38 rfl rfl) ?_
  refine AOps.q rfl rfl rfl (q_pickg rfl rfl (fun hp => by first | exact VLe.opt hp | exact VLe.opt (by rw [hp]; rfl) | exact VLe.opt (by simp_all)) (fun hp => by exact VLe.refl _)) ?_
  refine AOps.q rfl rfl rfl (q_mv rfl (rfl : _ = V.bool _)) ?_
  refine AOps.g (wanted_t rfl rfl) rfl rfl (fun hc => TLe.refl _) (fun hc => q_fa_i rfl Tryz.underlying29 rfl (by exact Tryz.sizeOf24) (by decide) rfl (rfl : _ = List.drop 1 _)) ?_
  refine AOps.g (wanted_t rfl rfl) rfl rfl (fun hc => TLe.put (d := 31) (VLe.opt hc) (TLe.refl _)) (fun hc => q_ia_ai rfl Tryz.underlying24 Tryz.sizeOf23 rfl rfl (by decide) (by decide) rfl) ?_
  refine AOps.g (wanted_t rfl rfl) rfl rfl (fun hc => TLe.put (d := 32) (VLe.opt hc) (TLe.refl _)) (fun hc => q_load_i1 rfl Tryz.isAgg23 rfl rfl) ?_
  refine AOps.g (wanted_t rfl rfl) rfl rfl (fun hc => TLe.put (d := 33) (VLe.opt hc) (TLe.refl _)) (fun hc => q_len rfl Tryz.underlying23 rfl) ?_
  refine AOps.g (wanted_t rfl rfl) rfl rfl (fun hc => TLe.put (d := 34) (VLe.opt hc) (TLe.refl _)) (fun hc => q_eq rfl rfl rfl) ?_
  refine AOps.q rfl rfl rfl (q_pickg rfl rfl (fun hp => by first | exact VLe.opt hp | exact VLe.opt (by rw [hp]; rfl) | exact VLe.opt (by simp_all)) (fun hp => by exact VLe.refl _)) ?_
  refine AOps.q rfl rfl rfl (q_mv rfl (rfl : _ = V.bool _)) ?_
  refine AOps.g (wanted_t rfl rfl) rfl rfl (fun hc => TLe.refl _) (fun hc => q_fa_i rfl Tryz.underlying29 rfl (by exact Tryz.sizeOf27) (by decide) rfl (rfl : _ = List.drop 30 _)) ?_
  refine AOps.g (wanted_t rfl rfl) rfl rfl (fun hc => TLe.put (d := 38) (VLe.opt hc) (TLe.refl _)) (fun hc => q_ia_ai rfl Tryz.underlying27 Tryz.sizeOf3 rfl rfl (by decide) (by decide) rfl) ?_
  refine AOps.g (wanted_t rfl rfl) rfl rfl (fun hc => TLe.put (d := 39) (VLe.opt hc) (TLe.refl _)) (fun hc => q_load_i1 rfl Tryz.isAgg3 rfl rfl) ?_
  refine AOps.g (wanted_t rfl rfl) rfl rfl (fun hc => TLe.put (d := 40) (VLe.opt hc) (TLe.refl _)) (fun hc => q_eq rfl rfl rfl) ?_
  refine AOps.q rfl rfl rfl (q_pickg rfl rfl (fun hp => by first | exact VLe.opt hp | exact VLe.opt (by rw [hp]; rfl) | exact VLe.opt (by simp_all)) (fun hp => by exact VLe.refl _)) ?_
  refine AOps.q rfl rfl rfl (q_as rfl (rfl : _ = V.bool _)) ?_
  refine AOps.nil ?_
  refine AW.ret ?_
  obtain ⟨b1, b2, b3, b4⟩ := alive_b
  exact retQ.mk' (.one _) (VLe.of_eq (congrArg V.bool (by rw [runN, if_pos b1, b1, b3, b4]; rfl))) he2.le ⟨rfl, rfl⟩

theorem long_no {s : St} (hf : Few s) (h : longF s 40 = false) : s.objs.length ≤ 40 ∧ ∀ z, (s.lists z).length ≤ 50 := by
  simp only [longF, Bool.or_eq_false_iff, decide_eq_false_iff_not, List.any_eq_false, List.mem_range] at h
  refine ⟨by omega, fun z => ?_⟩
  by_cases hz : z < 11
  · have := h.2 z hz; simp at this; omega
  · rw [hf z (by omega)]; simp
theorem long_hb {s : St} (hf : Few s) (h : longF s 40 = false) : s.objs.length ≤ 1000000 ∧ ∀ z, (s.lists z).length ≤ 1000000 := by
  obtain ⟨a, b⟩ := long_no hf h
  exact ⟨by omega, fun z => by have := b z; omega⟩
theorem ref_no {l : Bool} {c : Int} (h : (bif l then true else c != 0) = false) : l = false ∧ c = 0 := by
  cases l <;> simp at h ⊢; exact h
theorem runs_quiet {fuel : Int} {m m' : Em} {n n' : Int} (h : Runs fuel m n m' n') (he : m.err = 0) (hq : quietF m.state = true) : m' = m ∧ n' = n := by
  cases h with
  | quiet _ => exact ⟨rfl, rfl⟩
  | out _ b _ => rw [hq] at b; cases b
  | more _ b _ _ => rw [hq] at b; cases b

theorem checkAgain_calls (s : St) (fuel : Int) (hf : Few s) (H : longF s 40 = false → refCheck s = 0 → ∀ m n, Runs fuel (newF s []) 0 m n → m.err = 0 ∧ quietF m.now = true ∧ checkF m.now = 0) (h : Hp) : ACalls Tryz.prog G 3 [eState s, .int .i64 fuel] h fun r h' => r = .bool true ∧ h' = h := by
  refine ACalls.enter Tryz.func3 rfl Tryz.ntmps3 Tryz.results3 rfl ?_
  refine AW.seq ?_
  refine AW.region ?_
  refine AOps.q rfl rfl rfl (q_boxa rfl (rfl : _ = V.agg _)) ?_
  refine AOps.q rfl rfl rfl (q_as rfl (rfl : _ = V.bool _)) ?_
  refine AOps.nil ?_
  refine AW.seq ?_
  refine AW.seq ?_
  refine AW.region ?_
  refine AOps.q rfl rfl rfl (QOp.call rfl (by exact Tryz.call7) fun h' hl' => by exact alive_calls h') ?_
  refine AOps.q rfl rfl rfl (q_not rfl rfl) ?_
  refine AOps.nil ?_
  refine AW.cond rfl (fun c0 => ?_) (fun c0 => ?_)
  · cases c0
  · skip
    refine AW.skip ?_
    refine AW.seq ?_
    refine AW.seq ?_
    refine AW.region ?_
    refine AOps.q rfl rfl rfl (q_load_iW rfl Tryz.isAgg29 Tryz.sizeOf29 rfl (by rfl)) ?_
    refine AOps.q rfl rfl rfl (QOp.call rfl (by exact Tryz.call8) fun h' hl' => by exact long_calls s 40 (by decide) h') ?_
    refine AOps.q rfl rfl rfl (q_mv rfl (rfl : _ = V.bool _)) ?_
    refine AOps.g (wanted_f rfl rfl) rfl rfl (fun hc => TLe.refl _) (fun hc => q_load_iW rfl Tryz.isAgg29 Tryz.sizeOf29 rfl (by rfl)) ?_
    refine AOps.g (wanted_f rfl rfl) rfl rfl (fun hc => TLe.put (d := 13) (VLe.opt hc) (TLe.refl _)) (fun hc => QOp.call rfl (by exact Tryz.call9) fun h' hl' => by exact refCheck_calls s (long_hb hf (by simpa using hc)).1 (long_hb hf (by simpa using hc)).2 h') ?_
    refine AOps.g (wanted_f rfl rfl) rfl rfl (fun hc => TLe.put (d := 14) (VLe.opt hc) (TLe.refl _)) (fun hc => q_ne rfl rfl rfl) ?_
    refine AOps.q rfl rfl rfl (q_pickg rfl rfl (fun hp => by exact VLe.refl _) (fun hp => by first | exact VLe.opt hp | exact VLe.opt (by rw [hp]; rfl) | exact VLe.opt (by simp_all))) ?_
    refine AOps.nil ?_
    refine AW.cond rfl (fun c1 => ?_) (fun c1 => ?_)
    · skip
      refine AW.seq ?_
      refine AW.region ?_
      refine AOps.q rfl rfl rfl (q_as rfl (rfl : _ = V.bool _)) ?_
      refine AOps.nil ?_
      refine AW.ret ?_
      exact retQ.mk' (.one _) (VLe.refl _) (HLe.refl _) ⟨rfl, rfl⟩
    · obtain ⟨hlo, hrc⟩ := ref_no c1
      refine AW.skip ?_
      refine AW.seq ?_
      refine AW.region ?_
      refine AOps.q rfl rfl rfl (q_load_iW rfl Tryz.isAgg29 Tryz.sizeOf29 rfl (by rfl)) ?_
      refine AOps.s rfl rfl rfl ((AStep.call rfl (by exact Tryz.call10) (new_nil s (long_hb hf hlo).1 (long_hb hf hlo).2 _)).mono ?_)
      rintro x3 h3 ⟨id, rfl, he⟩
      refine AOps.q rfl rfl rfl (q_as rfl (rfl : _ = V.ptr _ _)) ?_
      refine AOps.nil ?_
      refine AW.seq ?_
      refine AW.region ?_
      refine AOps.q rfl rfl rfl (q_mv rfl (rfl : _ = V.ptr _ _)) ?_
      refine AOps.q rfl rfl rfl (q_mv rfl (rfl : _ = V.int _ _)) ?_
      refine AOps.s rfl rfl rfl ((AStep.call rfl (by exact Tryz.call11) (run_calls fuel he (new_p hf))).mono ?_)
      rintro x4 h4 ⟨m2, n2, hr, hP2, rfl, he2⟩
      obtain ⟨ve, vp, hbx⟩ := EmI.box he2
      obtain ⟨k1, k2, k3⟩ := H hlo hrc m2 n2 hr
      have hst : m2.state = m2.now := by unfold Em.state; rw [if_pos k1]
      refine AOps.nil ?_
      refine AW.seq ?_
      refine AW.region ?_
      refine AOps.q rfl rfl rfl (q_mv rfl (rfl : _ = V.ptr _ _)) ?_
      refine AOps.q rfl rfl rfl (QOp.call rfl (by exact Tryz.call12) fun h' hl' => by exact state_calls (hl'.box _ _ hbx) hP2.inv.st) ?_
      refine AOps.s rfl rfl rfl (a_alloc rfl Tryz.zeroValue29 rfl (fun id6 hid6 => ?_))
      refine AOps.s0 rfl rfl (a_storeWA rfl Tryz.sizeOf29 rfl rfl (rfl : _ = V.agg _) rfl rfl ?_)
      refine AOps.done 6 rfl hid6 ?_
      refine AOps.nil ?_
      refine AW.seq ?_
      refine AW.seq ?_
      refine AW.region ?_
      refine AOps.q rfl rfl rfl (q_mv rfl (rfl : _ = V.ptr _ _)) ?_
      refine AOps.q rfl rfl rfl (QOp.call rfl (by exact Tryz.call13) fun h' hl' => by exact err_calls (hl'.box _ _ hbx)) ?_
      refine AOps.q rfl rfl rfl (q_neerr Tryz.underlying38 rfl rfl) ?_
      refine AOps.nil ?_
      refine AW.cond rfl (fun c2 => ?_) (fun c2 => ?_)
      · rw [k1] at c2; cases c2
      · skip
        refine AW.skip ?_
        refine AW.seq ?_
        refine AW.region ?_
        refine AOps.q rfl rfl rfl (q_mv rfl (rfl : _ = V.ptr _ _)) ?_
        refine AOps.q rfl rfl rfl (q_mv rfl (rfl : _ = V.int _ _)) ?_
        refine AOps.s rfl rfl rfl ((AStep.call rfl (by exact Tryz.call11) (run_calls fuel he2 hP2)).mono ?_)
        rintro x5 h5 ⟨m3, n3, hr3, hP3, rfl, he3⟩
        obtain ⟨rfl, rfl⟩ := runs_quiet hr3 k1 (by rw [hst]; exact k2)
        obtain ⟨ve3, vp3, hb3⟩ := EmI.box he3
        refine AOps.q rfl rfl rfl (q_as rfl (rfl : _ = V.int _ _)) ?_
        refine AOps.nil ?_
        refine AW.seq ?_
        refine AW.draw [] [] [(0, true), (1, true), (2, true), (3, true), (4, true), (5, true), (6, true), (7, true), (8, true), (9, true), (10, true), (11, true), (12, true), (13, true), (14, true), (15, true), (16, true), (17, true)] mixed (by kernel_rfl) rfl (by kernel_rfl) ?_
        refine AOrd.q rfl rfl rfl rfl (q_mv rfl (rfl : _ = V.ptr _ _)) ?_
        refine AOrd.q rfl rfl rfl rfl (QOp.call rfl (by exact Tryz.call13) fun h' hl' => by exact err_calls (hl'.box _ _ hb3)) ?_
        refine AOrd.q rfl rfl rfl rfl (q_eqerr Tryz.underlying38 rfl rfl) ?_
        refine AOrd.q rfl rfl rfl rfl (q_mv rfl (rfl : _ = V.bool _)) ?_
        refine AOrd.g rfl rfl (wanted_t rfl rfl) rfl (fun hc => TLe.refl _) (fun hc => q_mv rfl (rfl : _ = V.int _ _)) ?_
        refine AOrd.g rfl rfl (wanted_t rfl rfl) rfl (fun hc => TLe.put (d := 34) (VLe.opt hc) (TLe.refl _)) (fun hc => q_eq rfl rfl rfl) ?_
        refine AOrd.q rfl rfl rfl rfl (q_pickg rfl rfl (fun hp => by first | exact VLe.opt hp | exact VLe.opt (by rw [hp]; rfl) | exact VLe.opt (by simp_all)) (fun hp => by exact VLe.refl _)) ?_
        refine AOrd.q rfl rfl rfl rfl (q_mv rfl (rfl : _ = V.bool _)) ?_
        refine AOrd.g rfl rfl (wanted_t rfl rfl) rfl (fun hc => TLe.refl _) (fun hc => q_mv rfl (rfl : _ = V.ptr _ _)) ?_
        refine AOrd.g rfl rfl (wanted_t rfl rfl) rfl (fun hc => TLe.put (d := 38) (VLe.opt hc) (TLe.refl _)) (fun hc => QOp.call rfl (by exact Tryz.call12) fun h' hl' => by exact state_calls (hl'.box _ _ hb3) hP3.inv.st) ?_
        refine AOrd.g rfl rfl (wanted_t rfl rfl) rfl (fun hc => TLe.refl _) (fun hc => q_load_iW rfl Tryz.isAgg29 Tryz.sizeOf29 rfl (by rfl)) ?_
        refine AOrd.g rfl rfl (wanted_t rfl rfl) rfl (fun hc => TLe.put (d := 40) (VLe.opt hc) (TLe.put (d := 39) (VLe.opt hc) (TLe.refl _))) (fun hc => QOp.call rfl (by exact Tryz.call14) fun h' hl' => by exact states_calls _ _ hP3.inv.st2.2 hP3.inv.st2.1 h') ?_
        refine AOrd.q rfl rfl rfl rfl (q_pickg rfl rfl (fun hp => by first | exact VLe.opt hp | exact VLe.opt (by rw [hp]; rfl) | exact VLe.opt (by simp_all)) (fun hp => by exact VLe.refl _)) ?_
        refine AOrd.q rfl rfl rfl rfl (q_mv rfl (rfl : _ = V.bool _)) ?_
        refine AOrd.g rfl rfl (wanted_t rfl rfl) rfl (fun hc => TLe.refl _) (fun hc => q_load_iW rfl Tryz.isAgg29 Tryz.sizeOf29 rfl (by rfl)) ?_
        refine AOrd.g rfl rfl (wanted_t rfl rfl) rfl (fun hc => TLe.put (d := 44) (VLe.opt hc) (TLe.refl _)) (fun hc => QOp.call rfl (by exact Tryz.call15) fun h' hl' => by exact settled_calls _ hP3.inv.st2.1 hP3.inv.st2.2 h') ?_
        refine AOrd.q rfl rfl rfl rfl (q_pickg rfl rfl (fun hp => by first | exact VLe.opt hp | exact VLe.opt (by rw [hp]; rfl) | exact VLe.opt (by simp_all)) (fun hp => by exact VLe.refl _)) ?_
        refine AOrd.q rfl rfl rfl rfl (q_as rfl (rfl : _ = V.bool _)) ?_
        refine AOrd.nil ?_
        refine AW.ret ?_
        exact retQ.mk' (.one _) (VLe.of_eq (congrArg V.bool (by rw [runN, if_pos k1, k1, statesF_refl, settledF, hst, k3, k2]; rfl))) he3.le ⟨rfl, rfl⟩

end Go.Proofs.YtnbmcbkokaoapaaGreatDoor
