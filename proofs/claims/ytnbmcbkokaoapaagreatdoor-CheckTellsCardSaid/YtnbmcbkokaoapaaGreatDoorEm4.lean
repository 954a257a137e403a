/- Walks: a new emitter; showing. -/
import Derived.Test.YtnbmcbkokaoapaaGreatDoorEm3
namespace Go.Proofs.YtnbmcbkokaoapaaGreatDoor
open Go Go.AV
set_option maxRecDepth 100000
set_option maxHeartbeats 400000
def randF (l : List Int) : Int := if 4096 < (l.length : Int) then 19 else 0

theorem randCheck_calls (l : List Int) (h : Hp) : ACalls Tryz.prog G 32 [eInts l] h fun r h' => r = eE (randF l) ∧ h' = h := by
  refine ACalls.enter Tryz.func32 rfl Tryz.ntmps32 Tryz.results32 rfl ?_
  refine AW.seq ?_
  refine AW.region ?_
  refine AOps.q rfl rfl rfl (q_as rfl (rfl : _ = V.inil)) ?_
  refine AOps.nil ?_
  refine AW.seq ?_
  refine AW.seq ?_
  refine AW.region ?_
  refine AOps.q rfl rfl rfl (q_mv rfl (rfl : _ = V.sl _ _ _ _)) ?_
  refine AOps.q rfl rfl rfl (q_len rfl Tryz.underlying23 rfl) ?_
  refine AOps.q rfl rfl rfl (q_gt rfl rfl rfl) ?_
  refine AOps.nil ?_
  refine AW.cond rfl (fun c0 => ?_) (fun c0 => ?_)
  · skip
    refine AW.seq ?_
    refine AW.region ?_
    refine AOps.q rfl rfl rfl (q_iface rfl Tryz.underlying62 rfl) ?_
    refine AOps.q rfl rfl rfl (q_as rfl (rfl : _ = V.iface _ _)) ?_
    refine AOps.nil ?_
    refine AW.ret ?_
    exact retQ.mk (.one _) ⟨by show V.iface _ (V.int _ _) = _; rw [randF, if_pos (by simpa using c0)]; exact (eErr_ne (by decide)).symm, rfl⟩
  · skip
    refine AW.skip ?_
    refine AW.seq ?_
    refine AW.region ?_
    refine AOps.q rfl rfl rfl (q_as rfl (rfl : _ = V.inil)) ?_
    refine AOps.nil ?_
    refine AW.ret ?_
    exact retQ.mk (.one _) ⟨by show V.inil = _; rw [randF, if_neg (by simpa using c0)]; exact (eErr_zero _).symm, rfl⟩

def newF (s : St) (draws : List Int) : Em := (⟨s, draws, [], [], checkF s⟩ : Em).fail (randF draws)
theorem new_fill {pl : Array (Nat × Nat)} (hpl : pl = #[(0, 37), (37, 1), (38, 1), (39, 1), (40, 1)]) (s : St) (draws : List Int) (e : Int) {cs : List V} (hcs : cs = zState ++ [.snil, .snil, .snil, .inil]) :
    afill (pl[·]?) cs [(0, eState s), (1, eInts draws), (4, eE e)] = some (emCells ⟨s, draws, [], [], e⟩ .snil .snil) := by
  subst hpl hcs
  unfold emCells
  by_cases h : e = 0
  · simp only [h, eErr_zero]; rfl
  · simp only [eErr_ne h]; rfl
theorem new_at {h0 : Hp} {id : Nat} (hid : h0.fresh id) (s : St) (draws : List Int) (e : Int) : EmR h0 id ⟨s, draws, [], [], e⟩ .snil .snil :=
  ⟨⟨rfl, .inl ⟨rfl, rfl, rfl⟩⟩, ⟨rfl, .inl ⟨rfl, rfl, rfl⟩⟩, trivial, trivial, hid⟩

theorem new_calls (s : St) (draws : List Int) (hb : s.objs.length ≤ 1000000) (hl : ∀ z, (s.lists z).length ≤ 1000000) (hd : draws.length ≤ 1000000) (h : Hp) : ACalls Tryz.prog G 10 [eState s, eInts draws] h fun r h' => ∃ id, r = .ptr id 0 ∧ EmAt h id (newF s draws) h' := by
  refine ACalls.enter Tryz.func10 rfl Tryz.ntmps10 Tryz.results10 rfl ?_
  refine AW.seq ?_
  refine AW.region ?_
  refine AOps.q rfl rfl rfl (q_boxa rfl (rfl : _ = V.agg _)) ?_
  refine AOps.q rfl rfl rfl (q_as rfl (rfl : _ = V.pnil)) ?_
  refine AOps.nil ?_
  refine AW.seq ?_
  refine AW.draw [] [] [(0, true), (1, true), (2, true), (3, true), (4, true), (5, true), (6, true), (7, false), (8, true)] mixed (by kernel_rfl) rfl (by kernel_rfl) ?_
  refine AOrd.q rfl rfl rfl rfl (q_load_iW rfl Tryz.isAgg29 Tryz.sizeOf29 rfl (by rfl)) ?_
  refine AOrd.q rfl rfl rfl rfl (QOp.call rfl (by exact Tryz.call28) fun h' hl' => by exact copy_calls _ (by assumption) (by assumption) h') ?_
  refine AOrd.q rfl rfl rfl rfl (q_mv rfl (rfl : _ = V.sl _ _ _ _)) ?_
  refine AOrd.q rfl rfl rfl rfl (QOp.call rfl (by exact Tryz.call29) fun h' hl' => by exact cloneI_calls _ _ (by assumption) h') ?_
  refine AOrd.q rfl rfl rfl rfl (q_load_iW rfl Tryz.isAgg29 Tryz.sizeOf29 rfl (by rfl)) ?_
  refine AOrd.q rfl rfl rfl rfl (QOp.call rfl (by exact Tryz.call30) fun h' hl' => by exact check_calls _ (by assumption) (by assumption) h') ?_
  refine AOrd.q rfl rfl rfl rfl (q_buildS (ds := emCells ⟨s, draws, [], [], checkF s⟩ .snil .snil) rfl Tryz.zeroValue57 Tryz.underlying57 (pl57 Tryz.underlying57) rfl (by exact new_fill rfl s draws (checkF s) rfl)) ?_
  refine AOrd.s' rfl rfl rfl (a_boxa rfl (rfl : _ = V.agg _) (fun id13 hid13 => ⟨?_, HLe.setBox hid13.1⟩))
  refine AOrd.q rfl rfl rfl rfl (q_as rfl (rfl : _ = V.ptr _ _)) ?_
  refine AOrd.nil ?_
  refine AW.seq ?_
  refine AW.region ?_
  refine AOps.q rfl rfl rfl (q_mv rfl (rfl : _ = V.ptr _ _)) ?_
  refine AOps.q rfl rfl rfl (q_mv rfl (rfl : _ = V.sl _ _ _ _)) ?_
  refine AOps.q rfl rfl rfl (QOp.call rfl (by exact Tryz.call32) fun h' hl' => by exact randCheck_calls _ h') ?_
  refine AOps.s rfl rfl rfl ((AStep.call rfl (by exact Tryz.call31) (fail_calls _ .snil .snil _ id13 _)).mono ?_)
  rintro x3 h3 ⟨rfl, rfl⟩
  refine AOps.nil ?_
  refine AW.seq ?_
  refine AW.region ?_
  refine AOps.q rfl rfl rfl (q_mv rfl (rfl : _ = V.ptr _ _)) ?_
  refine AOps.q rfl rfl rfl (q_as rfl (rfl : _ = V.ptr _ _)) ?_
  refine AOps.nil ?_
  refine AW.ret ?_
  exact retQ.mk (.one _) ⟨id13, rfl, fail_at (new_at hid13 s draws (checkF s)) _⟩

/-- The event by which an object's bits are others. -/
def turnF (s : St) (i : Int) (g : Int → Int) : List Ev :=
  if i < 0 ∨ (s.objs.length : Int) ≤ i then [] else if g (s.objs.getD i.toNat noObj 17) = s.objs.getD i.toNat noObj 17 then [] else [⟨2, i, 17, s.objs.getD i.toNat noObj 17, g (s.objs.getD i.toNat noObj 17), 0⟩]

theorem turn_calls (s : St) (i : Int) (fn : FuncId) (fs caps : List V) (g : Int → Int) (hf : ∀ args w, (callFunc fn args).run Tryz.prog w = .ok (.enter fn args) w) (h : Hp) (hg : ∀ x, ∀ h', HLe h' h → ACalls Tryz.prog G fn (fs ++ [.int .i64 x] ++ caps) h' fun r h'' => r = .int .i64 (g x) ∧ h'' = h') :
    ACalls Tryz.prog G 132 [eState s, .int .i64 i, .func (.func fn) fs caps] h fun r h' => r = eEvs (turnF s i g) ∧ h' = h := by
  refine ACalls.enter Tryz.func132 rfl Tryz.ntmps132 Tryz.results132 rfl ?_
  refine AW.seq ?_
  refine AW.region ?_
  refine AOps.q rfl rfl rfl (q_boxa rfl (rfl : _ = V.agg _)) ?_
  refine AOps.q rfl rfl rfl (q_as rfl (rfl : _ = V.snil)) ?_
  refine AOps.nil ?_
  refine AW.seq ?_
  refine AW.seq ?_
  refine AW.region ?_
  refine AOps.q rfl rfl rfl (q_mv rfl (rfl : _ = V.int _ _)) ?_
  refine AOps.q rfl rfl rfl (q_lt rfl rfl rfl) ?_
  refine AOps.q rfl rfl rfl (q_mv rfl (rfl : _ = V.bool _)) ?_
  refine AOps.g (wanted_f rfl rfl) rfl rfl (fun hc => TLe.refl _) (fun hc => q_mv rfl (rfl : _ = V.int _ _)) ?_
  refine AOps.g (wanted_f rfl rfl) rfl rfl (fun hc => TLe.refl _) (fun hc => q_fa_i rfl Tryz.underlying29 rfl (by exact Tryz.sizeOf22) (by decide) rfl (rfl : _ = List.drop 0 _)) ?_
  refine AOps.g (wanted_f rfl rfl) rfl rfl (fun hc => TLe.put (d := 13) (VLe.opt hc) (TLe.refl _)) (fun hc => q_load_i1 rfl Tryz.isAgg22 rfl rfl) ?_
  refine AOps.g (wanted_f rfl rfl) rfl rfl (fun hc => TLe.put (d := 14) (VLe.opt hc) (TLe.refl _)) (fun hc => q_len rfl Tryz.underlying22 rfl) ?_
  refine AOps.g (wanted_f rfl rfl) rfl rfl (fun hc => TLe.put (d := 15) (VLe.opt hc) (TLe.put (d := 12) (VLe.opt hc) (TLe.refl _))) (fun hc => q_ge rfl rfl rfl) ?_
  refine AOps.q rfl rfl rfl (q_pickg rfl rfl (fun hp => by exact VLe.refl _) (fun hp => by first | exact VLe.opt hp | exact VLe.opt (by rw [hp]; rfl) | exact VLe.opt (by simp_all))) ?_
  refine AOps.nil ?_
  refine AW.cond rfl (fun c0 => ?_) (fun c0 => ?_)
  · skip
    refine AW.seq ?_
    refine AW.region ?_
    refine AOps.q rfl rfl rfl (q_as rfl (rfl : _ = V.snil)) ?_
    refine AOps.nil ?_
    refine AW.ret ?_
    exact retQ.mk' (.one _) (by rw [turnF, if_pos (turn_out c0)]; exact VLe.nilimm) (.refl _) ⟨rfl, rfl⟩
  · have hi := turn_in c0
    refine AW.skip ?_
    refine AW.seq ?_
    refine AW.region ?_
    refine AOps.q rfl rfl rfl (q_fa_i rfl Tryz.underlying29 rfl (by exact Tryz.sizeOf22) (by decide) rfl (rfl : _ = List.drop 0 _)) ?_
    refine AOps.q rfl rfl rfl (q_load_i1 rfl Tryz.isAgg22 rfl rfl) ?_
    refine AOps.q rfl rfl rfl (q_mv rfl (rfl : _ = V.int _ _)) ?_
    refine AOps.q rfl rfl rfl (q_ia_s rfl Tryz.underlying22 Tryz.sizeOf49 rfl rfl (by omega) (by omega) (cObjs_elem' (by omega) (by omega))) ?_
    refine AOps.q rfl rfl rfl (q_ia_ai rfl Tryz.underlying49 Tryz.sizeOf3 rfl rfl (by decide) (by decide) rfl) ?_
    refine AOps.q rfl rfl rfl (q_load_i1 rfl Tryz.isAgg3 rfl rfl) ?_
    refine AOps.q rfl rfl rfl (q_as rfl (rfl : _ = V.int _ _)) ?_
    refine AOps.nil ?_
    refine AW.seq ?_
    refine AW.region ?_
    refine AOps.q rfl rfl rfl (q_mv rfl (rfl : _ = V.func _ _ _)) ?_
    refine AOps.q rfl rfl rfl (q_mv rfl (rfl : _ = V.int _ _)) ?_
    refine AOps.q rfl rfl rfl (QOp.callv rfl rfl hf (fun h2 hl => hg _ h2 hl)) ?_
    refine AOps.q rfl rfl rfl (q_as rfl (rfl : _ = V.int _ _)) ?_
    refine AOps.nil ?_
    refine AW.seq ?_
    refine AW.seq ?_
    refine AW.region ?_
    refine AOps.q rfl rfl rfl (q_mv rfl (rfl : _ = V.int _ _)) ?_
    refine AOps.q rfl rfl rfl (q_mv rfl (rfl : _ = V.int _ _)) ?_
    refine AOps.q rfl rfl rfl (q_eq rfl rfl rfl) ?_
    refine AOps.nil ?_
    refine AW.cond rfl (fun c1 => ?_) (fun c1 => ?_)
    · skip
      refine AW.seq ?_
      refine AW.region ?_
      refine AOps.q rfl rfl rfl (q_as rfl (rfl : _ = V.snil)) ?_
      refine AOps.nil ?_
      refine AW.ret ?_
      exact retQ.mk' (.one _) (by rw [turnF, if_neg (by have := turn_in c0; omega), if_pos (by simpa using c1)]; exact VLe.nilimm) (.refl _) ⟨rfl, rfl⟩
    · skip
      refine AW.skip ?_
      refine AW.seq ?_
      refine AW.region ?_
      refine AOps.q rfl rfl rfl (q_mv rfl (rfl : _ = V.int _ _)) ?_
      refine AOps.q rfl rfl rfl (q_mv rfl (rfl : _ = V.int _ _)) ?_
      refine AOps.q rfl rfl rfl (q_mv rfl (rfl : _ = V.int _ _)) ?_
      refine AOps.q rfl rfl rfl (q_buildS (ds := cEv ⟨2, i, 17, s.objs.getD i.toNat noObj 17, g (s.objs.getD i.toNat noObj 17), 0⟩) rfl Tryz.zeroValue84 Tryz.underlying84 (pl84 Tryz.underlying84) rfl (by kernel_rfl)) ?_
      refine AOps.q rfl rfl rfl (q_buildSl rfl Tryz.underlying54 Tryz.sizeOf84 Tryz.zeroValue84 rfl rfl rfl rfl rfl) ?_
      refine AOps.q rfl rfl rfl (q_as rfl (rfl : _ = V.sl _ _ _ _)) ?_
      refine AOps.nil ?_
      refine AW.ret ?_
      exact retQ.mk' (.one _) (by rw [turnF, if_neg (by have := turn_in c0; omega), if_neg (by simpa using c1)]; exact VLe.fullimm) (.refl _) ⟨rfl, rfl⟩

def showG (p : Int) (was : Int) : Int := bitop .or .i64 was (bitop .and .i64 p 3)

theorem show1_calls (p x : Int) (h : Hp) : ACalls Tryz.prog G 133 [.int .i64 x, .iptr [.int .i64 p]] h fun r h' => r = .int .i64 (showG p x) ∧ h' = h := by
  refine ACalls.enter Tryz.func133 rfl Tryz.ntmps133 Tryz.results133 rfl ?_
  refine AW.seq ?_
  refine AW.region ?_
  refine AOps.q rfl rfl rfl (q_as rfl (rfl : _ = V.int _ _)) ?_
  refine AOps.nil ?_
  refine AW.seq ?_
  refine AW.region ?_
  refine AOps.q rfl rfl rfl (q_mv rfl (rfl : _ = V.int _ _)) ?_
  refine AOps.q rfl rfl rfl (q_load_i1 rfl Tryz.isAgg3 rfl rfl) ?_
  refine AOps.q rfl rfl rfl (q_bit rfl rfl rfl rfl) ?_
  refine AOps.q rfl rfl rfl (q_bit rfl rfl rfl rfl) ?_
  refine AOps.q rfl rfl rfl (q_as rfl (rfl : _ = V.int _ _)) ?_
  refine AOps.nil ?_
  refine AW.ret ?_
  exact retQ.mk (.one _) ⟨rfl, rfl⟩

theorem show_calls (s : St) (i p : Int) (h : Hp) : ACalls Tryz.prog G 111 [eState s, .int .i64 i, .int .i64 p] h fun r h' => r = eEvs (turnF s i (showG p)) ∧ h' = h := by
  refine ACalls.enter Tryz.func111 rfl Tryz.ntmps111 Tryz.results111 rfl ?_
  refine AW.seq ?_
  refine AW.region ?_
  refine AOps.q rfl rfl rfl (q_boxa rfl (rfl : _ = V.agg _)) ?_
  refine AOps.q rfl rfl rfl (q_boxi rfl rfl) ?_
  refine AOps.q rfl rfl rfl (q_as rfl (rfl : _ = V.snil)) ?_
  refine AOps.nil ?_
  refine AW.seq ?_
  refine AW.region ?_
  refine AOps.q rfl rfl rfl (q_load_iW rfl Tryz.isAgg29 Tryz.sizeOf29 rfl (by rfl)) ?_
  refine AOps.q rfl rfl rfl (q_mv rfl (rfl : _ = V.int _ _)) ?_
  refine AOps.q rfl rfl rfl (q_func rfl) ?_
  refine AOps.q rfl rfl rfl (QOp.call rfl (by exact Tryz.call132) fun h2 hl => by exact turn_calls s i 133 [] [V.iptr [.int .i64 p]] (showG p) Tryz.call133 h2 fun x h3 _ => show1_calls p x h3) ?_
  refine AOps.q rfl rfl rfl (q_as rfl (rfl : _ = V.sl _ _ _ _)) ?_
  refine AOps.nil ?_
  refine AW.ret ?_
  exact retQ.mk (.one _) ⟨rfl, rfl⟩

def Em.showF (m : Em) (i p : Int) : Em := if m.err = 0 then m.doL (turnF m.now i (showG p)) else m
theorem turnF_k {s : St} {i : Int} {g : Int → Int} : (∀ x ∈ turnF s i g, x.k ≠ 0 ∧ x.k ≠ 5) ∧ (turnF s i g).length ≤ 1000 := by
  unfold turnF; split
  · exact ⟨by simp, by simp⟩
  · split
    · exact ⟨by simp, by simp⟩
    · exact ⟨by simp, by simp⟩

theorem showF_calls (i p : Int) {h0 : Hp} {id : Nat} {m : Em} {h : Hp} (he : EmAt h0 id m h) (hI : EmI m) : ACalls Tryz.prog G 87 [.ptr id 0, .int .i64 i, .int .i64 p] h fun r h' => r = .tup [] ∧ EmAt h0 id (m.showF i p) h' := by
  obtain ⟨ve, vp, hr, rfl⟩ := he
  refine ACalls.enter Tryz.func87 rfl Tryz.ntmps87 Tryz.results87 rfl ?_
  refine AW.seq ?_
  refine AW.region ?_
  refine AOps.q rfl rfl rfl (q_mv rfl (rfl : _ = V.ptr _ _)) ?_
  refine AOps.q rfl rfl rfl (QOp.call rfl (by exact Tryz.call13) fun h' hl' => by exact err_calls (hl'.box _ _ (Hp.box_setBox _ _ _))) ?_
  refine AOps.q rfl rfl rfl (q_eqerr Tryz.underlying38 rfl rfl) ?_
  refine AOps.nil ?_
  refine AW.cond rfl (fun c0 => ?_) (fun c0 => ?_)
  · skip
    refine AW.region ?_
    refine AOps.q rfl rfl rfl (q_mv rfl (rfl : _ = V.ptr _ _)) ?_
    refine AOps.q rfl rfl rfl (q_mv rfl (rfl : _ = V.ptr _ _)) ?_
    refine AOps.q rfl rfl rfl (q_nc rfl (rfl : _ = V.ptr _ _) rfl) ?_
    refine AOps.q rfl rfl rfl (q_fa_b rfl Tryz.underlying57 rfl (by exact Tryz.sizeOf29) (by decide) rfl (rfl : _ = 0)) ?_
    refine AOps.q rfl rfl rfl (q_load_bN (ds := cState m.now) rfl Tryz.isAgg29 Tryz.sizeOf29 (by decide) rfl (by exact Hp.box_setBox _ _ _) rfl rfl) ?_
    refine AOps.q rfl rfl rfl (q_mv rfl (rfl : _ = V.int _ _)) ?_
    refine AOps.q rfl rfl rfl (q_mv rfl (rfl : _ = V.int _ _)) ?_
    refine AOps.q rfl rfl rfl (QOp.call rfl (by exact Tryz.call111) fun h' hl' => by exact show_calls _ _ _ h') ?_
    refine AOps.s rfl rfl rfl ((AStep.call rfl (by exact Tryz.call57) (doL_calls (turnF m.now i (showG p)) turnF_k.1 turnF_k.2 (k := .imm) ⟨ve, vp, hr, rfl⟩ hI)).mono ?_)
    rintro x3 h3 ⟨rfl, he3⟩
    refine AOps.nil ?_
    exact retQ.mk .none ⟨rfl, by rw [Em.showF, if_pos (by simpa using c0)]; exact he3⟩
  · skip
    refine AW.skip ?_
    exact retQ.mk .none ⟨rfl, by rw [Em.showF, if_neg (by simpa using c0)]; exact ⟨ve, vp, hr, rfl⟩⟩

end Go.Proofs.YtnbmcbkokaoapaaGreatDoor
