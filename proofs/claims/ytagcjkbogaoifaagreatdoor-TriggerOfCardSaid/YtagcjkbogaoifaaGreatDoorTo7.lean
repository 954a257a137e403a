/- Walks: a new emitter; showing. -/
import Derived.Test.YtagcjkbogaoifaaGreatDoorTo6
namespace Go.Proofs.YtagcjkbogaoifaaGreatDoor
open Go Go.AV Go.Proofs.Tryz
set_option maxRecDepth 100000
set_option maxHeartbeats 400000
def randF (l : List Int) : Int := if 4096 < (l.length : Int) then 19 else 0

theorem randCheck_calls (l : List Int) (h : Hp) : ACalls prog G 38 [eInts l] h fun r h' => r = eE (randF l) ∧ h' = h := by
  refine ACalls.enter func38 rfl ntmps38 results38 rfl ?_
  refine .seq <|
    .region ?_
  refine .u rfl rfl rfl (q_as rfl (rfl : _ = V.inil)) ?_
  refine .nil <|
    .seq <|
    .seq <|
    .region <|
    .mS rfl rfl <|
    .ln rfl underlying23 rfl ?_
  refine .u rfl rfl rfl (q_gt rfl rfl rfl) ?_
  refine .nil ?_
  refine AW.cond rfl (fun c0 => ?_) (fun c0 => ?_)
  · skip
    refine .seq <|
      .region ?_
    refine .u rfl rfl rfl (q_iface rfl underlying97 rfl) ?_
    refine .u rfl rfl rfl (q_as rfl (rfl : _ = V.iface _ _)) ?_
    refine .nil ?_
    refine AW.ret ?_
    exact retQ.mk (.one _) ⟨by show V.iface _ (V.int _ _) = _; rw [randF, if_pos (by simpa using c0)]; exact (eErr_ne (by decide)).symm, rfl⟩
  · skip
    refine AW.skip ?_
    refine .seq <|
      .region ?_
    refine .u rfl rfl rfl (q_as rfl (rfl : _ = V.inil)) ?_
    refine .nil ?_
    refine AW.ret ?_
    exact retQ.mk (.one _) ⟨by show V.inil = _; rw [randF, if_neg (by simpa using c0)]; exact (eErr_zero _).symm, rfl⟩

def newF (s : St) (draws : List Int) : Em := (⟨s, draws, [], [], checkF s⟩ : Em).fail (randF draws)
theorem new_fill {pl : Array (Nat × Nat)} (hpl : pl = #[(0, 37), (37, 1), (38, 1), (39, 1), (40, 1)]) (s : St) (draws : List Int) (e : Int) {cs : List V} (hcs : cs = zState ++ [.snil, .snil, .snil, .inil]) :
    afill (pl[·]?) cs [(0, eState s), (1, eInts draws), (4, eE e)] = some (emCells ⟨s, draws, [], [], e⟩ .snil .snil) := by
  subst hpl hcs
  unfold emCells
  by_cases h : e = 0
  · simp only [h, eErr_zero]; rfl
  · simp only [eErr_ne h]; rfl
theorem new_at {h0 : Hp} {id : Nat} (hid : h0.fresh id) (s : St) (draws : List Int) (e : Int) : EmR h0 id ⟨s, draws, [], [], e⟩ .snil .snil :=
  ⟨⟨rfl, .inl ⟨rfl, rfl, rfl⟩⟩, ⟨rfl, .inl ⟨rfl, rfl, rfl⟩⟩, trivial, trivial, hid⟩

theorem new_calls (s : St) (draws : List Int) (hb : s.objs.length ≤ 1000000) (hl : ∀ z, (s.lists z).length ≤ 1000000) (hd : draws.length ≤ 1000000) (h : Hp) : ACalls prog G 13 [eState s, eInts draws] h fun r h' => ∃ id, r = .ptr id 0 ∧ EmAt h id (newF s draws) h' := by
  refine ACalls.enter func13 rfl ntmps13 results13 rfl ?_
  refine .seq <|
    .region <|
    .bx rfl rfl ?_
  refine .u rfl rfl rfl (q_as rfl (rfl : _ = V.pnil)) ?_
  refine .nil <|
    .seq ?_
  refine AW.draw [] [] [(0, true), (1, true), (2, true), (3, true), (4, true), (5, true), (6, true), (7, false), (8, true)] mixed (by kernel_rfl) rfl (by kernel_rfl) ?_
  refine .q rfl rfl rfl rfl (q_load_iW rfl isAgg29 sizeOf29 rfl (by rfl)) ?_
  refine .q rfl rfl rfl rfl (QOp.call rfl (by exact call34) fun h' hl' => by exact copy_calls _ (by assumption) (by assumption) h') ?_
  refine .q rfl rfl rfl rfl (q_mv rfl (rfl : _ = V.sl _ _ _ _)) ?_
  refine .q rfl rfl rfl rfl (QOp.call rfl (by exact call35) fun h' hl' => by exact cloneI_calls _ _ (by assumption) h') ?_
  refine .q rfl rfl rfl rfl (q_load_iW rfl isAgg29 sizeOf29 rfl (by rfl)) ?_
  refine .q rfl rfl rfl rfl (QOp.call rfl (by exact call36) fun h' hl' => by exact check_calls _ (by assumption) (by assumption) h') ?_
  refine .q rfl rfl rfl rfl (q_buildS (ds := emCells ⟨s, draws, [], [], checkF s⟩ .snil .snil) rfl zeroValue86 underlying86 (pl86 underlying86) rfl (by exact new_fill rfl s draws (checkF s) rfl)) ?_
  refine AOrd.s' rfl rfl rfl (a_boxa rfl (rfl : _ = V.agg _) (fun id13 hid13 => ⟨?_, HLe.setBox hid13.1⟩))
  refine .q rfl rfl rfl rfl (q_as rfl (rfl : _ = V.ptr _ _)) ?_
  refine AOrd.nil ?_
  refine .seq <|
    .region <|
    .mP rfl rfl <|
    .mS rfl rfl ?_
  refine .u rfl rfl rfl (QOp.call rfl call38 fun h' hl' => by exact randCheck_calls _ h') ?_
  refine AOps.s rfl rfl rfl ((AStep.call rfl (by exact call37) (fail_calls _ .snil .snil _ id13 _)).mono ?_)
  rintro x3 h3 ⟨rfl, rfl⟩
  refine .nil <|
    .seq <|
    .region <|
    .mP rfl rfl <|
    .aP rfl rfl <|
    .nil ?_
  refine AW.ret ?_
  exact retQ.mk (.one _) ⟨id13, rfl, fail_at (new_at hid13 s draws (checkF s)) _⟩

/-- The event by which an object's bits are others. -/
def turnF (s : St) (i : Int) (g : Int → Int) : List Ev :=
  if i < 0 ∨ (s.objs.length : Int) ≤ i then [] else if g (s.objs.getD i.toNat noObj 17) = s.objs.getD i.toNat noObj 17 then [] else [⟨2, i, 17, s.objs.getD i.toNat noObj 17, g (s.objs.getD i.toNat noObj 17), 0⟩]

theorem turn_calls (s : St) (i : Int) (fn : FuncId) (fs caps : List V) (g : Int → Int) (hf : ∀ args w, (callFunc fn args).run prog w = .ok (.enter fn args) w) (h : Hp) (hg : ∀ x, ∀ h', HLe h' h → ACalls prog G fn (fs ++ [.int .i64 x] ++ caps) h' fun r h'' => r = .int .i64 (g x) ∧ h'' = h') :
    ACalls prog G 144 [eState s, .int .i64 i, .func (.func fn) fs caps] h fun r h' => r = eEvs (turnF s i g) ∧ h' = h := by
  refine ACalls.enter func144 rfl ntmps144 results144 rfl ?_
  refine .seq <|
    .region <|
    .bx rfl rfl <|
    .aN rfl rfl <|
    .nil <|
    .seq <|
    .seq <|
    .region <|
    .mI rfl rfl <|
    .ql rfl rfl rfl <|
    .mB rfl rfl ?_
  refine .gf rfl rfl rfl (fun _ => tl0) (fun hc => q_mv rfl (rfl : _ = V.int _ _)) ?_
  refine .gf rfl rfl rfl (fun _ => tl0) (fun hc => q_fa_i rfl underlying29 rfl (by exact sizeOf22) (by decide) rfl (rfl : _ = List.drop 0 _)) ?_
  refine .gf rfl rfl rfl (fun hc => tl1 13 (.opt hc)) (fun hc => q_load_i1 rfl isAgg22 rfl rfl) ?_
  refine .gf rfl rfl rfl (fun hc => tl1 14 (.opt hc)) (fun hc => q_len rfl underlying22 rfl) ?_
  refine .gf rfl rfl rfl (fun hc => tl2 15 12 (.opt hc) (.opt hc)) (fun hc => q_ge rfl rfl rfl) ?_
  refine .pf rfl rfl rfl rfl <|
    .nil ?_
  refine AW.cond rfl (fun c0 => ?_) (fun c0 => ?_)
  · skip
    refine .seq <|
      .region <|
      .aN rfl rfl <|
      .nil ?_
    refine AW.ret ?_
    exact retQ.mk' (.one _) (by rw [turnF, if_pos (turn_out c0)]; exact VLe.nilimm) (.refl _) ⟨rfl, rfl⟩
  · have hi := turn_in c0
    refine AW.skip ?_
    refine .seq <|
      .region <|
      .fi rfl f29_0 rfl <|
      .li rfl isAgg22 rfl rfl <|
      .mI rfl rfl ?_
    refine .u rfl rfl rfl (q_ia_s rfl underlying22 sizeOf72 rfl rfl (by omega) (by omega) (cObjs_elem' (by omega) (by omega))) ?_
    refine .u rfl rfl rfl (q_ia_ai rfl underlying72 sizeOf3 rfl rfl (by decide) (by decide) rfl) ?_
    refine .li rfl isAgg3 rfl rfl <|
      .aI rfl rfl <|
      .nil <|
      .seq <|
      .region ?_
    refine .u rfl rfl rfl (q_mv rfl (rfl : _ = V.func _ _ _)) ?_
    refine .mI rfl rfl ?_
    refine .u rfl rfl rfl (QOp.callv rfl rfl hf (fun h2 hl => hg _ h2 hl)) ?_
    refine .aI rfl rfl <|
      .nil <|
      .seq <|
      .seq <|
      .region <|
      .mI rfl rfl <|
      .mI rfl rfl <|
      .qe rfl rfl rfl <|
      .nil ?_
    refine AW.cond rfl (fun c1 => ?_) (fun c1 => ?_)
    · skip
      refine .seq <|
        .region <|
        .aN rfl rfl <|
        .nil ?_
      refine AW.ret ?_
      exact retQ.mk' (.one _) (by rw [turnF, if_neg (by have := turn_in c0; omega), if_pos (by simpa using c1)]; exact VLe.nilimm) (.refl _) ⟨rfl, rfl⟩
    · skip
      refine AW.skip ?_
      refine .seq <|
        .region <|
        .mI rfl rfl <|
        .mI rfl rfl <|
        .mI rfl rfl ?_
      refine .u rfl rfl rfl (q_buildS (ds := cEv ⟨2, i, 17, s.objs.getD i.toNat noObj 17, g (s.objs.getD i.toNat noObj 17), 0⟩) rfl zeroValue116 underlying116 (pl116 underlying116) rfl (by kernel_rfl)) ?_
      refine .u rfl rfl rfl (q_buildSl rfl underlying84 sizeOf116 zeroValue116 rfl rfl rfl rfl rfl) ?_
      refine .aS rfl rfl <|
        .nil ?_
      refine AW.ret ?_
      exact retQ.mk' (.one _) (by rw [turnF, if_neg (by have := turn_in c0; omega), if_neg (by simpa using c1)]; exact VLe.fullimm) (.refl _) ⟨rfl, rfl⟩

def showG (p : Int) (was : Int) : Int := bitop .or .i64 was (bitop .and .i64 p 3)

theorem show1_calls (p x : Int) (h : Hp) : ACalls prog G 146 [.int .i64 x, .iptr [.int .i64 p]] h fun r h' => r = .int .i64 (showG p x) ∧ h' = h := by
  refine ACalls.enter func146 rfl ntmps146 results146 rfl ?_
  refine .seq <|
    .region <|
    .aI rfl rfl <|
    .nil <|
    .seq <|
    .region <|
    .mI rfl rfl <|
    .li rfl isAgg3 rfl rfl ?_
  refine .u rfl rfl rfl (q_bit rfl rfl rfl rfl) ?_
  refine .u rfl rfl rfl (q_bit rfl rfl rfl rfl) ?_
  refine .aI rfl rfl <|
    .nil ?_
  refine AW.ret ?_
  exact retQ.mk (.one _) ⟨rfl, rfl⟩

theorem show_calls (s : St) (i p : Int) (h : Hp) : ACalls prog G 96 [eState s, .int .i64 i, .int .i64 p] h fun r h' => r = eEvs (turnF s i (showG p)) ∧ h' = h := by
  refine ACalls.enter func96 rfl ntmps96 results96 rfl ?_
  refine .seq <|
    .region <|
    .bx rfl rfl ?_
  refine .u rfl rfl rfl (q_boxi rfl rfl) ?_
  refine .aN rfl rfl <|
    .nil <|
    .seq <|
    .region <|
    .lw rfl isAgg29 sizeOf29 rfl rfl <|
    .mI rfl rfl ?_
  refine .u rfl rfl rfl (q_func rfl) ?_
  refine .u rfl rfl rfl (QOp.call rfl call144 fun h2 hl => by exact turn_calls s i 146 [] [V.iptr [.int .i64 p]] (showG p) call146 h2 fun x h3 _ => show1_calls p x h3) ?_
  refine .aS rfl rfl <|
    .nil ?_
  refine AW.ret ?_
  exact retQ.mk (.one _) ⟨rfl, rfl⟩

def Em.showF (m : Em) (i p : Int) : Em := if m.err = 0 then m.doL (turnF m.now i (showG p)) else m
theorem turnF_k {s : St} {i : Int} {g : Int → Int} : (∀ x ∈ turnF s i g, x.k ≠ 0 ∧ x.k ≠ 5) ∧ (turnF s i g).length ≤ 1000 := by
  unfold turnF; split
  · exact ⟨by simp, by simp⟩
  · split
    · exact ⟨by simp, by simp⟩
    · exact ⟨by simp, by simp⟩

theorem showF_calls (i p : Int) {h0 : Hp} {id : Nat} {m : Em} {h : Hp} (he : EmAt h0 id m h) (hI : EmI m) : ACalls prog G 48 [.ptr id 0, .int .i64 i, .int .i64 p] h fun r h' => r = .tup [] ∧ EmAt h0 id (m.showF i p) h' := by
  obtain ⟨ve, vp, hr, rfl⟩ := he
  refine ACalls.enter func48 rfl ntmps48 results48 rfl ?_
  refine .seq <|
    .region <|
    .mP rfl rfl ?_
  refine .u rfl rfl rfl (QOp.call rfl call18 fun h' hl' => by exact err_calls (hl'.box _ _ (Hp.box_setBox _ _ _))) ?_
  refine .u rfl rfl rfl (q_eqerr underlying58 rfl rfl) ?_
  refine .nil ?_
  refine AW.cond rfl (fun c0 => ?_) (fun c0 => ?_)
  · skip
    refine .region <|
      .mP rfl rfl <|
      .mP rfl rfl <|
      .nP rfl rfl <|
      .fb rfl f86_0 rfl rfl ?_
    refine .u rfl rfl rfl (q_load_bN (ds := cState m.now) rfl isAgg29 sizeOf29 (by decide) rfl (by exact bsb) rfl rfl) ?_
    refine .mI rfl rfl <|
      .mI rfl rfl ?_
    refine .u rfl rfl rfl (QOp.call rfl call96 fun h' hl' => by exact show_calls _ _ _ h') ?_
    refine AOps.s rfl rfl rfl ((AStep.call rfl (by exact call68) (doL_calls (turnF m.now i (showG p)) turnF_k.1 turnF_k.2 (k := .imm) ⟨ve, vp, hr, rfl⟩ hI)).mono ?_)
    rintro x3 h3 ⟨rfl, he3⟩
    refine .nil ?_
    exact retQ.mk .none ⟨rfl, by rw [Em.showF, if_pos (by simpa using c0)]; exact he3⟩
  · skip
    refine AW.skip ?_
    exact retQ.mk .none ⟨rfl, by rw [Em.showF, if_neg (by simpa using c0)]; exact ⟨ve, vp, hr, rfl⟩⟩

end Go.Proofs.YtagcjkbogaoifaaGreatDoor
/- Walks: what becomes pending. -/
namespace Go.Proofs.YtagcjkbogaoifaaGreatDoor
open Go Go.AV Go.Proofs.Tryz
set_option maxRecDepth 100000
set_option maxHeartbeats 1000000
theorem setTok_comm (h : Hp) {i j : Nat} (a b : Nat) (e : i ≠ j) : (h.setTok i a).setTok j b = (h.setTok j b).setTok i a := by
  simp only [Hp.setTok]; congr 1; funext k
  by_cases h1 : k = i
  · subst h1; simp [e]
  · by_cases h2 : k = j
    · subst h2; simp [h1]
    · simp [h1, h2]
/-- Two rows, in either order. -/
theorem tok_swap {v u : V} {h : Hp} (fu : vFresh u h) (fv : vFresh v (addTok u h)) : addTok v (addTok u h) = addTok u (addTok v h) ∧ vFresh v h ∧ vFresh u (addTok v h) := by
  by_cases hv : ∃ t n len cs, v = .sl (.own t) n len cs
  · obtain ⟨t, n, len, cs, rfl⟩ := hv
    by_cases hu : ∃ t n len cs, u = .sl (.own t) n len cs
    · obtain ⟨t2, n2, len2, cs2, rfl⟩ := hu
      have hne : t ≠ t2 := fun e => by subst e; have := fv.2; simp [addTok] at this
      refine ⟨setTok_comm _ _ _ hne.symm, ⟨fv.1, ?_⟩, ⟨fu.1, ?_⟩⟩
      · have := fv.2; simp only [addTok] at this; rwa [Hp.tok_setTok_ne _ _ hne] at this
      · show (h.setTok t _).tok t2 = none
        rw [Hp.tok_setTok_ne _ _ hne.symm]; exact fu.2
    · have e : ∀ h, addTok u h = h := fun h => by unfold addTok; split <;> first | rfl | (rename_i t n len cs; exact absurd ⟨t, n, len, cs, rfl⟩ hu)
      refine ⟨by rw [e, e], by rwa [e] at fv, ?_⟩
      unfold vFresh; split <;> first | trivial | (rename_i t n len cs; exact absurd ⟨t, n, len, cs, rfl⟩ hu)
  · have e : ∀ h, addTok v h = h := fun h => by unfold addTok; split <;> first | rfl | (rename_i t n len cs; exact absurd ⟨t, n, len, cs, rfl⟩ hv)
    refine ⟨by rw [e, e], ?_, by rw [e]; exact fu⟩
    unfold vFresh; split <;> first | trivial | (rename_i t n len cs; exact absurd ⟨t, n, len, cs, rfl⟩ hv)
theorem em_acc_p {h0 : Hp} {id : Nat} {m : Em} {ve vp : V} (r : EmR h0 id m ve vp) (cs : List V) : Go.AV.Acc ((addTok ve h0).setBox id cs) 3 m.pend.length (cPds m.pend) vp ((addTok ve (addTok vp h0)).setBox id cs) := by
  obtain ⟨s1, s2, s3⟩ := tok_swap r.fp r.fe
  rw [s1]
  refine acc_iff.2 ⟨r.ap, ?_, (addTok_setBox _ _ _ _).symm⟩
  have h2 := r.fi.2
  rw [s1] at h2
  unfold vFresh at *
  split
  · rename_i t n len c
    simp only [addTok] at h2
    have hne : t ≠ id := fun e => by subst e; simp at h2
    exact ⟨by rw [Hp.box_setBox_ne _ _ hne]; exact s3.1, s3.2⟩
  · trivial
theorem em_app_p {h0 h' : Hp} {id : Nat} {m : Em} {ve vp v' : V} {cs : List V} {x : Pd} (r : EmR h0 id m ve vp) (acc : Go.AV.Acc ((addTok ve h0).setBox id cs) 3 (m.pend.length + 1) (cPds m.pend ++ cPd x) v' h') :
    h'.box id = some cs ∧ (v'.cells = [v'] ∧ v'.solid = true) ∧ (∀ cs', h'.setBox id cs' = (addTok ve (addTok v' h0)).setBox id cs') ∧ EmR h0 id ⟨m.now, m.draws, m.evs, m.pend ++ [x], m.err⟩ ve v' := by
  obtain ⟨a, f, rfl⟩ := acc_iff.1 acc
  obtain ⟨s1, s2, s3⟩ := tok_swap r.fp r.fe
  have hc : cPds (m.pend ++ [x]) = cPds m.pend ++ cPd x := by simp [cPds]
  have hid : (addTok ve h0).fresh id := by
    refine ⟨by have := r.fi.1; rw [addTok_box, addTok_box] at this; rwa [addTok_box], ?_⟩
    cases e : (addTok ve h0).tok id with
    | none => rfl
    | some n => have := (addTok_le s3).tok id n e; rw [← s1, r.fi.2] at this; cases this
  have fe : vFresh v' (addTok ve h0) ∧ (addTok v' (addTok ve h0)).tok id = none := by
    unfold vFresh addTok at *
    split
    · rename_i t n len c
      simp only at f
      have hne : t ≠ id := fun e => by subst e; have := f.1; simp at this
      exact ⟨⟨by have := f.1; rwa [Hp.box_setBox_ne _ _ hne] at this, f.2⟩, by rw [Hp.tok_setTok_ne _ _ hne.symm]; exact hid.2⟩
    · exact ⟨trivial, hid.2⟩
  obtain ⟨q1, q2, q3⟩ := tok_swap s2 fe.1
  refine ⟨by rw [addTok_box, Hp.box_setBox], a.cells, fun cs' => by rw [addTok_setBox, Hp.setBox_setBox, q1], ?_⟩
  exact ⟨r.ae, by simpa [hc] using a, q2, q3, ⟨by rw [addTok_box, addTok_box]; have := hid.1; rwa [addTok_box] at this, by rw [← q1]; exact fe.2⟩⟩

def Em.add (m : Em) (i ctl : Int) (l : List Int) : Em := ⟨m.now, m.draws, m.evs, m.pend ++ l.map (fun k => ⟨i, k, ctl⟩), m.err⟩
def Em.awaitF (m : Em) (i w ctl : Int) : Em := (m.fail (cardE (m.now.objs.getD i.toNat noObj 0)).2).add i ctl (usesF (cardE (m.now.objs.getD i.toNat noObj 0)).1 w)
theorem add_next {m : Em} {i ctl : Int} {l : List Int} {q : Nat} (h : q < l.length) : m.add i ctl (l.take (q + 1)) = ⟨(m.add i ctl (l.take q)).now, m.draws, m.evs, (m.add i ctl (l.take q)).pend ++ [⟨i, l.getD q 0, ctl⟩], m.err⟩ := by
  simp only [Em.add, List.take_add_one, List.getElem?_eq_getElem h, getD_of h, Option.toList_some, List.map_append, List.map_cons, List.map_nil, List.append_assoc]

theorem await_calls (i w ctl : Int) {h0 : Hp} {id : Nat} {m : Em} {h : Hp} (he : EmAt h0 id m h) (hi : 0 ≤ i ∧ i < m.now.objs.length) (hp : m.pend.length ≤ 1000000) : ACalls prog G 71 [.ptr id 0, .int .i64 i, .int .i64 w, .int .i64 ctl] h fun r h' => r = .tup [] ∧ EmAt h0 id (m.awaitF i w ctl) h' := by
  obtain ⟨ve, vp, hr, rfl⟩ := he
  obtain ⟨cd, hcd⟩ : ∃ cd, cd = cardE (m.now.objs.getD i.toNat noObj 0) := ⟨_, rfl⟩
  have habs : cd.1.abs.length ≤ 1000 := by rw [hcd]; have := cardE_abs (m.now.objs.getD i.toNat noObj 0); omega
  have hus : (usesF cd.1 w).length ≤ 1000 := Nat.le_trans uses_le habs
  have hpf : (m.fail cd.2).pend.length ≤ 1000000 := by unfold Em.fail; split <;> exact hp
  refine ACalls.enter func71 rfl ntmps71 results71 rfl ?_
  refine .seq <|
    .region <|
    .mP rfl rfl <|
    .nP rfl rfl <|
    .fb rfl f86_0 rfl rfl <|
    .fb rfl f29_0 rfl rfl <|
    .lb rfl isAgg22 rfl rfl <|
    .mI rfl rfl ?_
  refine .u rfl rfl rfl (q_ia_s rfl underlying22 sizeOf72 rfl rfl (by omega) (by omega) (cObjs_elem' (by omega) (by omega))) ?_
  refine .u rfl rfl rfl (q_ia_ai rfl underlying72 sizeOf3 rfl rfl (by decide) (by decide) rfl) ?_
  refine .li rfl isAgg3 rfl rfl ?_
  refine .u rfl rfl rfl (QOp.call (x := .tup [eCard cd.1, eE cd.2]) rfl (by exact call72) fun h' hl' => by rw [hcd]; exact card_calls _ h') ?_
  refine .u rfl rfl rfl (q_mv rfl (rfl : _ = V.tup _)) ?_
  refine .u rfl rfl rfl (q_extract rfl rfl rfl) ?_
  refine .u rfl rfl rfl (q_extract rfl rfl rfl) ?_
  refine AOps.s rfl rfl rfl (a_alloc rfl zeroValue44 rfl (fun id8 hid8 => ?_))
  refine .sw sizeOf44 rfl rfl rfl rfl ?_
  refine AOps.done 8 rfl hid8 ?_
  refine .u rfl rfl rfl (q_as rfl (rfl : _ = eErr _ _)) ?_
  refine .nil <|
    .seq <|
    .region <|
    .mP rfl rfl ?_
  refine .u rfl rfl rfl (q_mv rfl (rfl : _ = eErr _ _)) ?_
  refine AOps.s rfl rfl rfl ((AStep.call rfl (by exact call37) (fail_calls _ ve vp cd.2 id _)).mono ?_)
  rintro x3 h3 ⟨rfl, rfl⟩
  refine .nil <|
    .seq <|
    .region <|
    .lw rfl isAgg44 sizeOf44 rfl rfl <|
    .mI rfl rfl ?_
  refine .u rfl rfl rfl (QOp.call rfl call63 fun h' hl' => by exact uses_calls cd.1 w habs h') ?_
  refine .ln rfl underlying23 rfl <|
    .mI rfl rfl <|
    .nil <|
    .block ?_
  refine AW.loop (fun n T hh => ∃ (q : Nat) , q ≤ (usesF cd.1 w).length ∧ n = (usesF cd.1 w).length - q ∧ T = put (put (put (put (put (put (T0) 32 (V.int .i64 (q : Nat))) 31 (V.int .i64 (usesF cd.1 w).length)) 30 (eInts (usesF cd.1 w))) 3 (V.int .i64 ctl)) 1 (V.int .i64 i)) 0 (V.ptr id 0) ∧ EmAt h0 id ((m.fail cd.2).add i ctl ((usesF cd.1 w).take q)) hh) ((usesF cd.1 w).length) ?_ ?_
  · skip
    refine Wk.mk (TLe.put (d := 0) (VLe.refl _) (TLe.put (d := 1) (VLe.refl _) (TLe.put (d := 3) (VLe.refl _) (TLe.put (d := 30) (VLe.refl _) (TLe.put (d := 31) (VLe.refl _) (TLe.put (d := 32) (by exact VLe.of_eq (congrArg (V.int .i64) (by first | rfl | omega))) (TLe.zero _))))))) (HLe.refl _) ⟨0, Nat.zero_le _, rfl, rfl, by rw [List.take_zero]; have := fail_at hr cd.2; simpa [Em.add] using this⟩
  · skip
    rintro n T h' ⟨q, hq, rfl, rfl, hem⟩
    refine .seq <|
      .region <|
      .ql rfl rfl rfl <|
      .nil <|
      .seq ?_
    refine AW.cond rfl (fun c0 => ?_) (fun c0 => ?_)
    · have hltq : q < (usesF cd.1 w).length := by have := of_decide_eq_true c0; omega
      obtain ⟨ve2, vp2, hr2, rfl⟩ := hem
      have hpl : ((m.fail cd.2).add i ctl ((usesF cd.1 w).take q)).pend.length ≤ 1002000 := by simp only [Em.add, List.length_append, List.length_map, List.length_take]; omega
      refine AW.skip ?_
      refine .seq <|
        .block <|
        .seq <|
        .region ?_
      refine .u rfl rfl rfl (q_ia_s rfl underlying23 sizeOf3 rfl rfl (by omega) (by omega) (cInts_at hltq)) ?_
      refine .li rfl isAgg3 rfl rfl <|
        .aI rfl rfl <|
        .nil <|
        .region <|
        .mP rfl rfl <|
        .mP rfl rfl <|
        .nP rfl rfl <|
        .fb rfl f86_39 rfl rfl <|
        .lb rfl isAgg53 rfl rfl <|
        .mI rfl rfl <|
        .mI rfl rfl <|
        .mI rfl rfl ?_
      refine .u rfl rfl rfl (q_buildS (ds := cPd ⟨i, (usesF cd.1 w).getD q 0, ctl⟩) rfl zeroValue95 underlying95 (pl95 underlying95) rfl (by kernel_rfl)) ?_
      refine .u rfl rfl rfl (q_buildSl (ds := cPd ⟨i, (usesF cd.1 w).getD q 0, ctl⟩) rfl underlying53 sizeOf95 zeroValue95 rfl rfl rfl rfl (by kernel_rfl)) ?_
      refine AOps.s rfl rfl rfl (a_append rfl underlying53 (i := t95) (by kernel_rfl) rfl (n := 3) (by' := 24) rfl rfl rfl rfl (em_acc_p hr2 _) rfl rfl (by decide) (by omega) (by omega) rfl (fun v3 h3 acc => ?_))
      obtain ⟨hb3, hc3, hs3, hr3⟩ := em_app_p hr2 acc
      refine .nP rfl rfl <|
        .fb rfl f86_39 rfl rfl ?_
      refine AOps.s0 rfl rfl (a_store1 rfl sizeOf53 rfl (by exact hb3) (rfl : _ = v3) hc3.1 hc3.2 (by exact Nat.le_of_ble_eq_true rfl) ?_)
      refine .nil <|
        .region <|
        .ad rfl rfl rfl (by omega) <|
        .mI rfl rfl <|
        .nil ?_
      refine Wk.mk (TLe.put (d := 0) (VLe.refl _) (TLe.put (d := 1) (VLe.refl _) (TLe.put (d := 3) (VLe.refl _) (TLe.put (d := 30) (VLe.refl _) (TLe.put (d := 31) (VLe.refl _) (TLe.put (d := 32) (by exact VLe.of_eq (congrArg (V.int .i64) (by first | rfl | omega))) (TLe.zero _))))))) (HLe.refl _) ⟨_, ?_, q + 1, ?_, rfl, rfl, by rw [add_next hltq]; exact ⟨ve2, v3, hr3, hs3 _⟩⟩
      · omega
      · omega
    · obtain rfl : q = (usesF cd.1 w).length := by have := of_decide_eq_false c0; omega
      refine AW.exit ?_
      rw [List.take_length] at hem
      exact retQ.mk .none ⟨rfl, by rw [Em.awaitF, ← hcd]; exact hem⟩

end Go.Proofs.YtagcjkbogaoifaaGreatDoor
/- Walks: putting an object somewhere. -/
namespace Go.Proofs.YtagcjkbogaoifaaGreatDoor
open Go Go.AV Go.Proofs.Tryz
set_option maxRecDepth 100000
set_option maxHeartbeats 1000000
theorem set_inv {m : Em} {e : Ev} {was n : Int} (hk : e.k ≠ 0) (h : EmI m) : EmI (m.set e was n) := by
  unfold Em.set; split
  · exact fail_inv h
  · exact doL_inv (by simpa using hk) h
theorem setF_inv {m : Em} {i f n : Int} (h : EmI m) : EmI (m.setF i f n) := by
  unfold Em.setF; split
  · exact h
  · split
    · exact doL_inv (by simp) h
    · exact set_inv (by simp) h
theorem gameF_inv {m : Em} {f n : Int} (h : EmI m) : EmI (m.gameF f n) := by
  unfold Em.gameF; split
  · exact h
  · split
    · exact doL_inv (by simp) h
    · exact set_inv (by simp) h
theorem showF_inv {m : Em} {i p : Int} (h : EmI m) : EmI (m.showF i p) := by
  unfold Em.showF; split
  · exact doL_inv (fun x hx => (turnF_k.1 x hx).1) h
  · exact h
/-- What stays as it is, whatever is set: how many objects there are; what is pending. -/
structure Same (m n : Em) : Prop where
  len : n.now.objs.length = m.now.objs.length
  pend : n.pend = m.pend
  draws : n.draws = m.draws
  evs : m.evs.length ≤ n.evs.length
  err : n.err = 0 → m.err = 0
theorem Same.rfl' {m : Em} : Same m m := ⟨rfl, rfl, rfl, Nat.le_refl _, id⟩
theorem Same.trans {a b c : Em} (h : Same a b) (g : Same b c) : Same a c := ⟨g.len.trans h.len, g.pend.trans h.pend, g.draws.trans h.draws, Nat.le_trans h.evs g.evs, fun e => h.err (g.err e)⟩
theorem moveF_len {s : St} {x : Ev} : (moveF s x).1.objs.length = s.objs.length := by
  by_cases h0 : (s.objs.length : Int) ≤ x.a
  · rw [moveF, if_pos h0]
  · cases h1 : (bif (removeF (s.lists x.b.toNat) x.c).2.2 != 0 then true else (removeF (s.lists x.b.toNat) x.c).2.1 != x.a) with
    | true => rw [move_bad h0 h1]
    | false =>
      by_cases h2 : (insertF (if x.d = x.b then (removeF (s.lists x.b.toNat) x.c).1 else s.lists x.d.toNat) x.e x.a).2 = 0
      · rw [move_ok h0 h1 rfl h2]; simp
      · rw [move_err h0 h1 rfl h2]
theorem evDo_len {s : St} {x : Ev} (hk : x.k ≠ 0) : (evDo s x).1.objs.length = s.objs.length := by
  by_cases hc : evCheck x = 0
  · rw [evDo, if_neg (by simpa using hc), if_neg hk]
    split
    · exact moveF_len
    · split
      · split
        · rfl
        · split
          · rfl
          · simp
      · split
        · split
          · rfl
          · rfl
        · split
          · rfl
          · rfl
  · rw [do_bad hc]
theorem do1_same {m : Em} {x : Ev} (hk : x.k ≠ 0) : Same m (m.do1 x) := by
  unfold Em.do1; split
  · exact .rfl'
  · rename_i h0
    have h0 : m.err = 0 := by simpa using h0
    split
    · exact ⟨evDo_len hk, rfl, rfl, Nat.le_refl _, fun _ => h0⟩
    · split
      · exact ⟨evDo_len hk, rfl, rfl, by simp, fun _ => h0⟩
      · exact ⟨evDo_len hk, rfl, rfl, Nat.le_refl _, fun _ => h0⟩
theorem do1_more {m : Em} {x : Ev} (h : (m.do1 x).err = 0) : (m.do1 x).evs.length = m.evs.length + 1 := by
  unfold Em.do1 at *
  split at h
  · rename_i h0; exact absurd h h0
  · rename_i h0; rw [if_neg h0]
    split at h
    · rename_i h1; exact absurd h h1
    · rename_i h1; rw [if_neg h1]
      split at h
      · rename_i h2; rw [if_pos h2]; simp
      · cases h
theorem doL_more {m : Em} {x : Ev} (h : (m.doL [x]).err = 0) : (m.doL [x]).evs.length = m.evs.length + 1 := do1_more h
theorem doL_same {m : Em} {l : List Ev} (hk : ∀ x ∈ l, x.k ≠ 0) : Same m (m.doL l) := by
  induction l generalizing m with
  | nil => exact .rfl'
  | cons x l ih => exact (do1_same (hk x (by simp))).trans (ih (m := m.do1 x) fun y hy => hk y (by simp [hy]))
theorem fail_same {m : Em} {e : Int} : Same m (m.fail e) := by
  unfold Em.fail; split
  · rename_i h; exact ⟨rfl, rfl, rfl, Nat.le_refl _, fun _ => h⟩
  · exact .rfl'
theorem set_same {m : Em} {e : Ev} {was n : Int} (hk : e.k ≠ 0) : Same m (m.set e was n) := by
  unfold Em.set; split
  · exact fail_same
  · exact doL_same (by simpa using hk)
theorem setF_same {m : Em} {i f n : Int} : Same m (m.setF i f n) := by
  unfold Em.setF; split
  · exact .rfl'
  · split
    · exact doL_same (by simp)
    · exact set_same (by simp)
theorem showF_same {m : Em} {i p : Int} : Same m (m.showF i p) := by
  unfold Em.showF; split
  · exact doL_same fun x hx => (turnF_k.1 x hx).1
  · exact .rfl'
def restL : List Int := [4, 5, 6, 7, 8, 9, 10, 11, 12]
def Em.restF (m : Em) (i : Int) (l : List Int) : Em := l.foldl (fun m f => m.setF i f 0) m
theorem restF_inv {m : Em} {i : Int} {l : List Int} (h : EmI m) : EmI (m.restF i l) := by
  induction l generalizing m with
  | nil => exact h
  | cons f l ih => exact ih (m := m.setF i f 0) (setF_inv h)
theorem restF_same {m : Em} {i : Int} {l : List Int} : Same m (m.restF i l) := by
  induction l generalizing m with
  | nil => exact .rfl'
  | cons f l ih => exact setF_same.trans (ih (m := m.setF i f 0))
theorem restF_next {m : Em} {i : Int} {k : Nat} (h : k < 9) : m.restF i (restL.take (k + 1)) = (m.restF i (restL.take k)).setF i (restL.getD k 0) 0 := by
  have hk : k < restL.length := h
  rw [Em.restF, Em.restF, List.take_add_one, List.getElem?_eq_getElem hk, getD_of hk, List.foldl_append]; rfl
def putEv (s : St) (i base : Int) : Ev :=
  let o := s.objs.getD i.toNat noObj
  let to := homeF o base
  ⟨1, i, o 3, idxF (s.lists (o 3).toNat) i, to, if o 3 = to then (s.lists to.toNat).length - 1 else (s.lists to.toNat).length⟩
/-- The middle of putting: where an object came from, what it was, where it goes to. -/
def Em.put2 (m : Em) (i to : Int) : Em := if to ≠ 8 then m.restF i restL else m
def Em.put3 (m : Em) (i to own : Int) : Em := if to < 8 then m.setF i 2 own else m
def Em.put4 (m : Em) (i to : Int) : Em := if to ≠ 9 then m.setF i 16 0 else m
def Em.put5 (m : Em) (i fr to : Int) : Em := if to = 8 ∧ fr ≠ to then m.setF i 5 1 else m
def Em.put7 (m : Em) (i fr to base ctl : Int) : Em :=
  if m.err ≠ 0 then m
  else if to = 8 ∧ fr ≠ to then m.awaitF i 2 (m.now.objs.getD i.toNat noObj 2)
  else if fr = 8 ∧ base = 4 then m.awaitF i 3 ctl
  else m
def Em.put6 (m : Em) (i base : Int) (o : Obj) : Em := ((((m.put2 i (homeF o base)).put3 i (homeF o base) (o 1)).put4 i (homeF o base)).put5 i (o 3) (homeF o base)).showF i (knowZoneF (homeF o base))
def Em.putF (m : Em) (i base : Int) : Em :=
  if m.err ≠ 0 then m
  else if inN i m.now.objs.length = false then m.fail 4
  else if basesF base = false then m.fail 12
  else
    let o := m.now.objs.getD i.toNat noObj
    ((m.doL [putEv m.now i base]).put6 i base o).put7 i (o 3) (homeF o base) base (o 2)
theorem put2_inv {m : Em} {i to : Int} (h : EmI m) : EmI (m.put2 i to) := by unfold Em.put2; split <;> first | exact h | exact restF_inv h
theorem put3_inv {m : Em} {i to o : Int} (h : EmI m) : EmI (m.put3 i to o) := by unfold Em.put3; split <;> first | exact h | exact setF_inv h
theorem put4_inv {m : Em} {i to : Int} (h : EmI m) : EmI (m.put4 i to) := by unfold Em.put4; split <;> first | exact h | exact setF_inv h
theorem put5_inv {m : Em} {i fr to : Int} (h : EmI m) : EmI (m.put5 i fr to) := by unfold Em.put5; split <;> first | exact h | exact setF_inv h
theorem put2_same {m : Em} {i to : Int} : Same m (m.put2 i to) := by unfold Em.put2; split <;> first | exact .rfl' | exact restF_same
theorem put3_same {m : Em} {i to o : Int} : Same m (m.put3 i to o) := by unfold Em.put3; split <;> first | exact .rfl' | exact setF_same
theorem put4_same {m : Em} {i to : Int} : Same m (m.put4 i to) := by unfold Em.put4; split <;> first | exact .rfl' | exact setF_same
theorem put5_same {m : Em} {i fr to : Int} : Same m (m.put5 i fr to) := by unfold Em.put5; split <;> first | exact .rfl' | exact setF_same
theorem must_fail {m : Em} {b : Bool} {e : Int} (h : m.err = 0) (hb : b = false) : m.must b e = m.fail e := by unfold Em.must Em.fail; rw [if_pos ⟨h, hb⟩, if_pos h]
theorem setBox_self {h : Hp} {id : Nat} {cs : List V} (hb : h.box id = some cs) : h.setBox id cs = h := by
  cases h with
  | mk b t =>
    simp only [Hp.setBox, Hp.mk.injEq, and_true] at *
    funext j
    by_cases e : j = id
    · subst e; simpa using hb.symm
    · simp [e]
theorem must_quiet {m : Em} {ve vp : V} {id : Nat} {h : Hp} (hb : h.box id = some (emCells m ve vp)) (hz : m.err = 0) {ok : Bool} (hok : ok = true) {e : Int} (he : e ≠ 0) : ACalls prog G 65 [.ptr id 0, .bool ok, .int .i64 e] h fun r h' => r = .bool true ∧ h' = h := by
  subst hok
  have e1 : h = h.setBox id (emCells m ve vp) := (setBox_self hb).symm
  have e2 : m.must true e = m := by unfold Em.must; rw [if_neg (by simp)]
  have := must_calls m ve vp true e he id h
  rw [e2, ← e1, hz] at this
  exact this
theorem put_cases (m : Em) (i base : Int) : m.err ≠ 0 ∨ (m.err = 0 ∧ inN i m.now.objs.length = false) ∨ (m.err = 0 ∧ inN i m.now.objs.length = true ∧ basesF base = false) ∨ (m.err = 0 ∧ inN i m.now.objs.length = true ∧ basesF base = true) := by
  by_cases h : m.err = 0
  · cases inN i m.now.objs.length <;> cases basesF base <;> simp [h]
  · exact .inl h
theorem inN_pick {i n : Int} {b : Bool} (h : inN i n = b) : (bif decide (0 ≤ i) then decide (i < n) else false) = b := by
  subst h; simp only [inN]; cases decide (0 ≤ i) <;> simp
theorem rest_ix {k : Nat} (h : k < 9) : ([.int .i64 4, .int .i64 5, .int .i64 6, .int .i64 7, .int .i64 8, .int .i64 9, .int .i64 10, .int .i64 11, .int .i64 12] : List V)[(k : Int).toNat * 1]? = some (.int .i64 (restL.getD k 0)) := by
  rw [Int.toNat_natCast, Nat.mul_one]
  match k, h with
  | 0, _ | 1, _ | 2, _ | 3, _ | 4, _ | 5, _ | 6, _ | 7, _ | 8, _ => rfl
theorem home_in {o : Obj} {b : Int} (h : basesF b = true) : 0 ≤ homeF o b ∧ homeF o b ≤ 10 := by
  simp only [basesF, homeF, zoneF, Bool.or_eq_true, beq_iff_eq, decide_eq_true_eq] at *
  grind

theorem putF_calls (i base : Int) {h0 : Hp} {id : Nat} {m : Em} {h : Hp} (he : EmAt h0 id m h) (hI : EmI m) (hp : m.pend.length ≤ 1000000) : ACalls prog G 25 [.ptr id 0, .int .i64 i, .int .i64 base] h fun r h' => r = .tup [] ∧ EmAt h0 id (m.putF i base) h' := by
  obtain ⟨ve, vp, hr, rfl⟩ := he
  refine ACalls.enter func25 rfl ntmps25 results25 rfl ?_
  refine .seq ?_
  refine AW.cut (fun T h1 => ∃ b, T = put (put (put (put T0 0 (V.ptr id 0)) 1 (V.int .i64 i)) 2 (V.int .i64 base)) 38 (V.bool b) ∧ ((b = true ∧ EmAt h0 id (m.putF i base) h1) ∨ (b = false ∧ h1 = (addTok ve (addTok vp h0)).setBox id (emCells m ve vp) ∧ m.err = 0 ∧ (0 ≤ i ∧ i < m.now.objs.length) ∧ basesF base = true))) ?_ ?_
  · skip
    have hbx : ((addTok ve (addTok vp h0)).setBox id (emCells m ve vp)).box id = some (emCells m ve vp) := Hp.box_setBox _ _ _
    rcases put_cases m i base with hz | ⟨hz, hi⟩ | ⟨hz, hi, hb⟩ | ⟨hz, hi, hb⟩
    · skip
      refine .region <|
        .mP rfl rfl ?_
      refine .u rfl rfl rfl (QOp.call rfl call18 fun h' hl' => by exact err_calls (hl'.box _ _ hbx)) ?_
      refine .u rfl rfl rfl (q_neerr underlying58 rfl rfl) ?_
      refine .mB rfl rfl ?_
      refine .gf rfl rfl rfl (fun _ => tl0) (fun hc => q_mv rfl (rfl : _ = V.ptr _ _)) ?_
      refine .gf rfl rfl rfl (fun _ => tl0) (fun hc => q_mv rfl (rfl : _ = V.int _ _)) ?_
      refine .gf rfl rfl rfl (fun hc => tl1 17 (.opt hc)) (fun hc => q_ge rfl rfl rfl) ?_
      refine .gf rfl rfl rfl (fun hc => tl1 18 (.opt hc)) (fun hc => q_mv rfl (rfl : _ = V.bool _)) ?_
      refine AOps.g (wanted_to rfl rfl) rfl rfl (fun _ => tl0) (fun hc => q_mv rfl (rfl : _ = V.int _ _)) ?_
      refine AOps.g (wanted_to rfl rfl) rfl rfl (fun _ => tl0) (fun hc => q_mv rfl (rfl : _ = V.ptr _ _)) ?_
      refine AOps.g (wanted_to rfl rfl) rfl rfl (fun hc => tl1 21 (.opt hc)) (fun hc => q_nc rfl (rfl : _ = V.ptr _ _) rfl) ?_
      refine AOps.g (wanted_to rfl rfl) rfl rfl (fun hc => tl1 22 (.opt hc)) (fun hc => q_fa_b rfl underlying86 rfl (by exact sizeOf29) (by decide) rfl (rfl : _ = 0)) ?_
      refine AOps.g (wanted_to rfl rfl) rfl rfl (fun hc => tl1 23 (.opt hc)) (fun hc => q_fa_b rfl underlying29 rfl (by exact sizeOf22) (by decide) rfl (rfl : _ = 0)) ?_
      refine AOps.g (wanted_to rfl rfl) rfl rfl (fun hc => tl1 24 (.opt hc)) (fun hc => q_load_b1 rfl isAgg22 rfl (by exact bsb) rfl) ?_
      refine AOps.g (wanted_to rfl rfl) rfl rfl (fun hc => tl1 25 (.opt hc)) (fun hc => q_len rfl underlying22 rfl) ?_
      refine AOps.g (wanted_to rfl rfl) rfl rfl (fun hc => tl2 26 20 (.opt hc) (.opt hc)) (fun hc => q_lt rfl rfl rfl) ?_
      refine .gf rfl rfl rfl (fun hc => tl1 19 (.opt hc)) (fun hc => q_pickg rfl rfl (fun hp => by first | exact VLe.opt hp | exact VLe.opt (by rw [hp]; rfl) | exact VLe.opt (by simp_all)) (fun hp => by exact VLe.refl _)) ?_
      refine .gf rfl rfl rfl (fun hc => tl2 28 16 (.opt hc) (.opt hc)) (fun hc => (absurd hc (by simp [hz]) : QOp _ _ _ _ _ (V.bool false))) ?_
      refine .gf rfl rfl rfl (fun hc => tl1 29 (.opt hc)) (fun hc => q_not rfl rfl) ?_
      refine .pf rfl rfl rfl rfl <|
        .mB rfl rfl ?_
      refine .gf rfl rfl rfl (fun _ => tl0) (fun hc => q_mv rfl (rfl : _ = V.ptr _ _)) ?_
      refine .gf rfl rfl rfl (fun _ => tl0) (fun hc => q_mv rfl (rfl : _ = V.int _ _)) ?_
      refine .gf rfl rfl rfl (fun hc => tl1 34 (.opt hc)) (fun hc => QOp.call rfl (by exact call66) fun h' hl' => by exact bases_calls _ h') ?_
      refine .gf rfl rfl rfl (fun hc => tl2 35 33 (.opt hc) (.opt hc)) (fun hc => (absurd hc (by simp [hz]) : QOp _ _ _ _ _ (V.bool false))) ?_
      refine .gf rfl rfl rfl (fun hc => tl1 36 (.opt hc)) (fun hc => q_not rfl rfl) ?_
      refine .pf rfl rfl rfl rfl <|
        .nil ?_
      exact Wk.mk (TLe.put (d := 38) (VLe.of_eq (congrArg V.bool (by simp [hz]))) (TLe.put (d := 2) (VLe.refl _) (TLe.put (d := 1) (VLe.refl _) (TLe.put (d := 0) (VLe.refl _) (TLe.zero _))))) (HLe.refl _) ⟨true, rfl, .inl ⟨rfl, by rw [Em.putF, if_pos hz]; exact ⟨ve, vp, hr, rfl⟩⟩⟩
    · skip
      have hA : (!(m.err != 0)) = true := by simp [hz]
      have hok := inN_pick hi
      refine .region <|
        .mP rfl rfl ?_
      refine .u rfl rfl rfl (QOp.call rfl call18 fun h' hl' => by exact err_calls (hl'.box _ _ hbx)) ?_
      refine .u rfl rfl rfl (q_neerr underlying58 rfl rfl) ?_
      refine .mB rfl rfl ?_
      refine .gf rfl rfl rfl (fun _ => tl0) (fun hc => q_mv rfl (rfl : _ = V.ptr _ _)) ?_
      refine .gf rfl rfl rfl (fun _ => tl0) (fun hc => q_mv rfl (rfl : _ = V.int _ _)) ?_
      refine .gf rfl rfl rfl (fun hc => tl1 17 (.opt hc)) (fun hc => q_ge rfl rfl rfl) ?_
      refine .gf rfl rfl rfl (fun hc => tl1 18 (.opt hc)) (fun hc => q_mv rfl (rfl : _ = V.bool _)) ?_
      refine AOps.g (wanted_to rfl rfl) rfl rfl (fun _ => tl0) (fun hc => q_mv rfl (rfl : _ = V.int _ _)) ?_
      refine AOps.g (wanted_to rfl rfl) rfl rfl (fun _ => tl0) (fun hc => q_mv rfl (rfl : _ = V.ptr _ _)) ?_
      refine AOps.g (wanted_to rfl rfl) rfl rfl (fun hc => tl1 21 (.opt hc)) (fun hc => q_nc rfl (rfl : _ = V.ptr _ _) rfl) ?_
      refine AOps.g (wanted_to rfl rfl) rfl rfl (fun hc => tl1 22 (.opt hc)) (fun hc => q_fa_b rfl underlying86 rfl (by exact sizeOf29) (by decide) rfl (rfl : _ = 0)) ?_
      refine AOps.g (wanted_to rfl rfl) rfl rfl (fun hc => tl1 23 (.opt hc)) (fun hc => q_fa_b rfl underlying29 rfl (by exact sizeOf22) (by decide) rfl (rfl : _ = 0)) ?_
      refine AOps.g (wanted_to rfl rfl) rfl rfl (fun hc => tl1 24 (.opt hc)) (fun hc => q_load_b1 rfl isAgg22 rfl (by exact bsb) rfl) ?_
      refine AOps.g (wanted_to rfl rfl) rfl rfl (fun hc => tl1 25 (.opt hc)) (fun hc => q_len rfl underlying22 rfl) ?_
      refine AOps.g (wanted_to rfl rfl) rfl rfl (fun hc => tl2 26 20 (.opt hc) (.opt hc)) (fun hc => q_lt rfl rfl rfl) ?_
      refine .gf rfl rfl rfl (fun hc => tl1 19 (.opt hc)) (fun hc => q_pickg rfl rfl (fun hp => by first | exact VLe.opt hp | exact VLe.opt (by rw [hp]; rfl) | exact VLe.opt (by simp_all)) (fun hp => by exact VLe.refl _)) ?_
      refine AOps.gy (wanted_yes (wanted_f rfl rfl) hA) rfl rfl (AStep.le (ev_le (TLe.put (d := 16) (VLe.opt hA) (TLe.put (d := 28) (VLe.opt hA) (TLe.refl _)))) ((AStep.call rfl (by exact call65) (must_calls m ve vp _ 4 (by decide) id _)).mono ?_))
      rintro x3 h3 ⟨rfl, rfl⟩
      refine .gf rfl rfl rfl (fun _ => tl0) (fun hc => q_not rfl rfl) ?_
      refine .pf rfl rfl rfl rfl <|
        .mB rfl rfl ?_
      refine .gf rfl rfl rfl (fun _ => tl0) (fun hc => q_mv rfl (rfl : _ = V.ptr _ _)) ?_
      refine .gf rfl rfl rfl (fun _ => tl0) (fun hc => q_mv rfl (rfl : _ = V.int _ _)) ?_
      refine .gf rfl rfl rfl (fun hc => tl1 34 (.opt hc)) (fun hc => QOp.call rfl (by exact call66) fun h' hl' => by exact bases_calls _ h') ?_
      refine .gf rfl rfl rfl (fun hc => tl2 35 33 (.opt hc) (.opt hc)) (fun hc => (absurd hc (by simp [hz, hok]) : QOp _ _ _ _ _ (V.bool false))) ?_
      refine .gf rfl rfl rfl (fun hc => tl1 36 (.opt hc)) (fun hc => q_not rfl rfl) ?_
      refine .pf rfl rfl rfl rfl <|
        .nil ?_
      exact Wk.mk (TLe.put (d := 38) (VLe.of_eq (congrArg V.bool (by simp [hz, hok]))) (TLe.put (d := 2) (VLe.refl _) (TLe.put (d := 1) (VLe.refl _) (TLe.put (d := 0) (VLe.refl _) (TLe.zero _))))) (HLe.refl _) ⟨true, rfl, .inl ⟨rfl, by rw [Em.putF, if_neg (by simpa using hz), if_pos hi, hok, must_fail hz rfl]; exact fail_at hr _⟩⟩
    · skip
      have hok := inN_pick hi
      refine .region <|
        .mP rfl rfl ?_
      refine .u rfl rfl rfl (QOp.call rfl call18 fun h' hl' => by exact err_calls (hl'.box _ _ hbx)) ?_
      refine .u rfl rfl rfl (q_neerr underlying58 rfl rfl) ?_
      refine .mB rfl rfl ?_
      refine .gf rfl rfl rfl (fun _ => tl0) (fun hc => q_mv rfl (rfl : _ = V.ptr _ _)) ?_
      refine .gf rfl rfl rfl (fun _ => tl0) (fun hc => q_mv rfl (rfl : _ = V.int _ _)) ?_
      refine .gf rfl rfl rfl (fun hc => tl1 17 (.opt hc)) (fun hc => q_ge rfl rfl rfl) ?_
      refine .gf rfl rfl rfl (fun hc => tl1 18 (.opt hc)) (fun hc => q_mv rfl (rfl : _ = V.bool _)) ?_
      refine AOps.g (wanted_to rfl rfl) rfl rfl (fun _ => tl0) (fun hc => q_mv rfl (rfl : _ = V.int _ _)) ?_
      refine AOps.g (wanted_to rfl rfl) rfl rfl (fun _ => tl0) (fun hc => q_mv rfl (rfl : _ = V.ptr _ _)) ?_
      refine AOps.g (wanted_to rfl rfl) rfl rfl (fun hc => tl1 21 (.opt hc)) (fun hc => q_nc rfl (rfl : _ = V.ptr _ _) rfl) ?_
      refine AOps.g (wanted_to rfl rfl) rfl rfl (fun hc => tl1 22 (.opt hc)) (fun hc => q_fa_b rfl underlying86 rfl (by exact sizeOf29) (by decide) rfl (rfl : _ = 0)) ?_
      refine AOps.g (wanted_to rfl rfl) rfl rfl (fun hc => tl1 23 (.opt hc)) (fun hc => q_fa_b rfl underlying29 rfl (by exact sizeOf22) (by decide) rfl (rfl : _ = 0)) ?_
      refine AOps.g (wanted_to rfl rfl) rfl rfl (fun hc => tl1 24 (.opt hc)) (fun hc => q_load_b1 rfl isAgg22 rfl (by exact bsb) rfl) ?_
      refine AOps.g (wanted_to rfl rfl) rfl rfl (fun hc => tl1 25 (.opt hc)) (fun hc => q_len rfl underlying22 rfl) ?_
      refine AOps.g (wanted_to rfl rfl) rfl rfl (fun hc => tl2 26 20 (.opt hc) (.opt hc)) (fun hc => q_lt rfl rfl rfl) ?_
      refine .gf rfl rfl rfl (fun hc => tl1 19 (.opt hc)) (fun hc => q_pickg rfl rfl (fun hp => by first | exact VLe.opt hp | exact VLe.opt (by rw [hp]; rfl) | exact VLe.opt (by simp_all)) (fun hp => by exact VLe.refl _)) ?_
      refine .gf rfl rfl rfl (fun hc => tl2 28 16 (.opt hc) (.opt hc)) (fun hc => QOp.call (x := .bool true) rfl (by exact call65) fun h' hl' => by exact must_quiet (hl'.box _ _ hbx) hz hok (by decide)) ?_
      refine .gf rfl rfl rfl (fun hc => tl1 29 (.opt hc)) (fun hc => q_not rfl rfl) ?_
      refine .pf rfl rfl rfl rfl <|
        .mB rfl rfl ?_
      refine .gf rfl rfl rfl (fun _ => tl0) (fun hc => q_mv rfl (rfl : _ = V.ptr _ _)) ?_
      refine .gf rfl rfl rfl (fun _ => tl0) (fun hc => q_mv rfl (rfl : _ = V.int _ _)) ?_
      refine .gf rfl rfl rfl (fun hc => tl1 34 (.opt hc)) (fun hc => QOp.call rfl (by exact call66) fun h' hl' => by exact bases_calls _ h') ?_
      have hA : (!(bif m.err != 0 then true else !true)) = true := by simp [hz]
      refine AOps.gy (wanted_yes (wanted_f rfl rfl) hA) rfl rfl (AStep.le (ev_le (TLe.put (d := 33) (VLe.opt hA) (TLe.put (d := 35) (VLe.opt hA) (TLe.refl _)))) ((AStep.call rfl (by exact call65) (must_calls m ve vp _ 12 (by decide) id _)).mono ?_))
      rintro x3 h3 ⟨rfl, rfl⟩
      refine .gf rfl rfl rfl (fun _ => tl0) (fun hc => q_not rfl rfl) ?_
      refine .pf rfl rfl rfl rfl <|
        .nil ?_
      exact Wk.mk (TLe.put (d := 38) (VLe.of_eq (congrArg V.bool (by simp [hz, hb]))) (TLe.put (d := 2) (VLe.refl _) (TLe.put (d := 1) (VLe.refl _) (TLe.put (d := 0) (VLe.refl _) (TLe.zero _))))) (HLe.refl _) ⟨true, rfl, .inl ⟨rfl, by rw [Em.putF, if_neg (by simpa using hz), if_neg (by rw [hi]; decide), if_pos hb, hb, must_fail hz rfl]; exact fail_at hr _⟩⟩
    · skip
      have hok := inN_pick hi
      refine .region <|
        .mP rfl rfl ?_
      refine .u rfl rfl rfl (QOp.call rfl call18 fun h' hl' => by exact err_calls (hl'.box _ _ hbx)) ?_
      refine .u rfl rfl rfl (q_neerr underlying58 rfl rfl) ?_
      refine .mB rfl rfl ?_
      refine .gf rfl rfl rfl (fun _ => tl0) (fun hc => q_mv rfl (rfl : _ = V.ptr _ _)) ?_
      refine .gf rfl rfl rfl (fun _ => tl0) (fun hc => q_mv rfl (rfl : _ = V.int _ _)) ?_
      refine .gf rfl rfl rfl (fun hc => tl1 17 (.opt hc)) (fun hc => q_ge rfl rfl rfl) ?_
      refine .gf rfl rfl rfl (fun hc => tl1 18 (.opt hc)) (fun hc => q_mv rfl (rfl : _ = V.bool _)) ?_
      refine AOps.g (wanted_to rfl rfl) rfl rfl (fun _ => tl0) (fun hc => q_mv rfl (rfl : _ = V.int _ _)) ?_
      refine AOps.g (wanted_to rfl rfl) rfl rfl (fun _ => tl0) (fun hc => q_mv rfl (rfl : _ = V.ptr _ _)) ?_
      refine AOps.g (wanted_to rfl rfl) rfl rfl (fun hc => tl1 21 (.opt hc)) (fun hc => q_nc rfl (rfl : _ = V.ptr _ _) rfl) ?_
      refine AOps.g (wanted_to rfl rfl) rfl rfl (fun hc => tl1 22 (.opt hc)) (fun hc => q_fa_b rfl underlying86 rfl (by exact sizeOf29) (by decide) rfl (rfl : _ = 0)) ?_
      refine AOps.g (wanted_to rfl rfl) rfl rfl (fun hc => tl1 23 (.opt hc)) (fun hc => q_fa_b rfl underlying29 rfl (by exact sizeOf22) (by decide) rfl (rfl : _ = 0)) ?_
      refine AOps.g (wanted_to rfl rfl) rfl rfl (fun hc => tl1 24 (.opt hc)) (fun hc => q_load_b1 rfl isAgg22 rfl (by exact bsb) rfl) ?_
      refine AOps.g (wanted_to rfl rfl) rfl rfl (fun hc => tl1 25 (.opt hc)) (fun hc => q_len rfl underlying22 rfl) ?_
      refine AOps.g (wanted_to rfl rfl) rfl rfl (fun hc => tl2 26 20 (.opt hc) (.opt hc)) (fun hc => q_lt rfl rfl rfl) ?_
      refine .gf rfl rfl rfl (fun hc => tl1 19 (.opt hc)) (fun hc => q_pickg rfl rfl (fun hp => by first | exact VLe.opt hp | exact VLe.opt (by rw [hp]; rfl) | exact VLe.opt (by simp_all)) (fun hp => by exact VLe.refl _)) ?_
      refine .gf rfl rfl rfl (fun hc => tl2 28 16 (.opt hc) (.opt hc)) (fun hc => QOp.call (x := .bool true) rfl (by exact call65) fun h' hl' => by exact must_quiet (hl'.box _ _ hbx) hz hok (by decide)) ?_
      refine .gf rfl rfl rfl (fun hc => tl1 29 (.opt hc)) (fun hc => q_not rfl rfl) ?_
      refine .pf rfl rfl rfl rfl <|
        .mB rfl rfl ?_
      refine .gf rfl rfl rfl (fun _ => tl0) (fun hc => q_mv rfl (rfl : _ = V.ptr _ _)) ?_
      refine .gf rfl rfl rfl (fun _ => tl0) (fun hc => q_mv rfl (rfl : _ = V.int _ _)) ?_
      refine .gf rfl rfl rfl (fun hc => tl1 34 (.opt hc)) (fun hc => QOp.call rfl (by exact call66) fun h' hl' => by exact bases_calls _ h') ?_
      refine .gf rfl rfl rfl (fun hc => tl2 35 33 (.opt hc) (.opt hc)) (fun hc => QOp.call (x := .bool true) rfl (by exact call65) fun h' hl' => by exact must_quiet (hl'.box _ _ hbx) hz hb (by decide)) ?_
      refine .gf rfl rfl rfl (fun hc => tl1 36 (.opt hc)) (fun hc => q_not rfl rfl) ?_
      refine .pf rfl rfl rfl rfl <|
        .nil ?_
      exact Wk.mk (TLe.put (d := 38) (VLe.of_eq (congrArg V.bool (by simp [hz]))) (TLe.put (d := 2) (VLe.refl _) (TLe.put (d := 1) (VLe.refl _) (TLe.put (d := 0) (VLe.refl _) (TLe.zero _))))) (HLe.refl _) ⟨false, rfl, .inr ⟨rfl, rfl, hz, by simpa [inN] using hi, hb⟩⟩
  · rintro T h1 ⟨b, rfl, hM⟩
    refine AW.cond rfl (fun c0 => ?_) (fun c0 => ?_)
    · skip
      refine AW.ret ?_
      rcases hM with ⟨_, h⟩ | ⟨e, _⟩
      · exact retQ.mk .none ⟨rfl, h⟩
      · rw [e] at c0; cases c0
    · rcases hM with ⟨e, _⟩ | ⟨_, rfl, hz, hi, hbs⟩
      · rw [e] at c0; cases c0
      have hSz := hI.sz hz
      obtain ⟨o, ho⟩ : ∃ o, o = m.now.objs.getD i.toNat noObj := ⟨_, rfl⟩
      have hfr : 0 ≤ o 3 ∧ o 3 ≤ 10 := by rw [ho]; exact hSz.zn _
      obtain ⟨to, hto⟩ : ∃ to, to = homeF o base := ⟨_, rfl⟩
      have htr : 0 ≤ to ∧ to ≤ 10 := by rw [hto]; exact home_in hbs
      have hll := hSz.lists to.toNat
      have hF : m.putF i base = ((((((m.doL [⟨1, i, o 3, idxF (m.now.lists (o 3).toNat) i, to, if o 3 = to then (m.now.lists to.toNat).length - 1 else (m.now.lists to.toNat).length⟩]).put2 i to).put3 i to (o 1)).put4 i to).put5 i (o 3) to).showF i (knowZoneF to)).put7 i (o 3) to base (o 2) := by
        rw [Em.putF, if_neg (by simpa using hz), if_neg (by simp [inN, hi]), if_neg (by rw [hbs]; decide)]; simp only [Em.put6, putEv, ← ho, ← hto]
      refine AW.skip ?_
      refine .seq <|
        .region <|
        .mP rfl rfl <|
        .nP rfl rfl <|
        .fb rfl f86_0 rfl rfl <|
        .fb rfl f29_0 rfl rfl <|
        .lb rfl isAgg22 rfl rfl <|
        .mI rfl rfl ?_
      refine .u rfl rfl rfl (q_ia_s rfl underlying22 sizeOf72 rfl rfl hi.1 hi.2 (show _ = cObj o by rw [ho]; exact cObjs_elem' hi.1 hi.2)) ?_
      refine .lw rfl isAgg72 sizeOf72 rfl rfl ?_
      refine AOps.s rfl rfl rfl (a_alloc rfl zeroValue72 rfl (fun id6 hid6 => ?_))
      refine .sw sizeOf72 rfl rfl rfl rfl ?_
      refine AOps.done 6 rfl hid6 ?_
      refine .nil <|
        .seq ?_
      refine AW.draw [] [] [(0, true), (1, true), (2, true), (3, true), (4, true), (5, true), (6, true)] mixed (by kernel_rfl) rfl (by kernel_rfl) ?_
      refine .q rfl rfl rfl rfl (q_ia_ai rfl underlying72 sizeOf3 rfl rfl (by decide) (by decide) rfl) ?_
      refine .q rfl rfl rfl rfl (q_load_i1 rfl isAgg3 rfl rfl) ?_
      refine .q rfl rfl rfl rfl (q_load_iW rfl isAgg72 sizeOf72 rfl (by rfl)) ?_
      refine .q rfl rfl rfl rfl (q_mv rfl (rfl : _ = V.int _ _)) ?_
      refine .q rfl rfl rfl rfl (QOp.call (x := V.int .i64 to) rfl (by exact call67) fun h' hl' => by rw [hto]; exact home_calls o base h') ?_
      refine .q rfl rfl rfl rfl (q_as rfl (rfl : _ = V.int _ _)) ?_
      refine .q rfl rfl rfl rfl (q_as rfl (rfl : _ = V.int _ _)) ?_
      refine AOrd.nil ?_
      refine .seq <|
        .region <|
        .mP rfl rfl <|
        .mI rfl rfl <|
        .nP rfl rfl <|
        .fb rfl f86_0 rfl rfl <|
        .fb rfl f29_1 rfl rfl ?_
      refine .u rfl rfl rfl (q_ia_ab rfl underlying24 sizeOf23 rfl rfl (by omega) (by omega)) ?_
      refine .u rfl rfl rfl (q_load_b1 rfl isAgg23 rfl (by exact bsb) (st_list_ix htr.1 (by omega))) ?_
      refine .ln rfl underlying23 rfl <|
        .aI rfl rfl <|
        .nil ?_
      refine AW.cut (fun T h1 => T = put (put (put (put (put (put (put T0 0 (V.ptr id 0)) 1 (V.int .i64 i)) 2 (V.int .i64 base)) 6 (V.iptr (cObj o))) 7 (V.int .i64 (o 3))) 8 (V.int .i64 to)) 9 (V.int .i64 (if o 3 = to then (m.now.lists to.toNat).length - 1 else (m.now.lists to.toNat).length)) ∧ h1 = (addTok ve (addTok vp h0)).setBox id (emCells m ve vp)) ?_ ?_
      · skip
        refine .seq <|
          .region <|
          .mI rfl rfl <|
          .mI rfl rfl <|
          .qe rfl rfl rfl <|
          .nil ?_
        refine AW.cond rfl (fun c1 => ?_) (fun c1 => ?_)
        · skip
          refine .region <|
            .mI rfl rfl ?_
          refine .u rfl rfl rfl (q_sub' rfl rfl rfl (by omega)) ?_
          refine .aI rfl rfl <|
            .nil ?_
          exact Wk.mk (TLe.put (d := 9) (VLe.of_eq (congrArg (V.int .i64) (by first | rw [if_pos (by simpa using c1)] | rw [if_neg (by simpa using c1)]))) (TLe.put (d := 8) (VLe.refl _) (TLe.put (d := 7) (VLe.refl _) (TLe.put (d := 6) (VLe.refl _) (TLe.put (d := 2) (VLe.refl _) (TLe.put (d := 1) (VLe.refl _) (TLe.put (d := 0) (VLe.refl _) (TLe.zero _)))))))) (HLe.refl _) ⟨rfl, rfl⟩
        · skip
          refine AW.skip ?_
          exact Wk.mk (TLe.put (d := 9) (VLe.of_eq (congrArg (V.int .i64) (by first | rw [if_pos (by simpa using c1)] | rw [if_neg (by simpa using c1)]))) (TLe.put (d := 8) (VLe.refl _) (TLe.put (d := 7) (VLe.refl _) (TLe.put (d := 6) (VLe.refl _) (TLe.put (d := 2) (VLe.refl _) (TLe.put (d := 1) (VLe.refl _) (TLe.put (d := 0) (VLe.refl _) (TLe.zero _)))))))) (HLe.refl _) ⟨rfl, rfl⟩
      · rintro T h1 ⟨rfl, rfl⟩
        refine .seq <|
          .region <|
          .mP rfl rfl <|
          .mI rfl rfl <|
          .mI rfl rfl <|
          .mP rfl rfl <|
          .mI rfl rfl <|
          .nP rfl rfl <|
          .fb rfl f86_0 rfl rfl <|
          .fb rfl f29_1 rfl rfl ?_
        refine .u rfl rfl rfl (q_ia_ab rfl underlying24 sizeOf23 rfl rfl (by omega) (by omega)) ?_
        refine .u rfl rfl rfl (q_load_b1 rfl isAgg23 rfl (by exact bsb) (st_list_ix hfr.1 (by omega))) ?_
        refine .mI rfl rfl ?_
        refine .u rfl rfl rfl (QOp.call rfl call69 fun h' hl' => by exact index_calls _ _ (by have := hSz.lists (o 3).toNat; omega) h') ?_
        refine .mI rfl rfl <|
          .mI rfl rfl ?_
        refine .u rfl rfl rfl (q_buildS (ds := cEv ⟨1, i, o 3, idxF (m.now.lists (o 3).toNat) i, to, if o 3 = to then (m.now.lists to.toNat).length - 1 else (m.now.lists to.toNat).length⟩) rfl zeroValue116 underlying116 (pl116 underlying116) rfl (by kernel_rfl)) ?_
        refine .u rfl rfl rfl (q_buildSl rfl underlying84 sizeOf116 zeroValue116 rfl rfl rfl rfl rfl) ?_
        refine AOps.s rfl rfl rfl ((AStep.call rfl (by exact call68) (doL_calls [⟨1, i, o 3, idxF (m.now.lists (o 3).toNat) i, to, if o 3 = to then (m.now.lists to.toNat).length - 1 else (m.now.lists to.toNat).length⟩] (by simp) (by simp) (k := .full) ⟨ve, vp, hr, rfl⟩ hI)).mono ?_)
        rintro x3 h3 ⟨rfl, he3⟩
        refine .nil ?_
        have hI1 : EmI (m.doL [⟨1, i, o 3, idxF (m.now.lists (o 3).toNat) i, to, if o 3 = to then (m.now.lists to.toNat).length - 1 else (m.now.lists to.toNat).length⟩]) := doL_inv (by simp) hI
        have hS1 : Same m (m.doL [⟨1, i, o 3, idxF (m.now.lists (o 3).toNat) i, to, if o 3 = to then (m.now.lists to.toNat).length - 1 else (m.now.lists to.toNat).length⟩]) := doL_same (by simp)
        rw [hF]
        generalize m.doL [⟨1, i, o 3, idxF (m.now.lists (o 3).toNat) i, to, if o 3 = to then (m.now.lists to.toNat).length - 1 else (m.now.lists to.toNat).length⟩] = m1 at he3 hI1 hS1 ⊢
        refine AW.cut (fun T h1 => T = put (put (put (put (put (put T0 0 (V.ptr id 0)) 1 (V.int .i64 i)) 2 (V.int .i64 base)) 6 (V.iptr (cObj o))) 7 (V.int .i64 (o 3))) 8 (V.int .i64 to) ∧ EmAt h0 id (m1.put2 i to) h1) ?_ ?_
        · skip
          refine .seq <|
            .region <|
            .mI rfl rfl <|
            .qn rfl rfl rfl <|
            .nil ?_
          refine AW.cond rfl (fun c2 => ?_) (fun c2 => ?_)
          · skip
            refine .seq <|
              .region <|
              .lw rfl isAgg25 sizeOf25 rfl rfl <|
              .mI rfl rfl <|
              .nil <|
              .block ?_
            refine AW.loop (fun n T hh => ∃ (k : Nat) , k ≤ 9 ∧ n = 9 - k ∧ T = put (put (put (put (put (put (put (put (T0) 85 (V.int .i64 (k : Nat))) 84 (V.agg [.int .i64 4, .int .i64 5, .int .i64 6, .int .i64 7, .int .i64 8, .int .i64 9, .int .i64 10, .int .i64 11, .int .i64 12])) 8 (V.int .i64 to)) 7 (V.int .i64 (o 3))) 6 (V.iptr (cObj o))) 2 (V.int .i64 base)) 1 (V.int .i64 i)) 0 (V.ptr id 0) ∧ EmAt h0 id (m1.restF i (restL.take k)) hh) (9) ?_ ?_
            · skip
              refine Wk.mk (TLe.put (d := 0) (VLe.refl _) (TLe.put (d := 1) (VLe.refl _) (TLe.put (d := 2) (VLe.refl _) (TLe.put (d := 6) (VLe.refl _) (TLe.put (d := 7) (VLe.refl _) (TLe.put (d := 8) (VLe.refl _) (TLe.put (d := 84) (VLe.refl _) (TLe.put (d := 85) (by exact VLe.of_eq (congrArg (V.int .i64) (by first | rfl | omega))) (TLe.zero _))))))))) (HLe.refl _) ⟨0, Nat.zero_le _, rfl, rfl, by exact he3⟩
            · skip
              rintro n T h' ⟨k, hk, rfl, rfl, hem⟩
              refine .seq <|
                .region <|
                .ql rfl rfl rfl <|
                .nil <|
                .seq ?_
              refine AW.cond rfl (fun c3 => ?_) (fun c3 => ?_)
              · have hltk : k < 9 := by have := of_decide_eq_true c3; omega
                refine AW.skip ?_
                refine .seq <|
                  .block <|
                  .seq <|
                  .region ?_
                refine .u rfl rfl rfl (q_ix1 rfl underlying25 sizeOf3 isAgg3 rfl rfl (by omega) (by omega) (rest_ix hltk)) ?_
                refine .aI rfl rfl <|
                  .nil <|
                  .region <|
                  .mP rfl rfl <|
                  .mI rfl rfl <|
                  .mI rfl rfl ?_
                refine AOps.s rfl rfl rfl ((AStep.call rfl (by exact call39) (setF_calls i (restL.getD k 0) 0 hem (restF_inv hI1))).mono ?_)
                rintro x9 h9 ⟨rfl, he9⟩
                refine .nil <|
                  .region <|
                  .ad rfl rfl rfl (by omega) <|
                  .mI rfl rfl <|
                  .nil ?_
                refine Wk.mk (TLe.put (d := 0) (VLe.refl _) (TLe.put (d := 1) (VLe.refl _) (TLe.put (d := 2) (VLe.refl _) (TLe.put (d := 6) (VLe.refl _) (TLe.put (d := 7) (VLe.refl _) (TLe.put (d := 8) (VLe.refl _) (TLe.put (d := 84) (VLe.refl _) (TLe.put (d := 85) (by exact VLe.of_eq (congrArg (V.int .i64) (by first | rfl | omega))) (TLe.zero _))))))))) (HLe.refl _) ⟨_, ?_, k + 1, ?_, rfl, rfl, by rw [restF_next hltk]; exact he9⟩
                · omega
                · omega
              · obtain rfl : k = 9 := by have := of_decide_eq_false c3; omega
                refine AW.exit ?_
                exact Wk.mk (TLe.put (d := 8) (VLe.refl _) (TLe.put (d := 7) (VLe.refl _) (TLe.put (d := 6) (VLe.refl _) (TLe.put (d := 2) (VLe.refl _) (TLe.put (d := 1) (VLe.refl _) (TLe.put (d := 0) (VLe.refl _) (TLe.zero _))))))) (HLe.refl _) ⟨rfl, by first | (rw [Em.put2, if_pos (by simpa using c2)]; exact hem) | (rw [Em.put2, if_neg (by simpa using c2)]; exact he3)⟩
          · skip
            refine AW.skip ?_
            exact Wk.mk (TLe.put (d := 8) (VLe.refl _) (TLe.put (d := 7) (VLe.refl _) (TLe.put (d := 6) (VLe.refl _) (TLe.put (d := 2) (VLe.refl _) (TLe.put (d := 1) (VLe.refl _) (TLe.put (d := 0) (VLe.refl _) (TLe.zero _))))))) (HLe.refl _) ⟨rfl, by first | (rw [Em.put2, if_pos (by simpa using c2)]; exact hem) | (rw [Em.put2, if_neg (by simpa using c2)]; exact he3)⟩
        · rintro T h2 ⟨rfl, he4⟩
          refine AW.cut (fun T h1 => T = put (put (put (put (put (put T0 0 (V.ptr id 0)) 1 (V.int .i64 i)) 2 (V.int .i64 base)) 6 (V.iptr (cObj o))) 7 (V.int .i64 (o 3))) 8 (V.int .i64 to) ∧ EmAt h0 id ((m1.put2 i to).put3 i to (o 1)) h1) ?_ ?_
          · skip
            refine .seq <|
              .region <|
              .mI rfl rfl <|
              .ql rfl rfl rfl <|
              .nil ?_
            refine AW.cond rfl (fun c4 => ?_) (fun c4 => ?_)
            · skip
              refine .region <|
                .mP rfl rfl <|
                .mI rfl rfl ?_
              refine .u rfl rfl rfl (q_ia_ai rfl underlying72 sizeOf3 rfl rfl (by decide) (by decide) rfl) ?_
              refine .li rfl isAgg3 rfl rfl ?_
              refine AOps.s rfl rfl rfl ((AStep.call rfl (by exact call39) (setF_calls i 2 (o 1) he4 (put2_inv hI1))).mono ?_)
              rintro x9 h9 ⟨rfl, he9⟩
              refine .nil ?_
              exact Wk.mk (TLe.put (d := 8) (VLe.refl _) (TLe.put (d := 7) (VLe.refl _) (TLe.put (d := 6) (VLe.refl _) (TLe.put (d := 2) (VLe.refl _) (TLe.put (d := 1) (VLe.refl _) (TLe.put (d := 0) (VLe.refl _) (TLe.zero _))))))) (HLe.refl _) ⟨rfl, by first | (rw [Em.put3, if_pos (by simpa using c4)]; exact he9) | (rw [Em.put3, if_neg (by simpa using c4)]; exact he4)⟩
            · skip
              refine AW.skip ?_
              exact Wk.mk (TLe.put (d := 8) (VLe.refl _) (TLe.put (d := 7) (VLe.refl _) (TLe.put (d := 6) (VLe.refl _) (TLe.put (d := 2) (VLe.refl _) (TLe.put (d := 1) (VLe.refl _) (TLe.put (d := 0) (VLe.refl _) (TLe.zero _))))))) (HLe.refl _) ⟨rfl, by first | (rw [Em.put3, if_pos (by simpa using c4)]; exact he9) | (rw [Em.put3, if_neg (by simpa using c4)]; exact he4)⟩
          · rintro T h2 ⟨rfl, he5⟩
            refine AW.cut (fun T h1 => T = put (put (put (put (put (put T0 0 (V.ptr id 0)) 1 (V.int .i64 i)) 2 (V.int .i64 base)) 6 (V.iptr (cObj o))) 7 (V.int .i64 (o 3))) 8 (V.int .i64 to) ∧ EmAt h0 id (((m1.put2 i to).put3 i to (o 1)).put4 i to) h1) ?_ ?_
            · skip
              refine .seq <|
                .region <|
                .mI rfl rfl <|
                .qn rfl rfl rfl <|
                .nil ?_
              refine AW.cond rfl (fun c5 => ?_) (fun c5 => ?_)
              · skip
                refine .region <|
                  .mP rfl rfl <|
                  .mI rfl rfl ?_
                refine AOps.s rfl rfl rfl ((AStep.call rfl (by exact call39) (setF_calls i 16 0 he5 (put3_inv (put2_inv hI1)))).mono ?_)
                rintro x9 h9 ⟨rfl, he9⟩
                refine .nil ?_
                exact Wk.mk (TLe.put (d := 8) (VLe.refl _) (TLe.put (d := 7) (VLe.refl _) (TLe.put (d := 6) (VLe.refl _) (TLe.put (d := 2) (VLe.refl _) (TLe.put (d := 1) (VLe.refl _) (TLe.put (d := 0) (VLe.refl _) (TLe.zero _))))))) (HLe.refl _) ⟨rfl, by first | (rw [Em.put4, if_pos (by simpa using c5)]; exact he9) | (rw [Em.put4, if_neg (by simpa using c5)]; exact he5)⟩
              · skip
                refine AW.skip ?_
                exact Wk.mk (TLe.put (d := 8) (VLe.refl _) (TLe.put (d := 7) (VLe.refl _) (TLe.put (d := 6) (VLe.refl _) (TLe.put (d := 2) (VLe.refl _) (TLe.put (d := 1) (VLe.refl _) (TLe.put (d := 0) (VLe.refl _) (TLe.zero _))))))) (HLe.refl _) ⟨rfl, by first | (rw [Em.put4, if_pos (by simpa using c5)]; exact he9) | (rw [Em.put4, if_neg (by simpa using c5)]; exact he5)⟩
            · rintro T h2 ⟨rfl, he6⟩
              refine AW.cut (fun T h1 => T = put (put (put (put (put (put T0 0 (V.ptr id 0)) 1 (V.int .i64 i)) 2 (V.int .i64 base)) 6 (V.iptr (cObj o))) 7 (V.int .i64 (o 3))) 8 (V.int .i64 to) ∧ EmAt h0 id ((((m1.put2 i to).put3 i to (o 1)).put4 i to).put5 i (o 3) to) h1) ?_ ?_
              · skip
                refine .seq <|
                  .region <|
                  .mI rfl rfl <|
                  .qe rfl rfl rfl <|
                  .mB rfl rfl ?_
                refine .gt rfl rfl rfl (fun _ => tl0) (fun hc => q_mv rfl (rfl : _ = V.int _ _)) ?_
                refine .gt rfl rfl rfl (fun _ => tl0) (fun hc => q_mv rfl (rfl : _ = V.int _ _)) ?_
                refine .gt rfl rfl rfl (fun hc => tl2 109 108 (.opt hc) (.opt hc)) (fun hc => q_ne rfl rfl rfl) ?_
                refine .pt rfl rfl rfl rfl <|
                  .nil ?_
                refine AW.cond rfl (fun c6 => ?_) (fun c6 => ?_)
                · skip
                  refine .region <|
                    .mP rfl rfl <|
                    .mI rfl rfl ?_
                  refine AOps.s rfl rfl rfl ((AStep.call rfl (by exact call39) (setF_calls i 5 1 he6 (put4_inv (put3_inv (put2_inv hI1))))).mono ?_)
                  rintro x9 h9 ⟨rfl, he9⟩
                  refine .nil ?_
                  exact Wk.mk (TLe.put (d := 8) (VLe.refl _) (TLe.put (d := 7) (VLe.refl _) (TLe.put (d := 6) (VLe.refl _) (TLe.put (d := 2) (VLe.refl _) (TLe.put (d := 1) (VLe.refl _) (TLe.put (d := 0) (VLe.refl _) (TLe.zero _))))))) (HLe.refl _) ⟨rfl, by first | (rw [Em.put5, if_pos (by simpa using c6)]; exact he9) | (rw [Em.put5, if_neg (by simpa using c6)]; exact he6)⟩
                · skip
                  refine AW.skip ?_
                  exact Wk.mk (TLe.put (d := 8) (VLe.refl _) (TLe.put (d := 7) (VLe.refl _) (TLe.put (d := 6) (VLe.refl _) (TLe.put (d := 2) (VLe.refl _) (TLe.put (d := 1) (VLe.refl _) (TLe.put (d := 0) (VLe.refl _) (TLe.zero _))))))) (HLe.refl _) ⟨rfl, by first | (rw [Em.put5, if_pos (by simpa using c6)]; exact he9) | (rw [Em.put5, if_neg (by simpa using c6)]; exact he6)⟩
              · rintro T h2 ⟨rfl, he7⟩
                refine .seq ?_
                have hI5 := put5_inv (i := i) (fr := o 3) (to := to) (put4_inv (i := i) (to := to) (put3_inv (i := i) (to := to) (o := o 1) (put2_inv (i := i) (to := to) hI1)))
                have hS5 := hS1.trans ((put2_same (i := i) (to := to)).trans ((put3_same (i := i) (to := to) (o := o 1)).trans ((put4_same (i := i) (to := to)).trans ((put5_same (i := i) (fr := o 3) (to := to)).trans (showF_same (i := i) (p := knowZoneF to))))))
                refine .region <|
                  .mP rfl rfl <|
                  .mI rfl rfl <|
                  .mI rfl rfl ?_
                refine .u rfl rfl rfl (QOp.call rfl call70 fun h' hl' => by exact knowZone_calls _ h') ?_
                refine AOps.s rfl rfl rfl ((AStep.call rfl (by exact call48) (showF_calls i (knowZoneF to) he7 hI5)).mono ?_)
                rintro x8 h8 ⟨rfl, he8⟩
                refine .nil ?_
                obtain ⟨ve8, vp8, hr8, rfl⟩ := he8
                generalize ((((m1.put2 i to).put3 i to (o 1)).put4 i to).put5 i (o 3) to).showF i (knowZoneF to) = m6 at hr8 hS5 ⊢
                have hi6 : 0 ≤ i ∧ i < m6.now.objs.length := by rw [hS5.len]; exact hi
                have hp6 : m6.pend.length ≤ 1000000 := by rw [hS5.pend]; exact hp
                refine .block <|
                  .seq <|
                  .region <|
                  .mP rfl rfl ?_
                refine .u rfl rfl rfl (QOp.call rfl call18 fun h' hl' => by exact err_calls (hl'.box _ _ (Hp.box_setBox _ _ _))) ?_
                refine .u rfl rfl rfl (q_neerr underlying58 rfl rfl) ?_
                refine .aB rfl rfl <|
                  .nil ?_
                refine AW.cond rfl (fun c7 => ?_) (fun c7 => ?_)
                · skip
                  refine AW.skip ?_
                  exact retQ.mk .none ⟨rfl, by rw [Em.put7, if_pos (by simpa using c7)]; exact ⟨ve8, vp8, hr8, rfl⟩⟩
                · skip
                  refine .seq <|
                    .region <|
                    .mI rfl rfl <|
                    .qe rfl rfl rfl <|
                    .mB rfl rfl ?_
                  refine .gt rfl rfl rfl (fun _ => tl0) (fun hc => q_mv rfl (rfl : _ = V.int _ _)) ?_
                  refine .gt rfl rfl rfl (fun _ => tl0) (fun hc => q_mv rfl (rfl : _ = V.int _ _)) ?_
                  refine .gt rfl rfl rfl (fun hc => tl2 129 128 (.opt hc) (.opt hc)) (fun hc => q_ne rfl rfl rfl) ?_
                  refine .pt rfl rfl rfl rfl <|
                    .aB rfl rfl <|
                    .nil ?_
                  refine AW.cond rfl (fun c8 => ?_) (fun c8 => ?_)
                  · skip
                    refine .region <|
                      .mP rfl rfl <|
                      .mI rfl rfl <|
                      .mP rfl rfl <|
                      .nP rfl rfl <|
                      .fb rfl f86_0 rfl rfl <|
                      .fb rfl f29_0 rfl rfl <|
                      .lb rfl isAgg22 rfl rfl <|
                      .mI rfl rfl ?_
                    refine .u rfl rfl rfl (q_ia_s rfl underlying22 sizeOf72 rfl rfl hi6.1 hi6.2 (cObjs_elem' hi6.1 hi6.2)) ?_
                    refine .u rfl rfl rfl (q_ia_ai rfl underlying72 sizeOf3 rfl rfl (by decide) (by decide) rfl) ?_
                    refine .li rfl isAgg3 rfl rfl ?_
                    refine AOps.s rfl rfl rfl ((AStep.call rfl (by exact call71) (await_calls i 2 _ ⟨ve8, vp8, hr8, rfl⟩ hi6 hp6)).mono ?_)
                    rintro x9 h9 ⟨rfl, he9⟩
                    refine .nil ?_
                    exact retQ.mk .none ⟨rfl, by rw [Em.put7, if_neg (by simpa using c7), if_pos (by simpa using c8)]; exact he9⟩
                  · skip
                    refine .seq <|
                      .region <|
                      .mI rfl rfl <|
                      .qe rfl rfl rfl <|
                      .mB rfl rfl ?_
                    refine .gt rfl rfl rfl (fun _ => tl0) (fun hc => q_mv rfl (rfl : _ = V.int _ _)) ?_
                    refine .gt rfl rfl rfl (fun hc => tl1 148 (.opt hc)) (fun hc => q_eq rfl rfl rfl) ?_
                    refine .pt rfl rfl rfl rfl <|
                      .aB rfl rfl <|
                      .nil ?_
                    refine AW.cond rfl (fun c9 => ?_) (fun c9 => ?_)
                    · skip
                      refine .region <|
                        .mP rfl rfl <|
                        .mI rfl rfl ?_
                      refine .u rfl rfl rfl (q_ia_ai rfl underlying72 sizeOf3 rfl rfl (by decide) (by decide) rfl) ?_
                      refine .li rfl isAgg3 rfl rfl ?_
                      refine AOps.s rfl rfl rfl ((AStep.call rfl (by exact call71) (await_calls i 3 _ ⟨ve8, vp8, hr8, rfl⟩ hi6 hp6)).mono ?_)
                      rintro x9 h9 ⟨rfl, he9⟩
                      refine .nil ?_
                      exact retQ.mk .none ⟨rfl, by rw [Em.put7, if_neg (by simpa using c7), if_neg (by simpa using c8), if_pos (by simpa using c9)]; exact he9⟩
                    · skip
                      refine AW.skip ?_
                      exact retQ.mk .none ⟨rfl, by rw [Em.put7, if_neg (by simpa using c7), if_neg (by simpa using c8), if_neg (by simpa using c9)]; exact ⟨ve8, vp8, hr8, rfl⟩⟩

theorem add_same {m : Em} {i ctl : Int} {l : List Int} : (m.add i ctl l).pend.length = m.pend.length + l.length ∧ (m.add i ctl l).evs = m.evs := ⟨by simp [Em.add], rfl⟩
theorem await_pend {m : Em} {i w ctl : Int} : (m.awaitF i w ctl).pend.length ≤ m.pend.length + 4 ∧ (m.awaitF i w ctl).evs = m.evs ∧ ((m.awaitF i w ctl).err = 0 → m.err = 0) := by
  have h1 : (usesF (cardE (m.now.objs.getD i.toNat noObj 0)).1 w).length ≤ 4 := Nat.le_trans uses_le (cardE_abs _)
  have h2 : (m.fail (cardE (m.now.objs.getD i.toNat noObj 0)).2).pend = m.pend := fail_same.pend
  have h3 : (m.fail (cardE (m.now.objs.getD i.toNat noObj 0)).2).evs = m.evs := by unfold Em.fail; split <;> rfl
  have h4 : (m.fail (cardE (m.now.objs.getD i.toNat noObj 0)).2).err = 0 → m.err = 0 := fail_same.err
  unfold Em.awaitF
  refine ⟨?_, h3, h4⟩
  rw [add_same.1, h2]; omega
theorem put7_pend {m : Em} {i fr to base ctl : Int} : (m.put7 i fr to base ctl).pend.length ≤ m.pend.length + (if m.err = 0 then 4 else 0) ∧ (m.put7 i fr to base ctl).evs = m.evs ∧ ((m.put7 i fr to base ctl).err = 0 → m.err = 0) := by
  unfold Em.put7; split
  · exact ⟨by omega, rfl, id⟩
  · rename_i h
    have h : m.err = 0 := by simpa using h
    rw [if_pos h]
    split
    · exact await_pend
    · split
      · exact await_pend
      · exact ⟨by omega, rfl, id⟩
theorem put6_same {m : Em} {i base : Int} {o : Obj} : Same m (m.put6 i base o) :=
  (put2_same (i := i) (to := homeF o base)).trans ((put3_same (i := i) (to := homeF o base) (o := o 1)).trans ((put4_same (i := i) (to := homeF o base)).trans ((put5_same (i := i) (fr := o 3) (to := homeF o base)).trans (showF_same (i := i) (p := knowZoneF (homeF o base))))))
theorem put6_inv {m : Em} {i base : Int} {o : Obj} (h : EmI m) : EmI (m.put6 i base o) :=
  showF_inv (put5_inv (i := i) (fr := o 3) (to := homeF o base) (put4_inv (i := i) (to := homeF o base) (put3_inv (i := i) (to := homeF o base) (o := o 1) (put2_inv (i := i) (to := homeF o base) h))))
theorem await_inv {m : Em} {i w ctl : Int} (h : EmI m) : EmI (m.awaitF i w ctl) := by
  have := fail_inv (e := (cardE (m.now.objs.getD i.toNat noObj 0)).2) h
  exact ⟨this.sz, this.evs⟩
theorem put7_inv {m : Em} {i fr to base ctl : Int} (h : EmI m) : EmI (m.put7 i fr to base ctl) := by
  unfold Em.put7; split
  · exact h
  · split
    · exact await_inv h
    · split
      · exact await_inv h
      · exact h
theorem putF_inv {m : Em} {i base : Int} (h : EmI m) : EmI (m.putF i base) := by
  unfold Em.putF; split
  · exact h
  · split
    · exact fail_inv h
    · split
      · exact fail_inv h
      · exact put7_inv (put6_inv (doL_inv (by simp [putEv]) h))
theorem putF_evs {m : Em} {i base : Int} : m.evs.length ≤ (m.putF i base).evs.length ∧ ((m.putF i base).err = 0 → m.err = 0 ∧ m.evs.length + 1 ≤ (m.putF i base).evs.length) ∧ (m.pend.length ≤ 4 * m.evs.length → (m.putF i base).pend.length ≤ 4 * (m.putF i base).evs.length) ∧ (m.putF i base).draws = m.draws := by
  unfold Em.putF; split
  · rename_i h; exact ⟨Nat.le_refl _, fun e => absurd e h, id, rfl⟩
  · rename_i h
    have h : m.err = 0 := by simpa using h
    split
    · unfold Em.fail; rw [if_pos h]; exact ⟨Nat.le_refl _, (fun e => by cases e), id, rfl⟩
    · split
      · unfold Em.fail; rw [if_pos h]; exact ⟨Nat.le_refl _, (fun e => by cases e), id, rfl⟩
      · dsimp only
        generalize hx : putEv m.now i base = x
        generalize m.now.objs.getD i.toNat noObj = o
        have s1 : Same m (m.doL [x]) := doL_same (by simp [← hx, putEv])
        have s2 : Same (m.doL [x]) ((m.doL [x]).put6 i base o) := put6_same
        have hmo := doL_more (m := m) (x := x)
        generalize m.doL [x] = m1 at *
        generalize m1.put6 i base o = m2 at *
        obtain ⟨p1, p2, p3⟩ := put7_pend (m := m2) (i := i) (fr := o 3) (to := homeF o base) (base := base) (ctl := o 2)
        have q1 := s1.evs; have q2 := s2.evs; have q3 := s1.pend; have q4 := s2.pend; have q5 := s1.err; have q6 := s2.err
        have hd : (m2.put7 i (o 3) (homeF o base) base (o 2)).draws = m2.draws := by
          unfold Em.put7 Em.awaitF
          have hf : ∀ e, (m2.fail e).draws = m2.draws := fun e => fail_same.draws
          split
          · rfl
          · split
            · exact hf _
            · split
              · exact hf _
              · rfl
        refine ⟨by rw [p2]; omega, fun e => ?_, fun e => ?_, by rw [hd, s2.draws, s1.draws]⟩
        · rw [p2]
          have e2 := p3 e
          have e1 := q6 e2
          exact ⟨h, by have := hmo e1; omega⟩
        · rw [p2]
          rw [q4, q3] at p1
          split at p1
          · rename_i e2; have := hmo (q6 e2); omega
          · omega

end Go.Proofs.YtagcjkbogaoifaaGreatDoor
/- Walks: who has lost; what a creature is. -/
namespace Go.Proofs.YtagcjkbogaoifaaGreatDoor
open Go Go.AV Go.Proofs.Tryz
set_option maxRecDepth 100000
set_option maxHeartbeats 1000000
/-- Has a player lost? -/
def lostF (s : St) (p : Int) : Bool := (p == 0 || p == 1) && (decide (s.pl p.toNat 0 ≤ 0) || s.pl p.toNat 8 == 1)
theorem plp_at {s : St} {p : Int} (h0 : 0 ≤ p) (h1 : p < 2) : ((((cState s).drop 12)).drop (p.toNat * 9)).take 9 = plRow (s.pl p.toNat) := by
  have : p = 0 ∨ p = 1 := by omega
  rcases this with e | e <;> subst e <;> rfl
theorem lost_eq {s : St} {p : Int} (hp : 0 ≤ p ∧ p < 2) : lostF s p = (bif decide (s.pl p.toNat 0 ≤ 0) then true else s.pl p.toNat 8 == 1) := by
  have : p = 0 ∨ p = 1 := by omega
  rcases this with e | e <;> subst e <;> simp [lostF]

theorem lost_calls (s : St) (p : Int) (h : Hp) : ACalls prog G 183 [eState s, .int .i64 p] h fun r h' => r = .bool (lostF s p) ∧ h' = h := by
  refine ACalls.enter func183 rfl ntmps183 results183 rfl ?_
  refine .seq <|
    .region <|
    .bx rfl rfl <|
    .aB rfl rfl <|
    .nil <|
    .seq <|
    .seq <|
    .region <|
    .mI rfl rfl <|
    .qn rfl rfl rfl <|
    .mB rfl rfl ?_
  refine .gt rfl rfl rfl (fun _ => tl0) (fun hc => q_mv rfl (rfl : _ = V.int _ _)) ?_
  refine .gt rfl rfl rfl (fun hc => tl1 9 (.opt hc)) (fun hc => q_ne rfl rfl rfl) ?_
  refine .pt rfl rfl rfl rfl <|
    .nil ?_
  refine AW.cond rfl (fun c0 => ?_) (fun c0 => ?_)
  · skip
    refine .seq <|
      .region <|
      .aB rfl rfl <|
      .nil ?_
    refine AW.ret ?_
    exact retQ.mk' (.one _) (VLe.of_eq (congrArg V.bool (by simp at c0; simp [lostF]; intro h; omega))) (HLe.refl _) ⟨rfl, rfl⟩
  · have hp : 0 ≤ p ∧ p < 2 := by simp at c0; omega
    refine AW.skip ?_
    refine .seq <|
      .region <|
      .mI rfl rfl <|
      .fi rfl f29_12 rfl ?_
    refine .u rfl rfl rfl (q_ia_ai rfl underlying26 sizeOf25 rfl rfl (by omega) (by omega) rfl) ?_
    refine .u rfl rfl rfl (q_load_iN (ds := plRow (s.pl p.toNat)) rfl isAgg25 sizeOf25 rfl rfl (plp_at hp.1 hp.2)) ?_
    refine AOps.s rfl rfl rfl (a_alloc rfl zeroValue25 rfl (fun id5 hid5 => ?_))
    refine .sw sizeOf25 rfl rfl rfl rfl ?_
    refine AOps.done 5 rfl hid5 ?_
    refine .nil <|
      .seq <|
      .region ?_
    refine .u rfl rfl rfl (q_ia_ai rfl underlying25 sizeOf3 rfl rfl (by decide) (by decide) rfl) ?_
    refine .li rfl isAgg3 rfl rfl ?_
    refine .u rfl rfl rfl (q_le rfl rfl rfl) ?_
    refine .mB rfl rfl ?_
    refine .gf rfl rfl rfl (fun _ => tl0) (fun hc => q_ia_ai rfl underlying25 sizeOf3 rfl rfl (by decide) (by decide) rfl) ?_
    refine .gf rfl rfl rfl (fun hc => tl1 20 (.opt hc)) (fun hc => q_load_i1 rfl isAgg3 rfl rfl) ?_
    refine .gf rfl rfl rfl (fun hc => tl1 21 (.opt hc)) (fun hc => q_eq rfl rfl rfl) ?_
    refine .pf rfl rfl rfl rfl <|
      .aB rfl rfl <|
      .nil ?_
    refine AW.ret ?_
    exact retQ.mk' (.one _) (VLe.of_eq (congrArg V.bool ((lost_eq hp).symm))) (HLe.refl _) ⟨rfl, rfl⟩

def resultF (s : St) : Int := if lostF s 0 && lostF s 1 then 3 else if lostF s 0 then 2 else if lostF s 1 then 1 else 0

theorem result_calls (s : St) (h : Hp) : ACalls prog G 147 [eState s] h fun r h' => r = .int .i64 (resultF s) ∧ h' = h := by
  refine ACalls.enter func147 rfl ntmps147 results147 rfl ?_
  refine .seq <|
    .region <|
    .bx rfl rfl <|
    .aI rfl rfl <|
    .nil <|
    .seq <|
    .seq ?_
  refine AW.draw [] [] [(0, true), (1, true), (2, true), (3, true), (4, true), (5, true)] mixed (by kernel_rfl) rfl (by kernel_rfl) ?_
  refine .q rfl rfl rfl rfl (q_load_iW rfl isAgg29 sizeOf29 rfl (by rfl)) ?_
  refine .q rfl rfl rfl rfl (QOp.call rfl (by exact call183) fun h' hl' => by exact lost_calls _ _ h') ?_
  refine .q rfl rfl rfl rfl (q_load_iW rfl isAgg29 sizeOf29 rfl (by rfl)) ?_
  refine .q rfl rfl rfl rfl (QOp.call rfl (by exact call183) fun h' hl' => by exact lost_calls _ _ h') ?_
  refine .q rfl rfl rfl rfl (q_as rfl (rfl : _ = V.bool _)) ?_
  refine .q rfl rfl rfl rfl (q_as rfl (rfl : _ = V.bool _)) ?_
  refine AOrd.nil ?_
  refine .block <|
    .seq <|
    .region <|
    .mB rfl rfl <|
    .mB rfl rfl ?_
  refine .gt rfl rfl rfl (fun _ => tl0) (fun hc => q_mv rfl (rfl : _ = V.bool _)) ?_
  refine .pt rfl rfl rfl rfl <|
    .aB rfl rfl <|
    .nil ?_
  refine AW.cond rfl (fun c0 => ?_) (fun c0 => ?_)
  · skip
    refine .seq <|
      .region <|
      .aI rfl rfl <|
      .nil ?_
    refine AW.ret ?_
    exact retQ.mk' (.one _) (VLe.of_eq (congrArg (V.int .i64) (by rw [resultF]; cases e0 : lostF s 0 <;> cases e1 : lostF s 1 <;> simp_all))) (HLe.refl _) ⟨rfl, rfl⟩
  · skip
    refine .seq <|
      .region <|
      .mB rfl rfl <|
      .aB rfl rfl <|
      .nil ?_
    refine AW.cond rfl (fun c1 => ?_) (fun c1 => ?_)
    · skip
      refine .seq <|
        .region <|
        .aI rfl rfl <|
        .nil ?_
      refine AW.ret ?_
      exact retQ.mk' (.one _) (VLe.of_eq (congrArg (V.int .i64) (by rw [resultF]; cases e0 : lostF s 0 <;> cases e1 : lostF s 1 <;> simp_all))) (HLe.refl _) ⟨rfl, rfl⟩
    · skip
      refine .seq <|
        .region <|
        .mB rfl rfl <|
        .aB rfl rfl <|
        .nil ?_
      refine AW.cond rfl (fun c2 => ?_) (fun c2 => ?_)
      · skip
        refine .seq <|
          .region <|
          .aI rfl rfl <|
          .nil ?_
        refine AW.ret ?_
        exact retQ.mk' (.one _) (VLe.of_eq (congrArg (V.int .i64) (by rw [resultF]; cases e0 : lostF s 0 <;> cases e1 : lostF s 1 <;> simp_all))) (HLe.refl _) ⟨rfl, rfl⟩
      · skip
        refine AW.skip ?_
        refine .seq <|
          .region <|
          .aI rfl rfl <|
          .nil ?_
        refine AW.ret ?_
        exact retQ.mk' (.one _) (VLe.of_eq (congrArg (V.int .i64) (by rw [resultF]; cases e0 : lostF s 0 <;> cases e1 : lostF s 1 <;> simp_all))) (HLe.refl _) ⟨rfl, rfl⟩

/-- An object's card. -/
def kindF (s : St) (i : Int) : Card := (cardE (s.objs.getD i.toNat noObj 0)).1
def creatureF (s : St) (i : Int) : Bool := inN i s.objs.length && s.objs.getD i.toNat noObj 3 == 8 && (kindF s i).kind == 1
/-- An effect that lasts. -/
structure Static where
  src : Int
  ctl : Int
  grp : Int
  doo : Eff0
def cStatic (x : Static) : List V := [.int .i64 x.src, .int .i64 x.ctl, .int .i64 x.grp, .int .i64 x.doo.op, .int .i64 x.doo.n, .int .i64 x.doo.m, .int .i64 x.doo.who, .sl .imm 5 0 []]
def reachesF (x : Static) (s : St) (i : Int) : Bool :=
  if x.grp = 0 then true else if x.grp = 1 then s.objs.getD i.toNat noObj 2 == x.ctl else if x.grp = 2 then !(s.objs.getD i.toNat noObj 2 == x.ctl) else s.objs.getD i.toNat noObj 2 == x.ctl && i != x.src
theorem cr_in {n i : Int} (h : (bif decide (0 ≤ i) then decide (i < n) else false) = true) : 0 ≤ i ∧ i < n := by
  by_cases e : 0 ≤ i
  · exact ⟨e, by simpa [e] using h⟩
  · simp [e] at h
theorem cr_in2 {n i : Int} {b : Bool} (h : (bif bif decide (0 ≤ i) then decide (i < n) else false then b else false) = true) : 0 ≤ i ∧ i < n := by
  refine cr_in ?_
  cases e : (bif decide (0 ≤ i) then decide (i < n) else false) with
  | true => rfl
  | false => rw [e] at h; cases h
theorem cr_eq {s : St} {i : Int} : (bif bif bif decide (0 ≤ i) then decide (i < (s.objs.length : Int)) else false then s.objs.getD i.toNat noObj 3 == 8 else false then (kindF s i).kind == 1 else false) = creatureF s i := by
  simp only [creatureF, inN]
  cases decide (0 ≤ i) <;> cases decide (i < (s.objs.length : Int)) <;> cases (s.objs.getD i.toNat noObj 3 == 8) <;> rfl
theorem cardE_err {n : Int} (h : (cardE n).2 ≠ 0) : (cardE n).1 = noCard := by
  unfold cardE at *; split
  · rfl
  · rename_i h1; rw [if_neg h1] at h; exact absurd rfl h

theorem kind_calls (s : St) (i : Int) (hi : 0 ≤ i ∧ i < s.objs.length) (h : Hp) : ACalls prog G 229 [eState s, .int .i64 i] h fun r h' => r = eCard (kindF s i) ∧ h' = h := by
  refine ACalls.enter func229 rfl ntmps229 results229 rfl ?_
  refine .seq <|
    .region <|
    .bx rfl rfl ?_
  refine AOps.s rfl rfl rfl (a_alloc rfl zeroValue44 rfl (fun id4 hid4 => ?_))
  refine .nil <|
    .seq <|
    .region <|
    .fi rfl f29_0 rfl <|
    .li rfl isAgg22 rfl rfl <|
    .mI rfl rfl ?_
  refine .u rfl rfl rfl (q_ia_s rfl underlying22 sizeOf72 rfl rfl (by omega) (by omega) (cObjs_elem' (by omega) (by omega))) ?_
  refine .u rfl rfl rfl (q_ia_ai rfl underlying72 sizeOf3 rfl rfl (by decide) (by decide) rfl) ?_
  refine .li rfl isAgg3 rfl rfl ?_
  refine .u rfl rfl rfl (QOp.call rfl call72 fun h' hl' => by exact card_calls _ h') ?_
  refine .u rfl rfl rfl (q_mv rfl (rfl : _ = V.tup _)) ?_
  refine .u rfl rfl rfl (q_extract rfl rfl rfl) ?_
  refine .u rfl rfl rfl (q_extract rfl rfl rfl) ?_
  refine AOps.s rfl rfl rfl (a_alloc rfl zeroValue44 rfl (fun id5 hid5 => ?_))
  refine .sw sizeOf44 rfl rfl rfl rfl ?_
  refine AOps.done 5 rfl hid5 ?_
  refine .u rfl rfl rfl (q_as rfl (rfl : _ = eErr _ _)) ?_
  refine .nil <|
    .seq <|
    .seq <|
    .region ?_
  refine .u rfl rfl rfl (q_mv rfl (rfl : _ = eErr _ _)) ?_
  refine .u rfl rfl rfl (q_neerr underlying58 rfl rfl) ?_
  refine .nil ?_
  refine AW.cond rfl (fun c0 => ?_) (fun c0 => ?_)
  · skip
    refine .seq <|
      .region ?_
    refine .u rfl rfl rfl (q_buildS (ds := [.int .i64 0, .int .i64 0, .bool false, .int .i64 0, .int .i64 0, .int .i64 0, .int .i64 0, .int .i64 0, .int .i64 0, .int .i64 0, .int .i64 0, .int .i64 0, .snil]) rfl zeroValue44 underlying44 (pl44 underlying44) rfl (by kernel_rfl)) ?_
    refine .sw sizeOf44 rfl rfl rfl rfl <|
      .nil ?_
    refine AW.ret ?_
    exact retQ.mk' (Res.cellB isAgg44 sizeOf44 rfl (by exact bsb) rfl) (by rw [kindF, cardE_err (by simpa using c0)]; exact zCard_le.agg) (HLe.setBox hid4.1) ⟨rfl, rfl⟩
  · skip
    refine AW.skip ?_
    refine .seq <|
      .region <|
      .lw rfl isAgg44 sizeOf44 rfl rfl <|
      .sw sizeOf44 rfl rfl rfl rfl <|
      .nil ?_
    refine AW.ret ?_
    exact retQ.mk' (Res.cellB isAgg44 sizeOf44 rfl (by exact bsb) rfl) (VLe.refl _) (HLe.setBox hid4.1) ⟨rfl, rfl⟩

theorem creature_calls (s : St) (i : Int) (h : Hp) : ACalls prog G 218 [eState s, .int .i64 i] h fun r h' => r = .bool (creatureF s i) ∧ h' = h := by
  refine ACalls.enter func218 rfl ntmps218 results218 rfl ?_
  refine .seq <|
    .region <|
    .bx rfl rfl <|
    .aB rfl rfl <|
    .nil <|
    .seq <|
    .region <|
    .mI rfl rfl <|
    .qg rfl rfl rfl <|
    .mB rfl rfl ?_
  refine .gt rfl rfl rfl (fun _ => tl0) (fun hc => q_mv rfl (rfl : _ = V.int _ _)) ?_
  refine .gt rfl rfl rfl (fun _ => tl0) (fun hc => q_fa_i rfl underlying29 rfl (by exact sizeOf22) (by decide) rfl (rfl : _ = List.drop 0 _)) ?_
  refine .gt rfl rfl rfl (fun hc => tl1 9 (.opt hc)) (fun hc => q_load_i1 rfl isAgg22 rfl rfl) ?_
  refine .gt rfl rfl rfl (fun hc => tl1 10 (.opt hc)) (fun hc => q_len rfl underlying22 rfl) ?_
  refine .gt rfl rfl rfl (fun hc => tl2 11 8 (.opt hc) (.opt hc)) (fun hc => q_lt rfl rfl rfl) ?_
  refine .pt rfl rfl rfl rfl <|
    .mB rfl rfl ?_
  refine .gt rfl rfl rfl (fun _ => tl0) (fun hc => q_fa_i rfl underlying29 rfl (by exact sizeOf22) (by decide) rfl (rfl : _ = List.drop 0 _)) ?_
  refine .gt rfl rfl rfl (fun hc => tl1 15 (.opt hc)) (fun hc => q_load_i1 rfl isAgg22 rfl rfl) ?_
  refine .gt rfl rfl rfl (fun _ => tl0) (fun hc => q_mv rfl (rfl : _ = V.int _ _)) ?_
  refine .gt rfl rfl rfl (fun hc => tl2 17 16 (.opt hc) (.opt hc)) (fun hc => q_ia_s rfl underlying22 sizeOf72 rfl rfl (cr_in hc).1 (cr_in hc).2 (cObjs_elem' (cr_in hc).1 (cr_in hc).2)) ?_
  refine .gt rfl rfl rfl (fun hc => tl1 18 (.opt hc)) (fun hc => q_ia_ai rfl underlying72 sizeOf3 rfl rfl (by decide) (by decide) rfl) ?_
  refine .gt rfl rfl rfl (fun hc => tl1 19 (.opt hc)) (fun hc => q_load_i1 rfl isAgg3 rfl rfl) ?_
  refine .gt rfl rfl rfl (fun hc => tl1 20 (.opt hc)) (fun hc => q_eq rfl rfl rfl) ?_
  refine .pt rfl rfl rfl rfl <|
    .mB rfl rfl ?_
  refine .gt rfl rfl rfl (fun _ => tl0) (fun hc => q_load_iW rfl isAgg29 sizeOf29 rfl (by rfl)) ?_
  refine .gt rfl rfl rfl (fun _ => tl0) (fun hc => q_mv rfl (rfl : _ = V.int _ _)) ?_
  refine .gt rfl rfl rfl (fun hc => tl2 25 24 (.opt hc) (.opt hc)) (fun hc => QOp.call rfl (by exact call229) fun h' hl' => by exact kind_calls _ _ (cr_in2 hc) h') ?_
  refine .gt rfl rfl rfl (fun hc => tl1 26 (.opt hc)) (fun hc => q_f1 rfl underlying44 rfl (by exact isAgg3) rfl rfl) ?_
  refine .gt rfl rfl rfl (fun hc => tl1 27 (.opt hc)) (fun hc => q_eq rfl rfl rfl) ?_
  refine .pt rfl rfl rfl rfl <|
    .aB rfl rfl <|
    .nil ?_
  refine AW.ret ?_
  exact retQ.mk' (.one _) (VLe.of_eq (congrArg V.bool (cr_eq))) (HLe.refl _) ⟨rfl, rfl⟩

theorem reaches_calls (x : Static) (s : St) (i : Int) (hi : 0 ≤ i ∧ i < s.objs.length) (h : Hp) : ACalls prog G 231 [.agg (cStatic x), eState s, .int .i64 i] h fun r h' => r = .bool (reachesF x s i) ∧ h' = h := by
  refine ACalls.enter func231 rfl ntmps231 results231 rfl ?_
  refine .seq <|
    .region <|
    .bx rfl rfl <|
    .bx rfl rfl <|
    .aB rfl rfl <|
    .nil <|
    .seq ?_
  refine AW.draw [] [] [(0, true), (1, true), (2, true), (3, true), (4, true), (5, true), (6, true), (7, true), (8, true), (9, true)] mixed (by kernel_rfl) rfl (by kernel_rfl) ?_
  refine .q rfl rfl rfl rfl (q_fa_i rfl underlying29 rfl (by exact sizeOf22) (by decide) rfl (rfl : _ = List.drop 0 _)) ?_
  refine .q rfl rfl rfl rfl (q_load_i1 rfl isAgg22 rfl rfl) ?_
  refine .q rfl rfl rfl rfl (q_mv rfl (rfl : _ = V.int _ _)) ?_
  refine .q rfl rfl rfl rfl (q_ia_s rfl underlying22 sizeOf72 rfl rfl (by omega) (by omega) (cObjs_elem' (by omega) (by omega))) ?_
  refine .q rfl rfl rfl rfl (q_ia_ai rfl underlying72 sizeOf3 rfl rfl (by decide) (by decide) rfl) ?_
  refine .q rfl rfl rfl rfl (q_load_i1 rfl isAgg3 rfl rfl) ?_
  refine .q rfl rfl rfl rfl (q_fa_i rfl underlying243 rfl (by exact sizeOf3) (by decide) rfl (rfl : _ = List.drop 1 _)) ?_
  refine .q rfl rfl rfl rfl (q_load_i1 rfl isAgg3 rfl rfl) ?_
  refine .q rfl rfl rfl rfl (q_eq rfl rfl rfl) ?_
  refine .q rfl rfl rfl rfl (q_as rfl (rfl : _ = V.bool _)) ?_
  refine AOrd.nil ?_
  refine .seq <|
    .seq <|
    .region <|
    .fi rfl f243_2 rfl <|
    .li rfl isAgg3 rfl rfl <|
    .nil <|
    .block <|
    .seq <|
    .region <|
    .qe rfl rfl rfl <|
    .aB rfl rfl <|
    .nil ?_
  refine AW.cond rfl (fun c0 => ?_) (fun c0 => ?_)
  · skip
    refine .seq <|
      .region <|
      .aB rfl rfl <|
      .nil ?_
    refine AW.ret ?_
    exact retQ.mk' (.one _) (VLe.of_eq (congrArg V.bool (by simp at c0; simp [reachesF, c0]))) (HLe.refl _) ⟨rfl, rfl⟩
  · skip
    refine .seq <|
      .region <|
      .qe rfl rfl rfl <|
      .aB rfl rfl <|
      .nil ?_
    refine AW.cond rfl (fun c1 => ?_) (fun c1 => ?_)
    · skip
      refine .seq <|
        .region <|
        .mB rfl rfl <|
        .aB rfl rfl <|
        .nil ?_
      refine AW.ret ?_
      exact retQ.mk' (.one _) (VLe.of_eq (congrArg V.bool (by simp at c0 c1; simp [reachesF, c1]))) (HLe.refl _) ⟨rfl, rfl⟩
    · skip
      refine .seq <|
        .region <|
        .qe rfl rfl rfl <|
        .aB rfl rfl <|
        .nil ?_
      refine AW.cond rfl (fun c2 => ?_) (fun c2 => ?_)
      · skip
        refine .seq <|
          .region <|
          .mB rfl rfl <|
          .nt rfl rfl <|
          .aB rfl rfl <|
          .nil ?_
        refine AW.ret ?_
        exact retQ.mk' (.one _) (VLe.of_eq (congrArg V.bool (by simp at c0 c1 c2; simp [reachesF, c2]))) (HLe.refl _) ⟨rfl, rfl⟩
      · skip
        refine AW.skip ?_
        refine .seq <|
          .region <|
          .mB rfl rfl <|
          .mB rfl rfl ?_
        refine .gt rfl rfl rfl (fun _ => tl0) (fun hc => q_mv rfl (rfl : _ = V.int _ _)) ?_
        refine .gt rfl rfl rfl (fun _ => tl0) (fun hc => q_fa_i rfl underlying243 rfl (by exact sizeOf3) (by decide) rfl (rfl : _ = List.drop 0 _)) ?_
        refine .gt rfl rfl rfl (fun hc => tl1 31 (.opt hc)) (fun hc => q_load_i1 rfl isAgg3 rfl rfl) ?_
        refine .gt rfl rfl rfl (fun hc => tl2 32 30 (.opt hc) (.opt hc)) (fun hc => q_ne rfl rfl rfl) ?_
        refine .pt rfl rfl rfl rfl <|
          .aB rfl rfl <|
          .nil ?_
        refine AW.ret ?_
        exact retQ.mk' (.one _) (VLe.of_eq (congrArg V.bool (by simp at c0 c1 c2; simp [reachesF, c0, c1, c2]))) (HLe.refl _) ⟨rfl, rfl⟩

end Go.Proofs.YtagcjkbogaoifaaGreatDoor
/- Walks: the effects that last. -/
namespace Go.Proofs.YtagcjkbogaoifaaGreatDoor
open Go Go.AV Go.Proofs.Tryz
set_option maxRecDepth 100000
set_option maxHeartbeats 1000000
theorem cardF_subs : ∀ k : Fin 120, ((cardF (k.val : Int)).abs.all fun a => a.when != 5 || 0 < a.doo.subs.length) = true := by decide +kernel
theorem cardE_subs (n : Int) : ∀ a ∈ (cardE n).1.abs, a.when = 5 → 0 < a.doo.subs.length := by
  intro a ha hw
  unfold cardE at ha
  split at ha
  · simp [noCard] at ha
  · rename_i h
    have := cardF_subs ⟨n.toNat, by omega⟩
    have e : ((n.toNat : Nat) : Int) = n := by omega
    simp only [e, List.all_eq_true] at this
    have := this a ha
    simpa [hw] using this
def noEff0 : Eff0 := ⟨0, 0, 0, 0⟩
def staticOf (s : St) (id : Int) (j : Int) : Static := ⟨id, s.objs.getD id.toNat noObj 2, ((kindF s id).abs.getD j.toNat noAb).doo.n, ((kindF s id).abs.getD j.toNat noAb).doo.subs.getD 0 noEff0⟩
def staticsOf (s : St) (id : Int) : List Static := (usesF (kindF s id) 5).map (staticOf s id)
/-- The effects that last. -/
def staticsF (s : St) : List Static := (s.lists 8).flatMap (staticsOf s)
def stUp (s : St) (i k : Nat) : List Static := ((s.lists 8).take i).flatMap (staticsOf s) ++ (staticsOf s ((s.lists 8).getD i 0)).take k
theorem stUp_next {s : St} {i : Nat} (h : i < (s.lists 8).length) : stUp s i (usesF (kindF s ((s.lists 8).getD i 0)) 5).length = stUp s (i + 1) 0 := by
  have e : (staticsOf s ((s.lists 8).getD i 0)).length = (usesF (kindF s ((s.lists 8).getD i 0)) 5).length := by simp [staticsOf]
  rw [stUp, ← e, List.take_length, stUp, List.take_zero, List.append_nil, List.take_add_one, List.getElem?_eq_getElem h, getD_of h, Option.toList_some, List.flatMap_append]
  simp only [List.flatMap_cons, List.flatMap_nil, List.append_nil]
theorem stUp_succ {s : St} {i k : Nat} (h : k < (usesF (kindF s ((s.lists 8).getD i 0)) 5).length) : stUp s i (k + 1) = stUp s i k ++ [staticOf s ((s.lists 8).getD i 0) ((usesF (kindF s ((s.lists 8).getD i 0)) 5).getD k 0)] := by
  rw [stUp, stUp, List.take_add_one, staticsOf, List.getElem?_map, List.getElem?_eq_getElem h, getD_of h, List.append_assoc]; rfl
theorem stUp_all {s : St} : stUp s (s.lists 8).length 0 = staticsF s := by simp [stUp, staticsF]
def cStatics (l : List Static) : List V := l.flatMap cStatic
theorem uses_in {c : Card} {w : Int} {x : Int} (h : x ∈ usesF c w) : 0 ≤ x ∧ x < c.abs.length ∧ (c.abs.getD x.toNat noAb).when = w := by
  simp only [usesF, usesUp, List.mem_map, List.mem_filter, List.mem_range, beq_iff_eq] at h
  obtain ⟨j, ⟨h1, h2⟩, rfl⟩ := h
  exact ⟨by omega, by omega, by simpa using h2⟩

theorem sub_at {l : List Eff0} (h : 0 < l.length) : ((l.flatMap cEff0).drop (Int.toNat 0 * 5)).take 5 = cEff0 (l.getD 0 noEff0) := flat_at (f := cEff0) (n := 5) (fun _ => rfl) noEff0 (i := 0) h
theorem static_app (l : List Static) (x : Static) : cStatics (l ++ [x]) = cStatics l ++ cStatic x := by simp [cStatics]
theorem static_pos {s : St} {id x : Int} (h : x ∈ usesF (kindF s id) 5) : 0 < ((kindF s id).abs.getD x.toNat noAb).doo.subs.length := by
  obtain ⟨h0, h1, h2⟩ := uses_in h
  have hlt : x.toNat < (kindF s id).abs.length := by omega
  refine cardE_subs (s.objs.getD id.toNat noObj 0) _ ?_ h2
  rw [getD_of' hlt]; exact List.getElem_mem hlt
theorem abil_elem {l : List Abil} {i : Int} (h0 : 0 ≤ i) (h1 : i < l.length) : ((l.flatMap cAbil).drop (i.toNat * 14)).take 14 = cAbil (l.getD i.toNat noAb) := flat_at (f := cAbil) (n := 14) (fun _ => rfl) noAb (by omega)
theorem stUp_len {s : St} (hl : (s.lists 8).length ≤ 1000000) {i k : Nat} : (stUp s i k).length ≤ 10000000 := by
  have h1 : ∀ id, (staticsOf s id).length ≤ 4 := fun id => by
    rw [staticsOf, List.length_map]; exact Nat.le_trans uses_le (cardE_abs _)
  have h2 : ∀ l : List Int, (l.flatMap (staticsOf s)).length ≤ l.length * 4 := fun l => by
    induction l with
    | nil => simp
    | cons a l ih => rw [List.flatMap_cons, List.length_append, List.length_cons]; have := h1 a; omega
  have h3 := h2 ((s.lists 8).take i)
  have h4 : ((s.lists 8).take i).length ≤ 1000000 := Nat.le_trans (List.length_take_le' _ _) hl
  have h5 : ((staticsOf s ((s.lists 8).getD i 0)).take k).length ≤ 4 := Nat.le_trans (List.length_take_le' _ _) (h1 _)
  rw [stUp, List.length_append]; omega

theorem statics_calls (s : St) (hz : ∀ id ∈ s.lists 8, 0 ≤ id ∧ id < s.objs.length) (hl : (s.lists 8).length ≤ 1000000) (h : Hp) : ACalls prog G 230 [eState s] h fun r h' => r = .sl .imm 8 (staticsF s).length (cStatics (staticsF s)) ∧ h' = h := by
  refine ACalls.enter func230 rfl ntmps230 results230 rfl ?_
  refine .seq <|
    .region <|
    .bx rfl rfl <|
    .aN rfl rfl <|
    .nil <|
    .seq <|
    .region <|
    .aN rfl rfl <|
    .nil <|
    .seq <|
    .seq <|
    .region <|
    .fi rfl f29_1 rfl ?_
  refine .u rfl rfl rfl (q_ia_ai rfl underlying24 sizeOf23 rfl rfl (by decide) (by decide) rfl) ?_
  refine .li rfl isAgg23 rfl rfl <|
    .ln rfl underlying23 rfl <|
    .mI rfl rfl <|
    .nil <|
    .block ?_
  refine AW.loop (fun n T hh => ∃ (i : Nat) (v : V), i ≤ (s.lists 8).length ∧ n = (s.lists 8).length - i ∧ T = put (put (put (put (put (T0) 14 (V.int .i64 (i : Nat))) 13 (V.int .i64 (s.lists 8).length)) 12 (eInts (s.lists 8))) 3 (v)) 1 (V.iptr (cState s)) ∧ Go.AV.Acc h 8 (stUp s i 0).length (cStatics (stUp s i 0)) v hh) ((s.lists 8).length) ?_ ?_
  · skip
    refine Wk.mk (TLe.put (d := 1) (VLe.refl _) (TLe.put (d := 3) (VLe.refl _) (TLe.put (d := 12) (VLe.refl _) (TLe.put (d := 13) (VLe.refl _) (TLe.put (d := 14) (by exact VLe.of_eq (congrArg (V.int .i64) (by first | rfl | omega))) (TLe.zero _)))))) (HLe.refl _) ⟨0, V.snil, Nat.zero_le _, rfl, rfl, by exact Go.AV.Acc.nil h 8⟩
  · skip
    rintro n T h' ⟨i, v, hi, rfl, rfl, hem⟩
    refine .seq <|
      .region <|
      .ql rfl rfl rfl <|
      .nil <|
      .seq ?_
    refine AW.cond rfl (fun c0 => ?_) (fun c0 => ?_)
    · have hlt : i < (s.lists 8).length := by have := of_decide_eq_true c0; omega
      have hid := hz _ (getD_mem hlt)
      have hab := cardE_abs (s.objs.getD ((s.lists 8).getD i 0).toNat noObj 0)
      refine AW.skip ?_
      refine .seq <|
        .block <|
        .seq <|
        .region ?_
      refine .u rfl rfl rfl (q_ia_s rfl underlying23 sizeOf3 rfl rfl (by omega) (by omega) (cInts_at hlt)) ?_
      refine .li rfl isAgg3 rfl rfl <|
        .aI rfl rfl <|
        .nil <|
        .seq <|
        .region <|
        .lw rfl isAgg29 sizeOf29 rfl rfl <|
        .mI rfl rfl ?_
      refine .u rfl rfl rfl (QOp.call rfl call229 fun h' hl' => by exact kind_calls s _ hid h') ?_
      refine AOps.s rfl rfl rfl (a_alloc rfl zeroValue44 rfl (fun id6 hid6 => ?_))
      refine .sw sizeOf44 rfl rfl rfl rfl ?_
      refine AOps.done 6 rfl hid6 ?_
      refine .nil <|
        .seq <|
        .region <|
        .lw rfl isAgg44 sizeOf44 rfl rfl ?_
      refine .u rfl rfl rfl (QOp.call rfl call63 fun h' hl' => by exact uses_calls _ 5 (by have := hab; unfold kindF; omega) h') ?_
      refine .ln rfl underlying23 rfl <|
        .mI rfl rfl <|
        .nil <|
        .block ?_
      refine AW.loop (fun n T hh => ∃ (k : Nat) (v2 : V), k ≤ (usesF (kindF s ((s.lists 8).getD i 0)) 5).length ∧ n = (usesF (kindF s ((s.lists 8).getD i 0)) 5).length - k ∧ T = put (put (put (put (put (put (put (put (put (put (T0) 24 (V.int .i64 (k : Nat))) 23 (V.int .i64 (usesF (kindF s ((s.lists 8).getD i 0)) 5).length)) 22 (eInts (usesF (kindF s ((s.lists 8).getD i 0)) 5))) 14 (V.int .i64 (i : Nat))) 13 (V.int .i64 (s.lists 8).length)) 12 (eInts (s.lists 8))) 6 (V.iptr (cCard (kindF s ((s.lists 8).getD i 0))))) 5 (V.int .i64 ((s.lists 8).getD i 0))) 3 (v2)) 1 (V.iptr (cState s)) ∧ Go.AV.Acc h 8 (stUp s i k).length (cStatics (stUp s i k)) v2 hh) ((usesF (kindF s ((s.lists 8).getD i 0)) 5).length) ?_ ?_
      · skip
        refine Wk.mk (TLe.put (d := 1) (VLe.refl _) (TLe.put (d := 3) (VLe.refl _) (TLe.put (d := 5) (VLe.refl _) (TLe.put (d := 6) (VLe.refl _) (TLe.put (d := 12) (VLe.refl _) (TLe.put (d := 13) (VLe.refl _) (TLe.put (d := 14) (VLe.refl _) (TLe.put (d := 22) (VLe.refl _) (TLe.put (d := 23) (VLe.refl _) (TLe.put (d := 24) (by exact VLe.of_eq (congrArg (V.int .i64) (by first | rfl | omega))) (TLe.zero _))))))))))) (HLe.refl _) ⟨0, v, Nat.zero_le _, rfl, rfl, by exact hem⟩
      · skip
        rintro n T h' ⟨k, v2, hk, rfl, rfl, hem2⟩
        refine .seq <|
          .region <|
          .ql rfl rfl rfl <|
          .nil <|
          .seq ?_
        refine AW.cond rfl (fun c1 => ?_) (fun c1 => ?_)
        · have hltk : k < (usesF (kindF s ((s.lists 8).getD i 0)) 5).length := by have := of_decide_eq_true c1; omega
          have hu := uses_in (getD_mem hltk)
          have hug : (usesF (kindF s ((s.lists 8).getD i 0)) 5).length ≤ 4 := Nat.le_trans uses_le (cardE_abs _)
          have hsub := static_pos (getD_mem hltk)
          have hul := stUp_len hl (i := i) (k := k)
          refine AW.skip ?_
          refine .seq <|
            .block <|
            .seq <|
            .region ?_
          refine .u rfl rfl rfl (q_ia_s rfl underlying23 sizeOf3 rfl rfl (by omega) (by omega) (cInts_at hltk)) ?_
          refine .li rfl isAgg3 rfl rfl <|
            .aI rfl rfl <|
            .nil <|
            .seq <|
            .region <|
            .fi rfl f44_12 rfl <|
            .li rfl isAgg42 rfl rfl <|
            .mI rfl rfl ?_
          refine .u rfl rfl rfl (q_ia_s rfl underlying42 sizeOf38 rfl rfl hu.1 hu.2.1 (abil_elem hu.1 hu.2.1)) ?_
          refine .fi rfl f38_9 rfl ?_
          refine .u rfl rfl rfl (q_load_iN (ds := cEff ((kindF s ((s.lists 8).getD i 0)).abs.getD ((usesF (kindF s ((s.lists 8).getD i 0)) 5).getD k 0).toNat noAb).doo) rfl isAgg36 sizeOf36 rfl rfl rfl) ?_
          refine AOps.s rfl rfl rfl (a_alloc rfl zeroValue36 rfl (fun id9 hid9 => ?_))
          refine .sw sizeOf36 rfl rfl rfl rfl ?_
          refine AOps.done 9 rfl hid9 ?_
          refine .nil ?_
          refine AW.draw [16] [1, 2, 3, 4, 5, 6, 7, 8, 9, 10, 11, 12, 13] [(0, true), (1, true), (2, true), (3, true), (4, true), (5, true), (6, true), (7, true), (8, true), (9, true), (10, true), (11, true), (12, true), (13, true), (14, false), (15, true), (16, false), (17, true)] mixed (by kernel_rfl) rfl (by kernel_rfl) ?_
          refine .q rfl rfl rfl rfl (q_mv rfl (rfl : _ = _)) ?_
          refine .p rfl rfl rfl (fun _ => q_mv rfl (rfl : _ = V.int _ _)) ?_
          refine .p rfl rfl rfl (fun _ => q_fa_i rfl underlying29 rfl (by exact sizeOf22) (by decide) rfl (rfl : _ = List.drop 0 _)) ?_
          refine .p rfl rfl rfl (fun _ => q_load_i1 rfl isAgg22 rfl rfl) ?_
          refine .p rfl rfl rfl (fun _ => q_mv rfl (rfl : _ = V.int _ _)) ?_
          refine .p rfl rfl rfl (fun _ => q_ia_s rfl underlying22 sizeOf72 rfl rfl hid.1 hid.2 (cObjs_elem' hid.1 hid.2)) ?_
          refine .p rfl rfl rfl (fun _ => q_ia_ai rfl underlying72 sizeOf3 rfl rfl (by decide) (by decide) rfl) ?_
          refine .p rfl rfl rfl (fun _ => q_load_i1 rfl isAgg3 rfl rfl) ?_
          refine .p rfl rfl rfl (fun _ => q_fa_i rfl underlying36 rfl (by exact sizeOf3) (by decide) rfl (rfl : _ = List.drop 1 _)) ?_
          refine .p rfl rfl rfl (fun _ => q_load_i1 rfl isAgg3 rfl rfl) ?_
          refine .p rfl rfl rfl (fun _ => q_fa_i rfl underlying36 rfl (by exact sizeOf34) (by decide) rfl (rfl : _ = List.drop 4 _)) ?_
          refine .p rfl rfl rfl (fun _ => q_load_i1 rfl isAgg34 rfl rfl) ?_
          refine .p rfl rfl rfl (fun _ => q_ia_s rfl underlying34 sizeOf36 rfl rfl (by decide) (by omega) (sub_at hsub)) ?_
          refine .p rfl rfl rfl (fun _ => q_load_iW rfl isAgg36 sizeOf36 rfl (by rfl)) ?_
          refine AOrd.qf rfl rfl rfl (q_buildS (ds := cStatic (staticOf s ((s.lists 8).getD i 0) ((usesF (kindF s ((s.lists 8).getD i 0)) 5).getD k 0))) rfl zeroValue243 underlying243 (pl243 underlying243) rfl (by kernel_rfl)) ?_
          refine .q rfl rfl rfl rfl (q_buildSl (ds := cStatic (staticOf s ((s.lists 8).getD i 0) ((usesF (kindF s ((s.lists 8).getD i 0)) 5).getD k 0))) rfl underlying240 sizeOf243 zeroValue243 rfl rfl rfl rfl (by kernel_rfl)) ?_
          refine AOrd.s rfl rfl rfl rfl (a_append rfl underlying240 (i := t243) (by kernel_rfl) rfl (n := 8) (by' := 80) rfl rfl rfl rfl hem2 rfl rfl (by decide) (by omega) (by omega) rfl (fun v3 h3 acc => ?_))
          refine .q rfl rfl rfl rfl (q_as rfl (rfl : _ = _)) ?_
          refine AOrd.nil ?_
          refine .region <|
            .ad rfl rfl rfl (by omega) <|
            .mI rfl rfl <|
            .nil ?_
          refine Wk.mk (TLe.put (d := 1) (VLe.refl _) (TLe.put (d := 3) (VLe.refl _) (TLe.put (d := 5) (VLe.refl _) (TLe.put (d := 6) (VLe.refl _) (TLe.put (d := 12) (VLe.refl _) (TLe.put (d := 13) (VLe.refl _) (TLe.put (d := 14) (VLe.refl _) (TLe.put (d := 22) (VLe.refl _) (TLe.put (d := 23) (VLe.refl _) (TLe.put (d := 24) (by exact VLe.of_eq (congrArg (V.int .i64) (by first | rfl | omega))) (TLe.zero _))))))))))) (HLe.refl _) ⟨_, ?_, k + 1, _, ?_, rfl, rfl, by rw [stUp_succ hltk, static_app, List.length_append]; exact acc⟩
          · omega
          · omega
        · obtain rfl : k = (usesF (kindF s ((s.lists 8).getD i 0)) 5).length := by have := of_decide_eq_false c1; omega
          refine AW.exit ?_
          refine .region <|
            .ad rfl rfl rfl (by omega) <|
            .mI rfl rfl <|
            .nil ?_
          refine Wk.mk (TLe.put (d := 1) (VLe.refl _) (TLe.put (d := 3) (VLe.refl _) (TLe.put (d := 12) (VLe.refl _) (TLe.put (d := 13) (VLe.refl _) (TLe.put (d := 14) (by exact VLe.of_eq (congrArg (V.int .i64) (by first | rfl | omega))) (TLe.zero _)))))) (HLe.refl _) ⟨_, ?_, i + 1, _, ?_, rfl, rfl, by rw [← stUp_next hlt]; exact hem2⟩
          · omega
          · omega
    · obtain rfl : i = (s.lists 8).length := by have := of_decide_eq_false c0; omega
      refine AW.exit ?_
      refine .seq <|
        .region ?_
      refine .u rfl rfl rfl (q_mv rfl (rfl : _ = _)) ?_
      refine .u rfl rfl rfl (q_as rfl (rfl : _ = _)) ?_
      refine .nil ?_
      refine AW.ret ?_
      rw [stUp_all] at hem
      exact retQ.mk' (.one _) hem.vle hem.hle ⟨rfl, rfl⟩

end Go.Proofs.YtagcjkbogaoifaaGreatDoor
