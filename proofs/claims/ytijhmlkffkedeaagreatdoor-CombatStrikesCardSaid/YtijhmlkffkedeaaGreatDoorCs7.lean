/- Walks: a new emitter; showing. -/
import Derived.Test.YtijhmlkffkedeaaGreatDoorCs6
namespace Go.Proofs.YtijhmlkffkedeaaGreatDoor
open Go Go.AV Go.Proofs.Tryz
set_option maxRecDepth 100000
set_option maxHeartbeats 400000
def randF (l : List Int) : Int := if 4096 < (l.length : Int) then 19 else 0

theorem randCheck_calls (l : List Int) (h : Hp) : ACalls prog G 46 [eInts l] h fun r h' => r = eE (randF l) ∧ h' = h := by
  refine ACalls.enter func46 rfl ntmps46 results46 rfl ?_
  refine .seq <|
    .region ?_
  refine .u rfl rfl rfl (q_as rfl (rfl : _ = V.inil)) ?_
  refine .nil <|
    .seq <|
    .seq <|
    .region <|
    .mS rfl rfl <|
    .ln rfl underlying23 rfl ?_
  refine .u rfl rfl rfl (q_gt rfl rfl rfl) ?_
  refine .nil ?_
  refine AW.cond rfl (fun c0 => ?_) (fun c0 => ?_)
  · skip
    refine .seq <|
      .region ?_
    refine .u rfl rfl rfl (q_iface rfl underlying93 rfl) ?_
    refine .u rfl rfl rfl (q_as rfl (rfl : _ = V.iface _ _)) ?_
    refine .nil ?_
    refine AW.ret ?_
    exact retQ.mk (.one _) ⟨by show V.iface _ (V.int _ _) = _; rw [randF, if_pos (by simpa using c0)]; exact (eErr_ne (by decide)).symm, rfl⟩
  · skip
    refine AW.skip ?_
    refine .seq <|
      .region ?_
    refine .u rfl rfl rfl (q_as rfl (rfl : _ = V.inil)) ?_
    refine .nil ?_
    refine AW.ret ?_
    exact retQ.mk (.one _) ⟨by show V.inil = _; rw [randF, if_neg (by simpa using c0)]; exact (eErr_zero _).symm, rfl⟩

def newF (s : St) (draws : List Int) : Em := (⟨s, draws, [], [], checkF s⟩ : Em).fail (randF draws)
theorem new_fill {pl : Array (Nat × Nat)} (hpl : pl = #[(0, 37), (37, 1), (38, 1), (39, 1), (40, 1)]) (s : St) (draws : List Int) (e : Int) {cs : List V} (hcs : cs = zState ++ [.snil, .snil, .snil, .inil]) :
    afill (pl[·]?) cs [(0, eState s), (1, eInts draws), (4, eE e)] = some (emCells ⟨s, draws, [], [], e⟩ .snil .snil) := by
  subst hpl hcs
  unfold emCells
  by_cases h : e = 0
  · simp only [h, eErr_zero]; rfl
  · simp only [eErr_ne h]; rfl
theorem new_at {h0 : Hp} {id : Nat} (hid : h0.fresh id) (s : St) (draws : List Int) (e : Int) : EmR h0 id ⟨s, draws, [], [], e⟩ .snil .snil :=
  ⟨⟨rfl, .inl ⟨rfl, rfl, rfl⟩⟩, ⟨rfl, .inl ⟨rfl, rfl, rfl⟩⟩, trivial, trivial, hid⟩

theorem new_calls (s : St) (draws : List Int) (hb : s.objs.length ≤ 1000000) (hl : ∀ z, (s.lists z).length ≤ 1000000) (hd : draws.length ≤ 1000000) (h : Hp) : ACalls prog G 15 [eState s, eInts draws] h fun r h' => ∃ id, r = .ptr id 0 ∧ EmAt h id (newF s draws) h' := by
  refine ACalls.enter func15 rfl ntmps15 results15 rfl ?_
  refine .seq <|
    .region <|
    .bx rfl rfl ?_
  refine .u rfl rfl rfl (q_as rfl (rfl : _ = V.pnil)) ?_
  refine .nil <|
    .seq ?_
  refine AW.draw [] [] [(0, true), (1, true), (2, true), (3, true), (4, true), (5, true), (6, true), (7, false), (8, true)] mixed (by kernel_rfl) rfl (by kernel_rfl) ?_
  refine .q rfl rfl rfl rfl (q_load_iW rfl isAgg29 sizeOf29 rfl (by rfl)) ?_
  refine .q rfl rfl rfl rfl (QOp.call rfl (by exact call43) fun h' hl' => by exact copy_calls _ (by assumption) (by assumption) h') ?_
  refine .q rfl rfl rfl rfl (q_mv rfl (rfl : _ = V.sl _ _ _ _)) ?_
  refine .q rfl rfl rfl rfl (QOp.call rfl (by exact call44) fun h' hl' => by exact cloneI_calls _ _ (by assumption) h') ?_
  refine .q rfl rfl rfl rfl (q_load_iW rfl isAgg29 sizeOf29 rfl (by rfl)) ?_
  refine .q rfl rfl rfl rfl (QOp.call rfl (by exact call32) fun h' hl' => by exact check_calls _ (by assumption) (by assumption) h') ?_
  refine .q rfl rfl rfl rfl (q_buildS (ds := emCells ⟨s, draws, [], [], checkF s⟩ .snil .snil) rfl zeroValue73 underlying73 (pl73 underlying73) rfl (by exact new_fill rfl s draws (checkF s) rfl)) ?_
  refine AOrd.s' rfl rfl rfl (a_boxa rfl (rfl : _ = V.agg _) (fun id13 hid13 => ⟨?_, HLe.setBox hid13.1⟩))
  refine .q rfl rfl rfl rfl (q_as rfl (rfl : _ = V.ptr _ _)) ?_
  refine AOrd.nil ?_
  refine .seq <|
    .region <|
    .mP rfl rfl <|
    .mS rfl rfl ?_
  refine .u rfl rfl rfl (QOp.call rfl call46 fun h' hl' => by exact randCheck_calls _ h') ?_
  refine AOps.s rfl rfl rfl ((AStep.call rfl (by exact call45) (fail_calls _ .snil .snil _ id13 _)).mono ?_)
  rintro x3 h3 ⟨rfl, rfl⟩
  refine .nil <|
    .seq <|
    .region <|
    .mP rfl rfl <|
    .aP rfl rfl <|
    .nil ?_
  refine AW.ret ?_
  exact retQ.mk (.one _) ⟨id13, rfl, fail_at (new_at hid13 s draws (checkF s)) _⟩

end Go.Proofs.YtijhmlkffkedeaaGreatDoor
/- Walks: what becomes pending. -/
namespace Go.Proofs.YtijhmlkffkedeaaGreatDoor
open Go Go.AV Go.Proofs.Tryz
set_option maxRecDepth 100000
set_option maxHeartbeats 1000000
theorem setTok_comm (h : Hp) {i j : Nat} (a b : Nat) (e : i ≠ j) : (h.setTok i a).setTok j b = (h.setTok j b).setTok i a := by
  simp only [Hp.setTok]; congr 1; funext k
  by_cases h1 : k = i
  · subst h1; simp [e]
  · by_cases h2 : k = j
    · subst h2; simp [h1]
    · simp [h1, h2]
/-- Two rows, in either order. -/
theorem tok_swap {v u : V} {h : Hp} (fu : vFresh u h) (fv : vFresh v (addTok u h)) : addTok v (addTok u h) = addTok u (addTok v h) ∧ vFresh v h ∧ vFresh u (addTok v h) := by
  by_cases hv : ∃ t n len cs, v = .sl (.own t) n len cs
  · obtain ⟨t, n, len, cs, rfl⟩ := hv
    by_cases hu : ∃ t n len cs, u = .sl (.own t) n len cs
    · obtain ⟨t2, n2, len2, cs2, rfl⟩ := hu
      have hne : t ≠ t2 := fun e => by subst e; have := fv.2; simp [addTok] at this
      refine ⟨setTok_comm _ _ _ hne.symm, ⟨fv.1, ?_⟩, ⟨fu.1, ?_⟩⟩
      · have := fv.2; simp only [addTok] at this; rwa [Hp.tok_setTok_ne _ _ hne] at this
      · show (h.setTok t _).tok t2 = none
        rw [Hp.tok_setTok_ne _ _ hne.symm]; exact fu.2
    · have e : ∀ h, addTok u h = h := fun h => by unfold addTok; split <;> first | rfl | (rename_i t n len cs; exact absurd ⟨t, n, len, cs, rfl⟩ hu)
      refine ⟨by rw [e, e], by rwa [e] at fv, ?_⟩
      unfold vFresh; split <;> first | trivial | (rename_i t n len cs; exact absurd ⟨t, n, len, cs, rfl⟩ hu)
  · have e : ∀ h, addTok v h = h := fun h => by unfold addTok; split <;> first | rfl | (rename_i t n len cs; exact absurd ⟨t, n, len, cs, rfl⟩ hv)
    refine ⟨by rw [e, e], ?_, by rw [e]; exact fu⟩
    unfold vFresh; split <;> first | trivial | (rename_i t n len cs; exact absurd ⟨t, n, len, cs, rfl⟩ hv)
def Em.add (m : Em) (i ctl : Int) (l : List Int) : Em := ⟨m.now, m.draws, m.evs, m.pend ++ l.map (fun k => ⟨i, k, ctl⟩), m.err⟩
end Go.Proofs.YtijhmlkffkedeaaGreatDoor
/- Walks: putting an object somewhere. -/
namespace Go.Proofs.YtijhmlkffkedeaaGreatDoor
open Go Go.AV Go.Proofs.Tryz
set_option maxRecDepth 100000
set_option maxHeartbeats 1000000
theorem set_inv {m : Em} {e : Ev} {was n : Int} (hk : e.k ≠ 0) (h : EmI m) : EmI (m.set e was n) := by
  unfold Em.set; split
  · exact fail_inv h
  · exact doL_inv (by simpa using hk) h
theorem setF_inv {m : Em} {i f n : Int} (h : EmI m) : EmI (m.setF i f n) := by
  unfold Em.setF; split
  · exact h
  · split
    · exact doL_inv (by simp) h
    · exact set_inv (by simp) h
/-- What stays as it is, whatever is set: how many objects there are; what is pending. -/
structure Same (m n : Em) : Prop where
  len : n.now.objs.length = m.now.objs.length
  pend : n.pend = m.pend
  draws : n.draws = m.draws
  evs : m.evs.length ≤ n.evs.length
  err : n.err = 0 → m.err = 0
theorem Same.rfl' {m : Em} : Same m m := ⟨rfl, rfl, rfl, Nat.le_refl _, id⟩
theorem Same.trans {a b c : Em} (h : Same a b) (g : Same b c) : Same a c := ⟨g.len.trans h.len, g.pend.trans h.pend, g.draws.trans h.draws, Nat.le_trans h.evs g.evs, fun e => h.err (g.err e)⟩
theorem moveF_len {s : St} {x : Ev} : (moveF s x).1.objs.length = s.objs.length := by
  by_cases h0 : (s.objs.length : Int) ≤ x.a
  · rw [moveF, if_pos h0]
  · cases h1 : (bif (removeF (s.lists x.b.toNat) x.c).2.2 != 0 then true else (removeF (s.lists x.b.toNat) x.c).2.1 != x.a) with
    | true => rw [move_bad h0 h1]
    | false =>
      by_cases h2 : (insertF (if x.d = x.b then (removeF (s.lists x.b.toNat) x.c).1 else s.lists x.d.toNat) x.e x.a).2 = 0
      · rw [move_ok h0 h1 rfl h2]; simp
      · rw [move_err h0 h1 rfl h2]
theorem evDo_len {s : St} {x : Ev} (hk : x.k ≠ 0) : (evDo s x).1.objs.length = s.objs.length := by
  by_cases hc : evCheck x = 0
  · rw [evDo, if_neg (by simpa using hc), if_neg hk]
    split
    · exact moveF_len
    · split
      · split
        · rfl
        · split
          · rfl
          · simp
      · split
        · split
          · rfl
          · rfl
        · split
          · rfl
          · rfl
  · rw [do_bad hc]
theorem do1_same {m : Em} {x : Ev} (hk : x.k ≠ 0) : Same m (m.do1 x) := by
  unfold Em.do1; split
  · exact .rfl'
  · rename_i h0
    have h0 : m.err = 0 := by simpa using h0
    split
    · exact ⟨evDo_len hk, rfl, rfl, Nat.le_refl _, fun _ => h0⟩
    · split
      · exact ⟨evDo_len hk, rfl, rfl, by simp, fun _ => h0⟩
      · exact ⟨evDo_len hk, rfl, rfl, Nat.le_refl _, fun _ => h0⟩
theorem doL_same {m : Em} {l : List Ev} (hk : ∀ x ∈ l, x.k ≠ 0) : Same m (m.doL l) := by
  induction l generalizing m with
  | nil => exact .rfl'
  | cons x l ih => exact (do1_same (hk x (by simp))).trans (ih (m := m.do1 x) fun y hy => hk y (by simp [hy]))
theorem fail_same {m : Em} {e : Int} : Same m (m.fail e) := by
  unfold Em.fail; split
  · rename_i h; exact ⟨rfl, rfl, rfl, Nat.le_refl _, fun _ => h⟩
  · exact .rfl'
theorem set_same {m : Em} {e : Ev} {was n : Int} (hk : e.k ≠ 0) : Same m (m.set e was n) := by
  unfold Em.set; split
  · exact fail_same
  · exact doL_same (by simpa using hk)
theorem setF_same {m : Em} {i f n : Int} : Same m (m.setF i f n) := by
  unfold Em.setF; split
  · exact .rfl'
  · split
    · exact doL_same (by simp)
    · exact set_same (by simp)
end Go.Proofs.YtijhmlkffkedeaaGreatDoor
/- Walks: who has lost; what a creature is. -/
namespace Go.Proofs.YtijhmlkffkedeaaGreatDoor
open Go Go.AV Go.Proofs.Tryz
set_option maxRecDepth 100000
set_option maxHeartbeats 1000000
theorem plp_at {s : St} {p : Int} (h0 : 0 ≤ p) (h1 : p < 2) : ((((cState s).drop 12)).drop (p.toNat * 9)).take 9 = plRow (s.pl p.toNat) := by
  have : p = 0 ∨ p = 1 := by omega
  rcases this with e | e <;> subst e <;> rfl
/-- An object's card. -/
def kindF (s : St) (i : Int) : Card := (cardE (s.objs.getD i.toNat noObj 0)).1
def creatureF (s : St) (i : Int) : Bool := inN i s.objs.length && s.objs.getD i.toNat noObj 3 == 8 && (kindF s i).kind == 1
/-- An effect that lasts. -/
structure Static where
  src : Int
  ctl : Int
  grp : Int
  doo : Eff0
def cStatic (x : Static) : List V := [.int .i64 x.src, .int .i64 x.ctl, .int .i64 x.grp, .int .i64 x.doo.op, .int .i64 x.doo.n, .int .i64 x.doo.m, .int .i64 x.doo.who, .sl .imm 5 0 []]
def reachesF (x : Static) (s : St) (i : Int) : Bool :=
  if x.grp = 0 then true else if x.grp = 1 then s.objs.getD i.toNat noObj 2 == x.ctl else if x.grp = 2 then !(s.objs.getD i.toNat noObj 2 == x.ctl) else s.objs.getD i.toNat noObj 2 == x.ctl && i != x.src
theorem cr_in {n i : Int} (h : (bif decide (0 ≤ i) then decide (i < n) else false) = true) : 0 ≤ i ∧ i < n := by
  by_cases e : 0 ≤ i
  · exact ⟨e, by simpa [e] using h⟩
  · simp [e] at h
theorem cr_in2 {n i : Int} {b : Bool} (h : (bif bif decide (0 ≤ i) then decide (i < n) else false then b else false) = true) : 0 ≤ i ∧ i < n := by
  refine cr_in ?_
  cases e : (bif decide (0 ≤ i) then decide (i < n) else false) with
  | true => rfl
  | false => rw [e] at h; cases h
theorem cr_eq {s : St} {i : Int} : (bif bif bif decide (0 ≤ i) then decide (i < (s.objs.length : Int)) else false then s.objs.getD i.toNat noObj 3 == 8 else false then (kindF s i).kind == 1 else false) = creatureF s i := by
  simp only [creatureF, inN]
  cases decide (0 ≤ i) <;> cases decide (i < (s.objs.length : Int)) <;> cases (s.objs.getD i.toNat noObj 3 == 8) <;> rfl
theorem cardE_err {n : Int} (h : (cardE n).2 ≠ 0) : (cardE n).1 = noCard := by
  unfold cardE at *; split
  · rfl
  · rename_i h1; rw [if_neg h1] at h; exact absurd rfl h

theorem kind_calls (s : St) (i : Int) (hi : 0 ≤ i ∧ i < s.objs.length) (h : Hp) : ACalls prog G 114 [eState s, .int .i64 i] h fun r h' => r = eCard (kindF s i) ∧ h' = h := by
  refine ACalls.enter func114 rfl ntmps114 results114 rfl ?_
  refine .seq <|
    .region <|
    .bx rfl rfl ?_
  refine AOps.s rfl rfl rfl (a_alloc rfl zeroValue111 rfl (fun id4 hid4 => ?_))
  refine .nil <|
    .seq <|
    .region <|
    .fi rfl f29_0 rfl <|
    .li rfl isAgg22 rfl rfl <|
    .mI rfl rfl ?_
  refine .u rfl rfl rfl (q_ia_s rfl underlying22 sizeOf58 rfl rfl (by omega) (by omega) (cObjs_elem' (by omega) (by omega))) ?_
  refine .u rfl rfl rfl (q_ia_ai rfl underlying58 sizeOf3 rfl rfl (by decide) (by decide) rfl) ?_
  refine .li rfl isAgg3 rfl rfl ?_
  refine .u rfl rfl rfl (QOp.call rfl call135 fun h' hl' => by exact card_calls _ h') ?_
  refine .u rfl rfl rfl (q_mv rfl (rfl : _ = V.tup _)) ?_
  refine .u rfl rfl rfl (q_extract rfl rfl rfl) ?_
  refine .u rfl rfl rfl (q_extract rfl rfl rfl) ?_
  refine AOps.s rfl rfl rfl (a_alloc rfl zeroValue111 rfl (fun id5 hid5 => ?_))
  refine .sw sizeOf111 rfl rfl rfl rfl ?_
  refine AOps.done 5 rfl hid5 ?_
  refine .u rfl rfl rfl (q_as rfl (rfl : _ = eErr _ _)) ?_
  refine .nil <|
    .seq <|
    .seq <|
    .region ?_
  refine .u rfl rfl rfl (q_mv rfl (rfl : _ = eErr _ _)) ?_
  refine .u rfl rfl rfl (q_neerr underlying54 rfl rfl) ?_
  refine .nil ?_
  refine AW.cond rfl (fun c0 => ?_) (fun c0 => ?_)
  · skip
    refine .seq <|
      .region ?_
    refine .u rfl rfl rfl (q_buildS (ds := [.int .i64 0, .int .i64 0, .bool false, .int .i64 0, .int .i64 0, .int .i64 0, .int .i64 0, .int .i64 0, .int .i64 0, .int .i64 0, .int .i64 0, .int .i64 0, .snil]) rfl zeroValue111 underlying111 (pl111 underlying111) rfl (by kernel_rfl)) ?_
    refine .sw sizeOf111 rfl rfl rfl rfl <|
      .nil ?_
    refine AW.ret ?_
    exact retQ.mk' (Res.cellB isAgg111 sizeOf111 rfl (by exact bsb) rfl) (by rw [kindF, cardE_err (by simpa using c0)]; exact zCard_le.agg) (HLe.setBox hid4.1) ⟨rfl, rfl⟩
  · skip
    refine AW.skip ?_
    refine .seq <|
      .region <|
      .lw rfl isAgg111 sizeOf111 rfl rfl <|
      .sw sizeOf111 rfl rfl rfl rfl <|
      .nil ?_
    refine AW.ret ?_
    exact retQ.mk' (Res.cellB isAgg111 sizeOf111 rfl (by exact bsb) rfl) (VLe.refl _) (HLe.setBox hid4.1) ⟨rfl, rfl⟩

theorem creature_calls (s : St) (i : Int) (h : Hp) : ACalls prog G 82 [eState s, .int .i64 i] h fun r h' => r = .bool (creatureF s i) ∧ h' = h := by
  refine ACalls.enter func82 rfl ntmps82 results82 rfl ?_
  refine .seq <|
    .region <|
    .bx rfl rfl <|
    .aB rfl rfl <|
    .nil <|
    .seq <|
    .region <|
    .mI rfl rfl <|
    .qg rfl rfl rfl <|
    .mB rfl rfl ?_
  refine .gt rfl rfl rfl (fun _ => tl0) (fun hc => q_mv rfl (rfl : _ = V.int _ _)) ?_
  refine .gt rfl rfl rfl (fun _ => tl0) (fun hc => q_fa_i rfl underlying29 rfl (by exact sizeOf22) (by decide) rfl (rfl : _ = List.drop 0 _)) ?_
  refine .gt rfl rfl rfl (fun hc => tl1 9 (.opt hc)) (fun hc => q_load_i1 rfl isAgg22 rfl rfl) ?_
  refine .gt rfl rfl rfl (fun hc => tl1 10 (.opt hc)) (fun hc => q_len rfl underlying22 rfl) ?_
  refine .gt rfl rfl rfl (fun hc => tl2 11 8 (.opt hc) (.opt hc)) (fun hc => q_lt rfl rfl rfl) ?_
  refine .pt rfl rfl rfl rfl <|
    .mB rfl rfl ?_
  refine .gt rfl rfl rfl (fun _ => tl0) (fun hc => q_fa_i rfl underlying29 rfl (by exact sizeOf22) (by decide) rfl (rfl : _ = List.drop 0 _)) ?_
  refine .gt rfl rfl rfl (fun hc => tl1 15 (.opt hc)) (fun hc => q_load_i1 rfl isAgg22 rfl rfl) ?_
  refine .gt rfl rfl rfl (fun _ => tl0) (fun hc => q_mv rfl (rfl : _ = V.int _ _)) ?_
  refine .gt rfl rfl rfl (fun hc => tl2 17 16 (.opt hc) (.opt hc)) (fun hc => q_ia_s rfl underlying22 sizeOf58 rfl rfl (cr_in hc).1 (cr_in hc).2 (cObjs_elem' (cr_in hc).1 (cr_in hc).2)) ?_
  refine .gt rfl rfl rfl (fun hc => tl1 18 (.opt hc)) (fun hc => q_ia_ai rfl underlying58 sizeOf3 rfl rfl (by decide) (by decide) rfl) ?_
  refine .gt rfl rfl rfl (fun hc => tl1 19 (.opt hc)) (fun hc => q_load_i1 rfl isAgg3 rfl rfl) ?_
  refine .gt rfl rfl rfl (fun hc => tl1 20 (.opt hc)) (fun hc => q_eq rfl rfl rfl) ?_
  refine .pt rfl rfl rfl rfl <|
    .mB rfl rfl ?_
  refine .gt rfl rfl rfl (fun _ => tl0) (fun hc => q_load_iW rfl isAgg29 sizeOf29 rfl (by rfl)) ?_
  refine .gt rfl rfl rfl (fun _ => tl0) (fun hc => q_mv rfl (rfl : _ = V.int _ _)) ?_
  refine .gt rfl rfl rfl (fun hc => tl2 25 24 (.opt hc) (.opt hc)) (fun hc => QOp.call rfl (by exact call114) fun h' hl' => by exact kind_calls _ _ (cr_in2 hc) h') ?_
  refine .gt rfl rfl rfl (fun hc => tl1 26 (.opt hc)) (fun hc => q_f1 rfl underlying111 rfl (by exact isAgg3) rfl rfl) ?_
  refine .gt rfl rfl rfl (fun hc => tl1 27 (.opt hc)) (fun hc => q_eq rfl rfl rfl) ?_
  refine .pt rfl rfl rfl rfl <|
    .aB rfl rfl <|
    .nil ?_
  refine AW.ret ?_
  exact retQ.mk' (.one _) (VLe.of_eq (congrArg V.bool (cr_eq))) (HLe.refl _) ⟨rfl, rfl⟩

theorem reaches_calls (x : Static) (s : St) (i : Int) (hi : 0 ≤ i ∧ i < s.objs.length) (h : Hp) : ACalls prog G 125 [.agg (cStatic x), eState s, .int .i64 i] h fun r h' => r = .bool (reachesF x s i) ∧ h' = h := by
  refine ACalls.enter func125 rfl ntmps125 results125 rfl ?_
  refine .seq <|
    .region <|
    .bx rfl rfl <|
    .bx rfl rfl <|
    .aB rfl rfl <|
    .nil <|
    .seq ?_
  refine AW.draw [] [] [(0, true), (1, true), (2, true), (3, true), (4, true), (5, true), (6, true), (7, true), (8, true), (9, true)] mixed (by kernel_rfl) rfl (by kernel_rfl) ?_
  refine .q rfl rfl rfl rfl (q_fa_i rfl underlying29 rfl (by exact sizeOf22) (by decide) rfl (rfl : _ = List.drop 0 _)) ?_
  refine .q rfl rfl rfl rfl (q_load_i1 rfl isAgg22 rfl rfl) ?_
  refine .q rfl rfl rfl rfl (q_mv rfl (rfl : _ = V.int _ _)) ?_
  refine .q rfl rfl rfl rfl (q_ia_s rfl underlying22 sizeOf58 rfl rfl (by omega) (by omega) (cObjs_elem' (by omega) (by omega))) ?_
  refine .q rfl rfl rfl rfl (q_ia_ai rfl underlying58 sizeOf3 rfl rfl (by decide) (by decide) rfl) ?_
  refine .q rfl rfl rfl rfl (q_load_i1 rfl isAgg3 rfl rfl) ?_
  refine .q rfl rfl rfl rfl (q_fa_i rfl underlying173 rfl (by exact sizeOf3) (by decide) rfl (rfl : _ = List.drop 1 _)) ?_
  refine .q rfl rfl rfl rfl (q_load_i1 rfl isAgg3 rfl rfl) ?_
  refine .q rfl rfl rfl rfl (q_eq rfl rfl rfl) ?_
  refine .q rfl rfl rfl rfl (q_as rfl (rfl : _ = V.bool _)) ?_
  refine AOrd.nil ?_
  refine .seq <|
    .seq <|
    .region <|
    .fi rfl f173_2 rfl <|
    .li rfl isAgg3 rfl rfl <|
    .nil <|
    .block <|
    .seq <|
    .region <|
    .qe rfl rfl rfl <|
    .aB rfl rfl <|
    .nil ?_
  refine AW.cond rfl (fun c0 => ?_) (fun c0 => ?_)
  · skip
    refine .seq <|
      .region <|
      .aB rfl rfl <|
      .nil ?_
    refine AW.ret ?_
    exact retQ.mk' (.one _) (VLe.of_eq (congrArg V.bool (by simp at c0; simp [reachesF, c0]))) (HLe.refl _) ⟨rfl, rfl⟩
  · skip
    refine .seq <|
      .region <|
      .qe rfl rfl rfl <|
      .aB rfl rfl <|
      .nil ?_
    refine AW.cond rfl (fun c1 => ?_) (fun c1 => ?_)
    · skip
      refine .seq <|
        .region <|
        .mB rfl rfl <|
        .aB rfl rfl <|
        .nil ?_
      refine AW.ret ?_
      exact retQ.mk' (.one _) (VLe.of_eq (congrArg V.bool (by simp at c0 c1; simp [reachesF, c1]))) (HLe.refl _) ⟨rfl, rfl⟩
    · skip
      refine .seq <|
        .region <|
        .qe rfl rfl rfl <|
        .aB rfl rfl <|
        .nil ?_
      refine AW.cond rfl (fun c2 => ?_) (fun c2 => ?_)
      · skip
        refine .seq <|
          .region <|
          .mB rfl rfl <|
          .nt rfl rfl <|
          .aB rfl rfl <|
          .nil ?_
        refine AW.ret ?_
        exact retQ.mk' (.one _) (VLe.of_eq (congrArg V.bool (by simp at c0 c1 c2; simp [reachesF, c2]))) (HLe.refl _) ⟨rfl, rfl⟩
      · skip
        refine AW.skip ?_
        refine .seq <|
          .region <|
          .mB rfl rfl <|
          .mB rfl rfl ?_
        refine .gt rfl rfl rfl (fun _ => tl0) (fun hc => q_mv rfl (rfl : _ = V.int _ _)) ?_
        refine .gt rfl rfl rfl (fun _ => tl0) (fun hc => q_fa_i rfl underlying173 rfl (by exact sizeOf3) (by decide) rfl (rfl : _ = List.drop 0 _)) ?_
        refine .gt rfl rfl rfl (fun hc => tl1 31 (.opt hc)) (fun hc => q_load_i1 rfl isAgg3 rfl rfl) ?_
        refine .gt rfl rfl rfl (fun hc => tl2 32 30 (.opt hc) (.opt hc)) (fun hc => q_ne rfl rfl rfl) ?_
        refine .pt rfl rfl rfl rfl <|
          .aB rfl rfl <|
          .nil ?_
        refine AW.ret ?_
        exact retQ.mk' (.one _) (VLe.of_eq (congrArg V.bool (by simp at c0 c1 c2; simp [reachesF, c0, c1, c2]))) (HLe.refl _) ⟨rfl, rfl⟩

end Go.Proofs.YtijhmlkffkedeaaGreatDoor
/- Walks: the effects that last. -/
namespace Go.Proofs.YtijhmlkffkedeaaGreatDoor
open Go Go.AV Go.Proofs.Tryz
set_option maxRecDepth 100000
set_option maxHeartbeats 1000000
theorem cardF_subs : ∀ k : Fin 120, ((cardF (k.val : Int)).abs.all fun a => a.when != 5 || 0 < a.doo.subs.length) = true := by decide +kernel
theorem cardE_subs (n : Int) : ∀ a ∈ (cardE n).1.abs, a.when = 5 → 0 < a.doo.subs.length := by
  intro a ha hw
  unfold cardE at ha
  split at ha
  · simp [noCard] at ha
  · rename_i h
    have := cardF_subs ⟨n.toNat, by omega⟩
    have e : ((n.toNat : Nat) : Int) = n := by omega
    simp only [e, List.all_eq_true] at this
    have := this a ha
    simpa [hw] using this
def noEff0 : Eff0 := ⟨0, 0, 0, 0⟩
def staticOf (s : St) (id : Int) (j : Int) : Static := ⟨id, s.objs.getD id.toNat noObj 2, ((kindF s id).abs.getD j.toNat noAb).doo.n, ((kindF s id).abs.getD j.toNat noAb).doo.subs.getD 0 noEff0⟩
def staticsOf (s : St) (id : Int) : List Static := (usesF (kindF s id) 5).map (staticOf s id)
/-- The effects that last. -/
def staticsF (s : St) : List Static := (s.lists 8).flatMap (staticsOf s)
def stUp (s : St) (i k : Nat) : List Static := ((s.lists 8).take i).flatMap (staticsOf s) ++ (staticsOf s ((s.lists 8).getD i 0)).take k
theorem stUp_next {s : St} {i : Nat} (h : i < (s.lists 8).length) : stUp s i (usesF (kindF s ((s.lists 8).getD i 0)) 5).length = stUp s (i + 1) 0 := by
  have e : (staticsOf s ((s.lists 8).getD i 0)).length = (usesF (kindF s ((s.lists 8).getD i 0)) 5).length := by simp [staticsOf]
  rw [stUp, ← e, List.take_length, stUp, List.take_zero, List.append_nil, List.take_add_one, List.getElem?_eq_getElem h, getD_of h, Option.toList_some, List.flatMap_append]
  simp only [List.flatMap_cons, List.flatMap_nil, List.append_nil]
theorem stUp_succ {s : St} {i k : Nat} (h : k < (usesF (kindF s ((s.lists 8).getD i 0)) 5).length) : stUp s i (k + 1) = stUp s i k ++ [staticOf s ((s.lists 8).getD i 0) ((usesF (kindF s ((s.lists 8).getD i 0)) 5).getD k 0)] := by
  rw [stUp, stUp, List.take_add_one, staticsOf, List.getElem?_map, List.getElem?_eq_getElem h, getD_of h, List.append_assoc]; rfl
theorem stUp_all {s : St} : stUp s (s.lists 8).length 0 = staticsF s := by simp [stUp, staticsF]
def cStatics (l : List Static) : List V := l.flatMap cStatic
theorem uses_in {c : Card} {w : Int} {x : Int} (h : x ∈ usesF c w) : 0 ≤ x ∧ x < c.abs.length ∧ (c.abs.getD x.toNat noAb).when = w := by
  simp only [usesF, usesUp, List.mem_map, List.mem_filter, List.mem_range, beq_iff_eq] at h
  obtain ⟨j, ⟨h1, h2⟩, rfl⟩ := h
  exact ⟨by omega, by omega, by simpa using h2⟩

theorem sub_at {l : List Eff0} (h : 0 < l.length) : ((l.flatMap cEff0).drop (Int.toNat 0 * 5)).take 5 = cEff0 (l.getD 0 noEff0) := flat_at (f := cEff0) (n := 5) (fun _ => rfl) noEff0 (i := 0) h
theorem static_app (l : List Static) (x : Static) : cStatics (l ++ [x]) = cStatics l ++ cStatic x := by simp [cStatics]
theorem static_pos {s : St} {id x : Int} (h : x ∈ usesF (kindF s id) 5) : 0 < ((kindF s id).abs.getD x.toNat noAb).doo.subs.length := by
  obtain ⟨h0, h1, h2⟩ := uses_in h
  have hlt : x.toNat < (kindF s id).abs.length := by omega
  refine cardE_subs (s.objs.getD id.toNat noObj 0) _ ?_ h2
  rw [getD_of' hlt]; exact List.getElem_mem hlt
theorem abil_elem {l : List Abil} {i : Int} (h0 : 0 ≤ i) (h1 : i < l.length) : ((l.flatMap cAbil).drop (i.toNat * 14)).take 14 = cAbil (l.getD i.toNat noAb) := flat_at (f := cAbil) (n := 14) (fun _ => rfl) noAb (by omega)
theorem stUp_len {s : St} (hl : (s.lists 8).length ≤ 1000000) {i k : Nat} : (stUp s i k).length ≤ 10000000 := by
  have h1 : ∀ id, (staticsOf s id).length ≤ 4 := fun id => by
    rw [staticsOf, List.length_map]; exact Nat.le_trans uses_le (cardE_abs _)
  have h2 : ∀ l : List Int, (l.flatMap (staticsOf s)).length ≤ l.length * 4 := fun l => by
    induction l with
    | nil => simp
    | cons a l ih => rw [List.flatMap_cons, List.length_append, List.length_cons]; have := h1 a; omega
  have h3 := h2 ((s.lists 8).take i)
  have h4 : ((s.lists 8).take i).length ≤ 1000000 := Nat.le_trans (List.length_take_le' _ _) hl
  have h5 : ((staticsOf s ((s.lists 8).getD i 0)).take k).length ≤ 4 := Nat.le_trans (List.length_take_le' _ _) (h1 _)
  rw [stUp, List.length_append]; omega

theorem statics_calls (s : St) (hz : ∀ id ∈ s.lists 8, 0 ≤ id ∧ id < s.objs.length) (hl : (s.lists 8).length ≤ 1000000) (h : Hp) : ACalls prog G 124 [eState s] h fun r h' => r = .sl .imm 8 (staticsF s).length (cStatics (staticsF s)) ∧ h' = h := by
  refine ACalls.enter func124 rfl ntmps124 results124 rfl ?_
  refine .seq <|
    .region <|
    .bx rfl rfl <|
    .aN rfl rfl <|
    .nil <|
    .seq <|
    .region <|
    .aN rfl rfl <|
    .nil <|
    .seq <|
    .seq <|
    .region <|
    .fi rfl f29_1 rfl ?_
  refine .u rfl rfl rfl (q_ia_ai rfl underlying24 sizeOf23 rfl rfl (by decide) (by decide) rfl) ?_
  refine .li rfl isAgg23 rfl rfl <|
    .ln rfl underlying23 rfl <|
    .mI rfl rfl <|
    .nil <|
    .block ?_
  refine AW.loop (fun n T hh => ∃ (i : Nat) (v : V), i ≤ (s.lists 8).length ∧ n = (s.lists 8).length - i ∧ T = put (put (put (put (put (T0) 14 (V.int .i64 (i : Nat))) 13 (V.int .i64 (s.lists 8).length)) 12 (eInts (s.lists 8))) 3 (v)) 1 (V.iptr (cState s)) ∧ Go.AV.Acc h 8 (stUp s i 0).length (cStatics (stUp s i 0)) v hh) ((s.lists 8).length) ?_ ?_
  · skip
    refine Wk.mk (TLe.put (d := 1) (VLe.refl _) (TLe.put (d := 3) (VLe.refl _) (TLe.put (d := 12) (VLe.refl _) (TLe.put (d := 13) (VLe.refl _) (TLe.put (d := 14) (by exact VLe.of_eq (congrArg (V.int .i64) (by first | rfl | omega))) (TLe.zero _)))))) (HLe.refl _) ⟨0, V.snil, Nat.zero_le _, rfl, rfl, by exact Go.AV.Acc.nil h 8⟩
  · skip
    rintro n T h' ⟨i, v, hi, rfl, rfl, hem⟩
    refine .seq <|
      .region <|
      .ql rfl rfl rfl <|
      .nil <|
      .seq ?_
    refine AW.cond rfl (fun c0 => ?_) (fun c0 => ?_)
    · have hlt : i < (s.lists 8).length := by have := of_decide_eq_true c0; omega
      have hid := hz _ (getD_mem hlt)
      have hab := cardE_abs (s.objs.getD ((s.lists 8).getD i 0).toNat noObj 0)
      refine AW.skip ?_
      refine .seq <|
        .block <|
        .seq <|
        .region ?_
      refine .u rfl rfl rfl (q_ia_s rfl underlying23 sizeOf3 rfl rfl (by omega) (by omega) (cInts_at hlt)) ?_
      refine .li rfl isAgg3 rfl rfl <|
        .aI rfl rfl <|
        .nil <|
        .seq <|
        .region <|
        .lw rfl isAgg29 sizeOf29 rfl rfl <|
        .mI rfl rfl ?_
      refine .u rfl rfl rfl (QOp.call rfl call114 fun h' hl' => by exact kind_calls s _ hid h') ?_
      refine AOps.s rfl rfl rfl (a_alloc rfl zeroValue111 rfl (fun id6 hid6 => ?_))
      refine .sw sizeOf111 rfl rfl rfl rfl ?_
      refine AOps.done 6 rfl hid6 ?_
      refine .nil <|
        .seq <|
        .region <|
        .lw rfl isAgg111 sizeOf111 rfl rfl ?_
      refine .u rfl rfl rfl (QOp.call rfl call143 fun h' hl' => by exact uses_calls _ 5 (by have := hab; unfold kindF; omega) h') ?_
      refine .ln rfl underlying23 rfl <|
        .mI rfl rfl <|
        .nil <|
        .block ?_
      refine AW.loop (fun n T hh => ∃ (k : Nat) (v2 : V), k ≤ (usesF (kindF s ((s.lists 8).getD i 0)) 5).length ∧ n = (usesF (kindF s ((s.lists 8).getD i 0)) 5).length - k ∧ T = put (put (put (put (put (put (put (put (put (put (T0) 24 (V.int .i64 (k : Nat))) 23 (V.int .i64 (usesF (kindF s ((s.lists 8).getD i 0)) 5).length)) 22 (eInts (usesF (kindF s ((s.lists 8).getD i 0)) 5))) 14 (V.int .i64 (i : Nat))) 13 (V.int .i64 (s.lists 8).length)) 12 (eInts (s.lists 8))) 6 (V.iptr (cCard (kindF s ((s.lists 8).getD i 0))))) 5 (V.int .i64 ((s.lists 8).getD i 0))) 3 (v2)) 1 (V.iptr (cState s)) ∧ Go.AV.Acc h 8 (stUp s i k).length (cStatics (stUp s i k)) v2 hh) ((usesF (kindF s ((s.lists 8).getD i 0)) 5).length) ?_ ?_
      · skip
        refine Wk.mk (TLe.put (d := 1) (VLe.refl _) (TLe.put (d := 3) (VLe.refl _) (TLe.put (d := 5) (VLe.refl _) (TLe.put (d := 6) (VLe.refl _) (TLe.put (d := 12) (VLe.refl _) (TLe.put (d := 13) (VLe.refl _) (TLe.put (d := 14) (VLe.refl _) (TLe.put (d := 22) (VLe.refl _) (TLe.put (d := 23) (VLe.refl _) (TLe.put (d := 24) (by exact VLe.of_eq (congrArg (V.int .i64) (by first | rfl | omega))) (TLe.zero _))))))))))) (HLe.refl _) ⟨0, v, Nat.zero_le _, rfl, rfl, by exact hem⟩
      · skip
        rintro n T h' ⟨k, v2, hk, rfl, rfl, hem2⟩
        refine .seq <|
          .region <|
          .ql rfl rfl rfl <|
          .nil <|
          .seq ?_
        refine AW.cond rfl (fun c1 => ?_) (fun c1 => ?_)
        · have hltk : k < (usesF (kindF s ((s.lists 8).getD i 0)) 5).length := by have := of_decide_eq_true c1; omega
          have hu := uses_in (getD_mem hltk)
          have hug : (usesF (kindF s ((s.lists 8).getD i 0)) 5).length ≤ 4 := Nat.le_trans uses_le (cardE_abs _)
          have hsub := static_pos (getD_mem hltk)
          have hul := stUp_len hl (i := i) (k := k)
          refine AW.skip ?_
          refine .seq <|
            .block <|
            .seq <|
            .region ?_
          refine .u rfl rfl rfl (q_ia_s rfl underlying23 sizeOf3 rfl rfl (by omega) (by omega) (cInts_at hltk)) ?_
          refine .li rfl isAgg3 rfl rfl <|
            .aI rfl rfl <|
            .nil <|
            .seq <|
            .region <|
            .fi rfl f111_12 rfl <|
            .li rfl isAgg109 rfl rfl <|
            .mI rfl rfl ?_
          refine .u rfl rfl rfl (q_ia_s rfl underlying109 sizeOf159 rfl rfl hu.1 hu.2.1 (abil_elem hu.1 hu.2.1)) ?_
          refine .fi rfl f159_9 rfl ?_
          refine .u rfl rfl rfl (q_load_iN (ds := cEff ((kindF s ((s.lists 8).getD i 0)).abs.getD ((usesF (kindF s ((s.lists 8).getD i 0)) 5).getD k 0).toNat noAb).doo) rfl isAgg118 sizeOf118 rfl rfl rfl) ?_
          refine AOps.s rfl rfl rfl (a_alloc rfl zeroValue118 rfl (fun id9 hid9 => ?_))
          refine .sw sizeOf118 rfl rfl rfl rfl ?_
          refine AOps.done 9 rfl hid9 ?_
          refine .nil ?_
          refine AW.draw [16] [1, 2, 3, 4, 5, 6, 7, 8, 9, 10, 11, 12, 13] [(0, true), (1, true), (2, true), (3, true), (4, true), (5, true), (6, true), (7, true), (8, true), (9, true), (10, true), (11, true), (12, true), (13, true), (14, false), (15, true), (16, false), (17, true)] mixed (by kernel_rfl) rfl (by kernel_rfl) ?_
          refine .q rfl rfl rfl rfl (q_mv rfl (rfl : _ = _)) ?_
          refine .p rfl rfl rfl (fun _ => q_mv rfl (rfl : _ = V.int _ _)) ?_
          refine .p rfl rfl rfl (fun _ => q_fa_i rfl underlying29 rfl (by exact sizeOf22) (by decide) rfl (rfl : _ = List.drop 0 _)) ?_
          refine .p rfl rfl rfl (fun _ => q_load_i1 rfl isAgg22 rfl rfl) ?_
          refine .p rfl rfl rfl (fun _ => q_mv rfl (rfl : _ = V.int _ _)) ?_
          refine .p rfl rfl rfl (fun _ => q_ia_s rfl underlying22 sizeOf58 rfl rfl hid.1 hid.2 (cObjs_elem' hid.1 hid.2)) ?_
          refine .p rfl rfl rfl (fun _ => q_ia_ai rfl underlying58 sizeOf3 rfl rfl (by decide) (by decide) rfl) ?_
          refine .p rfl rfl rfl (fun _ => q_load_i1 rfl isAgg3 rfl rfl) ?_
          refine .p rfl rfl rfl (fun _ => q_fa_i rfl underlying118 rfl (by exact sizeOf3) (by decide) rfl (rfl : _ = List.drop 1 _)) ?_
          refine .p rfl rfl rfl (fun _ => q_load_i1 rfl isAgg3 rfl rfl) ?_
          refine .p rfl rfl rfl (fun _ => q_fa_i rfl underlying118 rfl (by exact sizeOf116) (by decide) rfl (rfl : _ = List.drop 4 _)) ?_
          refine .p rfl rfl rfl (fun _ => q_load_i1 rfl isAgg116 rfl rfl) ?_
          refine .p rfl rfl rfl (fun _ => q_ia_s rfl underlying116 sizeOf118 rfl rfl (by decide) (by omega) (sub_at hsub)) ?_
          refine .p rfl rfl rfl (fun _ => q_load_iW rfl isAgg118 sizeOf118 rfl (by rfl)) ?_
          refine AOrd.qf rfl rfl rfl (q_buildS (ds := cStatic (staticOf s ((s.lists 8).getD i 0) ((usesF (kindF s ((s.lists 8).getD i 0)) 5).getD k 0))) rfl zeroValue173 underlying173 (pl173 underlying173) rfl (by kernel_rfl)) ?_
          refine .q rfl rfl rfl rfl (q_buildSl (ds := cStatic (staticOf s ((s.lists 8).getD i 0) ((usesF (kindF s ((s.lists 8).getD i 0)) 5).getD k 0))) rfl underlying170 sizeOf173 zeroValue173 rfl rfl rfl rfl (by kernel_rfl)) ?_
          refine AOrd.s rfl rfl rfl rfl (a_append rfl underlying170 (i := t173) (by kernel_rfl) rfl (n := 8) (by' := 80) rfl rfl rfl rfl hem2 rfl rfl (by decide) (by omega) (by omega) rfl (fun v3 h3 acc => ?_))
          refine .q rfl rfl rfl rfl (q_as rfl (rfl : _ = _)) ?_
          refine AOrd.nil ?_
          refine .region <|
            .ad rfl rfl rfl (by omega) <|
            .mI rfl rfl <|
            .nil ?_
          refine Wk.mk (TLe.put (d := 1) (VLe.refl _) (TLe.put (d := 3) (VLe.refl _) (TLe.put (d := 5) (VLe.refl _) (TLe.put (d := 6) (VLe.refl _) (TLe.put (d := 12) (VLe.refl _) (TLe.put (d := 13) (VLe.refl _) (TLe.put (d := 14) (VLe.refl _) (TLe.put (d := 22) (VLe.refl _) (TLe.put (d := 23) (VLe.refl _) (TLe.put (d := 24) (by exact VLe.of_eq (congrArg (V.int .i64) (by first | rfl | omega))) (TLe.zero _))))))))))) (HLe.refl _) ⟨_, ?_, k + 1, _, ?_, rfl, rfl, by rw [stUp_succ hltk, static_app, List.length_append]; exact acc⟩
          · omega
          · omega
        · obtain rfl : k = (usesF (kindF s ((s.lists 8).getD i 0)) 5).length := by have := of_decide_eq_false c1; omega
          refine AW.exit ?_
          refine .region <|
            .ad rfl rfl rfl (by omega) <|
            .mI rfl rfl <|
            .nil ?_
          refine Wk.mk (TLe.put (d := 1) (VLe.refl _) (TLe.put (d := 3) (VLe.refl _) (TLe.put (d := 12) (VLe.refl _) (TLe.put (d := 13) (VLe.refl _) (TLe.put (d := 14) (by exact VLe.of_eq (congrArg (V.int .i64) (by first | rfl | omega))) (TLe.zero _)))))) (HLe.refl _) ⟨_, ?_, i + 1, _, ?_, rfl, rfl, by rw [← stUp_next hlt]; exact hem2⟩
          · omega
          · omega
    · obtain rfl : i = (s.lists 8).length := by have := of_decide_eq_false c0; omega
      refine AW.exit ?_
      refine .seq <|
        .region ?_
      refine .u rfl rfl rfl (q_mv rfl (rfl : _ = _)) ?_
      refine .u rfl rfl rfl (q_as rfl (rfl : _ = _)) ?_
      refine .nil ?_
      refine AW.ret ?_
      rw [stUp_all] at hem
      exact retQ.mk' (.one _) hem.vle hem.hle ⟨rfl, rfl⟩

end Go.Proofs.YtijhmlkffkedeaaGreatDoor
/- Walks: a creature's shape. -/
namespace Go.Proofs.YtijhmlkffkedeaaGreatDoor
open Go Go.AV Go.Proofs.Tryz
set_option maxRecDepth 100000
set_option maxHeartbeats 1000000
/-- A shape: power, toughness, words. -/
structure Sh where
  p : Int
  t : Int
  w : Int
def cSh (x : Sh) : List V := [.int .i64 x.p, .int .i64 x.t, .int .i64 x.w]
structure Sum where
  out : Sh
  more : Sh
def evStep (s : St) (id : Int) (a : Sum) (x : Static) : Sum :=
  if reachesF x s id = false then a
  else if x.doo.op = 24 then ⟨⟨x.doo.n, x.doo.m, a.out.w⟩, a.more⟩
  else if x.doo.op = 10 then ⟨a.out, ⟨a.more.p + x.doo.n, a.more.t + x.doo.m, a.more.w⟩⟩
  else if x.doo.op = 23 then ⟨⟨a.out.p, a.out.t, bitop .or .i64 a.out.w x.doo.n⟩, a.more⟩
  else if x.doo.op = 25 then ⟨⟨a.out.p, a.out.t, bitop .andNot .i64 a.out.w x.doo.n⟩, a.more⟩
  else a
def ev0 (s : St) (id : Int) : Sum :=
  let c := kindF s id
  let o := s.objs.getD id.toNat noObj
  ⟨⟨c.power, c.tough, c.says⟩, ⟨o 7 + o 8, o 7 + o 9, 0⟩⟩
def evSum (s : St) (id : Int) (l : List Static) : Sum := l.foldl (evStep s id) (ev0 s id)
def evalF (s : St) (id : Int) : Sh :=
  let a := evSum s id (staticsF s)
  ⟨a.out.p + a.more.p, a.out.t + a.more.t, bitop .or .i64 a.out.w (s.objs.getD id.toNat noObj 10)⟩
def evUp (s : St) (id : Int) (k : Nat) : Sum := evSum s id ((staticsF s).take k)
def noStat : Static := ⟨0, 0, 0, noEff0⟩
theorem evUp_zero {s : St} {id : Int} : evUp s id 0 = ev0 s id := by simp [evUp, evSum]
theorem evUp_succ {s : St} {id : Int} {k : Nat} (h : k < (staticsF s).length) : evUp s id (k + 1) = evStep s id (evUp s id k) ((staticsF s).getD k noStat) := by
  rw [evUp, List.take_add_one, List.getElem?_eq_getElem h, evSum, Option.toList_some, List.foldl_append, getD_of' h]; rfl
theorem evUp_all {s : St} {id : Int} : evUp s id (staticsF s).length = evSum s id (staticsF s) := by rw [evUp, List.take_length]
def small2 (e : Eff0) : Bool := decide (-1000 ≤ e.n) && decide (e.n ≤ 1000) && decide (-1000 ≤ e.m) && decide (e.m ≤ 1000)
theorem cardF_small : ∀ k : Fin 120, ((cardF (k.val : Int)).abs.all fun a => a.doo.subs.all small2) = true ∧ (-1000 ≤ (cardF (k.val : Int)).power ∧ (cardF (k.val : Int)).power ≤ 1000) ∧ (-1000 ≤ (cardF (k.val : Int)).tough ∧ (cardF (k.val : Int)).tough ≤ 1000) := by decide +kernel
def sm (x y : Int) : Prop := -1000 ≤ x ∧ x ≤ 1000 ∧ -1000 ≤ y ∧ y ≤ 1000
theorem small2_iff {e : Eff0} (h : small2 e = true) : sm e.n e.m := by
  simp only [small2, Bool.and_eq_true, decide_eq_true_eq] at h; exact ⟨h.1.1.1, h.1.1.2, h.1.2, h.2⟩
theorem cardE_small (n : Int) : (∀ a ∈ (cardE n).1.abs, ∀ e ∈ a.doo.subs, sm e.n e.m) ∧ sm (cardE n).1.power (cardE n).1.tough := by
  unfold cardE
  split
  · exact ⟨by simp [noCard], by simp only [noCard, sm]; decide⟩
  · rename_i h
    have := cardF_small ⟨n.toNat, by omega⟩
    have e : ((n.toNat : Nat) : Int) = n := by omega
    simp only [e, List.all_eq_true] at this
    exact ⟨fun a ha x hx => small2_iff (this.1 a ha x hx), this.2.1.1, this.2.1.2, this.2.2.1, this.2.2.2⟩
theorem statics_small {s : St} : ∀ x ∈ staticsF s, sm x.doo.n x.doo.m := by
  intro x hx
  simp only [staticsF, List.mem_flatMap, staticsOf, List.mem_map] at hx
  obtain ⟨id, _, j, hj, rfl⟩ := hx
  obtain ⟨h0, h1, _⟩ := uses_in hj
  have hlt : j.toNat < (kindF s id).abs.length := by omega
  have hpos := static_pos hj
  refine (cardE_small (s.objs.getD id.toNat noObj 0)).1 ((kindF s id).abs.getD j.toNat noAb) ?_ _ ?_
  · rw [getD_of' hlt]; exact List.getElem_mem hlt
  · simp only [staticOf]; rw [getD_of' hpos]; exact List.getElem_mem hpos
def bd (c : Int) (a : Sum) : Prop := sm a.out.p a.out.t ∧ (-c ≤ a.more.p ∧ a.more.p ≤ c ∧ -c ≤ a.more.t ∧ a.more.t ≤ c)
theorem evStep_bd {s : St} {id : Int} {a : Sum} {x : Static} {c : Int} (hc : 0 ≤ c) (h : bd c a) (hx : sm x.doo.n x.doo.m) : bd (c + 1000) (evStep s id a x) := by
  obtain ⟨⟨h1, h2, h3, h4⟩, h5, h6, h7, h8⟩ := h
  obtain ⟨x1, x2, x3, x4⟩ := hx
  unfold evStep
  repeat' split
  all_goals refine ⟨⟨?_, ?_, ?_, ?_⟩, ?_, ?_, ?_, ?_⟩ <;> (try dsimp only) <;> omega
def obd (o : Obj) : Prop := (0 ≤ o 7 ∧ o 7 ≤ 1073741824) ∧ (-1073741824 ≤ o 8 ∧ o 8 ≤ 1073741824) ∧ (-1073741824 ≤ o 9 ∧ o 9 ≤ 1073741824)
theorem ev0_bd {s : St} {id : Int} (h : obd (s.objs.getD id.toNat noObj)) : bd 4294967296 (ev0 s id) := by
  obtain ⟨⟨a, b⟩, ⟨c, d⟩, e, f⟩ := h
  refine ⟨(cardE_small (s.objs.getD id.toNat noObj 0)).2, ?_, ?_, ?_, ?_⟩ <;> simp only [ev0] <;> omega
theorem getD_mem' {α : Type} {z : α} {l : List α} {k : Nat} (h : k < l.length) : l.getD k z ∈ l := by
  rw [getD_of' h]; exact List.getElem_mem h
theorem evUp_bd {s : St} {id : Int} (h : obd (s.objs.getD id.toNat noObj)) (k : Nat) (hk : k ≤ (staticsF s).length) : bd (4294967296 + 1000 * k) (evUp s id k) := by
  induction k with
  | zero => rw [evUp_zero]; exact ev0_bd h
  | succ k ih =>
    rw [evUp_succ hk]
    have := evStep_bd (s := s) (id := id) (x := (staticsF s).getD k noStat) (by omega) (ih (by omega)) (statics_small _ (getD_mem' hk))
    have e : (4294967296 + 1000 * ((k + 1 : Nat) : Int)) = 4294967296 + 1000 * (k : Int) + 1000 := by omega
    rw [e]; exact this
theorem static_elem {l : List Static} {i : Nat} (h : i < l.length) : ((cStatics l).drop (Int.toNat (i : Int) * 8)).take 8 = cStatic (l.getD i noStat) := flat_at (f := cStatic) (n := 8) (fun _ => rfl) noStat (i := i) h

theorem box_under {h : Hp} {i j : Nat} {c d : List V} (n : i ≠ j) (e : h.box j = some c) : (h.setBox i d).box j = some c := by rw [Hp.box_setBox_ne _ _ (Ne.symm n)]; exact e
theorem none_of {h : Hp} {i j : Nat} {c : List V} (e : (h.setBox i c).box j = none) : h.box j = none := by
  by_cases n : j = i
  · subst n; rw [Hp.box_setBox] at e; cases e
  · rwa [Hp.box_setBox_ne _ _ n] at e
theorem swap_mem {h : Hp} {i j : Nat} {a b c : List V} (n : i ≠ j) : ((h.setBox i a).setBox j b).setBox i c = (h.setBox i c).setBox j b := by
  rw [Hp.setBox_comm _ _ _ (Ne.symm n), Hp.setBox_setBox]
theorem fresh_ne {h : Hp} {i j : Nat} {c : List V} (f : (h.setBox i c).fresh j) : i ≠ j := Hp.ne_of_box (Hp.box_setBox _ _ _) f.1
theorem fresh_pair {h : Hp} {i j : Nat} {c d : List V} (fi : h.fresh i) (fj : (h.setBox i c).fresh j) : h.fresh j ∧ (h.setBox j d).fresh i := by
  have hne := fresh_ne fj
  exact ⟨⟨by have := fj.1; rwa [Hp.box_setBox_ne _ _ hne.symm] at this, fj.2⟩, fresh_setBox fi hne⟩
theorem a_storeWA' {P : Program} {G : Nat → Option (List V)} {h : Hp} {o : Oper} {ρ : Operand → V} {t : TypeId} {x y : Operand} (ho : o.op = .store t x y) {n : Nat} (hs : ∀ w, (sizeOf t).run P w = .ok n w) {id : Nat} (hx : ρ x = .ptr id 0) {h0 : Hp} {cs : List V} (hh : h = h0.setBox id cs)
    {ds : List V} (hv : ρ y = .agg ds) (hn : ds.length = n) (hc : cs.length = n) {K : V → Hp → Prop} (k : K .junk (h0.setBox id ds)) : AStep P G o ρ h K := a_storeWA ho hs hx hh hv hn hc k
/-- A store into the variable beneath the last one. -/
theorem a_storeU {P : Program} {G : Nat → Option (List V)} {h : Hp} {o : Oper} {ρ : Operand → V} {t : TypeId} {x y : Operand} {id id2 : Nat} (ho : o.op = .store t x y) {n : Nat} (hs : ∀ w, (sizeOf t).run P w = .ok n w) (hx : ρ x = .ptr id 0) {h0 : Hp} {cs c2 : List V} (hf : (h0.setBox id cs).fresh id2) (hh : h = (h0.setBox id cs).setBox id2 c2)
    {ds : List V} (hv : ρ y = .agg ds) (hn : ds.length = n) (hc : cs.length = n) {K : V → Hp → Prop} (k : K .junk ((h0.setBox id ds).setBox id2 c2)) : AStep P G o ρ h K := by
  have hne := fresh_ne hf
  refine a_storeWA (h0 := h0.setBox id2 c2) ho hs hx (by rw [hh, Hp.setBox_comm _ _ _ hne]) hv hn hc ?_
  rw [← Hp.setBox_comm _ _ _ hne]; exact k

theorem eval_calls (s : St) (i : Int) (hi : 0 ≤ i ∧ i < s.objs.length) (hz : ∀ id ∈ s.lists 8, 0 ≤ id ∧ id < s.objs.length) (hl : (s.lists 8).length ≤ 1000000) (hob : obd (s.objs.getD i.toNat noObj)) (h : Hp) : ACalls prog G 101 [eState s, .int .i64 i] h fun r h' => r = .agg (cSh (evalF s i)) ∧ h' = h := by
  obtain ⟨⟨o7, o7'⟩, ⟨o8, o8'⟩, o9, o9'⟩ := id hob
  have hsl : (staticsF s).length ≤ 10000000 := by rw [← stUp_all]; exact stUp_len hl
  refine ACalls.enter func101 rfl ntmps101 results101 rfl ?_
  refine .seq <|
    .region <|
    .bx rfl rfl ?_
  refine AOps.s rfl rfl rfl (a_alloc rfl zeroValue100 rfl (fun id4 hid4 => ?_))
  refine .nil ?_
  refine AW.cut (fun T h1 => ∃ id5 id6, T = put (put (put (put (put T0 1 (V.int .i64 i)) 2 (V.iptr (cState s))) 4 (V.ptr id4 0)) 5 (V.ptr id5 0)) 6 (V.ptr id6 0) ∧ (h.setBox id4 [.int .i64 0, .int .i64 0, .int .i64 0]).fresh id5 ∧ ((h.setBox id4 [.int .i64 0, .int .i64 0, .int .i64 0]).setBox id5 (cCard (kindF s i))).fresh id6 ∧ h1 = ((h.setBox id4 [.int .i64 0, .int .i64 0, .int .i64 0]).setBox id5 (cCard (kindF s i))).setBox id6 (cObj (s.objs.getD i.toNat noObj))) ?_ ?_
  · skip
    refine AW.draw2 [10, 11] [3, 4, 5, 6, 7] [(0, true), (1, true), (2, true), (3, true), (4, true), (5, true), (6, true), (7, true)] 4 mixed (by kernel_rfl) rfl (by kernel_rfl) ?_
    refine .q rfl rfl rfl rfl (q_load_iW rfl isAgg29 sizeOf29 rfl (by rfl)) ?_
    refine .q rfl rfl rfl rfl (q_mv rfl (rfl : _ = V.int _ _)) ?_
    refine .q rfl rfl rfl rfl (QOp.call rfl (by exact call114) fun h' hl' => by exact kind_calls s i hi h') ?_
    refine .p rfl rfl rfl (fun _ => q_fa_i rfl underlying29 rfl (by exact sizeOf22) (by decide) rfl (rfl : _ = List.drop 0 _)) ?_
    refine .p rfl rfl rfl (fun _ => q_load_i1 rfl isAgg22 rfl rfl) ?_
    refine .p rfl rfl rfl (fun _ => q_mv rfl (rfl : _ = V.int _ _)) ?_
    refine .p rfl rfl rfl (fun _ => q_ia_s rfl underlying22 sizeOf58 rfl rfl hi.1 hi.2 (cObjs_elem' hi.1 hi.2)) ?_
    refine .p rfl rfl rfl (fun _ => q_load_iW rfl isAgg58 sizeOf58 rfl (by rfl)) ?_
    refine AOrd.nil ?_
    refine AAny.two 8 9 (by kernel_rfl) (aOp.new rfl rfl rfl (a_alloc rfl zeroValue111 rfl (fun id5 hid5 => ⟨?_, HLe.setBox hid5.1⟩))) (aOp.new rfl rfl rfl (a_alloc rfl zeroValue58 rfl (fun id6 hid6 => ⟨?_, HLe.setBox hid6.1⟩)))
    · skip
      refine AAny.one 9 (by kernel_rfl) (aOp.new rfl rfl rfl (a_alloc rfl zeroValue58 rfl (fun id6 hid6 => ⟨?_, HLe.setBox hid6.1⟩)))
      refine AAny.one 10 (by kernel_rfl) (aOp.st rfl rfl rfl rfl (a_storeU (id := id5) (id2 := id6) rfl sizeOf111 rfl hid6 rfl (rfl : _ = V.agg _) rfl rfl ?_))
      refine AAny.one 11 (by kernel_rfl) (aOp.st rfl rfl rfl rfl (a_storeWA' rfl sizeOf58 rfl (rfl) (rfl : _ = V.agg _) rfl rfl ?_))
      refine AAny.fin (by kernel_rfl) ?_
      exact Wk.mk (TLe.put (d := 6) (VLe.refl _) (TLe.put (d := 5) (VLe.refl _) (TLe.put (d := 4) (VLe.refl _) (TLe.put (d := 2) (VLe.refl _) (TLe.put (d := 1) (VLe.refl _) (TLe.zero _)))))) (HLe.refl _) ⟨id5, id6, rfl, hid5, Hp.fresh_swap hid6, rfl⟩
    · skip
      refine AAny.one 8 (by kernel_rfl) (aOp.new rfl rfl rfl (a_alloc rfl zeroValue111 rfl (fun id5 hid5 => ⟨?_, HLe.setBox hid5.1⟩)))
      refine AAny.one 10 (by kernel_rfl) (aOp.st rfl rfl rfl rfl (a_storeWA' rfl sizeOf111 rfl (rfl) (rfl : _ = V.agg _) rfl rfl ?_))
      refine AAny.one 11 (by kernel_rfl) (aOp.st rfl rfl rfl rfl (a_storeU (id := id6) (id2 := id5) rfl sizeOf58 rfl (Hp.fresh_swap hid5) rfl (rfl : _ = V.agg _) rfl rfl ?_))
      refine AAny.fin (by kernel_rfl) ?_
      exact Wk.mk (TLe.put (d := 6) (VLe.refl _) (TLe.put (d := 5) (VLe.refl _) (TLe.put (d := 4) (VLe.refl _) (TLe.put (d := 2) (VLe.refl _) (TLe.put (d := 1) (VLe.refl _) (TLe.zero _)))))) (HLe.refl _) ⟨id5, id6, rfl, (fresh_pair (d := []) hid6 hid5).1, (fresh_pair hid6 hid5).2, Hp.setBox_comm _ _ _ (fresh_ne hid5)⟩
  · rintro T h1 ⟨id5, id6, rfl, hid5, hid6, rfl⟩
    refine AW.done 6 rfl hid6 ?_
    refine AW.done 5 rfl hid5 ?_
    refine .seq <|
      .region <|
      .fi rfl f111_9 rfl <|
      .li rfl isAgg3 rfl rfl <|
      .fi rfl f111_10 rfl <|
      .li rfl isAgg3 rfl rfl <|
      .fi rfl f111_11 rfl <|
      .li rfl isAgg3 rfl rfl ?_
    refine .u rfl rfl rfl (q_buildS rfl zeroValue100 underlying100 (pl100 underlying100) rfl rfl) ?_
    refine AOps.s rfl rfl rfl (a_alloc rfl zeroValue100 rfl (fun id7 hid7 => ?_))
    refine .sw sizeOf100 rfl rfl rfl rfl <|
      .nil <|
      .seq <|
      .region ?_
    refine .u rfl rfl rfl (q_ia_ai rfl underlying58 sizeOf3 rfl rfl (by decide) (by decide) rfl) ?_
    refine .li rfl isAgg3 rfl rfl ?_
    refine .u rfl rfl rfl (q_ia_ai rfl underlying58 sizeOf3 rfl rfl (by decide) (by decide) rfl) ?_
    refine .li rfl isAgg3 rfl rfl <|
      .ad rfl rfl rfl (by omega) ?_
    refine .u rfl rfl rfl (q_ia_ai rfl underlying58 sizeOf3 rfl rfl (by decide) (by decide) rfl) ?_
    refine .li rfl isAgg3 rfl rfl ?_
    refine .u rfl rfl rfl (q_ia_ai rfl underlying58 sizeOf3 rfl rfl (by decide) (by decide) rfl) ?_
    refine .li rfl isAgg3 rfl rfl <|
      .ad rfl rfl rfl (by omega) ?_
    refine .u rfl rfl rfl (q_buildS rfl zeroValue100 underlying100 (pl100 underlying100) rfl rfl) ?_
    refine AOps.s rfl rfl rfl (a_alloc rfl zeroValue100 rfl (fun id8 hid8 => ?_))
    refine .sw sizeOf100 rfl rfl rfl rfl <|
      .nil <|
      .seq <|
      .seq <|
      .region <|
      .lw rfl isAgg29 sizeOf29 rfl rfl ?_
    refine .u rfl rfl rfl (QOp.call rfl call124 fun h' hl' => by exact statics_calls s hz hl h') ?_
    refine .ln rfl underlying170 rfl <|
      .mI rfl rfl <|
      .nil <|
      .block ?_
    refine AW.loop (fun n T hh => ∃ (k : Nat) , k ≤ (staticsF s).length ∧ n = (staticsF s).length - k ∧ T = put (put (put (put (put (put (put (put (put (T0) 40 (V.int .i64 (k : Nat))) 39 (V.int .i64 (staticsF s).length)) 38 (V.sl .imm 8 (staticsF s).length (cStatics (staticsF s)))) 8 (V.ptr id8 0)) 7 (V.ptr id7 0)) 6 (V.iptr (cObj (s.objs.getD i.toNat noObj)))) 4 (V.ptr id4 0)) 2 (V.iptr (cState s))) 1 (V.int .i64 i) ∧ hh = ((h.setBox id4 [V.int .i64 0, V.int .i64 0, V.int .i64 0]).setBox id7 (cSh (evUp s i k).out)).setBox id8 (cSh (evUp s i k).more)) ((staticsF s).length) ?_ ?_
    · skip
      refine Wk.mk (TLe.put (d := 1) (VLe.refl _) (TLe.put (d := 2) (VLe.refl _) (TLe.put (d := 4) (VLe.refl _) (TLe.put (d := 6) (VLe.refl _) (TLe.put (d := 7) (VLe.refl _) (TLe.put (d := 8) (VLe.refl _) (TLe.put (d := 38) (VLe.refl _) (TLe.put (d := 39) (VLe.refl _) (TLe.put (d := 40) (by exact VLe.of_eq (congrArg (V.int .i64) (by first | rfl | omega))) (TLe.zero _)))))))))) (HLe.refl _) ⟨0, Nat.zero_le _, rfl, rfl, by rw [evUp_zero]; rfl⟩
    · skip
      rintro n T h' ⟨k, hk, rfl, rfl, rfl⟩
      refine .seq <|
        .region <|
        .ql rfl rfl rfl <|
        .nil <|
        .seq ?_
      refine AW.cond rfl (fun c0 => ?_) (fun c0 => ?_)
      · have hltk : k < (staticsF s).length := by have := of_decide_eq_true c0; omega
        have hx := statics_small _ (getD_mem' (z := noStat) hltk)
        obtain ⟨x1, x2, x3, x4⟩ := hx
        obtain ⟨⟨q1, q2, q3, q4⟩, q5, q6, q7, q8⟩ := evUp_bd hob k hk
        have n78 := fresh_ne hid8
        refine AW.skip ?_
        refine .seq <|
          .block <|
          .seq <|
          .region ?_
        refine .u rfl rfl rfl (q_ia_s rfl underlying170 sizeOf173 rfl rfl (by omega) (by omega) (static_elem hltk)) ?_
        refine .lw rfl isAgg173 sizeOf173 rfl rfl ?_
        refine AOps.s rfl rfl rfl (a_alloc rfl zeroValue173 rfl (fun id10 hid10 => ?_))
        refine .sw sizeOf173 rfl rfl rfl rfl ?_
        refine AOps.done 10 rfl hid10 ?_
        refine .nil <|
          .seq <|
          .seq <|
          .region <|
          .lw rfl isAgg173 sizeOf173 rfl rfl <|
          .lw rfl isAgg29 sizeOf29 rfl rfl <|
          .mI rfl rfl ?_
        refine .u rfl rfl rfl (QOp.call rfl call125 fun h' hl' => by exact reaches_calls _ _ _ (by omega) h') ?_
        refine .nt rfl rfl <|
          .nil ?_
        refine AW.cond rfl (fun c1 => ?_) (fun c1 => ?_)
        · have e1 : reachesF ((staticsF s).getD k noStat) s i = false := by simpa using c1
          have he : evStep s i (evUp s i k) ((staticsF s).getD k noStat) = (evUp s i k) := by simp [-List.getD_eq_getElem?_getD, evStep, e1]
          refine AW.exit ?_
          refine .region <|
            .ad rfl rfl rfl (by omega) <|
            .mI rfl rfl <|
            .nil ?_
          refine Wk.mk (TLe.put (d := 1) (VLe.refl _) (TLe.put (d := 2) (VLe.refl _) (TLe.put (d := 4) (VLe.refl _) (TLe.put (d := 6) (VLe.refl _) (TLe.put (d := 7) (VLe.refl _) (TLe.put (d := 8) (VLe.refl _) (TLe.put (d := 38) (VLe.refl _) (TLe.put (d := 39) (VLe.refl _) (TLe.put (d := 40) (by exact VLe.of_eq (congrArg (V.int .i64) (by first | rfl | omega))) (TLe.zero _)))))))))) (HLe.refl _) ⟨_, ?_, k + 1, ?_, rfl, rfl, by rw [evUp_succ hltk, he]; all_goals first | rfl | exact swap_mem n78 | (simp only [Hp.setBox_setBox]; first | rfl | exact swap_mem n78)⟩
          · omega
          · omega
        · have e1 : reachesF ((staticsF s).getD k noStat) s i = true := by simpa using c1
          refine AW.skip ?_
          refine .seq <|
            .region <|
            .fi rfl f173_3 rfl <|
            .fi rfl f118_0 rfl <|
            .li rfl isAgg3 rfl rfl <|
            .nil <|
            .block <|
            .seq <|
            .region <|
            .qe rfl rfl rfl <|
            .aB rfl rfl <|
            .nil ?_
          refine AW.cond rfl (fun c2 => ?_) (fun c2 => ?_)
          · have e2 : ((staticsF s).getD k noStat).doo.op = 24 := of_decide_eq_true c2
            have he : evStep s i (evUp s i k) ((staticsF s).getD k noStat) = ⟨⟨((staticsF s).getD k noStat).doo.n, ((staticsF s).getD k noStat).doo.m, (evUp s i k).out.w⟩, (evUp s i k).more⟩ := by simp [-List.getD_eq_getElem?_getD, evStep, e1, e2]
            refine AW.draw [7, 9] [3, 4, 5] [(0, true), (1, true), (2, true), (3, true), (4, true), (5, true), (6, true), (7, false), (8, true), (9, false)] mixed (by kernel_rfl) rfl (by kernel_rfl) ?_
            refine .q rfl rfl rfl rfl (q_fa_i rfl underlying173 rfl (by exact sizeOf118) (by decide) rfl (rfl : _ = List.drop 3 _)) ?_
            refine .q rfl rfl rfl rfl (q_fa_i rfl underlying118 rfl (by exact sizeOf3) (by decide) rfl (rfl : _ = List.drop 1 _)) ?_
            refine .q rfl rfl rfl rfl (q_load_i1 rfl isAgg3 rfl rfl) ?_
            refine .p rfl rfl rfl (fun _ => q_fa_i rfl underlying173 rfl (by exact sizeOf118) (by decide) rfl (rfl : _ = List.drop 3 _)) ?_
            refine .p rfl rfl rfl (fun _ => q_fa_i rfl underlying118 rfl (by exact sizeOf3) (by decide) rfl (rfl : _ = List.drop 2 _)) ?_
            refine .p rfl rfl rfl (fun _ => q_load_i1 rfl isAgg3 rfl rfl) ?_
            refine .q rfl rfl rfl rfl (q_fa_b rfl underlying100 rfl (by exact sizeOf3) (by decide) rfl (rfl : _ = 0)) ?_
            refine AOrd.s0 rfl rfl rfl rfl (a_store1 rfl sizeOf3 rfl ((by first | exact Hp.box_setBox _ _ _ | exact box_under n78.symm (Hp.box_setBox _ _ _) | exact box_under n48.symm (box_under n47.symm (Hp.box_setBox _ _ _)))) (rfl : _ = V.int _ _) rfl rfl (by first | decide | exact Nat.le_of_ble_eq_true rfl) ?_)
            refine .q rfl rfl rfl rfl (q_fa_b rfl underlying100 rfl (by exact sizeOf3) (by decide) rfl (rfl : _ = 1)) ?_
            refine AOrd.s0 rfl rfl rfl rfl (a_store1 rfl sizeOf3 rfl ((by first | exact Hp.box_setBox _ _ _ | exact box_under n78.symm (Hp.box_setBox _ _ _) | exact box_under n48.symm (box_under n47.symm (Hp.box_setBox _ _ _)))) (rfl : _ = V.int _ _) rfl rfl (by first | decide | exact Nat.le_of_ble_eq_true rfl) ?_)
            refine AOrd.nil ?_
            refine .region <|
              .ad rfl rfl rfl (by omega) <|
              .mI rfl rfl <|
              .nil ?_
            refine Wk.mk (TLe.put (d := 1) (VLe.refl _) (TLe.put (d := 2) (VLe.refl _) (TLe.put (d := 4) (VLe.refl _) (TLe.put (d := 6) (VLe.refl _) (TLe.put (d := 7) (VLe.refl _) (TLe.put (d := 8) (VLe.refl _) (TLe.put (d := 38) (VLe.refl _) (TLe.put (d := 39) (VLe.refl _) (TLe.put (d := 40) (by exact VLe.of_eq (congrArg (V.int .i64) (by first | rfl | omega))) (TLe.zero _)))))))))) (HLe.refl _) ⟨_, ?_, k + 1, ?_, rfl, rfl, by rw [evUp_succ hltk, he]; all_goals first | rfl | exact swap_mem n78 | (simp only [Hp.setBox_setBox]; first | rfl | exact swap_mem n78)⟩
            · omega
            · omega
          · have e2 : ¬ ((staticsF s).getD k noStat).doo.op = 24 := of_decide_eq_false c2
            refine .seq <|
              .region <|
              .qe rfl rfl rfl <|
              .aB rfl rfl <|
              .nil ?_
            refine AW.cond rfl (fun c3 => ?_) (fun c3 => ?_)
            · have e3 : ((staticsF s).getD k noStat).doo.op = 10 := of_decide_eq_true c3
              have he : evStep s i (evUp s i k) ((staticsF s).getD k noStat) = ⟨(evUp s i k).out, ⟨(evUp s i k).more.p + ((staticsF s).getD k noStat).doo.n, (evUp s i k).more.t + ((staticsF s).getD k noStat).doo.m, (evUp s i k).more.w⟩⟩ := by simp [-List.getD_eq_getElem?_getD, evStep, e1, e3]
              refine .seq <|
                .region <|
                .fb rfl f100_0 rfl rfl ?_
              refine .u rfl rfl rfl (q_load_b1 rfl isAgg3 rfl ((by first | exact Hp.box_setBox _ _ _ | exact box_under n78.symm (Hp.box_setBox _ _ _) | exact box_under n48.symm (box_under n47.symm (Hp.box_setBox _ _ _)))) rfl) ?_
              refine .fi rfl f173_3 rfl <|
                .fi rfl f118_1 rfl <|
                .li rfl isAgg3 rfl rfl <|
                .ad rfl rfl rfl (by omega) <|
                .fb rfl f100_0 rfl rfl ?_
              refine AOps.s0 rfl rfl (a_store1 rfl sizeOf3 rfl ((by first | exact Hp.box_setBox _ _ _ | exact box_under n78.symm (Hp.box_setBox _ _ _) | exact box_under n48.symm (box_under n47.symm (Hp.box_setBox _ _ _)))) (rfl : _ = V.int _ _) rfl rfl (by first | decide | exact Nat.le_of_ble_eq_true rfl) ?_)
              refine .nil <|
                .region <|
                .fb rfl f100_1 rfl rfl ?_
              refine .u rfl rfl rfl (q_load_b1 rfl isAgg3 rfl ((by first | exact Hp.box_setBox _ _ _ | exact box_under n78.symm (Hp.box_setBox _ _ _) | exact box_under n48.symm (box_under n47.symm (Hp.box_setBox _ _ _)))) rfl) ?_
              refine .fi rfl f173_3 rfl <|
                .fi rfl f118_2 rfl <|
                .li rfl isAgg3 rfl rfl <|
                .ad rfl rfl rfl (by omega) <|
                .fb rfl f100_1 rfl rfl ?_
              refine AOps.s0 rfl rfl (a_store1 rfl sizeOf3 rfl ((by first | exact Hp.box_setBox _ _ _ | exact box_under n78.symm (Hp.box_setBox _ _ _) | exact box_under n48.symm (box_under n47.symm (Hp.box_setBox _ _ _)))) (rfl : _ = V.int _ _) rfl rfl (by first | decide | exact Nat.le_of_ble_eq_true rfl) ?_)
              refine .nil <|
                .region <|
                .ad rfl rfl rfl (by omega) <|
                .mI rfl rfl <|
                .nil ?_
              refine Wk.mk (TLe.put (d := 1) (VLe.refl _) (TLe.put (d := 2) (VLe.refl _) (TLe.put (d := 4) (VLe.refl _) (TLe.put (d := 6) (VLe.refl _) (TLe.put (d := 7) (VLe.refl _) (TLe.put (d := 8) (VLe.refl _) (TLe.put (d := 38) (VLe.refl _) (TLe.put (d := 39) (VLe.refl _) (TLe.put (d := 40) (by exact VLe.of_eq (congrArg (V.int .i64) (by first | rfl | omega))) (TLe.zero _)))))))))) (HLe.refl _) ⟨_, ?_, k + 1, ?_, rfl, rfl, by rw [evUp_succ hltk, he]; all_goals first | rfl | exact swap_mem n78 | (simp only [Hp.setBox_setBox]; first | rfl | exact swap_mem n78)⟩
              · omega
              · omega
            · have e3 : ¬ ((staticsF s).getD k noStat).doo.op = 10 := of_decide_eq_false c3
              refine .seq <|
                .region <|
                .qe rfl rfl rfl <|
                .aB rfl rfl <|
                .nil ?_
              refine AW.cond rfl (fun c4 => ?_) (fun c4 => ?_)
              · have e4 : ((staticsF s).getD k noStat).doo.op = 23 := of_decide_eq_true c4
                have he : evStep s i (evUp s i k) ((staticsF s).getD k noStat) = ⟨⟨(evUp s i k).out.p, (evUp s i k).out.t, bitop .or .i64 (evUp s i k).out.w ((staticsF s).getD k noStat).doo.n⟩, (evUp s i k).more⟩ := by simp [-List.getD_eq_getElem?_getD, evStep, e1, e4]
                refine .region <|
                  .fb rfl f100_2 rfl rfl ?_
                refine .u rfl rfl rfl (q_load_b1 rfl isAgg3 rfl ((by first | exact Hp.box_setBox _ _ _ | exact box_under n78.symm (Hp.box_setBox _ _ _) | exact box_under n48.symm (box_under n47.symm (Hp.box_setBox _ _ _)))) rfl) ?_
                refine .fi rfl f173_3 rfl <|
                  .fi rfl f118_1 rfl <|
                  .li rfl isAgg3 rfl rfl ?_
                refine .u rfl rfl rfl (q_bit rfl rfl rfl rfl) ?_
                refine .fb rfl f100_2 rfl rfl ?_
                refine AOps.s0 rfl rfl (a_store1 rfl sizeOf3 rfl ((by first | exact Hp.box_setBox _ _ _ | exact box_under n78.symm (Hp.box_setBox _ _ _) | exact box_under n48.symm (box_under n47.symm (Hp.box_setBox _ _ _)))) (rfl : _ = V.int _ _) rfl rfl (by first | decide | exact Nat.le_of_ble_eq_true rfl) ?_)
                refine .nil <|
                  .region <|
                  .ad rfl rfl rfl (by omega) <|
                  .mI rfl rfl <|
                  .nil ?_
                refine Wk.mk (TLe.put (d := 1) (VLe.refl _) (TLe.put (d := 2) (VLe.refl _) (TLe.put (d := 4) (VLe.refl _) (TLe.put (d := 6) (VLe.refl _) (TLe.put (d := 7) (VLe.refl _) (TLe.put (d := 8) (VLe.refl _) (TLe.put (d := 38) (VLe.refl _) (TLe.put (d := 39) (VLe.refl _) (TLe.put (d := 40) (by exact VLe.of_eq (congrArg (V.int .i64) (by first | rfl | omega))) (TLe.zero _)))))))))) (HLe.refl _) ⟨_, ?_, k + 1, ?_, rfl, rfl, by rw [evUp_succ hltk, he]; all_goals first | rfl | exact swap_mem n78 | (simp only [Hp.setBox_setBox]; first | rfl | exact swap_mem n78)⟩
                · omega
                · omega
              · have e4 : ¬ ((staticsF s).getD k noStat).doo.op = 23 := of_decide_eq_false c4
                refine .seq <|
                  .region <|
                  .qe rfl rfl rfl <|
                  .aB rfl rfl <|
                  .nil ?_
                refine AW.cond rfl (fun c5 => ?_) (fun c5 => ?_)
                · have e5 : ((staticsF s).getD k noStat).doo.op = 25 := of_decide_eq_true c5
                  have he : evStep s i (evUp s i k) ((staticsF s).getD k noStat) = ⟨⟨(evUp s i k).out.p, (evUp s i k).out.t, bitop .andNot .i64 (evUp s i k).out.w ((staticsF s).getD k noStat).doo.n⟩, (evUp s i k).more⟩ := by simp [-List.getD_eq_getElem?_getD, evStep, e1, e5]
                  refine .region <|
                    .fb rfl f100_2 rfl rfl ?_
                  refine .u rfl rfl rfl (q_load_b1 rfl isAgg3 rfl ((by first | exact Hp.box_setBox _ _ _ | exact box_under n78.symm (Hp.box_setBox _ _ _) | exact box_under n48.symm (box_under n47.symm (Hp.box_setBox _ _ _)))) rfl) ?_
                  refine .fi rfl f173_3 rfl <|
                    .fi rfl f118_1 rfl <|
                    .li rfl isAgg3 rfl rfl ?_
                  refine .u rfl rfl rfl (q_bit rfl rfl rfl rfl) ?_
                  refine .fb rfl f100_2 rfl rfl ?_
                  refine AOps.s0 rfl rfl (a_store1 rfl sizeOf3 rfl ((by first | exact Hp.box_setBox _ _ _ | exact box_under n78.symm (Hp.box_setBox _ _ _) | exact box_under n48.symm (box_under n47.symm (Hp.box_setBox _ _ _)))) (rfl : _ = V.int _ _) rfl rfl (by first | decide | exact Nat.le_of_ble_eq_true rfl) ?_)
                  refine .nil <|
                    .region <|
                    .ad rfl rfl rfl (by omega) <|
                    .mI rfl rfl <|
                    .nil ?_
                  refine Wk.mk (TLe.put (d := 1) (VLe.refl _) (TLe.put (d := 2) (VLe.refl _) (TLe.put (d := 4) (VLe.refl _) (TLe.put (d := 6) (VLe.refl _) (TLe.put (d := 7) (VLe.refl _) (TLe.put (d := 8) (VLe.refl _) (TLe.put (d := 38) (VLe.refl _) (TLe.put (d := 39) (VLe.refl _) (TLe.put (d := 40) (by exact VLe.of_eq (congrArg (V.int .i64) (by first | rfl | omega))) (TLe.zero _)))))))))) (HLe.refl _) ⟨_, ?_, k + 1, ?_, rfl, rfl, by rw [evUp_succ hltk, he]; all_goals first | rfl | exact swap_mem n78 | (simp only [Hp.setBox_setBox]; first | rfl | exact swap_mem n78)⟩
                  · omega
                  · omega
                · have e5 : ¬ ((staticsF s).getD k noStat).doo.op = 25 := of_decide_eq_false c5
                  have he : evStep s i (evUp s i k) ((staticsF s).getD k noStat) = (evUp s i k) := by simp [-List.getD_eq_getElem?_getD, evStep, e1, e2, e3, e4, e5]
                  refine AW.skip ?_
                  refine .region <|
                    .ad rfl rfl rfl (by omega) <|
                    .mI rfl rfl <|
                    .nil ?_
                  refine Wk.mk (TLe.put (d := 1) (VLe.refl _) (TLe.put (d := 2) (VLe.refl _) (TLe.put (d := 4) (VLe.refl _) (TLe.put (d := 6) (VLe.refl _) (TLe.put (d := 7) (VLe.refl _) (TLe.put (d := 8) (VLe.refl _) (TLe.put (d := 38) (VLe.refl _) (TLe.put (d := 39) (VLe.refl _) (TLe.put (d := 40) (by exact VLe.of_eq (congrArg (V.int .i64) (by first | rfl | omega))) (TLe.zero _)))))))))) (HLe.refl _) ⟨_, ?_, k + 1, ?_, rfl, rfl, by rw [evUp_succ hltk, he]; all_goals first | rfl | exact swap_mem n78 | (simp only [Hp.setBox_setBox]; first | rfl | exact swap_mem n78)⟩
                  · omega
                  · omega
      · obtain rfl : k = (staticsF s).length := by have := of_decide_eq_false c0; omega
        have hbd := evUp_bd hob _ (Nat.le_refl _)
        rw [evUp_all] at hbd ⊢
        obtain ⟨⟨q1, q2, q3, q4⟩, q5, q6, q7, q8⟩ := hbd
        have n78 := fresh_ne hid8
        have n47 := fresh_ne hid7
        have n48 : id4 ≠ id8 := Hp.ne_of_box (box_under n47.symm (Hp.box_setBox _ _ _)) hid8.1
        refine AW.exit ?_
        refine .seq <|
          .region <|
          .fb rfl f100_0 rfl rfl ?_
        refine .u rfl rfl rfl (q_load_b1 rfl isAgg3 rfl ((by first | exact Hp.box_setBox _ _ _ | exact box_under n78.symm (Hp.box_setBox _ _ _) | exact box_under n48.symm (box_under n47.symm (Hp.box_setBox _ _ _)))) rfl) ?_
        refine .fb rfl f100_0 rfl rfl ?_
        refine .u rfl rfl rfl (q_load_b1 rfl isAgg3 rfl ((by first | exact Hp.box_setBox _ _ _ | exact box_under n78.symm (Hp.box_setBox _ _ _) | exact box_under n48.symm (box_under n47.symm (Hp.box_setBox _ _ _)))) rfl) ?_
        refine .ad rfl rfl rfl (by omega) <|
          .fb rfl f100_1 rfl rfl ?_
        refine .u rfl rfl rfl (q_load_b1 rfl isAgg3 rfl ((by first | exact Hp.box_setBox _ _ _ | exact box_under n78.symm (Hp.box_setBox _ _ _) | exact box_under n48.symm (box_under n47.symm (Hp.box_setBox _ _ _)))) rfl) ?_
        refine .fb rfl f100_1 rfl rfl ?_
        refine .u rfl rfl rfl (q_load_b1 rfl isAgg3 rfl ((by first | exact Hp.box_setBox _ _ _ | exact box_under n78.symm (Hp.box_setBox _ _ _) | exact box_under n48.symm (box_under n47.symm (Hp.box_setBox _ _ _)))) rfl) ?_
        refine .ad rfl rfl rfl (by omega) <|
          .fb rfl f100_2 rfl rfl ?_
        refine .u rfl rfl rfl (q_load_b1 rfl isAgg3 rfl ((by first | exact Hp.box_setBox _ _ _ | exact box_under n78.symm (Hp.box_setBox _ _ _) | exact box_under n48.symm (box_under n47.symm (Hp.box_setBox _ _ _)))) rfl) ?_
        refine .u rfl rfl rfl (q_ia_ai rfl underlying58 sizeOf3 rfl rfl (by decide) (by decide) rfl) ?_
        refine .li rfl isAgg3 rfl rfl ?_
        refine .u rfl rfl rfl (q_bit rfl rfl rfl rfl) ?_
        refine .u rfl rfl rfl (q_buildS rfl zeroValue100 underlying100 (pl100 underlying100) rfl rfl) ?_
        refine AOps.s0 rfl rfl (a_storeA rfl sizeOf100 rfl ((by first | exact Hp.box_setBox _ _ _ | exact box_under n78.symm (Hp.box_setBox _ _ _) | exact box_under n48.symm (box_under n47.symm (Hp.box_setBox _ _ _)))) (rfl : _ = V.agg _) rfl (by first | decide | exact Nat.le_of_ble_eq_true rfl) ?_)
        refine .nil ?_
        refine AW.ret ?_
        exact retQ.mk' (Res.cellB isAgg100 sizeOf100 rfl (by exact bsb) rfl) (VLe.refl _) (HLe.over (HLe.over (HLe.over (HLe.over (HLe.refl _) hid4.1) (none_of hid7.1)) (none_of (none_of hid8.1))) hid4.1) ⟨rfl, rfl⟩

end Go.Proofs.YtijhmlkffkedeaaGreatDoor
/- Walks: what is left of a creature; what is dying. -/
namespace Go.Proofs.YtijhmlkffkedeaaGreatDoor
open Go Go.AV Go.Proofs.Tryz
set_option maxRecDepth 100000
set_option maxHeartbeats 1000000
theorem right_parts {s : St} (h : checkF s = 0) : s.objs.length ≤ 400 ∧ rangesF s = true ∧ zonesF s = true ∧ ∀ o ∈ s.objs, formedF o = true := by
  unfold checkF at h
  split at h
  · cases h
  split at h
  · cases h
  split at h
  · cases h
  split at h
  · cases h
  rename_i a b c d
  refine ⟨by omega, by simpa using b, by simpa using c, fun o ho => ?_⟩
  simp only [List.any_eq_true, not_exists, not_and] at d
  have := d o ho; simpa using this
theorem right_ids {s : St} (h : zonesF s = true) {z : Nat} (hz : z < 11) : ∀ id ∈ s.lists z, 0 ≤ id ∧ id < s.objs.length ∧ objAt s id 3 = z ∧ standsF (objAt s id) z = true := by
  simp only [zonesF, Bool.and_eq_true, List.all_eq_true, List.mem_range] at h
  intro id hid
  have := h.1.1 z hz id hid
  simp only [standsAt, Bool.and_eq_true, beq_iff_eq] at this
  obtain ⟨⟨a, b⟩, c⟩ := this
  have : 0 ≤ id ∧ id < s.objs.length := by simpa [inN] using a
  exact ⟨this.1, this.2, b, c⟩
theorem right_obj {s : St} (h : rangesF s = true) {i : Nat} (hi : i < s.objs.length) (f : Nat) (hf : f < 18) : oLo s.objs.length f ≤ s.objs.getD i noObj f ∧ s.objs.getD i noObj f ≤ oHi s.objs.length f := by
  simp only [rangesF, Bool.and_eq_true] at h
  have := (List.all_eq_true.1 h.1.1) _ (getD_mem' (z := noObj) hi)
  have := (all_up.1 this) f hf
  simpa [inB] using this
theorem right_obd {s : St} (h : rangesF s = true) {i : Int} (hi : 0 ≤ i ∧ i < s.objs.length) : obd (s.objs.getD i.toNat noObj) :=
  have hl : i.toNat < s.objs.length := by omega
  ⟨right_obj h hl 7 (by decide), right_obj h hl 8 (by decide), right_obj h hl 9 (by decide)⟩
theorem creature_in {s : St} {i : Int} (h : creatureF s i = true) : 0 ≤ i ∧ i < s.objs.length := by
  simp only [creatureF, Bool.and_eq_true] at h; simpa [inN] using h.1.1
def ofF (s : St) (i : Int) : Sh × Int := if checkF s ≠ 0 then (⟨0, 0, 0⟩, checkF s) else if creatureF s i = false then (⟨0, 0, 0⟩, 4) else (evalF s i, 0)
theorem of_ok {s : St} {i : Int} (h : (ofF s i).2 = 0) : checkF s = 0 ∧ creatureF s i = true ∧ ofF s i = (evalF s i, 0) := by
  unfold ofF at *
  split at h
  · rename_i a; exact absurd h a
  split at h
  · cases h
  · rename_i a b; exact ⟨by omega, by simpa using b, by rw [if_neg a, if_neg b]⟩
def leftF (s : St) (i : Int) : Int × Int := if (ofF s i).2 ≠ 0 then (0, (ofF s i).2) else ((ofF s i).1.t - s.objs.getD i.toNat noObj 6, 0)
theorem of_calls (s : St) (i : Int) (hb : s.objs.length ≤ 1000000) (hl : ∀ z, (s.lists z).length ≤ 1000000) (h : Hp) : ACalls prog G 66 [eState s, .int .i64 i] h fun r h' => r = .tup [.agg (cSh (ofF s i).1), eE (ofF s i).2] ∧ h' = h := by
  refine ACalls.enter func66 rfl ntmps66 results66 rfl ?_
  refine .seq <|
    .region <|
    .bx rfl rfl ?_
  refine AOps.s rfl rfl rfl (a_alloc rfl zeroValue100 rfl (fun id4 hid4 => ?_))
  refine .u rfl rfl rfl (q_as rfl (rfl : _ = V.inil)) ?_
  refine .nil <|
    .seq <|
    .seq <|
    .region <|
    .lw rfl isAgg29 sizeOf29 rfl rfl ?_
  refine .u rfl rfl rfl (QOp.call rfl call32 fun h' hl' => by exact check_calls _ (by assumption) (by assumption) h') ?_
  refine .u rfl rfl rfl (q_as rfl (rfl : _ = eErr _ _)) ?_
  refine .nil <|
    .seq <|
    .region ?_
  refine .u rfl rfl rfl (q_mv rfl (rfl : _ = eErr _ _)) ?_
  refine .u rfl rfl rfl (q_neerr underlying54 rfl rfl) ?_
  refine .nil ?_
  refine AW.cond rfl (fun c0 => ?_) (fun c0 => ?_)
  · skip
    refine .seq <|
      .region ?_
    refine .u rfl rfl rfl (q_buildS rfl zeroValue100 underlying100 (pl100 underlying100) rfl rfl) ?_
    refine .u rfl rfl rfl (q_mv rfl (rfl : _ = eErr _ _)) ?_
    refine .sw sizeOf100 rfl rfl rfl rfl ?_
    refine .u rfl rfl rfl (q_as rfl (rfl : _ = eErr _ _)) ?_
    refine .nil ?_
    refine AW.ret ?_
    exact retQ.mk' (Res.cellB1 isAgg100 sizeOf100 rfl (by exact bsb) rfl) (VLe.of_eq (by rw [show ofF s i = (⟨0, 0, 0⟩, checkF s) by rw [ofF, if_pos (by simpa using c0)]]; rfl)) (HLe.setBox hid4.1) ⟨rfl, rfl⟩
  · skip
    refine AW.skip ?_
    refine .seq <|
      .seq <|
      .region <|
      .lw rfl isAgg29 sizeOf29 rfl rfl <|
      .mI rfl rfl ?_
    refine .u rfl rfl rfl (QOp.call rfl call82 fun h' hl' => by exact creature_calls _ _ h') ?_
    refine .nt rfl rfl <|
      .nil ?_
    refine AW.cond rfl (fun c1 => ?_) (fun c1 => ?_)
    · skip
      refine .seq <|
        .region ?_
      refine .u rfl rfl rfl (q_buildS rfl zeroValue100 underlying100 (pl100 underlying100) rfl rfl) ?_
      refine .u rfl rfl rfl (q_iface rfl underlying93 rfl) ?_
      refine .sw sizeOf100 rfl rfl rfl rfl ?_
      refine .u rfl rfl rfl (q_as rfl (rfl : _ = V.iface _ _)) ?_
      refine .nil ?_
      refine AW.ret ?_
      exact retQ.mk' (Res.cellB1 isAgg100 sizeOf100 rfl (by exact bsb) rfl) (VLe.of_eq (by rw [show ofF s i = (⟨0, 0, 0⟩, 4) by rw [ofF, if_neg (by simpa using c0), if_pos (by simpa using c1)]]; rw [show eE 4 = V.iface _ _ from eErr_ne (by decide)]; rfl)) (HLe.setBox hid4.1) ⟨rfl, rfl⟩
    · have hc0 : checkF s = 0 := by simpa using c0
      have hcr : creatureF s i = true := by simpa using c1
      obtain ⟨p1, p2, p3, p4⟩ := right_parts hc0
      have hi := creature_in hcr
      refine AW.skip ?_
      refine .seq <|
        .region <|
        .lw rfl isAgg29 sizeOf29 rfl rfl <|
        .mI rfl rfl ?_
      refine .u rfl rfl rfl (QOp.call rfl call101 fun h' hl' => by exact eval_calls s i hi (fun id hid => ⟨(right_ids p3 (by decide) id hid).1, (right_ids p3 (by decide) id hid).2.1⟩) (hl 8) (right_obd p2 hi) h') ?_
      refine .sw sizeOf100 rfl rfl rfl rfl ?_
      refine .u rfl rfl rfl (q_as rfl (rfl : _ = V.inil)) ?_
      refine .nil ?_
      refine AW.ret ?_
      exact retQ.mk' (Res.cellB1 isAgg100 sizeOf100 rfl (by exact bsb) rfl) (VLe.of_eq (by rw [show ofF s i = (evalF s i, 0) by rw [ofF, if_neg (by simpa using c0), if_neg (by rw [hcr]; decide)]]; rw [show eE 0 = V.inil from eErr_zero _]; rfl)) (HLe.setBox hid4.1) ⟨rfl, rfl⟩

theorem left_calls (s : St) (i : Int) (hb : s.objs.length ≤ 1000000) (hl : ∀ z, (s.lists z).length ≤ 1000000) (h : Hp) : ACalls prog G 110 [eState s, .int .i64 i] h fun r h' => r = .tup [.int .i64 (leftF s i).1, eE (leftF s i).2] ∧ h' = h := by
  refine ACalls.enter func110 rfl ntmps110 results110 rfl ?_
  refine .seq <|
    .region <|
    .bx rfl rfl <|
    .aI rfl rfl ?_
  refine .u rfl rfl rfl (q_as rfl (rfl : _ = V.inil)) ?_
  refine .nil <|
    .seq <|
    .region <|
    .lw rfl isAgg29 sizeOf29 rfl rfl <|
    .mI rfl rfl ?_
  refine .u rfl rfl rfl (QOp.call rfl call66 fun h' hl' => by exact of_calls _ _ (by assumption) (by assumption) h') ?_
  refine .u rfl rfl rfl (q_mv rfl (rfl : _ = V.tup _)) ?_
  refine .u rfl rfl rfl (q_extract rfl rfl rfl) ?_
  refine .u rfl rfl rfl (q_extract rfl rfl rfl) ?_
  refine AOps.s rfl rfl rfl (a_alloc rfl zeroValue100 rfl (fun id6 hid6 => ?_))
  refine .sw sizeOf100 rfl rfl rfl rfl ?_
  refine AOps.done 6 rfl hid6 ?_
  refine .u rfl rfl rfl (q_as rfl (rfl : _ = eErr _ _)) ?_
  refine .nil <|
    .seq <|
    .seq <|
    .region ?_
  refine .u rfl rfl rfl (q_mv rfl (rfl : _ = eErr _ _)) ?_
  refine .u rfl rfl rfl (q_neerr underlying54 rfl rfl) ?_
  refine .nil ?_
  refine AW.cond rfl (fun c0 => ?_) (fun c0 => ?_)
  · skip
    refine .seq <|
      .region ?_
    refine .u rfl rfl rfl (q_mv rfl (rfl : _ = eErr _ _)) ?_
    refine .aI rfl rfl ?_
    refine .u rfl rfl rfl (q_as rfl (rfl : _ = eErr _ _)) ?_
    refine .nil ?_
    refine AW.ret ?_
    exact retQ.mk' (.two _ _) (VLe.of_eq (by rw [show leftF s i = (0, (ofF s i).2) by rw [leftF, if_pos (by simpa using c0)]]; rfl)) (HLe.refl _) ⟨rfl, rfl⟩
  · have hz0 : (ofF s i).2 = 0 := by simpa using c0
    obtain ⟨hc0, hcr, ho⟩ := of_ok hz0
    obtain ⟨p1, p2, p3, p4⟩ := right_parts hc0
    have hi := creature_in hcr
    have hsl : (staticsF s).length ≤ 10000000 := by rw [← stUp_all]; exact stUp_len (hl 8)
    have hbd := evUp_bd (right_obd p2 hi) _ (Nat.le_refl _)
    rw [evUp_all] at hbd
    obtain ⟨⟨q1, q2, q3, q4⟩, q5, q6, q7, q8⟩ := hbd
    have hd : 0 ≤ s.objs.getD i.toNat noObj 6 ∧ s.objs.getD i.toNat noObj 6 ≤ 1073741824 := right_obj p2 (by omega) 6 (by decide)
    have ht : (ofF s i).1.t = (evSum s i (staticsF s)).out.t + (evSum s i (staticsF s)).more.t := by rw [ho]; rfl
    refine AW.skip ?_
    refine .seq ?_
    refine AW.draw [] [] [(0, true), (1, true), (2, true), (3, true), (4, true), (5, true), (6, true), (7, true), (8, true), (9, true), (10, true)] mixed (by kernel_rfl) rfl (by kernel_rfl) ?_
    refine .q rfl rfl rfl rfl (q_fa_i rfl underlying100 rfl (by exact sizeOf3) (by decide) rfl (rfl : _ = List.drop 1 _)) ?_
    refine .q rfl rfl rfl rfl (q_load_i1 rfl isAgg3 rfl rfl) ?_
    refine .q rfl rfl rfl rfl (q_fa_i rfl underlying29 rfl (by exact sizeOf22) (by decide) rfl (rfl : _ = List.drop 0 _)) ?_
    refine .q rfl rfl rfl rfl (q_load_i1 rfl isAgg22 rfl rfl) ?_
    refine .q rfl rfl rfl rfl (q_mv rfl (rfl : _ = V.int _ _)) ?_
    refine .q rfl rfl rfl rfl (q_ia_s rfl underlying22 sizeOf58 rfl rfl hi.1 hi.2 (cObjs_elem' hi.1 hi.2)) ?_
    refine .q rfl rfl rfl rfl (q_ia_ai rfl underlying58 sizeOf3 rfl rfl (by decide) (by decide) rfl) ?_
    refine .q rfl rfl rfl rfl (q_load_i1 rfl isAgg3 rfl rfl) ?_
    refine .q rfl rfl rfl rfl (q_sub' rfl rfl rfl (by omega)) ?_
    refine .q rfl rfl rfl rfl (q_as rfl (rfl : _ = V.int _ _)) ?_
    refine .q rfl rfl rfl rfl (q_as rfl (rfl : _ = V.inil)) ?_
    refine AOrd.nil ?_
    refine AW.ret ?_
    exact retQ.mk' (.two _ _) (VLe.of_eq (by rw [show leftF s i = ((ofF s i).1.t - s.objs.getD i.toNat noObj 6, 0) by rw [leftF, if_neg (by simpa using c0)]]; rw [show eE 0 = V.inil from eErr_zero _]; rfl)) (HLe.refl _) ⟨rfl, rfl⟩

end Go.Proofs.YtijhmlkffkedeaaGreatDoor
/- Walks: what follows of itself: rounds. -/
namespace Go.Proofs.YtijhmlkffkedeaaGreatDoor
open Go Go.AV Go.Proofs.Tryz
set_option maxRecDepth 100000
set_option maxHeartbeats 1000000
/-- What holds of an emitter that only puts and sets. -/
structure EmP (m : Em) : Prop where
  inv : EmI m
  pend : m.pend.length ≤ 4 * m.evs.length
theorem EmI.st {m : Em} (h : EmI m) : m.err = 0 → m.now.objs.length ≤ 1000000 ∧ ∀ z, (m.now.lists z).length ≤ 1000000 := fun e =>
  ⟨by have := (h.sz e).objs; omega, fun z => by have := (h.sz e).lists z; omega⟩
theorem EmI.st2 {m : Em} (h : EmI m) : m.state.objs.length ≤ 1000000 ∧ ∀ z, (m.state.lists z).length ≤ 1000000 := by
  unfold Em.state; split
  · rename_i e; exact h.st e
  · exact ⟨by simp [noSt], fun z => by simp [noSt]⟩
theorem EmI.box {h0 : Hp} {id : Nat} {m : Em} {h : Hp} (e : EmAt h0 id m h) : ∃ ve vp, h.box id = some (emCells m ve vp) := by
  obtain ⟨ve, vp, _, rfl⟩ := e; exact ⟨ve, vp, Hp.box_setBox _ _ _⟩
end Go.Proofs.YtijhmlkffkedeaaGreatDoor
