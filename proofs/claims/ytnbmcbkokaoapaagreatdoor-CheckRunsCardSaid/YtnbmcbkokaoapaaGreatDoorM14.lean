/- Walks: the document's rounds; the two emitters, side by side. -/
import Derived.Test.YtnbmcbkokaoapaaGreatDoorM13
namespace Go.Proofs.YtnbmcbkokaoapaaGreatDoor
open Go Go.AV Go.Proofs.Tryz
set_option maxRecDepth 100000
set_option maxHeartbeats 1000000
theorem rnew_fill {pl : Array (Nat × Nat)} (hpl : pl = #[(0, 37), (37, 1), (38, 1), (39, 1), (40, 1)]) (s : St) (draws : List Int) (e : Int) {cs : List V} (hcs : cs = zState ++ [.snil, .snil, .snil, .int .i64 0]) :
    afill (pl[·]?) cs [(0, eState s), (1, eInts draws), (4, .int .i64 e)] = some (gCells ⟨s, draws, [], [], e⟩ .snil .snil) := by
  subst hpl hcs; rfl
theorem new_some {s : St} {d : List Int} (h : (bif refCheck s == 0 then decide ((d.length : Int) > 4096) else false) = true) : newF s d = ⟨s, d, [], [], 19⟩ := by
  rw [refCheck_eq] at h
  obtain ⟨a, b⟩ := and_bits h
  have a : checkF s = 0 := by simpa using a
  have b : 4096 < (d.length : Int) := by simpa using b
  unfold newF randF Em.fail
  rw [if_pos b, if_pos a]
theorem new_none {s : St} {d : List Int} (h : (bif refCheck s == 0 then decide ((d.length : Int) > 4096) else false) = false) : newF s d = ⟨s, d, [], [], refCheck s⟩ := by
  rw [refCheck_eq] at h ⊢
  unfold newF randF
  split
  · rename_i b
    have b : 4096 < (d.length : Int) := b
    have a : ¬ checkF s = 0 := fun a => by simp [a, b] at h
    unfold Em.fail; rw [if_neg a]
  · exact fail_zero

theorem rnew_calls (s : St) (draws : List Int) (hb : s.objs.length ≤ 1000000) (hl : ∀ z, (s.lists z).length ≤ 1000000) (h : Hp) : ACalls prog G 22 [eState s, eInts draws] h fun r h' => ∃ id, r = .ptr id 0 ∧ GAt h id (newF s draws) h' := by
  refine ACalls.enter func22 rfl ntmps22 results22 rfl ?_
  refine .seq <|
    .region <|
    .bx rfl rfl ?_
  refine .u rfl rfl rfl (q_as rfl (rfl : _ = V.pnil)) ?_
  refine .nil <|
    .seq ?_
  refine AW.draw [] [] [(0, true), (1, true), (2, true), (3, true), (4, true), (5, true), (6, false), (7, true)] mixed (by kernel_rfl) rfl (by kernel_rfl) ?_
  refine .q rfl rfl rfl rfl (q_load_iW rfl isAgg29 sizeOf29 rfl (by rfl)) ?_
  refine .q rfl rfl rfl rfl (QOp.call rfl (by exact call39) fun h' hl' => by exact numCopy_calls s hb hl h') ?_
  refine .q rfl rfl rfl rfl (q_mv rfl (rfl : _ = V.sl _ _ _ _)) ?_
  refine .q rfl rfl rfl rfl (q_load_iW rfl isAgg29 sizeOf29 rfl (by rfl)) ?_
  refine .q rfl rfl rfl rfl (QOp.call rfl (by exact call9) fun h' hl' => by exact refCheck_calls s hb hl h') ?_
  refine .q rfl rfl rfl rfl (q_buildS (ds := gCells ⟨s, draws, [], [], refCheck s⟩ .snil .snil) rfl zeroValue70 underlying70 (pl70 underlying70) rfl (by exact rnew_fill rfl s draws (refCheck s) rfl)) ?_
  refine AOrd.s' rfl rfl rfl (a_boxa rfl (rfl : _ = V.agg _) (fun id12 hid12 => ⟨?_, HLe.setBox hid12.1⟩))
  refine .q rfl rfl rfl rfl (q_as rfl (rfl : _ = V.ptr _ _)) ?_
  refine AOrd.nil ?_
  refine .seq <|
    .seq <|
    .region <|
    .mP rfl rfl <|
    .nP rfl rfl <|
    .fb rfl f70_40 rfl rfl <|
    .lb rfl isAgg3 rfl rfl <|
    .qe rfl rfl rfl <|
    .mB rfl rfl ?_
  refine .gt rfl rfl rfl (fun _ => tl0) (fun hc => q_mv rfl (rfl : _ = V.sl _ _ _ _)) ?_
  refine .gt rfl rfl rfl (fun hc => tl1 19 (.opt hc)) (fun hc => q_len rfl underlying23 rfl) ?_
  refine .gt rfl rfl rfl (fun hc => tl1 20 (.opt hc)) (fun hc => q_gt rfl rfl rfl) ?_
  refine .u rfl rfl rfl ((q_pickg rfl rfl (fun hp => by exact VLe.opt hp) (fun hp => by exact VLe.refl _))) ?_
  refine .nil ?_
  refine AW.cond rfl (fun c0 => ?_) (fun c0 => ?_)
  · skip
    refine .region <|
      .mP rfl rfl <|
      .nP rfl rfl <|
      .fb rfl f70_40 rfl rfl ?_
    refine AOps.s0 rfl rfl (a_store1 rfl sizeOf3 rfl (by exact bsb) (rfl : _ = V.int _ _) rfl rfl (by first | decide | exact Nat.le_of_ble_eq_true rfl) ?_)
    refine .nil <|
      .seq <|
      .region <|
      .mP rfl rfl <|
      .aP rfl rfl <|
      .nil ?_
    refine AW.ret ?_
    exact retQ.mk (.one _) ⟨id12, rfl, .snil, .snil, by rw [new_some c0]; exact ⟨⟨rfl, .inl ⟨rfl, rfl, rfl⟩⟩, ⟨rfl, .inl ⟨rfl, rfl, rfl⟩⟩, trivial, trivial, hid12⟩, by rw [new_some c0, Hp.setBox_setBox]; rfl⟩
  · skip
    refine AW.skip ?_
    refine .seq <|
      .region <|
      .mP rfl rfl <|
      .aP rfl rfl <|
      .nil ?_
    refine AW.ret ?_
    exact retQ.mk (.one _) ⟨id12, rfl, .snil, .snil, by rw [new_none c0]; exact ⟨⟨rfl, .inl ⟨rfl, rfl, rfl⟩⟩, ⟨rfl, .inl ⟨rfl, rfl, rfl⟩⟩, trivial, trivial, hid12⟩, by rw [new_none c0]; rfl⟩

/-! The two emitters, side by side. -/
structure Mt (m g : Em) : Prop where
  err : m.err = g.err
  same : m.err = 0 → m = g
theorem Mt.rfl' {m : Em} : Mt m m := ⟨rfl, fun _ => rfl⟩
/-- A step that does nothing behind an error. -/
theorem mt_of {m g m' g' : Em} (h : Mt m g) (hm : m.err ≠ 0 → m' = m) (hg : g.err ≠ 0 → g' = g) (e : m.err = 0 → m = g → Mt m' g') : Mt m' g' := by
  by_cases h0 : m.err = 0
  · exact e h0 (h.same h0)
  · rw [hm h0, hg (by rw [← h.err]; exact h0)]; exact h
theorem rdo_stop {g : Em} {x : Ev} (h : g.err ≠ 0) : g.rdo x = g := by rw [Em.rdo, if_pos h]
theorem rdoL_stop {g : Em} {l : List Ev} (h : g.err ≠ 0) : g.rdoL l = g := by
  induction l with
  | nil => rfl
  | cons x l ih => rw [Em.rdoL, List.foldl_cons, rdo_stop h]; exact ih
theorem mt_do {m g : Em} {x : Ev} (h : Mt m g) : Mt (m.do1 x) (g.rdo x) := by
  refine mt_of h do1_stop rdo_stop fun h0 e => ?_
  subst e
  unfold Em.do1 Em.rdo
  have hz : ¬ m.err ≠ 0 := by simpa using h0
  rw [if_neg hz, if_neg hz]
  by_cases h1 : (evDo m.now x).2 = 0
  · have h1' : ¬ (evDo m.now x).2 ≠ 0 := by simpa using h1
    rw [if_neg h1', if_neg h1']
    have ha : appSt m.now x = (evDo m.now x).1 := by rw [appSt, if_pos h1]
    by_cases h2 : m.evs.length < 65536
    · rw [if_pos h2, if_pos h2, ha]; exact .rfl'
    · rw [if_neg h2, if_neg h2]; exact ⟨rfl, fun e => by cases e⟩
  · have h1' : (evDo m.now x).2 ≠ 0 := h1
    rw [if_pos h1', if_pos h1']; exact ⟨rfl, fun e => absurd e h1⟩
theorem mt_doL {m g : Em} {l : List Ev} (h : Mt m g) : Mt (m.doL l) (g.rdoL l) := by
  induction l generalizing m g with
  | nil => exact h
  | cons x l ih => exact ih (mt_do h)
theorem mt_fail {m g : Em} {e : Int} (h : Mt m g) : Mt (m.fail e) (g.fail e) := by
  refine mt_of h (fun h0 => by rw [Em.fail, if_neg h0]) (fun h0 => by rw [Em.fail, if_neg h0]) fun h0 e => ?_
  subst e; exact .rfl'
theorem doL_one {m : Em} {x : Ev} : m.doL [x] = m.do1 x := rfl
theorem setF_stop {m : Em} {i f n : Int} (h : m.err ≠ 0) : m.setF i f n = m := by rw [Em.setF, if_pos h]
theorem gameF_stop {m : Em} {f n : Int} (h : m.err ≠ 0) : m.gameF f n = m := by rw [Em.gameF, if_pos h]
theorem rset_stop {g : Em} {i f n : Int} (h : g.err ≠ 0) : g.rset i f n = g := by
  unfold Em.rset; split
  · split
    · rfl
    · exact rdo_stop h
  · exact rdo_stop h
theorem rgame_stop {g : Em} {f n : Int} (h : g.err ≠ 0) : g.rgame f n = g := by
  unfold Em.rgame; split
  · split
    · rfl
    · exact rdo_stop h
  · exact rdo_stop h
theorem ec2 {i f c n : Int} : evCheck ⟨2, i, f, c, n, 0⟩ = evCheck ⟨2, i, f, 0, n, 0⟩ := by
  simp [evCheck, evSpare, evMakes, evRanges]
theorem ec4 {f c n : Int} : evCheck ⟨4, 0, f, c, n, 0⟩ = if inN f 7 = true ∧ small n = true then 0 else 1 := by
  have e1 : evRanges ⟨4, 0, f, c, n, 0⟩ = (inN f 7 && small n) := by simp [evRanges]
  have e2 : evSpare ⟨4, 0, f, c, n, 0⟩ = true := by simp [evSpare, evMakes]
  have e3 : inN 4 6 = true := by decide
  unfold evCheck
  rw [e1, e2]
  simp only [e3]
  cases inN f 7 <;> cases small n <;> simp
theorem mt_set {m g : Em} {i f n : Int} (h : Mt m g) : Mt (m.setF i f n) (g.rset i f n) := by
  refine mt_of h setF_stop rset_stop fun h0 e => ?_
  subst e
  unfold Em.setF Em.rset
  rw [if_neg (by simpa using h0)]
  by_cases hc : evCheck ⟨2, i, f, 0, n, 0⟩ ≠ 0 ∨ (m.now.objs.length : Int) ≤ i
  · rw [if_pos hc, if_neg (by omega)]; exact mt_do .rfl'
  · rw [if_neg hc, if_pos (by omega)]
    unfold Em.set
    split
    · rw [ec2, show evCheck ⟨2, i, f, 0, n, 0⟩ = 0 by omega, fail_zero]; exact .rfl'
    · exact mt_do .rfl'
theorem mt_err {m : Em} {x y : Ev} {e : Int} (h0 : m.err = 0) (hx : evCheck x = e) (hy : evCheck y = e) (he : e ≠ 0) : Mt (m.do1 x) (m.rdo y) := by
  have e1 : (evDo m.now x).2 = e := by rw [do_bad (by omega)]; exact hx
  have e2 : (evDo m.now y).2 = e := by rw [do_bad (by omega)]; exact hy
  have hz : ¬ m.err ≠ 0 := by simpa using h0
  unfold Em.do1 Em.rdo
  rw [if_neg hz, if_neg hz, e1, e2, if_pos he, if_pos he]
  exact ⟨rfl, fun e => absurd e he⟩
theorem rdo_bad {m : Em} {y : Ev} {e : Int} (h0 : m.err = 0) (hy : evCheck y = e) (he : e ≠ 0) : Mt (m.fail e) (m.rdo y) := by
  have e2 : (evDo m.now y).2 = e := by rw [do_bad (by omega)]; exact hy
  have hz : ¬ m.err ≠ 0 := by simpa using h0
  unfold Em.fail Em.rdo
  rw [if_pos h0, if_neg hz, e2, if_pos he]
  exact ⟨rfl, fun e => absurd e he⟩
theorem mt_game {m g : Em} {f n : Int} (h : Mt m g) : Mt (m.gameF f n) (g.rgame f n) := by
  refine mt_of h gameF_stop rgame_stop fun h0 e => ?_
  subst e
  unfold Em.gameF Em.rgame
  rw [if_neg (by simpa using h0)]
  by_cases hf : inN f 7 = true
  · have c0 : evCheck ⟨4, 0, f, 0, 0, 0⟩ = 0 := by rw [ec4, if_pos ⟨hf, by decide⟩]
    rw [c0, if_neg (by simp)]
    by_cases hn : small n = true
    · have c1 : ∀ c, evCheck ⟨4, 0, f, c, n, 0⟩ = 0 := fun c => by rw [ec4, if_pos ⟨hf, hn⟩]
      rw [c1, if_pos rfl]
      unfold Em.set
      split
      · rw [c1, fail_zero]; exact .rfl'
      · exact mt_do .rfl'
    · have c1 : ∀ c, evCheck ⟨4, 0, f, c, n, 0⟩ = 1 := fun c => by rw [ec4, if_neg (fun e => hn e.2)]
      rw [c1, if_neg (by decide)]
      unfold Em.set
      split
      · rw [c1]; exact rdo_bad h0 (c1 _) (by decide)
      · exact mt_err h0 (c1 _) (c1 _) (by decide)
  · have c1 : ∀ c n, evCheck ⟨4, 0, f, c, n, 0⟩ = 1 := fun c n => by rw [ec4, if_neg (fun e => hf e.1)]
    rw [c1, if_pos (by decide), c1, if_neg (by decide)]
    exact mt_err h0 (c1 _ _) (c1 _ _) (by decide)
/-! Showing: the bits. -/
theorem or4 (a c : Nat) (hc : c < 4) : a ||| c = 4 * (a / 4) + (a % 4 ||| c) := by
  have h1 : (a ||| c) % 2 ^ 2 = a % 2 ^ 2 ||| c % 2 ^ 2 := Nat.or_mod_two_pow
  have h2 : (a ||| c) >>> 2 = a >>> 2 ||| c >>> 2 := Nat.shiftRight_or_distrib
  rw [Nat.shiftRight_eq_div_pow, Nat.shiftRight_eq_div_pow, Nat.shiftRight_eq_div_pow] at h2
  have e1 : c / 2 ^ 2 = 0 := Nat.div_eq_of_lt hc
  have e2 : c % 2 ^ 2 = c := Nat.mod_eq_of_lt hc
  rw [e1, Nat.or_zero] at h2
  rw [e2] at h1
  have := Nat.div_add_mod (a ||| c) (2 ^ 2)
  rw [h1, h2] at this
  exact this.symm
theorem or_table : ∀ a, a < 4 → ∀ c, c < 4 → (a ||| c) = a + (if c % 2 = 1 ∧ a % 2 = 0 then 1 else 0) + (if c / 2 = 1 ∧ a / 2 = 0 then 2 else 0) := by decide
theorem bitor_eq {x : Int} {c : Nat} (hc : c < 4) (hx : -2000000000000 ≤ x ∧ x ≤ 2000000000000) : bitop .or .i64 x c = x + (if c % 2 = 1 ∧ x % 2 = 0 then 1 else 0) + (if c / 2 = 1 ∧ x / 2 % 2 = 0 then 2 else 0) := by
  show IntKind.i64.wrap ((BitVec.ofInt 64 x ||| BitVec.ofInt 64 (c : Int)).toNat : Nat) = _
  have e0 : (BitVec.ofInt 64 x ||| BitVec.ofInt 64 (c : Int)).toNat = (x % 18446744073709551616).toNat ||| c := by
    rw [BitVec.toNat_or, BitVec.toNat_ofInt, BitVec.toNat_ofInt]
    congr 1
    omega
  rw [e0, or4 _ _ hc]
  have hw : (x % 18446744073709551616).toNat % 4 < 4 := Nat.mod_lt _ (by decide)
  rw [or_table _ hw c hc, IntKind.wrap_i64]
  have p1 : (x % 18446744073709551616).toNat % 4 % 2 = 0 ↔ x % 2 = 0 := by omega
  have p2 : (x % 18446744073709551616).toNat % 4 / 2 = 0 ↔ x / 2 % 2 = 0 := by omega
  simp only [p1, p2]
  split <;> split <;> omega
theorem show_eq {was p : Int} (hp : 0 ≤ p ∧ p < 4) (hw : -2000000000000 ≤ was ∧ was ≤ 2000000000000) : showG p was = chgUp was p true 2 := by
  obtain ⟨c, rfl⟩ := Int.eq_ofNat_of_zero_le hp.1
  have hc : c < 4 := by omega
  have e3 : bitop .and .i64 (c : Int) 3 = (c : Int) := by
    match c, hc with
    | 0, _ | 1, _ | 2, _ | 3, _ => decide +kernel
  rw [showG, e3, bitor_eq hc hw]
  simp only [chgUp, chg, kb]
  match c, hc with
  | 0, _ => simp
  | 1, _ => simp; (repeat' split) <;> omega
  | 2, _ => simp; (repeat' split) <;> omega
  | 3, _ => simp; (repeat' split) <;> omega
theorem turnF_congr {s : St} {i : Int} {f g : Int → Int} (h : 0 ≤ i → i < s.objs.length → f (s.objs.getD i.toNat noObj 17) = g (s.objs.getD i.toNat noObj 17)) : turnF s i f = turnF s i g := by
  unfold turnF
  split
  · rfl
  · rw [h (by omega) (by omega)]
theorem showF_stop {m : Em} {i p : Int} (h : m.err ≠ 0) : m.showF i p = m := by rw [Em.showF, if_neg h]
theorem rshow_stop {g : Em} {i p : Int} (h : g.err ≠ 0) : g.rshow i p = g := rdoL_stop h
theorem mt_show {m g : Em} {i p : Int} (hp : 0 ≤ p ∧ p < 4) (hS : Sm g.now) (h : Mt m g) : Mt (m.showF i p) (g.rshow i p) := by
  refine mt_of h showF_stop rshow_stop fun h0 e => ?_
  subst e
  rw [Em.showF, if_pos h0, Em.rshow, changeF, ← turnF_congr (f := showG p) (g := fun was => chgUp was p true 2) fun a b => show_eq hp (hS.know a b)]
  exact mt_doL .rfl'
theorem mt_rest {m g : Em} {i : Int} {l : List Int} (h : Mt m g) : Mt (m.restF i l) (g.rrest i l) := by
  induction l generalizing m g with
  | nil => exact h
  | cons f l ih => exact ih (mt_set h)
theorem know_in {z : Int} : 0 ≤ knowZoneF z ∧ knowZoneF z < 4 := by unfold knowZoneF; (repeat' split) <;> omega
theorem mt_put6 {m g : Em} {i b : Int} {o : Obj} (hS : Sm g.now) (h : Mt m g) : Mt (m.put6 i b o) (g.rput6 i (homeF o b) o) := by
  unfold Em.put6 Em.rput6
  have p2 : Mt (m.put2 i (homeF o b)) (g.rput2 i (homeF o b)) := by unfold Em.put2 Em.rput2; split <;> first | exact mt_rest h | exact h
  have p3 : Mt ((m.put2 i (homeF o b)).put3 i (homeF o b) (o 1)) ((g.rput2 i (homeF o b)).rput3 i (homeF o b) (o 1)) := by unfold Em.put3 Em.rput3; split <;> first | exact mt_set p2 | exact p2
  have p4 : Mt (((m.put2 i (homeF o b)).put3 i (homeF o b) (o 1)).put4 i (homeF o b)) (((g.rput2 i (homeF o b)).rput3 i (homeF o b) (o 1)).rput4 i (homeF o b)) := by unfold Em.put4 Em.rput4; split <;> first | exact mt_set p3 | exact p3
  refine mt_show know_in (rput25_sm hS) ?_
  unfold Em.put5 Em.rput5
  by_cases e : homeF o b = 8 ∧ o 3 ≠ 8
  · rw [if_pos e, if_pos (by omega)]; exact mt_set p4
  · rw [if_neg e, if_neg (by omega)]; exact p4
theorem putF_stop {m : Em} {i b : Int} (h : m.err ≠ 0) : m.putF i b = m := by rw [Em.putF, if_pos h]
theorem rputF_stop {g : Em} {i b : Int} (h : g.err ≠ 0) : g.rputF i b = g := by rw [Em.rputF, if_pos h]
theorem mt_await {m g : Em} {i w c : Int} (h : m = g) : Mt (m.awaitF i w c) (g.awaitF i w c) := by subst h; exact .rfl'
theorem mt_put {m g : Em} {i b : Int} (hS : g.err = 0 → Sm g.now) (h : Mt m g) : Mt (m.putF i b) (g.rputF i b) := by
  refine mt_of h putF_stop rputF_stop fun h0 e => ?_
  subst e
  have hz : ¬ m.err ≠ 0 := by simpa using h0
  unfold Em.putF Em.rputF
  rw [if_neg hz, if_neg hz]
  split
  · exact .rfl'
  · split
    · exact .rfl'
    · dsimp only
      have h6 := mt_put6 (i := i) (b := b) (o := m.now.objs.getD i.toNat noObj) (rdo_sm (x := putEv m.now i b) (hS h0)) (mt_do .rfl')
      rw [doL_one]
      revert h6
      generalize (m.do1 (putEv m.now i b)).put6 i b (m.now.objs.getD i.toNat noObj) = a
      generalize (m.rdo (putEv m.now i b)).rput6 i (homeF (m.now.objs.getD i.toNat noObj) b) (m.now.objs.getD i.toNat noObj) = c
      intro h6
      unfold Em.put7 Em.rput7
      by_cases ha : a.err = 0
      · have hac := h6.same ha
        subst hac
        have ha' : ¬ a.err ≠ 0 := by simpa using ha
        rw [if_neg ha', if_neg ha']
        by_cases e1 : homeF (m.now.objs.getD i.toNat noObj) b = 8 ∧ m.now.objs.getD i.toNat noObj 3 ≠ 8
        · rw [if_pos e1, if_pos (by omega)]; exact .rfl'
        · rw [if_neg e1, if_neg (by omega)]; exact .rfl'
      · rw [if_pos ha, if_pos (by rw [← h6.err]; exact ha)]; exact h6
/-! The document's emitter, up to what stands behind an error. -/
def GA (h0 : Hp) (id : Nat) (m : Em) (h : Hp) : Prop := ∃ g, Mt m g ∧ GI g ∧ (g.err = 0 → Sm g.now) ∧ g.pend.length ≤ 400000 ∧ GAt h0 id g h
theorem GA.le {h0 : Hp} {id : Nat} {m : Em} {h : Hp} (e : GA h0 id m h) : HLe h h0 := by
  obtain ⟨_, _, _, _, _, e⟩ := e; exact e.le
theorem rgame_pend {g : Em} {f n : Int} : (g.rgame f n).pend = g.pend ∧ (g.rgame f n).draws = g.draws := by
  unfold Em.rgame; split
  · split
    · exact ⟨rfl, rfl⟩
    · exact rdo_pend
  · exact rdo_pend
theorem rgame_sm {g : Em} {f n : Int} (h : Sm g.now) : Sm (g.rgame f n).now := by
  unfold Em.rgame; split
  · split
    · exact h
    · exact rdo_sm h
  · exact rdo_sm h
theorem fail_sm {g : Em} {e : Int} (h : Sm g.now) : Sm (g.fail e).now := by unfold Em.fail; split <;> exact h
theorem rputF_sm {g : Em} {i b : Int} (h : Sm g.now) : Sm (g.rputF i b).now := by
  unfold Em.rputF; split
  · exact h
  · split
    · exact fail_sm h
    · split
      · exact fail_sm h
      · have h6 := rdoL_sm (l := changeF ((((( g.rdo (putEv g.now i b)).rput2 i (homeF (g.now.objs.getD i.toNat noObj) b)).rput3 i (homeF (g.now.objs.getD i.toNat noObj) b) (g.now.objs.getD i.toNat noObj 1)).rput4 i (homeF (g.now.objs.getD i.toNat noObj) b)).rput5 i (g.now.objs.getD i.toNat noObj 3) (homeF (g.now.objs.getD i.toNat noObj) b)).now i (knowZoneF (homeF (g.now.objs.getD i.toNat noObj) b)) true) (rput25_sm (rdo_sm (x := putEv g.now i b) h) (i := i) (to := homeF (g.now.objs.getD i.toNat noObj) b) (own := g.now.objs.getD i.toNat noObj 1) (fr := g.now.objs.getD i.toNat noObj 3))
        dsimp only
        unfold Em.rput7
        split
        · exact h6
        · have ha : ∀ w c, Sm ((((g.rdo (putEv g.now i b)).rput6 i (homeF (g.now.objs.getD i.toNat noObj) b) (g.now.objs.getD i.toNat noObj)).awaitF i w c).now) := fun w c => fail_sm h6
          split
          · exact ha _ _
          · split
            · exact ha _ _
            · exact h6
theorem err_of_rgame {g : Em} {f n : Int} (e : (g.rgame f n).err = 0) : g.err = 0 := by
  by_cases h : g.err = 0
  · exact h
  · rw [rgame_stop h] at e; exact e
theorem err_of_rset {g : Em} {i f n : Int} (e : (g.rset i f n).err = 0) : g.err = 0 := by
  by_cases h : g.err = 0
  · exact h
  · rw [rset_stop h] at e; exact e
theorem err_of_rputF {g : Em} {i b : Int} (e : (g.rputF i b).err = 0) : g.err = 0 := by
  by_cases h : g.err = 0
  · exact h
  · rw [rputF_stop h] at e; exact e
theorem ga_game (f n : Int) {h0 : Hp} {id : Nat} {m : Em} {h : Hp} (he : GA h0 id m h) : ACalls prog G 42 [.ptr id 0, .int .i64 f, .int .i64 n] h fun r h' => r = .tup [] ∧ GA h0 id (m.gameF f n) h' := by
  obtain ⟨g, hm, hI, hS, hp, ha⟩ := he
  exact (rgame_calls f n ha hI).mono fun r h' ⟨e, ha'⟩ => ⟨e, _, mt_game hm, rgame_inv hI, fun e => rgame_sm (hS (err_of_rgame e)), by rw [rgame_pend.1]; exact hp, ha'⟩
theorem ga_set (i f n : Int) {h0 : Hp} {id : Nat} {m : Em} {h : Hp} (he : GA h0 id m h) : ACalls prog G 97 [.ptr id 0, .int .i64 i, .int .i64 f, .int .i64 n] h fun r h' => r = .tup [] ∧ GA h0 id (m.setF i f n) h' := by
  obtain ⟨g, hm, hI, hS, hp, ha⟩ := he
  exact (rset_calls i f n ha hI).mono fun r h' ⟨e, ha'⟩ => ⟨e, _, mt_set hm, rset_inv hI, fun e => rset_sm (hS (err_of_rset e)), by rw [rset_pend.1]; exact hp, ha'⟩
theorem ga_fail (e : Int) {h0 : Hp} {id : Nat} {m : Em} {h : Hp} (he : GA h0 id m h) : ACalls prog G 125 [.ptr id 0, .int .i64 e] h fun r h' => r = .tup [] ∧ GA h0 id (m.fail e) h' := by
  obtain ⟨g, hm, hI, hS, hp, ha⟩ := he
  exact (rfail_calls e ha).mono fun r h' ⟨e, ha'⟩ => ⟨e, _, mt_fail hm, rfail_inv hI, fun e => fail_sm (hS (fail_same.err e)), by unfold Em.fail; split <;> exact hp, ha'⟩
theorem await_pendR {g : Em} {i w c : Int} : (g.awaitF i w c).pend.length ≤ g.pend.length + 4 := await_pend.1
theorem rput7_pend {g : Em} {i fr to b c : Int} : (g.rput7 i fr to b c).pend.length ≤ g.pend.length + 4 := by
  unfold Em.rput7; split
  · omega
  · split
    · exact await_pendR
    · split
      · exact await_pendR
      · omega
theorem rputF_pend {g : Em} {i b : Int} : (g.rputF i b).pend.length ≤ g.pend.length + 4 := by
  have hf : ∀ e, (g.fail e).pend = g.pend := fun e => by unfold Em.fail; split <;> rfl
  unfold Em.rputF; split
  · omega
  · split
    · rw [hf]; omega
    · split
      · rw [hf]; omega
      · dsimp only
        refine Nat.le_trans rput7_pend ?_
        rw [rput6_pend.1, rdo_pend.1]; omega
theorem await_gi {g : Em} {i w c : Int} (h : GI g) : GI (g.awaitF i w c) := by
  have := rfail_inv (e := (cardE (g.now.objs.getD i.toNat noObj 0)).2) h
  exact ⟨⟨this.inv.sz, this.inv.evs⟩, this.ob, this.ls⟩
theorem rput7_inv {g : Em} {i fr to b c : Int} (h : GI g) : GI (g.rput7 i fr to b c) := by
  unfold Em.rput7; split
  · exact h
  · split
    · exact await_gi h
    · split
      · exact await_gi h
      · exact h
theorem rputF_inv {g : Em} {i b : Int} (h : GI g) : GI (g.rputF i b) := by
  unfold Em.rputF; split
  · exact h
  · split
    · exact rfail_inv h
    · split
      · exact rfail_inv h
      · exact rput7_inv (rshow_inv (rput5_inv (rput4_inv (rput3_inv (rput2_inv (rdo_inv (by simp [putEv]) h))))))
/-- What is pending is not much. -/
theorem pend_le {m g : Em} (hP : EmP m) (hm : Mt m g) (hp : g.pend.length ≤ 400000) {i b : Int} : (g.rputF i b).pend.length ≤ 400000 := by
  by_cases h : m.err = 0
  · have := hm.same h; subst this
    have h1 := rputF_pend (g := m) (i := i) (b := b)
    have h2 := hP.pend; have h3 := hP.inv.evs
    omega
  · rw [rputF_stop (by rw [← hm.err]; exact h)]; exact hp
theorem ga_put (i b : Int) {h0 : Hp} {id : Nat} {m : Em} {h : Hp} (he : GA h0 id m h) (hP : EmP m) : ACalls prog G 65 [.ptr id 0, .int .i64 i, .int .i64 b] h fun r h' => r = .tup [] ∧ GA h0 id (m.putF i b) h' := by
  obtain ⟨g, hm, hI, hS, hp, ha⟩ := he
  exact (rputF_calls i b ha hI hS (by omega)).mono fun r h' ⟨e, ha'⟩ => ⟨e, _, mt_put hS hm, rputF_inv hI, fun e => rputF_sm (hS (err_of_rputF e)), pend_le hP hm hp, ha'⟩

end Go.Proofs.YtnbmcbkokaoapaaGreatDoor
/- Walks: the document's rounds. -/
namespace Go.Proofs.YtnbmcbkokaoapaaGreatDoor
open Go Go.AV Go.Proofs.Tryz
set_option maxRecDepth 100000
set_option maxHeartbeats 1000000
theorem would_bits {s : St} : (bif s.game 6 == 0 then (bif (bif lostF s 0 then true else lostF s 1) then true else decide (((refDyingF s).length : Int) > 0)) else false) = !quietF s := by
  rw [refDying_eq, quietF, resultF]
  have e : decide (((dyingF s).length : Int) > 0) = !(((dyingF s).length : Int) == 0) := by
    cases dyingF s with
    | nil => rfl
    | cons a l => simp only [List.length_cons]; rw [decide_eq_true (by omega)]; simp; omega
  rw [e]
  cases h : s.game 6 == 0 <;> cases lostF s 0 <;> cases lostF s 1 <;> cases (((dyingF s).length : Int) == 0) <;> simp_all
/-- Does a round do something? -/
def goesF (m : Em) : Bool := m.err == 0 && !quietF m.state
theorem state_ok {m : Em} (h : m.err = 0) : m.state = m.now := by unfold Em.state; rw [if_pos h]
theorem goes_no {m g : Em} (hm : Mt m g) (c : (bif g.err != 0 then true else g.now.game 6 != 0) = true) : goesF m = false := by
  unfold goesF
  by_cases h : m.err = 0
  · have := hm.same h; subst this
    have e : m.now.game 6 ≠ 0 := by simpa [h] using c
    rw [state_ok h, quietF]; simp [h, e]
  · simp [h]
theorem goes_yes {g : Em} (c : (bif g.err != 0 then true else g.now.game 6 != 0) = false) : g.err = 0 ∧ g.now.game 6 = 0 := by
  by_cases h : g.err = 0
  · exact ⟨h, by simpa [h] using c⟩
  · simp [h] at c
theorem goes_res {m : Em} (h : m.err = 0) (h6 : m.now.game 6 = 0) (hr : resultF m.now ≠ 0) : goesF m = true ∧ roundF m = m.gameF 6 (resultF m.now) := by
  unfold goesF roundF
  rw [state_ok h, quietF, if_pos hr]
  simp [h, h6, hr]
theorem goes_die {m : Em} (h : m.err = 0) (h6 : m.now.game 6 = 0) (hr : resultF m.now = 0) : goesF m = decide (((dyingF m.now).length : Int) > 0) ∧ (if goesF m then roundF m else m) = m.putL (dyingF m.now) := by
  have e1 : goesF m = decide (((dyingF m.now).length : Int) > 0) := by
    unfold goesF
    rw [state_ok h, quietF]
    cases hd : dyingF m.now with
    | nil => simp [h, h6, hr]
    | cons a l => simp [h, h6, hr]; omega
  refine ⟨e1, ?_⟩
  rw [e1]
  by_cases e : dyingF m.now = []
  · simp [e, Em.putL]
  · have : 0 < (dyingF m.now).length := by
      cases hd : dyingF m.now with
      | nil => exact absurd hd e
      | cons a l => simp
    rw [if_pos (by simp; omega)]
    unfold roundF
    rw [state_ok h, if_neg (by simpa using hr)]

theorem would_calls (s : St) (hb : s.objs.length ≤ 1000000) (hl : ∀ z, (s.lists z).length ≤ 1000000) (h : Hp) : ACalls prog G 41 [eState s] h fun r h' => r = .bool (!quietF s) ∧ h' = h := by
  refine ACalls.enter func41 rfl ntmps41 results41 rfl ?_
  refine .seq <|
    .region <|
    .bx rfl rfl <|
    .aB rfl rfl <|
    .nil <|
    .seq <|
    .region <|
    .fi rfl f29_30 rfl ?_
  refine .u rfl rfl rfl (q_ia_ai rfl underlying27 sizeOf3 rfl rfl (by decide) (by decide) rfl) ?_
  refine .li rfl isAgg3 rfl rfl <|
    .qe rfl rfl rfl <|
    .mB rfl rfl ?_
  refine .gt rfl rfl rfl (fun _ => tl0) (fun hc => q_load_iW rfl isAgg29 sizeOf29 rfl (by rfl)) ?_
  refine .gt rfl rfl rfl (fun hc => tl1 8 (.opt hc)) (fun hc => QOp.call rfl (by exact call17) fun h' hl' => by exact refLost_calls _ _ h') ?_
  refine .gt rfl rfl rfl (fun hc => tl1 9 (.opt hc)) (fun hc => q_mv rfl (rfl : _ = V.bool _)) ?_
  refine AOps.g (wanted_fo rfl rfl) rfl rfl (fun _ => tl0) (fun hc => q_load_iW rfl isAgg29 sizeOf29 rfl (by rfl)) ?_
  refine AOps.g (wanted_fo rfl rfl) rfl rfl (fun hc => tl1 11 (.opt hc)) (fun hc => QOp.call rfl (by exact call17) fun h' hl' => by exact refLost_calls _ _ h') ?_
  refine .gt rfl rfl rfl (fun hc => tl1 10 (.opt hc)) (fun hc => q_pickg rfl rfl (fun hp => by exact VLe.refl _) (fun hp => by first | exact VLe.opt hp | exact VLe.opt (by rw [hp]; rfl) | exact VLe.opt (by simp_all))) ?_
  refine .gt rfl rfl rfl (fun hc => tl1 13 (.opt hc)) (fun hc => q_mv rfl (rfl : _ = V.bool _)) ?_
  refine AOps.g (wanted_fo rfl rfl) rfl rfl (fun _ => tl0) (fun hc => q_load_iW rfl isAgg29 sizeOf29 rfl (by rfl)) ?_
  refine AOps.g (wanted_fo rfl rfl) rfl rfl (fun hc => tl1 15 (.opt hc)) (fun hc => QOp.call rfl (by exact call16) fun h' hl' => by exact refDying_calls s hb hl h') ?_
  refine AOps.g (wanted_fo rfl rfl) rfl rfl (fun hc => tl1 16 (.opt hc)) (fun hc => q_len rfl underlying23 rfl) ?_
  refine AOps.g (wanted_fo rfl rfl) rfl rfl (fun hc => tl1 17 (.opt hc)) (fun hc => q_gt rfl rfl rfl) ?_
  refine .gt rfl rfl rfl (fun hc => tl1 14 (.opt hc)) (fun hc => q_pickg rfl rfl (fun hp => by exact VLe.refl _) (fun hp => by first | exact VLe.opt hp | exact VLe.opt (by rw [hp]; rfl) | exact VLe.opt (by simp_all))) ?_
  refine .pt rfl rfl rfl rfl <|
    .aB rfl rfl <|
    .nil ?_
  refine AW.ret ?_
  exact retQ.mk' (.one _) (VLe.of_eq (congrArg V.bool (would_bits))) (HLe.refl _) ⟨rfl, rfl⟩

theorem rround_calls {h0 : Hp} {id : Nat} {m : Em} {h : Hp} (he : GA h0 id m h) (hP : EmP m) : ACalls prog G 40 [.ptr id 0] h fun r h' => r = .bool (goesF m) ∧ GA h0 id (if goesF m then roundF m else m) h' := by
  obtain ⟨g, hm, hI, hSm, hpe, ve, vp, hr, rfl⟩ := he
  refine ACalls.enter func40 rfl ntmps40 results40 rfl ?_
  refine .seq <|
    .region <|
    .aB rfl rfl <|
    .nil <|
    .seq <|
    .seq <|
    .region <|
    .mP rfl rfl <|
    .nP rfl rfl <|
    .fb rfl f70_40 rfl rfl <|
    .lb rfl isAgg3 rfl rfl <|
    .qn rfl rfl rfl <|
    .mB rfl rfl ?_
  refine .gf rfl rfl rfl (fun _ => tl0) (fun hc => q_mv rfl (rfl : _ = V.ptr _ _)) ?_
  refine .gf rfl rfl rfl (fun hc => tl1 14 (.opt hc)) (fun hc => q_nc rfl (rfl : _ = V.ptr _ _) rfl) ?_
  refine .gf rfl rfl rfl (fun hc => tl1 15 (.opt hc)) (fun hc => q_fa_b rfl underlying70 rfl (by exact sizeOf29) (by decide) rfl (rfl : _ = 0)) ?_
  refine .gf rfl rfl rfl (fun hc => tl1 16 (.opt hc)) (fun hc => q_fa_b rfl underlying29 rfl (by exact sizeOf27) (by decide) rfl (rfl : _ = 30)) ?_
  refine .gf rfl rfl rfl (fun hc => tl1 17 (.opt hc)) (fun hc => q_ia_ab rfl underlying27 sizeOf3 rfl rfl (by decide) (by decide)) ?_
  refine .gf rfl rfl rfl (fun hc => tl1 18 (.opt hc)) (fun hc => q_load_b1 rfl isAgg3 rfl (by exact bsb) rfl) ?_
  refine .gf rfl rfl rfl (fun hc => tl1 19 (.opt hc)) (fun hc => q_ne rfl rfl rfl) ?_
  refine .pf rfl rfl rfl rfl <|
    .nil ?_
  refine AW.cond rfl (fun c0 => ?_) (fun c0 => ?_)
  · skip
    refine .seq <|
      .region <|
      .aB rfl rfl <|
      .nil ?_
    refine AW.ret ?_
    exact retQ.mk (.one _) ⟨by rw [goes_no hm c0]; rfl, by rw [goes_no hm c0]; exact ⟨g, hm, hI, hSm, hpe, ve, vp, hr, rfl⟩⟩
  · obtain ⟨hz, h6⟩ := goes_yes c0
    have hmg := hm.same (by rw [hm.err]; exact hz)
    subst hmg
    have hga : GA h0 id m ((addTok ve (addTok vp h0)).setBox id (gCells m ve vp)) := ⟨m, .rfl', hI, hSm, hpe, ve, vp, hr, rfl⟩
    have hdl : (refDyingF m.now).length ≤ 1000000 := by rw [refDying_eq]; exact Nat.le_trans (List.length_filter_le _ _) (hI.ls 8)
    refine AW.skip ?_
    refine .seq ?_
    refine AW.draw [] [] [(0, true), (1, true), (2, true), (3, true), (4, true), (5, true), (6, true), (7, true), (8, true), (9, true), (10, true), (11, true)] mixed (by kernel_rfl) rfl (by kernel_rfl) ?_
    refine .q rfl rfl rfl rfl (q_mv rfl (rfl : _ = V.ptr _ _)) ?_
    refine .q rfl rfl rfl rfl (q_nc rfl (rfl : _ = V.ptr _ _) rfl) ?_
    refine .q rfl rfl rfl rfl (q_fa_b rfl underlying70 rfl (by exact sizeOf29) (by decide) rfl (rfl : _ = 0)) ?_
    refine .q rfl rfl rfl rfl (q_load_bN (ds := cState m.now) rfl isAgg29 sizeOf29 (by decide) rfl (by exact bsb) rfl rfl) ?_
    refine .q rfl rfl rfl rfl (QOp.call rfl (by exact call17) fun h' hl' => by exact refLost_calls _ _ h') ?_
    refine .q rfl rfl rfl rfl (q_mv rfl (rfl : _ = V.ptr _ _)) ?_
    refine .q rfl rfl rfl rfl (q_nc rfl (rfl : _ = V.ptr _ _) rfl) ?_
    refine .q rfl rfl rfl rfl (q_fa_b rfl underlying70 rfl (by exact sizeOf29) (by decide) rfl (rfl : _ = 0)) ?_
    refine .q rfl rfl rfl rfl (q_load_bN (ds := cState m.now) rfl isAgg29 sizeOf29 (by decide) rfl (by exact bsb) rfl rfl) ?_
    refine .q rfl rfl rfl rfl (QOp.call rfl (by exact call17) fun h' hl' => by exact refLost_calls _ _ h') ?_
    refine .q rfl rfl rfl rfl (q_as rfl (rfl : _ = V.bool _)) ?_
    refine .q rfl rfl rfl rfl (q_as rfl (rfl : _ = V.bool _)) ?_
    refine AOrd.nil ?_
    refine .seq <|
      .block <|
      .seq <|
      .region <|
      .mB rfl rfl <|
      .mB rfl rfl ?_
    refine .gt rfl rfl rfl (fun _ => tl0) (fun hc => q_mv rfl (rfl : _ = V.bool _)) ?_
    refine .pt rfl rfl rfl rfl <|
      .aB rfl rfl <|
      .nil ?_
    refine AW.cond rfl (fun c1 => ?_) (fun c1 => ?_)
    · skip
      refine .region <|
        .mP rfl rfl ?_
      refine AOps.s rfl rfl rfl ((AStep.call rfl (by exact call42) (ga_game 6 3 hga)).mono ?_)
      rintro x9 h9 ⟨rfl, he9⟩
      refine .nil <|
        .seq <|
        .region <|
        .aB rfl rfl <|
        .nil ?_
      refine AW.ret ?_
      have hres : resultF m.now = 3 := by unfold resultF; cases ea : lostF m.now 0 <;> cases eb : lostF m.now 1 <;> simp_all
      obtain ⟨e1, e2⟩ := goes_res hz h6 (by rw [hres]; decide)
      exact retQ.mk (.one _) ⟨by rw [e1]; rfl, by rw [e1, if_pos rfl, e2, hres]; exact he9⟩
    · skip
      refine .seq <|
        .region <|
        .mB rfl rfl <|
        .aB rfl rfl <|
        .nil ?_
      refine AW.cond rfl (fun c2 => ?_) (fun c2 => ?_)
      · skip
        refine .region <|
          .mP rfl rfl ?_
        refine AOps.s rfl rfl rfl ((AStep.call rfl (by exact call42) (ga_game 6 2 hga)).mono ?_)
        rintro x9 h9 ⟨rfl, he9⟩
        refine .nil <|
          .seq <|
          .region <|
          .aB rfl rfl <|
          .nil ?_
        refine AW.ret ?_
        have hres : resultF m.now = 2 := by unfold resultF; cases ea : lostF m.now 0 <;> cases eb : lostF m.now 1 <;> simp_all
        obtain ⟨e1, e2⟩ := goes_res hz h6 (by rw [hres]; decide)
        exact retQ.mk (.one _) ⟨by rw [e1]; rfl, by rw [e1, if_pos rfl, e2, hres]; exact he9⟩
      · skip
        refine .seq <|
          .region <|
          .mB rfl rfl <|
          .aB rfl rfl <|
          .nil ?_
        refine AW.cond rfl (fun c3 => ?_) (fun c3 => ?_)
        · skip
          refine .region <|
            .mP rfl rfl ?_
          refine AOps.s rfl rfl rfl ((AStep.call rfl (by exact call42) (ga_game 6 1 hga)).mono ?_)
          rintro x9 h9 ⟨rfl, he9⟩
          refine .nil <|
            .seq <|
            .region <|
            .aB rfl rfl <|
            .nil ?_
          refine AW.ret ?_
          have hres : resultF m.now = 1 := by unfold resultF; cases ea : lostF m.now 0 <;> cases eb : lostF m.now 1 <;> simp_all
          obtain ⟨e1, e2⟩ := goes_res hz h6 (by rw [hres]; decide)
          exact retQ.mk (.one _) ⟨by rw [e1]; rfl, by rw [e1, if_pos rfl, e2, hres]; exact he9⟩
        · skip
          refine .seq <|
            .region <|
            .mP rfl rfl <|
            .nP rfl rfl <|
            .fb rfl f70_0 rfl rfl ?_
          refine .u rfl rfl rfl (q_load_bN (ds := cState m.now) rfl isAgg29 sizeOf29 (by decide) rfl (by exact bsb) rfl rfl) ?_
          refine .u rfl rfl rfl (QOp.call rfl call16 fun h' hl' => by exact refDying_calls m.now hI.ob hI.ls h') ?_
          refine .aS rfl rfl <|
            .nil <|
            .seq <|
            .seq <|
            .region <|
            .mS rfl rfl <|
            .ln rfl underlying23 rfl <|
            .mI rfl rfl <|
            .nil <|
            .block ?_
          refine AW.loop (fun n T hh => ∃ (k : Nat) , k ≤ (refDyingF m.now).length ∧ n = (refDyingF m.now).length - k ∧ T = put (put (put (put (put (T0) 39 (V.int .i64 (k : Nat))) 38 (V.int .i64 (refDyingF m.now).length)) 37 (eInts (refDyingF m.now))) 5 (eInts (refDyingF m.now))) 0 (V.ptr id 0) ∧ GA h0 id (m.putL ((refDyingF m.now).take k)) hh) ((refDyingF m.now).length) ?_ ?_
          · skip
            refine Wk.mk (TLe.put (d := 0) (VLe.refl _) (TLe.put (d := 5) (VLe.refl _) (TLe.put (d := 37) (VLe.refl _) (TLe.put (d := 38) (VLe.refl _) (TLe.put (d := 39) (by exact VLe.of_eq (congrArg (V.int .i64) (by first | rfl | omega))) (TLe.zero _)))))) (HLe.refl _) ⟨0, Nat.zero_le _, rfl, rfl, by rw [List.take_zero]; exact hga⟩
          · skip
            rintro n T h' ⟨k, hk, rfl, rfl, hem⟩
            refine .seq <|
              .region <|
              .ql rfl rfl rfl <|
              .nil <|
              .seq ?_
            refine AW.cond rfl (fun c4 => ?_) (fun c4 => ?_)
            · have hltk : k < (refDyingF m.now).length := by have := of_decide_eq_true c4; omega
              have hPk : EmP (m.putL ((refDyingF m.now).take k)) := putL_p hP
              refine AW.skip ?_
              refine .seq <|
                .block <|
                .seq <|
                .region ?_
              refine .u rfl rfl rfl (q_ia_s rfl underlying23 sizeOf3 rfl rfl (by omega) (by omega) (cInts_at (l := refDyingF m.now) hltk)) ?_
              refine .li rfl isAgg3 rfl rfl <|
                .aI rfl rfl <|
                .nil <|
                .region <|
                .mP rfl rfl <|
                .mI rfl rfl ?_
              refine AOps.s rfl rfl rfl ((AStep.call rfl (by exact call65) (ga_put ((refDyingF m.now).getD k 0) 4 hem hPk)).mono ?_)
              rintro x9 h9 ⟨rfl, he9⟩
              refine .nil <|
                .region <|
                .ad rfl rfl rfl (by omega) <|
                .mI rfl rfl <|
                .nil ?_
              refine Wk.mk (TLe.put (d := 0) (VLe.refl _) (TLe.put (d := 5) (VLe.refl _) (TLe.put (d := 37) (VLe.refl _) (TLe.put (d := 38) (VLe.refl _) (TLe.put (d := 39) (by exact VLe.of_eq (congrArg (V.int .i64) (by first | rfl | omega))) (TLe.zero _)))))) (HLe.refl _) ⟨_, ?_, k + 1, ?_, rfl, rfl, by rw [putL_next hltk]; exact he9⟩
              · omega
              · omega
            · obtain rfl : k = (refDyingF m.now).length := by have := of_decide_eq_false c4; omega
              refine AW.exit ?_
              refine .seq <|
                .region <|
                .mS rfl rfl <|
                .ln rfl underlying23 rfl ?_
              refine .u rfl rfl rfl (q_gt rfl rfl rfl) ?_
              refine .aB rfl rfl <|
                .nil ?_
              refine AW.ret ?_
              have hres : resultF m.now = 0 := by unfold resultF; cases ea : lostF m.now 0 <;> cases eb : lostF m.now 1 <;> simp_all
              obtain ⟨e1, e2⟩ := goes_die hz h6 hres
              rw [List.take_length, refDying_eq] at hem
              exact retQ.mk (.one _) ⟨by rw [e1, ← refDying_eq]; rfl, by rw [e2]; exact hem⟩

theorem runs_det {fuel : Int} {m m1 : Em} {n n1 : Int} (h : Runs fuel m n m1 n1) : ∀ {m2 n2}, Runs fuel m n m2 n2 → m1 = m2 ∧ n1 = n2 := by
  induction h with
  | quiet h1 =>
    intro m2 n2 k
    cases k with
    | quiet _ => exact ⟨rfl, rfl⟩
    | out a b _ => rw [h1 a] at b; cases b
    | more a b _ _ => rw [h1 a] at b; cases b
  | out a b c =>
    intro m2 n2 k
    cases k with
    | quiet h1 => rw [h1 a] at b; cases b
    | out _ _ _ => exact ⟨rfl, rfl⟩
    | more _ _ d _ => omega
  | more a b c _ ih =>
    intro m2 n2 k
    cases k with
    | quiet h1 => rw [h1 a] at b; cases b
    | out _ _ d => omega
    | more _ _ _ k2 => exact ih k2
theorem goes_iff {m : Em} : goesF m = true ↔ m.err = 0 ∧ quietF m.state = false := by
  unfold goesF; simp
/-- Where the document's rounds stand. -/
def RAt (h0 : Hp) (id : Nat) (fuel : Int) (m m1 : Em) (k : Int) (b : Bool) (h : Hp) : Prop :=
  (b = true ∧ k < fuel ∧ goesF m1 = true ∧ GA h0 id (roundF m1) h) ∨ (b = false ∧ (fuel ≤ k ∨ goesF m1 = false) ∧ GA h0 id m1 h)

theorem run_would {m g : Em} (hm : Mt m g) (c : (bif g.err == 0 then !quietF g.now else false) = true) : m.err = 0 ∧ quietF m.state = false := by
  obtain ⟨a, b⟩ := and_bits c
  have a : g.err = 0 := by simpa using a
  have e := hm.same (hm.err.trans a); subst e
  exact ⟨a, by rw [state_ok a]; simpa using b⟩
theorem run_rest {m g : Em} (hm : Mt m g) (c : (bif g.err == 0 then !quietF g.now else false) = false) : m.err = 0 → quietF m.state = true := fun h => by
  have e := hm.same h; subst e
  rw [state_ok h]; simpa [h] using c

theorem rrun_calls (fuel : Int) {h0 : Hp} {id : Nat} {m : Em} {h : Hp} (he : GA h0 id m h) (hP : EmP m) : ACalls prog G 23 [.ptr id 0, .int .i64 fuel] h fun r h' => ∃ m2 n2, Runs fuel m 0 m2 n2 ∧ EmP m2 ∧ r = .int .i64 (runN m2 n2) ∧ GA h0 id m2 h' := by
  refine ACalls.enter func23 rfl ntmps23 results23 rfl ?_
  refine .seq <|
    .region <|
    .aI rfl rfl <|
    .nil <|
    .seq <|
    .region <|
    .aI rfl rfl <|
    .nil <|
    .seq <|
    .block ?_
  refine AW.loop (fun n T hh => ∃ (k : Int) (m1 : Em), T = put (put (put T0 0 (V.ptr id 0)) 1 (V.int .i64 fuel)) 5 (V.int .i64 k) ∧ GA h0 id m1 hh ∧ EmP m1 ∧ 0 ≤ k ∧ (m1.err = 0 → k ≤ m1.evs.length) ∧ k ≤ 65537 ∧ n = (if m1.err = 0 then 65538 - m1.evs.length else 0) ∧ ∀ m2 n2, Runs fuel m1 k m2 n2 → Runs fuel m 0 m2 n2) ((if m.err = 0 then 65538 - m.evs.length else 0)) ?_ ?_
  · skip
    refine Wk.mk (TLe.put (d := 5) (VLe.refl _) (TLe.put (d := 1) (VLe.refl _) (TLe.put (d := 0) (VLe.refl _) (TLe.zero _)))) (HLe.refl _) ⟨0, m, rfl, he, hP, by omega, fun _ => by omega, by omega, rfl, fun _ _ h => h⟩
  · skip
    rintro n T h' ⟨k, m1, rfl, he1, hP1, hk0, hk1, hk2, rfl, hR⟩
    refine .seq ?_
    refine AW.cut (fun T h1 => ∃ b, T = put (put (put (put T0 0 (V.ptr id 0)) 1 (V.int .i64 fuel)) 5 (V.int .i64 k)) 12 (V.bool b) ∧ RAt h0 id fuel m m1 k b h1) ?_ ?_
    · skip
      by_cases hlt : k < fuel
      · skip
        have hA : decide (k < fuel) = true := by simpa using hlt
        refine .region <|
          .mI rfl rfl <|
          .mI rfl rfl <|
          .ql rfl rfl rfl <|
          .mB rfl rfl ?_
        refine .gt rfl rfl rfl (fun _ => tl0) (fun hc => q_mv rfl (rfl : _ = V.ptr _ _)) ?_
        refine AOps.gy (wanted_yes (wanted_t rfl rfl) hA) rfl rfl (AStep.le (ev_le (TLe.put (d := 10) (VLe.opt hA) (TLe.refl _))) ((AStep.call rfl (by exact call40) (rround_calls he1 hP1)).mono ?_))
        rintro x3 h3 ⟨rfl, he3⟩
        refine .u rfl rfl rfl (q_pickg rfl rfl (fun hp => by exact VLe.refl _) (fun hp => by exact VLe.refl _)) ?_
        refine .nil ?_
        refine Wk.mk (TLe.put (d := 12) (VLe.of_eq (congrArg V.bool (by rw [hA]; rfl))) (TLe.put (d := 5) (VLe.refl _) (TLe.put (d := 1) (VLe.refl _) (TLe.put (d := 0) (VLe.refl _) (TLe.zero _))))) (HLe.refl _) ⟨goesF m1, rfl, ?_⟩
        cases hg : goesF m1
        · rw [hg] at he3; exact .inr ⟨rfl, .inr hg, he3⟩
        · rw [hg] at he3; exact .inl ⟨rfl, hlt, hg, he3⟩
      · skip
        have hA : decide (k < fuel) = false := by simpa using hlt
        refine .region <|
          .mI rfl rfl <|
          .mI rfl rfl <|
          .ql rfl rfl rfl <|
          .mB rfl rfl ?_
        refine .gt rfl rfl rfl (fun _ => tl0) (fun hc => q_mv rfl (rfl : _ = V.ptr _ _)) ?_
        refine .gt rfl rfl rfl (fun hc => tl1 10 (.opt hc)) (fun hc => (absurd hc (by rw [hA]; decide) : QOp _ _ _ _ _ (V.bool false))) ?_
        refine .pt rfl rfl rfl rfl <|
          .nil ?_
        exact Wk.mk (TLe.put (d := 12) (VLe.of_eq (congrArg V.bool (by rw [hA]; rfl))) (TLe.put (d := 5) (VLe.refl _) (TLe.put (d := 1) (VLe.refl _) (TLe.put (d := 0) (VLe.refl _) (TLe.zero _))))) (HLe.refl _) ⟨false, rfl, .inr ⟨rfl, .inl (by omega), he1⟩⟩
    · rintro T h1 ⟨b, rfl, hR2⟩
      refine AW.cond rfl (fun c0 => ?_) (fun c0 => ?_)
      · obtain ⟨_, hkf, hgo, hga1⟩ | ⟨e, _, _⟩ := hR2
        rotate_left
        · rw [e] at c0; cases c0
        obtain ⟨hz, hq⟩ := goes_iff.1 hgo
        have hev := hP1.inv.evs
        have hk3 := hk1 hz
        refine AW.skip ?_
        refine .block <|
          .region <|
          .mI rfl rfl <|
          .ad rfl rfl rfl (by omega) <|
          .aI rfl rfl <|
          .nil ?_
        have hmo := round_more hz hq
        have hev2 := (round_p hP1).inv.evs
        refine Wk.mk (TLe.put (d := 5) (VLe.refl _) (TLe.put (d := 1) (VLe.refl _) (TLe.put (d := 0) (VLe.refl _) (TLe.zero _)))) (HLe.refl _) ⟨_, ?_, k + 1, roundF m1, rfl, hga1, round_p hP1, by omega, fun e => by have := hmo e; omega, by omega, rfl, fun m2 n2 hr => hR _ _ (.more hz hq hkf hr)⟩
        rw [if_pos hz]
        split
        · rename_i e; have := hmo e; omega
        · omega
      · obtain ⟨e, _, _, _⟩ | ⟨_, hwhy, hga⟩ := hR2
        · rw [e] at c0; cases c0
        obtain ⟨g, hm, hI, hSm, hpe, ve, vp, hr, rfl⟩ := (show GA h0 id m1 h1 from hga)
        refine AW.exit ?_
        refine .seq <|
          .seq <|
          .region <|
          .mP rfl rfl <|
          .nP rfl rfl <|
          .fb rfl f70_40 rfl rfl <|
          .lb rfl isAgg3 rfl rfl <|
          .qe rfl rfl rfl <|
          .mB rfl rfl ?_
        refine .gt rfl rfl rfl (fun _ => tl0) (fun hc => q_mv rfl (rfl : _ = V.ptr _ _)) ?_
        refine .gt rfl rfl rfl (fun hc => tl1 21 (.opt hc)) (fun hc => q_nc rfl (rfl : _ = V.ptr _ _) rfl) ?_
        refine .gt rfl rfl rfl (fun hc => tl1 22 (.opt hc)) (fun hc => q_fa_b rfl underlying70 rfl (by exact sizeOf29) (by decide) rfl (rfl : _ = 0)) ?_
        refine .gt rfl rfl rfl (fun hc => tl1 23 (.opt hc)) (fun hc => q_load_bN (ds := cState g.now) rfl isAgg29 sizeOf29 (by decide) rfl (by exact bsb) rfl rfl) ?_
        refine .gt rfl rfl rfl (fun hc => tl1 24 (.opt hc)) (fun hc => QOp.call rfl (by exact call41) fun h' hl' => by exact would_calls g.now hI.ob hI.ls h') ?_
        refine .pt rfl rfl rfl rfl <|
          .nil ?_
        refine AW.cond rfl (fun c1 => ?_) (fun c1 => ?_)
        · obtain ⟨hz, hw⟩ := run_would hm c1
          have hgoo : fuel ≤ k := by
            rcases hwhy with h | h
            · exact h
            · exact absurd (goes_iff.2 ⟨hz, hw⟩) (by rw [h]; decide)
          have hfin : Runs fuel m 0 (m1.gameF 6 3) k := hR _ _ (.out hz hw hgoo)
          have hP2 := gameF_p (f := 6) (n := 3) hP1
          refine .region <|
            .mP rfl rfl ?_
          refine AOps.s rfl rfl rfl ((AStep.call rfl (by exact call42) (ga_game 6 3 hga)).mono ?_)
          rintro x9 h9 ⟨rfl, he9⟩
          obtain ⟨g2, hm2, hI2, hSm2, hpe2, ve2, vp2, hr2, rfl⟩ := he9
          refine .nil <|
            .seq <|
            .seq <|
            .region <|
            .mP rfl rfl <|
            .nP rfl rfl <|
            .fb rfl f70_40 rfl rfl <|
            .lb rfl isAgg3 rfl rfl <|
            .qn rfl rfl rfl <|
            .nil ?_
          refine AW.cond rfl (fun c2 => ?_) (fun c2 => ?_)
          · skip
            refine .seq <|
              .region <|
              .aI rfl rfl <|
              .nil ?_
            refine AW.ret ?_
            exact retQ.mk (.one _) ⟨_, k, hfin, hP2, by rw [runN, if_neg (by rw [hm2.err]; simpa using c2)]; rfl, _, hm2, hI2, hSm2, hpe2, ve2, vp2, hr2, rfl⟩
          · skip
            refine AW.skip ?_
            refine .seq <|
              .region <|
              .mI rfl rfl <|
              .aI rfl rfl <|
              .nil ?_
            refine AW.ret ?_
            exact retQ.mk (.one _) ⟨_, k, hfin, hP2, by rw [runN, if_pos (by rw [hm2.err]; simpa using c2)]; rfl, _, hm2, hI2, hSm2, hpe2, ve2, vp2, hr2, rfl⟩
        · have hfin : Runs fuel m 0 m1 k := hR _ _ (.quiet (run_rest hm c1))
          obtain ⟨m2, hm2⟩ : ∃ m2, m2 = m1 := ⟨_, rfl⟩
          refine AW.skip ?_
          refine .seq <|
            .seq <|
            .region <|
            .mP rfl rfl <|
            .nP rfl rfl <|
            .fb rfl f70_40 rfl rfl <|
            .lb rfl isAgg3 rfl rfl <|
            .qn rfl rfl rfl <|
            .nil ?_
          refine AW.cond rfl (fun c3 => ?_) (fun c3 => ?_)
          · skip
            refine .seq <|
              .region <|
              .aI rfl rfl <|
              .nil ?_
            refine AW.ret ?_
            exact retQ.mk (.one _) ⟨_, k, hfin, hP1, by rw [runN, if_neg (by rw [hm.err]; simpa using c3)]; rfl, hga⟩
          · skip
            refine AW.skip ?_
            refine .seq <|
              .region <|
              .mI rfl rfl <|
              .aI rfl rfl <|
              .nil ?_
            refine AW.ret ?_
            exact retQ.mk (.one _) ⟨_, k, hfin, hP1, by rw [runN, if_pos (by rw [hm.err]; simpa using c3)]; rfl, hga⟩

end Go.Proofs.YtnbmcbkokaoapaaGreatDoor
/- Two emitters in one memory: which was made first does not matter. -/
namespace Go.Proofs.YtnbmcbkokaoapaaGreatDoor
open Go Go.AV Go.Proofs.Tryz
set_option maxRecDepth 100000
/-- What is laid into a memory: a row that grows, a box. -/
inductive It where
  | tok (v : V)
  | box (id : Nat) (cs : List V)
def It.add : It → Hp → Hp
  | .tok v, h => addTok v h
  | .box id cs, h => h.setBox id cs
def It.fr : It → Hp → Prop
  | .tok v, h => vFresh v h
  | .box id _, h => h.fresh id
theorem vf_box {v : V} {h : Hp} {i : Nat} {cs : List V} (f : h.fresh i) (fv : vFresh v (h.setBox i cs)) : vFresh v h ∧ (addTok v h).fresh i := by
  unfold vFresh addTok at *
  split
  · rename_i t n len c
    simp only at fv
    have hne : t ≠ i := fun e => by subst e; have := fv.1; simp at this
    exact ⟨⟨by have := fv.1; rwa [Hp.box_setBox_ne _ _ hne] at this, fv.2⟩, ⟨f.1, by rw [Hp.tok_setTok_ne _ _ hne.symm]; exact f.2⟩⟩
  · exact ⟨trivial, f⟩
theorem box_vf {v : V} {h : Hp} {i : Nat} {cs : List V} (fv : vFresh v h) (f : (addTok v h).fresh i) : h.fresh i ∧ vFresh v (h.setBox i cs) := by
  by_cases hv : ∃ t n len cs, v = .sl (.own t) n len cs
  · obtain ⟨t, n, len, c, rfl⟩ := hv
    have hne : t ≠ i := fun e => by subst e; have := f.2; simp [addTok] at this
    exact ⟨⟨f.1, by have := f.2; simp only [addTok] at this; rwa [Hp.tok_setTok_ne _ _ hne.symm] at this⟩, ⟨by rw [Hp.box_setBox_ne _ _ hne]; exact fv.1, fv.2⟩⟩
  · have e : ∀ h, addTok v h = h := fun h => by unfold addTok; split <;> first | rfl | (rename_i t n len cs; exact absurd ⟨t, n, len, cs, rfl⟩ hv)
    refine ⟨by rwa [e] at f, ?_⟩
    unfold vFresh; split <;> first | trivial | (rename_i t n len cs; exact absurd ⟨t, n, len, cs, rfl⟩ hv)
theorem It.swap {a b : It} {h : Hp} (fa : a.fr h) (fb : b.fr (a.add h)) : b.add (a.add h) = a.add (b.add h) ∧ b.fr h ∧ a.fr (b.add h) := by
  cases a with
  | tok v =>
    cases b with
    | tok u =>
      obtain ⟨p, q, r⟩ := tok_swap (u := v) (v := u) fa fb
      exact ⟨p, q, r⟩
    | box i cs => exact ⟨(addTok_setBox _ _ _ _).symm, box_vf (cs := cs) fa fb⟩
  | box i cs =>
    cases b with
    | tok v => exact ⟨addTok_setBox _ _ _ _, vf_box fa fb⟩
    | box j ds =>
      have := fresh_pair (d := ds) fa fb
      exact ⟨Hp.setBox_comm _ _ _ (fresh_ne fb), this.1, this.2⟩
inductive Lay : List It → Hp → Hp → Prop
  | nil (h : Hp) : Lay [] h h
  | cons {a : It} {l : List It} {h h' : Hp} : a.fr h → Lay l (a.add h) h' → Lay (a :: l) h h'
theorem Lay.perm {l l' : List It} (p : l.Perm l') : ∀ {h h' : Hp}, Lay l h h' → Lay l' h h' := by
  induction p with
  | nil => exact fun x => x
  | cons a _ ih =>
    intro h h' x
    cases x with | cons f x => exact .cons f (ih x)
  | swap a b l =>
    intro h h' x
    cases x with | cons f x => cases x with | cons g x =>
    obtain ⟨e, f1, f2⟩ := It.swap f g
    rw [e] at x
    exact .cons f1 (.cons f2 x)
  | trans _ _ i1 i2 => exact fun x => i2 (i1 x)
theorem Lay.append {l l' : List It} : ∀ {h h1 h2 : Hp}, Lay l h h1 → Lay l' h1 h2 → Lay (l ++ l') h h2 := by
  induction l with
  | nil => intro h h1 h2 x y; cases x; exact y
  | cons a l ih => intro h h1 h2 x y; cases x with | cons f x => exact .cons f (ih x y)
theorem Lay.split {l l' : List It} : ∀ {h h2 : Hp}, Lay (l ++ l') h h2 → ∃ h1, Lay l h h1 ∧ Lay l' h1 h2 := by
  induction l with
  | nil => intro h h2 x; exact ⟨h, .nil h, x⟩
  | cons a l ih =>
    intro h h2 x
    cases x with | cons f x =>
    obtain ⟨h1, x1, x2⟩ := ih x
    exact ⟨h1, .cons f x1, x2⟩
theorem Lay.swap {l l' : List It} {h h1 h2 : Hp} (x : Lay l h h1) (y : Lay l' h1 h2) : ∃ h1', Lay l' h h1' ∧ Lay l h1' h2 :=
  (Lay.perm List.perm_append_comm (x.append y)).split
theorem EmAt.lay {h0 h : Hp} {id : Nat} {m : Em} : EmAt h0 id m h ↔ ∃ ve vp, AccV 6 m.evs.length (cEvs m.evs) ve ∧ AccV 3 m.pend.length (cPds m.pend) vp ∧ Lay [.tok vp, .tok ve, .box id (emCells m ve vp)] h0 h := by
  constructor
  · rintro ⟨ve, vp, r, rfl⟩
    exact ⟨ve, vp, r.ae, r.ap, .cons r.fp (.cons r.fe (.cons r.fi (.nil _)))⟩
  · rintro ⟨ve, vp, a, b, x⟩
    cases x with | cons f x => cases x with | cons g x => cases x with | cons k x =>
    cases x
    exact ⟨ve, vp, ⟨a, b, f, g, k⟩, rfl⟩
theorem GAt.lay {h0 h : Hp} {id : Nat} {m : Em} : GAt h0 id m h ↔ ∃ ve vp, AccV 6 m.evs.length (cEvs m.evs) ve ∧ AccV 3 m.pend.length (cPds m.pend) vp ∧ Lay [.tok vp, .tok ve, .box id (gCells m ve vp)] h0 h := by
  constructor
  · rintro ⟨ve, vp, r, rfl⟩
    exact ⟨ve, vp, r.ae, r.ap, .cons r.fp (.cons r.fe (.cons r.fi (.nil _)))⟩
  · rintro ⟨ve, vp, a, b, x⟩
    cases x with | cons f x => cases x with | cons g x => cases x with | cons k x =>
    cases x
    exact ⟨ve, vp, ⟨a, b, f, g, k⟩, rfl⟩
/-- The program's emitter comes first; then the document's comes first. -/
theorem em_ga {h0 h1 h2 : Hp} {i j : Nat} {m g : Em} (x : EmAt h0 i m h1) (y : GA h1 j g h2) : ∃ h', GA h0 j g h' ∧ EmAt h' i m h2 := by
  obtain ⟨ve, vp, a, b, x⟩ := EmAt.lay.1 x
  obtain ⟨g', k1, k2, k3, k4, y⟩ := y
  obtain ⟨ue, up, c, d, y⟩ := GAt.lay.1 y
  obtain ⟨h', y', x'⟩ := x.swap y
  exact ⟨h', ⟨g', k1, k2, k3, k4, GAt.lay.2 ⟨ue, up, c, d, y'⟩⟩, EmAt.lay.2 ⟨ve, vp, a, b, x'⟩⟩
theorem ga_em {h0 h1 h2 : Hp} {i j : Nat} {m g : Em} (y : GA h0 j g h1) (x : EmAt h1 i m h2) : ∃ h', EmAt h0 i m h' ∧ GA h' j g h2 := by
  obtain ⟨ve, vp, a, b, x⟩ := EmAt.lay.1 x
  obtain ⟨g', k1, k2, k3, k4, y⟩ := y
  obtain ⟨ue, up, c, d, y⟩ := GAt.lay.1 y
  obtain ⟨h', x', y'⟩ := y.swap x
  exact ⟨h', EmAt.lay.2 ⟨ve, vp, a, b, x'⟩, ⟨g', k1, k2, k3, k4, GAt.lay.2 ⟨ue, up, c, d, y'⟩⟩⟩
/-- A right state's numbers are small. -/
theorem sm_of {s : St} (h : checkF s = 0) : Sm s := by
  obtain ⟨a, b, c, d⟩ := right_parts h
  have hb := b
  simp only [rangesF, Bool.and_eq_true] at hb
  refine ⟨fun i f hf => ?_, fun p f hp hf => ?_, fun f hf => ?_⟩
  · by_cases hi : i < s.objs.length
    · have h1 := right_obj b hi f hf
      have h2 : -1073741824 ≤ oLo s.objs.length f := by unfold oLo; split <;> omega
      have h3 : oHi s.objs.length f ≤ 1073741824 := by unfold oHi; split <;> omega
      unfold sml; omega
    · rw [List.getD_eq_getElem?_getD, List.getElem?_eq_none (by omega)]; simp [noObj, sml]
  · have h1 := all_up.1 (all_up.1 hb.1.2 p hp) f hf
    have h2 : -1073741824 ≤ pLo f := by unfold pLo; split <;> omega
    have h3 : pHi f ≤ 1073741824 := by unfold pHi; split <;> omega
    simp only [inB, Bool.and_eq_true, decide_eq_true_eq] at h1
    unfold sml; omega
  · have h1 := all_up.1 hb.2 f hf
    have h3 : gHi f ≤ 1073741824 := by unfold gHi; split <;> omega
    simp only [inB, Bool.and_eq_true, decide_eq_true_eq] at h1
    unfold sml; omega
/-- A new emitter of the document's, without draws. -/
theorem rnew_nil (s : St) (hf : Few s) (hb : s.objs.length ≤ 1000000) (hl : ∀ z, (s.lists z).length ≤ 1000000) (h : Hp) : ACalls prog G 22 [eState s, .snil] h fun r h' => ∃ id, r = .ptr id 0 ∧ GA h id (newF s []) h' := by
  refine .args (bs := [eState s, eInts []]) rfl (fun j => match j with | 0 => .refl _ | 1 => .nilimm | _ + 2 => .refl _) ((rnew_calls s [] hb hl h).mono fun r h' ⟨id, e, ha⟩ => ⟨id, e, newF s [], .rfl', ⟨(new_p hf).inv, ?_, ?_⟩, fun e => ?_, ?_, ha⟩)
  · rw [new_eq]; exact hb
  · rw [new_eq]; exact hl
  · rw [new_eq] at e ⊢; exact sm_of e
  · rw [new_eq]; simp
end Go.Proofs.YtnbmcbkokaoapaaGreatDoor
/- Walks: errors as numbers. -/
namespace Go.AV
open Go
section
variable {P : Program} {G : Nat → Option (List V)} {h : Hp} {o : Oper} {ρ : Operand → V}
/-- An interface value's own type, asked for. -/
theorem q_assert {x : Operand} {xT t : TypeId} {k : IntKind} {e : Int} (ho : o.op = .typeAssert x xT t true) (hu : P.underlying t = some (.int k)) (hx : ρ x = .iface t (.int k e)) : QOp P G h o ρ (.tup [.int k e, .bool true]) :=
  .of_run fun _ _ _ _ w a _ hr => by
    have h1 := hr x (by simp [ho, Op.operands]); rw [hx] at h1
    cases hv : a.eval x with
    | iface t' v =>
      rw [hv] at h1
      cases h1 with
      | iface _ _ _ h2 =>
        refine ⟨.tuple #[v, .bool true], by simp [execOp, ho, hv, Instr.typeAssert, run_underlying hu, Result.andThen], .tup _ _ rfl fun j hj hj' => ?_⟩
        match j, hj with
        | 0, _ => exact h2
        | 1, _ => exact .bool true
    | _ => rw [hv] at h1; cases h1
end
end Go.AV
namespace Go.Proofs.YtnbmcbkokaoapaaGreatDoor
open Go Go.AV Go.Proofs.Tryz
set_option maxRecDepth 100000

theorem num_calls (e : Int) (h : Hp) : ACalls prog G 43 [eE e] h fun r h' => r = .int .i64 e ∧ h' = h := by
  refine ACalls.enter func43 rfl ntmps43 results43 rfl ?_
  refine .seq <|
    .region <|
    .aI rfl rfl <|
    .nil <|
    .seq <|
    .seq <|
    .region ?_
  refine .u rfl rfl rfl (q_mv rfl (rfl : _ = eErr _ _)) ?_
  refine .u rfl rfl rfl (q_eqerr underlying38 rfl rfl) ?_
  refine .nil ?_
  refine AW.cond rfl (fun c0 => ?_) (fun c0 => ?_)
  · skip
    refine .seq <|
      .region <|
      .aI rfl rfl <|
      .nil ?_
    refine AW.ret ?_
    exact retQ.mk' (.one _) (VLe.of_eq (congrArg (V.int .i64) ((beq_iff_eq.1 c0).symm))) (HLe.refl _) ⟨rfl, rfl⟩
  · have he : e ≠ 0 := by simpa using c0
    refine AW.skip ?_
    refine .seq <|
      .seq <|
      .region ?_
    refine .u rfl rfl rfl (q_mv rfl (rfl : _ = eErr _ _)) ?_
    refine .u rfl rfl rfl (q_assert rfl underlying62 (by exact eErr_ne he)) ?_
    refine .u rfl rfl rfl (q_mv rfl (rfl : _ = V.tup _)) ?_
    refine .u rfl rfl rfl (q_extract rfl rfl rfl) ?_
    refine .u rfl rfl rfl (q_extract rfl rfl rfl) ?_
    refine .aI rfl rfl <|
      .aB rfl rfl <|
      .nil <|
      .seq <|
      .region <|
      .mB rfl rfl <|
      .mB rfl rfl ?_
    refine .gt rfl rfl rfl (fun _ => tl0) (fun hc => q_mv rfl (rfl : _ = V.int _ _)) ?_
    refine .gt rfl rfl rfl (fun hc => tl1 14 (.opt hc)) (fun hc => q_ne rfl rfl rfl) ?_
    refine .pt rfl rfl rfl rfl <|
      .nil ?_
    refine AW.cond rfl (fun c1 => ?_) (fun c1 => ?_)
    · skip
      refine .seq <|
        .region <|
        .mI rfl rfl <|
        .aI rfl rfl <|
        .nil ?_
      refine AW.ret ?_
      exact retQ.mk' (.one _) (VLe.of_eq (congrArg (V.int .i64) (rfl))) (HLe.refl _) ⟨rfl, rfl⟩
    · simp [he] at c1

end Go.Proofs.YtnbmcbkokaoapaaGreatDoor
/- Walks: does an emitter tell what the document's does? -/
namespace Go.Proofs.YtnbmcbkokaoapaaGreatDoor
open Go Go.AV Go.Proofs.Tryz
set_option maxRecDepth 100000
set_option maxHeartbeats 1000000
def evN (x : Ev) : List Int := [x.k, x.a, x.b, x.c, x.d, x.e]
def pdN (x : Pd) : List Int := [x.id, x.ab, x.ctl]
def noPd : Pd := ⟨0, 0, 0⟩
theorem cPds_elem : ∀ {l : List Pd} {i : Nat}, i < l.length → ((cPds l).drop (i * 3)).take 3 = cPd (l.getD i noPd)
  | [], i, h => by simp at h
  | o :: l, 0, _ => rfl
  | o :: l, i + 1, h => by
    have ih := cPds_elem (l := l) (i := i) (by simpa using h)
    show ((cPd o ++ cPds l).drop ((i + 1) * 3)).take 3 = cPd (l.getD i noPd)
    rw [← ih, show (i + 1) * 3 = (cPd o).length + i * 3 by show _ = 3 + i * 3; omega, List.drop_append, List.drop_eq_nil_of_le (by omega)]
    simp
theorem cPds_at {l : List Pd} {i : Nat} (h : i < l.length) : ((cPds l).drop ((i : Int).toNat * 3)).take 3 = cPd (l.getD i noPd) := by
  rw [Int.toNat_natCast]; exact cPds_elem h

theorem numEvents_same (l : List Ev) (hb : l.length ≤ 1000000) (h : Hp) : ACalls prog G 46 [eEvs l, eEvs l] h fun r h' => r = .bool true ∧ h' = h := by
  refine ACalls.enter func46 rfl ntmps46 results46 rfl ?_
  refine .seq <|
    .region <|
    .aB rfl rfl <|
    .nil <|
    .seq <|
    .seq <|
    .region <|
    .mS rfl rfl <|
    .ln rfl underlying54 rfl <|
    .mS rfl rfl <|
    .ln rfl underlying54 rfl <|
    .qn rfl rfl rfl <|
    .nil ?_
  refine AW.cond rfl (fun c0 => ?_) (fun c0 => ?_)
  · simp at c0
  · skip
    refine AW.skip ?_
    refine .seq <|
      .seq <|
      .region <|
      .mS rfl rfl <|
      .ln rfl underlying54 rfl <|
      .mI rfl rfl <|
      .nil <|
      .block ?_
    refine AW.loop (fun n T hh => ∃ (i : Nat) , i ≤ l.length ∧ n = l.length - i ∧ T = put (put (put (put (T0) 13 (V.int .i64 (i : Nat))) 12 (V.int .i64 l.length)) 1 (eEvs l)) 0 (eEvs l) ∧ hh = h) (l.length) ?_ ?_
    · skip
      refine Wk.mk (TLe.put (d := 0) (VLe.refl _) (TLe.put (d := 1) (VLe.refl _) (TLe.put (d := 12) (VLe.refl _) (TLe.put (d := 13) (by exact VLe.of_eq (congrArg (V.int .i64) (by first | rfl | omega))) (TLe.zero _))))) (HLe.refl _) ⟨0, Nat.zero_le _, rfl, rfl, rfl⟩
    · skip
      rintro n T h' ⟨i, hi, rfl, rfl, rfl⟩
      refine .seq <|
        .region <|
        .ql rfl rfl rfl <|
        .nil <|
        .seq ?_
      refine AW.cond rfl (fun c1 => ?_) (fun c1 => ?_)
      · have hlt : i < l.length := by have := of_decide_eq_true c1; omega
        refine AW.skip ?_
        refine .seq <|
          .block <|
          .seq <|
          .region <|
          .mI rfl rfl <|
          .aI rfl rfl <|
          .nil <|
          .seq ?_
        refine AW.draw [] [] [(0, true), (1, true), (2, true), (3, true), (4, true), (5, true), (6, true), (7, true), (8, true)] mixed (by kernel_rfl) rfl (by kernel_rfl) ?_
        refine .q rfl rfl rfl rfl (q_mv rfl (rfl : _ = V.sl _ _ _ _)) ?_
        refine .q rfl rfl rfl rfl (q_mv rfl (rfl : _ = V.int _ _)) ?_
        refine .q rfl rfl rfl rfl (q_ia_s rfl underlying54 sizeOf84 rfl rfl (by omega) (by omega) (cEvs_at hlt)) ?_
        refine .q rfl rfl rfl rfl (q_load_iW rfl isAgg84 sizeOf84 rfl (by rfl)) ?_
        refine .q rfl rfl rfl rfl (q_mv rfl (rfl : _ = V.sl _ _ _ _)) ?_
        refine .q rfl rfl rfl rfl (q_mv rfl (rfl : _ = V.int _ _)) ?_
        refine .q rfl rfl rfl rfl (q_ia_s rfl underlying54 sizeOf84 rfl rfl (by omega) (by omega) (cEvs_at hlt)) ?_
        refine .q rfl rfl rfl rfl (q_load_iW rfl isAgg84 sizeOf84 rfl (by rfl)) ?_
        refine .q rfl rfl rfl rfl (q_neI (EqI.struct isAgg84 underlying84 sizeOf84 (by kernel_rfl) isAgg3 underlying3 rfl (fun j hj => match j, hj with | 0, _ => ⟨rfl, rfl, by simp⟩ | 1, _ => ⟨rfl, rfl, by simp⟩ | 2, _ => ⟨rfl, rfl, by simp⟩ | 3, _ => ⟨rfl, rfl, by simp⟩ | 4, _ => ⟨rfl, rfl, by simp⟩ | 5, _ => ⟨rfl, rfl, by simp⟩)) isAgg84 sizeOf84 (by kernel_rfl) rfl (a := evN (l.getD i noEv)) (b := evN (l.getD i noEv)) rfl rfl rfl rfl) ?_
        refine AOrd.nil ?_
        refine AW.cond rfl (fun c2 => ?_) (fun c2 => ?_)
        · simp at c2
        · skip
          refine AW.skip ?_
          refine .region <|
            .ad rfl rfl rfl (by omega) <|
            .mI rfl rfl <|
            .nil ?_
          refine Wk.mk (TLe.put (d := 0) (VLe.refl _) (TLe.put (d := 1) (VLe.refl _) (TLe.put (d := 12) (VLe.refl _) (TLe.put (d := 13) (by exact VLe.of_eq (congrArg (V.int .i64) (by first | rfl | omega))) (TLe.zero _))))) (HLe.refl _) ⟨_, ?_, i + 1, ?_, rfl, rfl, rfl⟩
          · omega
          · omega
      · obtain rfl : i = l.length := by have := of_decide_eq_false c1; omega
        refine AW.exit ?_
        refine .seq <|
          .region <|
          .aB rfl rfl <|
          .nil ?_
        refine AW.ret ?_
        exact retQ.mk' (.one _) (VLe.of_eq (congrArg V.bool (rfl))) (HLe.refl _) ⟨rfl, rfl⟩

theorem is_calls {m g : Em} {ve vp ve2 vp2 : V} {idm idg : Nat} {h : Hp} (hm : h.box idm = some (emCells m ve vp)) (hg : h.box idg = some (gCells g ve2 vp2)) (ae : AccV 6 m.evs.length (cEvs m.evs) ve) (ap : AccV 3 m.pend.length (cPds m.pend) vp)
    (ae2 : AccV 6 g.evs.length (cEvs g.evs) ve2) (ap2 : AccV 3 g.pend.length (cPds g.pend) vp2) (hM : Mt m g) (hI : EmI m) (hp : m.pend.length ≤ 1000000) : ACalls prog G 24 [.ptr idm 0, .ptr idg 0] h fun r h' => r = .bool true ∧ h' = h := by
  have hev : m.evs.length ≤ 1000000 := by have := hI.evs; omega
  refine ACalls.enter func24 rfl ntmps24 results24 rfl ?_
  refine .seq <|
    .region <|
    .aB rfl rfl <|
    .nil <|
    .seq <|
    .seq ?_
  refine AW.draw [] [] [(0, true), (1, true), (2, true), (3, true), (4, true), (5, true), (6, true), (7, true)] mixed (by kernel_rfl) rfl (by kernel_rfl) ?_
  refine .q rfl rfl rfl rfl (q_mv rfl (rfl : _ = V.ptr _ _)) ?_
  refine .q rfl rfl rfl rfl (QOp.call rfl (by exact call13) fun h' hl' => by exact err_calls (hl'.box _ _ hm)) ?_
  refine .q rfl rfl rfl rfl (QOp.call rfl (by exact call43) fun h' hl' => by exact num_calls m.err h') ?_
  refine .q rfl rfl rfl rfl (q_mv rfl (rfl : _ = V.ptr _ _)) ?_
  refine .q rfl rfl rfl rfl (q_nc rfl (rfl : _ = V.ptr _ _) rfl) ?_
  refine .q rfl rfl rfl rfl (q_fa_b rfl underlying70 rfl (by exact sizeOf3) (by decide) rfl (rfl : _ = 40)) ?_
  refine .q rfl rfl rfl rfl (q_load_b1 rfl isAgg3 rfl (by exact hg) rfl) ?_
  refine .q rfl rfl rfl rfl (q_ne rfl rfl rfl) ?_
  refine AOrd.nil ?_
  refine AW.cond rfl (fun c0 => ?_) (fun c0 => ?_)
  · rw [hM.err] at c0; simp at c0
  · skip
    refine AW.skip ?_
    refine .seq <|
      .seq <|
      .region <|
      .mP rfl rfl <|
      .nP rfl rfl <|
      .fb rfl f70_40 rfl rfl ?_
    refine .u rfl rfl rfl (q_load_b1 rfl isAgg3 rfl (by exact hg) rfl) ?_
    refine .qn rfl rfl rfl <|
      .nil ?_
    refine AW.cond rfl (fun c1 => ?_) (fun c1 => ?_)
    · have hne : m.err ≠ 0 := by rw [hM.err]; simpa using c1
      have hel : m.events.length = 0 := by unfold Em.events; rw [if_neg hne]; rfl
      have hpl : m.pending.length = 0 := by unfold Em.pending; rw [if_neg hne]; rfl
      refine .seq <|
        .region <|
        .mP rfl rfl ?_
      refine .u rfl rfl rfl (QOp.call rfl call44 fun h' hl' => by exact events_calls (hl'.box _ _ hm) ae hev) ?_
      refine .ln rfl underlying54 rfl <|
        .mP rfl rfl ?_
      refine .u rfl rfl rfl (QOp.call rfl call45 fun h' hl' => by exact pending_calls (hl'.box _ _ hm) ap hp) ?_
      refine .ln rfl underlying55 rfl <|
        .ad rfl rfl rfl (by omega) <|
        .qe rfl rfl rfl <|
        .mB rfl rfl ?_
      refine .gt rfl rfl rfl (fun _ => tl0) (fun hc => q_mv rfl (rfl : _ = V.ptr _ _)) ?_
      refine .gt rfl rfl rfl (fun hc => tl1 29 (.opt hc)) (fun hc => QOp.call rfl (by exact call12) fun h' hl' => by exact state_calls (hl'.box _ _ hm) hI.st) ?_
      refine .gt rfl rfl rfl (fun _ => tl0) (fun hc => q_buildS (ds := zState) rfl zeroValue29 underlying29 (pl29 underlying29) rfl (by kernel_rfl)) ?_
      refine .gt rfl rfl rfl (fun hc => tl2 31 30 (.opt hc) (.opt hc)) (fun hc => QOp.call rfl (by exact call14) fun h' hl' => by exact ACalls.args (bs := [eState m.state, eState noSt]) rfl (fun j => match j with | 0 => .refl _ | 1 => zState_le.agg | j + 2 => .refl _) (states_calls m.state noSt hI.st2.2 hI.st2.1 h')) ?_
      refine .pt rfl rfl rfl rfl <|
        .aB rfl rfl <|
        .nil ?_
      refine AW.ret ?_
      exact retQ.mk' (.one _) (VLe.of_eq (congrArg V.bool (by have a : m.events = [] := (by unfold Em.events; rw [if_neg hne]); have b : m.pending = [] := (by unfold Em.pending; rw [if_neg hne]); have c : m.state = noSt := (by unfold Em.state; rw [if_neg hne]); simp [a, b, c, statesF_refl]))) (HLe.refl _) ⟨rfl, rfl⟩
    · have hz : m.err = 0 := by rw [hM.err]; simpa using c1
      have hmg := hM.same hz
      subst hmg
      have hP : m.pending = m.pend := by unfold Em.pending; rw [if_pos hz]
      have hE : m.events = m.evs := by unfold Em.events; rw [if_pos hz]
      have hS : m.state = m.now := state_ok hz
      have hst := hI.st hz
      refine AW.skip ?_
      refine .seq <|
        .region <|
        .mP rfl rfl ?_
      refine .u rfl rfl rfl (QOp.call (x := ePds m.pend) rfl (by exact call45) fun h' hl' => by rw [← hP]; exact pending_calls (hl'.box _ _ hm) ap hp) ?_
      refine .aS rfl rfl <|
        .nil <|
        .seq <|
        .seq ?_
      refine AW.draw [] [] [(0, true), (1, true), (2, true), (3, true), (4, true), (5, true), (6, true), (7, true), (8, true), (9, true), (10, true), (11, true), (12, true), (13, true), (14, true), (15, true), (16, true), (17, true), (18, true), (19, true), (20, true), (21, true), (22, true), (23, true), (24, true), (25, true), (26, true), (27, true)] mixed (by kernel_rfl) rfl (by kernel_rfl) ?_
      refine .q rfl rfl rfl rfl (q_mv rfl (rfl : _ = V.sl _ _ _ _)) ?_
      refine .q rfl rfl rfl rfl (q_len rfl underlying55 rfl) ?_
      refine .q rfl rfl rfl rfl (q_mv rfl (rfl : _ = V.ptr _ _)) ?_
      refine .q rfl rfl rfl rfl (q_nc rfl (rfl : _ = V.ptr _ _) rfl) ?_
      refine .q rfl rfl rfl rfl (q_fa_b rfl underlying70 rfl (by exact sizeOf68) (by decide) rfl (rfl : _ = 39)) ?_
      refine .q rfl rfl rfl rfl ((q_load_b1 rfl isAgg68 rfl (by exact hg) rfl).vle ap2.imm) ?_
      refine .q rfl rfl rfl rfl (q_len rfl underlying68 rfl) ?_
      refine .q rfl rfl rfl rfl (q_ne rfl rfl rfl) ?_
      refine .q rfl rfl rfl rfl (q_mv rfl (rfl : _ = V.bool _)) ?_
      refine AOrd.g rfl rfl (wanted_f rfl rfl) rfl (fun _ => tl0) (fun hc => q_mv rfl (rfl : _ = V.ptr _ _)) ?_
      refine AOrd.g rfl rfl (wanted_f rfl rfl) rfl (fun hc => tl1 45 (.opt hc)) (fun hc => QOp.call (x := eEvs m.evs) rfl (by exact call44) fun h' hl' => by rw [← hE]; exact events_calls (hl'.box _ _ hm) ae hev) ?_
      refine AOrd.g rfl rfl (wanted_f rfl rfl) rfl (fun _ => tl0) (fun hc => q_mv rfl (rfl : _ = V.ptr _ _)) ?_
      refine AOrd.g rfl rfl (wanted_f rfl rfl) rfl (fun hc => tl1 47 (.opt hc)) (fun hc => q_nc rfl (rfl : _ = V.ptr _ _) rfl) ?_
      refine AOrd.g rfl rfl (wanted_f rfl rfl) rfl (fun hc => tl1 48 (.opt hc)) (fun hc => q_fa_b rfl underlying70 rfl (by exact sizeOf54) (by decide) rfl (rfl : _ = 38)) ?_
      refine AOrd.g rfl rfl (wanted_f rfl rfl) rfl (fun hc => tl1 49 (.opt hc)) (fun hc => (q_load_b1 rfl isAgg54 rfl (by exact hg) rfl).vle ae2.imm) ?_
      refine AOrd.g rfl rfl (wanted_f rfl rfl) rfl (fun hc => tl2 50 46 (.opt hc) (.opt hc)) (fun hc => QOp.call rfl (by exact call46) fun h' hl' => by exact numEvents_same m.evs hev h') ?_
      refine AOrd.g rfl rfl (wanted_f rfl rfl) rfl (fun hc => tl1 51 (.opt hc)) (fun hc => q_not rfl rfl) ?_
      refine .q rfl rfl rfl rfl (q_pickg rfl rfl (fun hp => by exact VLe.refl _) (fun hp => by first | exact VLe.opt hp | exact VLe.opt (by rw [hp]; rfl) | exact VLe.opt (by simp_all))) ?_
      refine .q rfl rfl rfl rfl (q_mv rfl (rfl : _ = V.bool _)) ?_
      refine AOrd.g rfl rfl (wanted_f rfl rfl) rfl (fun _ => tl0) (fun hc => q_mv rfl (rfl : _ = V.ptr _ _)) ?_
      refine AOrd.g rfl rfl (wanted_f rfl rfl) rfl (fun hc => tl1 55 (.opt hc)) (fun hc => QOp.call (x := eState m.now) rfl (by exact call12) fun h' hl' => by rw [← hS]; exact state_calls (hl'.box _ _ hm) hI.st) ?_
      refine AOrd.g rfl rfl (wanted_f rfl rfl) rfl (fun _ => tl0) (fun hc => q_mv rfl (rfl : _ = V.ptr _ _)) ?_
      refine AOrd.g rfl rfl (wanted_f rfl rfl) rfl (fun hc => tl1 57 (.opt hc)) (fun hc => q_nc rfl (rfl : _ = V.ptr _ _) rfl) ?_
      refine AOrd.g rfl rfl (wanted_f rfl rfl) rfl (fun hc => tl1 58 (.opt hc)) (fun hc => q_fa_b rfl underlying70 rfl (by exact sizeOf29) (by decide) rfl (rfl : _ = 0)) ?_
      refine AOrd.g rfl rfl (wanted_f rfl rfl) rfl (fun hc => tl1 59 (.opt hc)) (fun hc => q_load_bN (ds := cState m.now) rfl isAgg29 sizeOf29 (by decide) rfl (by exact hg) rfl rfl) ?_
      refine AOrd.g rfl rfl (wanted_f rfl rfl) rfl (fun hc => tl2 60 56 (.opt hc) (.opt hc)) (fun hc => QOp.call rfl (by exact call14) fun h' hl' => by exact states_calls m.now m.now hst.2 hst.1 h') ?_
      refine AOrd.g rfl rfl (wanted_f rfl rfl) rfl (fun hc => tl1 61 (.opt hc)) (fun hc => q_not rfl rfl) ?_
      refine .q rfl rfl rfl rfl (q_pickg rfl rfl (fun hp => by exact VLe.refl _) (fun hp => by first | exact VLe.opt hp | exact VLe.opt (by rw [hp]; rfl) | exact VLe.opt (by simp_all))) ?_
      refine AOrd.nil ?_
      refine AW.cond rfl (fun c2 => ?_) (fun c2 => ?_)
      · simp [statesF_refl] at c2
      · skip
        refine AW.skip ?_
        refine .seq <|
          .seq <|
          .region <|
          .mS rfl rfl <|
          .ln rfl underlying55 rfl <|
          .mI rfl rfl <|
          .nil <|
          .block ?_
        refine AW.loop (fun n T hh => ∃ (i : Nat) , i ≤ m.pend.length ∧ n = m.pend.length - i ∧ T = put (put (put (put (T0) 66 (V.int .i64 (i : Nat))) 65 (V.int .i64 m.pend.length)) 5 (ePds m.pend)) 1 (V.ptr idg 0) ∧ hh = h) (m.pend.length) ?_ ?_
        · skip
          refine Wk.mk (TLe.put (d := 1) (VLe.refl _) (TLe.put (d := 5) (VLe.refl _) (TLe.put (d := 65) (VLe.refl _) (TLe.put (d := 66) (by exact VLe.of_eq (congrArg (V.int .i64) (by first | rfl | omega))) (TLe.zero _))))) (HLe.refl _) ⟨0, Nat.zero_le _, rfl, rfl, rfl⟩
        · skip
          rintro n T h' ⟨i, hi, rfl, rfl, rfl⟩
          refine .seq <|
            .region <|
            .ql rfl rfl rfl <|
            .nil <|
            .seq ?_
          refine AW.cond rfl (fun c3 => ?_) (fun c3 => ?_)
          · have hlt : i < m.pend.length := by have := of_decide_eq_true c3; omega
            refine AW.skip ?_
            refine .seq <|
              .block <|
              .seq <|
              .region <|
              .mI rfl rfl <|
              .aI rfl rfl <|
              .nil <|
              .seq ?_
            refine AW.draw [] [] [(0, true), (1, true), (2, true), (3, true), (4, true), (5, true), (6, true), (7, true), (8, true), (9, true), (10, true), (11, true)] mixed (by kernel_rfl) rfl (by kernel_rfl) ?_
            refine .q rfl rfl rfl rfl (q_mv rfl (rfl : _ = V.sl _ _ _ _)) ?_
            refine .q rfl rfl rfl rfl (q_mv rfl (rfl : _ = V.int _ _)) ?_
            refine .q rfl rfl rfl rfl (q_ia_s rfl underlying55 sizeOf77 rfl rfl (by omega) (by omega) (cPds_at hlt)) ?_
            refine .q rfl rfl rfl rfl (q_load_iW rfl isAgg77 sizeOf77 rfl (by rfl)) ?_
            refine .q rfl rfl rfl rfl (q_mv rfl (rfl : _ = V.ptr _ _)) ?_
            refine .q rfl rfl rfl rfl (q_nc rfl (rfl : _ = V.ptr _ _) rfl) ?_
            refine .q rfl rfl rfl rfl (q_fa_b rfl underlying70 rfl (by exact sizeOf68) (by decide) rfl (rfl : _ = 39)) ?_
            refine .q rfl rfl rfl rfl ((q_load_b1 rfl isAgg68 rfl (by exact hg) rfl).vle ap2.imm) ?_
            refine .q rfl rfl rfl rfl (q_mv rfl (rfl : _ = V.int _ _)) ?_
            refine .q rfl rfl rfl rfl (q_ia_s rfl underlying68 sizeOf78 rfl rfl (by omega) (by omega) (cPds_at hlt)) ?_
            refine .q rfl rfl rfl rfl (q_load_iW rfl isAgg78 sizeOf78 rfl (by rfl)) ?_
            refine .q rfl rfl rfl rfl (q_neI (EqI.struct isAgg77 underlying77 sizeOf77 (by kernel_rfl) isAgg3 underlying3 rfl (fun j hj => match j, hj with | 0, _ => ⟨rfl, rfl, by simp⟩ | 1, _ => ⟨rfl, rfl, by simp⟩ | 2, _ => ⟨rfl, rfl, by simp⟩)) isAgg77 sizeOf77 (by kernel_rfl) rfl (a := pdN (m.pend.getD i noPd)) (b := pdN (m.pend.getD i noPd)) rfl rfl rfl rfl) ?_
            refine AOrd.nil ?_
            refine AW.cond rfl (fun c4 => ?_) (fun c4 => ?_)
            · simp at c4
            · skip
              refine AW.skip ?_
              refine .region <|
                .ad rfl rfl rfl (by omega) <|
                .mI rfl rfl <|
                .nil ?_
              refine Wk.mk (TLe.put (d := 1) (VLe.refl _) (TLe.put (d := 5) (VLe.refl _) (TLe.put (d := 65) (VLe.refl _) (TLe.put (d := 66) (by exact VLe.of_eq (congrArg (V.int .i64) (by first | rfl | omega))) (TLe.zero _))))) (HLe.refl _) ⟨_, ?_, i + 1, ?_, rfl, rfl, rfl⟩
              · omega
              · omega
          · obtain rfl : i = m.pend.length := by have := of_decide_eq_false c3; omega
            refine AW.exit ?_
            refine .seq <|
              .region <|
              .aB rfl rfl <|
              .nil ?_
            refine AW.ret ?_
            exact retQ.mk' (.one _) (VLe.of_eq (congrArg V.bool (rfl))) (HLe.refl _) ⟨rfl, rfl⟩

end Go.Proofs.YtnbmcbkokaoapaaGreatDoor
/- Walks: the rounds of any state, beside the document's. -/
namespace Go.Proofs.YtnbmcbkokaoapaaGreatDoor
open Go Go.AV Go.Proofs.Tryz
set_option maxRecDepth 100000
set_option maxHeartbeats 1000000

theorem checkRuns_calls (s : St) (fuel : Int) (hf : Few s) (h : Hp) : ACalls prog G 6 [eState s, .int .i64 fuel] h fun r h' => r = .bool true ∧ h' = h := by
  refine ACalls.enter func6 rfl ntmps6 results6 rfl ?_
  refine .seq <|
    .region <|
    .bx rfl rfl <|
    .aB rfl rfl <|
    .nil <|
    .seq <|
    .seq <|
    .region ?_
  refine .u rfl rfl rfl (QOp.call rfl call7 fun h' hl' => by exact alive_calls h') ?_
  refine .nt rfl rfl <|
    .nil ?_
  refine AW.cond rfl (fun c0 => ?_) (fun c0 => ?_)
  · cases c0
  · skip
    refine AW.skip ?_
    refine .seq <|
      .seq <|
      .region <|
      .lw rfl isAgg29 sizeOf29 rfl rfl ?_
    refine .u rfl rfl rfl (QOp.call rfl call8 fun h' hl' => by exact long_calls s 40 (by decide) h') ?_
    refine .nil ?_
    refine AW.cond rfl (fun c1 => ?_) (fun c1 => ?_)
    · skip
      refine .seq <|
        .region <|
        .aB rfl rfl <|
        .nil ?_
      refine AW.ret ?_
      exact retQ.mk' (.one _) (VLe.refl _) (HLe.refl _) ⟨rfl, rfl⟩
    · have hb := long_hb hf c1
      refine AW.skip ?_
      refine .seq ?_
      refine AW.draw [1, 3] [0, 2] [(0, true), (2, true), (1, false), (3, false), (4, true), (5, true)] mixed (by kernel_rfl) rfl (by kernel_rfl) ?_
      refine .p rfl rfl rfl (fun _ => q_load_iW rfl isAgg29 sizeOf29 rfl (by rfl)) ?_
      refine .p rfl rfl rfl (fun _ => q_load_iW rfl isAgg29 sizeOf29 rfl (by rfl)) ?_
      refine AOrd.s rfl rfl rfl rfl ((AStep.call rfl (by exact call10) (new_nil s hb.1 hb.2 _)).mono ?_)
      rintro x1 h1 ⟨idm, rfl, hem⟩
      refine AOrd.s rfl rfl rfl rfl ((AStep.call rfl (by exact call22) (rnew_nil s hf hb.1 hb.2 _)).mono ?_)
      rintro x2 h2 ⟨idg, rfl, hga⟩
      refine .q rfl rfl rfl rfl (q_as rfl (rfl : _ = V.ptr _ _)) ?_
      refine .q rfl rfl rfl rfl (q_as rfl (rfl : _ = V.ptr _ _)) ?_
      refine AOrd.nil ?_
      refine .seq <|
        .region <|
        .mP rfl rfl <|
        .mI rfl rfl ?_
      obtain ⟨h3, hga3, hem3⟩ := em_ga hem hga
      refine AOps.s rfl rfl rfl ((AStep.call rfl (by exact call11) (run_calls fuel hem3 (new_p hf))).mono ?_)
      rintro x4 h4 ⟨m2, n2, hr, hP2, rfl, hem4⟩
      obtain ⟨h5, hem5, hga5⟩ := ga_em hga3 hem4
      refine .mP rfl rfl <|
        .mI rfl rfl ?_
      refine AOps.s rfl rfl rfl ((AStep.call rfl (by exact call23) (rrun_calls fuel hga5 (new_p hf))).mono ?_)
      rintro x6 h6 ⟨m3, n3, hr3, hP3, rfl, hga6⟩
      obtain ⟨rfl, rfl⟩ := runs_det hr hr3
      have hle6 := hga6.le
      have hle5 := hem5.le
      obtain ⟨ve, vp, hrm, rfl⟩ := hem5
      obtain ⟨g, hM, hGI, hSm, hpe, ue, up, hrg, rfl⟩ := hga6
      have hbm := hle6.box _ _ (Hp.box_setBox _ _ _)
      have hpm : m2.pend.length ≤ 1000000 := by have := hP2.pend; have := hP2.inv.evs; omega
      refine .qe rfl rfl rfl <|
        .mB rfl rfl ?_
      refine .gt rfl rfl rfl (fun _ => tl0) (fun hc => q_mv rfl (rfl : _ = V.ptr _ _)) ?_
      refine .gt rfl rfl rfl (fun _ => tl0) (fun hc => q_mv rfl (rfl : _ = V.ptr _ _)) ?_
      refine .gt rfl rfl rfl (fun hc => tl2 24 23 (.opt hc) (.opt hc)) (fun hc => QOp.call rfl (by exact call24) fun h' hl' => by exact is_calls (hl'.box _ _ hbm) (hl'.box _ _ (Hp.box_setBox _ _ _)) hrm.ae hrm.ap hrg.ae hrg.ap hM hP2.inv hpm) ?_
      refine .pt rfl rfl rfl rfl <|
        .aB rfl rfl <|
        .nil ?_
      refine AW.ret ?_
      exact retQ.mk' (.one _) (VLe.of_eq (congrArg V.bool (by simp))) (hle6.trans hle5) ⟨rfl, rfl⟩

end Go.Proofs.YtnbmcbkokaoapaaGreatDoor
/- The statement on CheckRuns: the rounds of any state, with any fuel. -/
namespace Go.Proofs.YtnbmcbkokaoapaaGreatDoor.checkRuns
open Go Go.AV Go.Proofs.Tryz Go.ChangeShapes Go.WideShapes Go.ChangeAt Go.RowKit
set_option maxRecDepth 100000
/-- What the walk gives, for every argument and every world that holds the variables. -/
theorem contract (H : Type) (enc : TypeId × Value → H) (W : World) (base : Nat) (args : Array Value) (ds gs : List (DataW H)) (before : List MemPlace)
    (hval : ∀ (j : Nat) t v, f6.params[j]? = some t → args[j]? = some v → Value.okWide prog W .any base t v)
    (hW : DataW.Whole enc prog f6.params.toList Rows.checkRunsSpec.vars false W args.toList ds gs before) (hL : laidMetH prog Rows.checkRunsRow.laid W) :
    Calls prog 6 args W fun e W' => ∃ v, e = .returned v ∧ Rows.checkRunsSpec.post enc prog f6 false true false false W args v W' := by
  have hW' := hW
  obtain ⟨p, q, hA0, hV, rfl, hfz, hnd⟩ := hW
  have hA : DataW.TrodAll enc prog W 0 (fun _ => true) true f6.params.toList args.toList ds p := hA0
  rw [params6] at hA hval
  obtain ⟨v0, v1, d0, d1, p0, p1, rfl, rfl, rfl, h0, h1⟩ := trodAll_two hA
  obtain ⟨rfl, rfl⟩ := trodVars_none hV
  clear hA0
  have hlt0 : ∀ x ∈ p0, x.block < W.heap.size := fun x hx => by simpa using hW'.lt x (by simp [hx])
  obtain ⟨s0, f0, hr0⟩ := open_state (hval 0 29 v0 rfl rfl) h0
  obtain ⟨n1, rfl, rfl, rfl, hwf1⟩ := open_int underlying3 (hval 1 3 v1 rfl rfl) h1
  have k := checkRuns_calls s0 n1 f0 H0
  refine (calls_below (args := #[v0, .int .i64 n1]) k (vars_ok hL) (fun j => match j with | 0 => hr0 | 1 => .int _ _ | _ + 2 => .junk _) rfl).mono fun e W' ⟨v, r, E, h', he, ⟨hr', _⟩, hrep, hb⟩ => ?_
  subst hr'
  cases hrep
  subst he
  refine ⟨_, rfl, _, _, _, [], p0 ++ [], [], hW', ?_, ?_, rfl, hb.frame _, fun h => by cases h⟩
  · exact trodAll_mk1 (shut_bool underlying4 true)
  · exact trodAll_mk2 (Below.trod laidOut (by kernel_rfl) (of_decide_eq_true (by kernel_rfl)) h0 hb hlt0) (shut_int underlying3 hwf1)
theorem laid_met (os : Os) : laidMet prog Rows.checkRunsRow.laid ((laidWorld os).forCall (fun _ _ => 0) ⟨#[], #[state0, .int .i64 0], []⟩).memory :=
  laidMet_of_run' 8 (by kernel_rfl) (by kernel_rfl)
theorem reads (os : Os) {H : Type} (enc : TypeId × Value → H) : ∃ places, DataW.whole enc prog ((laidWorld os).forCall (fun _ _ => 0) ⟨#[], #[state0, .int .i64 0], []⟩).memory f6.params.toList Rows.checkRunsSpec.vars false #[state0, .int .i64 0].toList 8 = some ([state0D, .lit (.int .i64 0)], [], places) :=
  ⟨[], by kernel_rfl⟩
theorem lifted (os : Os) (started : os.Started) (H : Type) (enc : TypeId × Value → H) (F : Stop.Interp) :
    ReturnsInHanded {} checked os 6 .any ((OpenSpec.ofChange Rows.checkRunsSpec).preRow enc prog f6 Rows.checkRunsRow.domain false Rows.checkRunsRow.laid) (((OpenSpec.ofChange Rows.checkRunsSpec).at F).post enc prog f6 false true false false) := by
  obtain ⟨places, hx⟩ := reads os enc
  refine returnsInHanded_of_row (C := checked) (s := OpenSpec.ofChange Rows.checkRunsSpec) own started (by kernel_rfl) func6
    (witness_row_at (enc := enc) (C := checked) false (laidWorld os) #[state0, .int .i64 0] rfl (by kernel_rfl) (by kernel_rfl) (by kernel_rfl)
      (OpenSpec.preRow_of_cond 8 hx (by kernel_rfl) (fun k hk => by cases hk) (by kernel_rfl) (laid_met os))) ?_
  intro W base args ds gs before hval hW _ _ _ hL _ _
  exact contract H enc W base args ds gs before hval hW hL
theorem said : Rows.CheckRunsSaid :=
  OpenClaim.holds_of_cond 6 f6 rfl rfl rfl rfl rfl rfl rfl ⟨rfl, rfl, rfl, rfl, rfl⟩ rfl rfl rfl rfl rfl (by kernel_rfl) func6 (by kernel_rfl)
    (of_decide_eq_true (by kernel_rfl)) (by unfold Func.isWrapper; first | (rw [if_pos (by decide +kernel)]; kernel_rfl) | (rw [if_neg (by decide +kernel)]; exact ⟨rfl, rfl⟩))
    (fun os started H enc _ F => by rw [OpenClaim.pre_eq_preRow]; exact lifted os started H enc F)
theorem plain (f : FuncId) (fn : Func) (hf : Tryz.pinned.checked.prog.funcNamed "mulligan/mulliganlaw20.CheckRuns" = some f) (hfn : Tryz.pinned.checked.prog.funcs[f]? = some fn) :
    true = Tryz.pinned.checked.prog.looks [] ∧ ∀ (j : Nat) t, fn.params[j]? = some t → Tryz.pinned.checked.prog.wantsStandIn t = false := by
  obtain rfl : f = 6 := Option.some.inj ((show prog.funcNamed "mulligan/mulliganlaw20.CheckRuns" = some 6 by kernel_rfl).symm.trans hf) |>.symm
  obtain rfl : fn = f6 := (Option.some.inj (func6.symm.trans hfn)).symm
  refine ⟨by kernel_rfl, fun j t ht => ?_⟩
  rw [params6] at ht
  match j, ht with
  | 0, ht => obtain rfl : 29 = t := Option.some.inj ht; exact (show prog.wantsStandIn 29 = false by kernel_rfl)
  | 1, ht => obtain rfl : 3 = t := Option.some.inj ht; exact (show prog.wantsStandIn 3 = false by kernel_rfl)
  | _ + 2, ht => cases ht
/-- The card. -/
theorem card : Rows.CheckRunsCardSaid :=
  Claim7.holds_tied_plain_at .later [] _ _ _ _ said (fun _ h => by cases h) (by kernel_rfl) (fun _ h => by cases h) checkRuns_row_tie rfl ⟨rfl, rfl⟩ (by kernel_rfl) rfl plain (by kernel_rfl)
end Go.Proofs.YtnbmcbkokaoapaaGreatDoor.checkRuns
