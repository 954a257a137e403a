/- Walks: putting an object somewhere. -/
import Derived.Test.YtnbmcbkokaoapaaGreatDoorAwait
namespace Go.Proofs.YtnbmcbkokaoapaaGreatDoor
open Go Go.AV
set_option maxRecDepth 100000
set_option maxHeartbeats 1000000
theorem set_inv {m : Em} {e : Ev} {was n : Int} (hk : e.k ≠ 0) (h : EmI m) : EmI (m.set e was n) := by
  unfold Em.set; split
  · exact fail_inv h
  · exact doL_inv (by simpa using hk) h
theorem setF_inv {m : Em} {i f n : Int} (h : EmI m) : EmI (m.setF i f n) := by
  unfold Em.setF; split
  · exact h
  · split
    · exact doL_inv (by simp) h
    · exact set_inv (by simp) h
theorem gameF_inv {m : Em} {f n : Int} (h : EmI m) : EmI (m.gameF f n) := by
  unfold Em.gameF; split
  · exact h
  · split
    · exact doL_inv (by simp) h
    · exact set_inv (by simp) h
theorem showF_inv {m : Em} {i p : Int} (h : EmI m) : EmI (m.showF i p) := by
  unfold Em.showF; split
  · exact doL_inv (fun x hx => (turnF_k.1 x hx).1) h
  · exact h
/-- What stays as it is, whatever is set: how many objects there are; what is pending. -/
structure Same (m n : Em) : Prop where
  len : n.now.objs.length = m.now.objs.length
  pend : n.pend = m.pend
  draws : n.draws = m.draws
  evs : m.evs.length ≤ n.evs.length
  err : n.err = 0 → m.err = 0
theorem Same.rfl' {m : Em} : Same m m := ⟨rfl, rfl, rfl, Nat.le_refl _, id⟩
theorem Same.trans {a b c : Em} (h : Same a b) (g : Same b c) : Same a c := ⟨g.len.trans h.len, g.pend.trans h.pend, g.draws.trans h.draws, Nat.le_trans h.evs g.evs, fun e => h.err (g.err e)⟩
theorem moveF_len {s : St} {x : Ev} : (moveF s x).1.objs.length = s.objs.length := by
  by_cases h0 : (s.objs.length : Int) ≤ x.a
  · rw [moveF, if_pos h0]
  · cases h1 : (bif (removeF (s.lists x.b.toNat) x.c).2.2 != 0 then true else (removeF (s.lists x.b.toNat) x.c).2.1 != x.a) with
    | true => rw [move_bad h0 h1]
    | false =>
      by_cases h2 : (insertF (if x.d = x.b then (removeF (s.lists x.b.toNat) x.c).1 else s.lists x.d.toNat) x.e x.a).2 = 0
      · rw [move_ok h0 h1 rfl h2]; simp
      · rw [move_err h0 h1 rfl h2]
theorem evDo_len {s : St} {x : Ev} (hk : x.k ≠ 0) : (evDo s x).1.objs.length = s.objs.length := by
  by_cases hc : evCheck x = 0
  · rw [evDo, if_neg (by simpa using hc), if_neg hk]
    split
    · exact moveF_len
    · split
      · split
        · rfl
        · split
          · rfl
          · simp
      · split
        · split
          · rfl
          · rfl
        · split
          · rfl
          · rfl
  · rw [do_bad hc]
theorem do1_same {m : Em} {x : Ev} (hk : x.k ≠ 0) : Same m (m.do1 x) := by
  unfold Em.do1; split
  · exact .rfl'
  · rename_i h0
    have h0 : m.err = 0 := by simpa using h0
    split
    · exact ⟨evDo_len hk, rfl, rfl, Nat.le_refl _, fun _ => h0⟩
    · split
      · exact ⟨evDo_len hk, rfl, rfl, by simp, fun _ => h0⟩
      · exact ⟨evDo_len hk, rfl, rfl, Nat.le_refl _, fun _ => h0⟩
theorem do1_more {m : Em} {x : Ev} (h : (m.do1 x).err = 0) : (m.do1 x).evs.length = m.evs.length + 1 := by
  unfold Em.do1 at *
  split at h
  · rename_i h0; exact absurd h h0
  · rename_i h0; rw [if_neg h0]
    split at h
    · rename_i h1; exact absurd h h1
    · rename_i h1; rw [if_neg h1]
      split at h
      · rename_i h2; rw [if_pos h2]; simp
      · cases h
theorem doL_more {m : Em} {x : Ev} (h : (m.doL [x]).err = 0) : (m.doL [x]).evs.length = m.evs.length + 1 := do1_more h
theorem doL_same {m : Em} {l : List Ev} (hk : ∀ x ∈ l, x.k ≠ 0) : Same m (m.doL l) := by
  induction l generalizing m with
  | nil => exact .rfl'
  | cons x l ih => exact (do1_same (hk x (by simp))).trans (ih (m := m.do1 x) fun y hy => hk y (by simp [hy]))
theorem fail_same {m : Em} {e : Int} : Same m (m.fail e) := by
  unfold Em.fail; split
  · rename_i h; exact ⟨rfl, rfl, rfl, Nat.le_refl _, fun _ => h⟩
  · exact .rfl'
theorem set_same {m : Em} {e : Ev} {was n : Int} (hk : e.k ≠ 0) : Same m (m.set e was n) := by
  unfold Em.set; split
  · exact fail_same
  · exact doL_same (by simpa using hk)
theorem setF_same {m : Em} {i f n : Int} : Same m (m.setF i f n) := by
  unfold Em.setF; split
  · exact .rfl'
  · split
    · exact doL_same (by simp)
    · exact set_same (by simp)
theorem showF_same {m : Em} {i p : Int} : Same m (m.showF i p) := by
  unfold Em.showF; split
  · exact doL_same fun x hx => (turnF_k.1 x hx).1
  · exact .rfl'
def restL : List Int := [4, 5, 6, 7, 8, 9, 10, 11, 12]
def Em.restF (m : Em) (i : Int) (l : List Int) : Em := l.foldl (fun m f => m.setF i f 0) m
theorem restF_inv {m : Em} {i : Int} {l : List Int} (h : EmI m) : EmI (m.restF i l) := by
  induction l generalizing m with
  | nil => exact h
  | cons f l ih => exact ih (m := m.setF i f 0) (setF_inv h)
theorem restF_same {m : Em} {i : Int} {l : List Int} : Same m (m.restF i l) := by
  induction l generalizing m with
  | nil => exact .rfl'
  | cons f l ih => exact setF_same.trans (ih (m := m.setF i f 0))
theorem restF_next {m : Em} {i : Int} {k : Nat} (h : k < 9) : m.restF i (restL.take (k + 1)) = (m.restF i (restL.take k)).setF i (restL.getD k 0) 0 := by
  have hk : k < restL.length := h
  rw [Em.restF, Em.restF, List.take_add_one, List.getElem?_eq_getElem hk, getD_of hk, List.foldl_append]; rfl
def putEv (s : St) (i base : Int) : Ev :=
  let o := s.objs.getD i.toNat noObj
  let to := homeF o base
  ⟨1, i, o 3, idxF (s.lists (o 3).toNat) i, to, if o 3 = to then (s.lists to.toNat).length - 1 else (s.lists to.toNat).length⟩
/-- The middle of putting: where an object came from, what it was, where it goes to. -/
def Em.put2 (m : Em) (i to : Int) : Em := if to ≠ 8 then m.restF i restL else m
def Em.put3 (m : Em) (i to own : Int) : Em := if to < 8 then m.setF i 2 own else m
def Em.put4 (m : Em) (i to : Int) : Em := if to ≠ 9 then m.setF i 16 0 else m
def Em.put5 (m : Em) (i fr to : Int) : Em := if to = 8 ∧ fr ≠ to then m.setF i 5 1 else m
def Em.put7 (m : Em) (i fr to base ctl : Int) : Em :=
  if m.err ≠ 0 then m
  else if to = 8 ∧ fr ≠ to then m.awaitF i 2 (m.now.objs.getD i.toNat noObj 2)
  else if fr = 8 ∧ base = 4 then m.awaitF i 3 ctl
  else m
def Em.put6 (m : Em) (i base : Int) (o : Obj) : Em := ((((m.put2 i (homeF o base)).put3 i (homeF o base) (o 1)).put4 i (homeF o base)).put5 i (o 3) (homeF o base)).showF i (knowZoneF (homeF o base))
def Em.putF (m : Em) (i base : Int) : Em :=
  if m.err ≠ 0 then m
  else if inN i m.now.objs.length = false then m.fail 4
  else if basesF base = false then m.fail 12
  else
    let o := m.now.objs.getD i.toNat noObj
    ((m.doL [putEv m.now i base]).put6 i base o).put7 i (o 3) (homeF o base) base (o 2)
theorem put2_inv {m : Em} {i to : Int} (h : EmI m) : EmI (m.put2 i to) := by unfold Em.put2; split <;> first | exact h | exact restF_inv h
theorem put3_inv {m : Em} {i to o : Int} (h : EmI m) : EmI (m.put3 i to o) := by unfold Em.put3; split <;> first | exact h | exact setF_inv h
theorem put4_inv {m : Em} {i to : Int} (h : EmI m) : EmI (m.put4 i to) := by unfold Em.put4; split <;> first | exact h | exact setF_inv h
theorem put5_inv {m : Em} {i fr to : Int} (h : EmI m) : EmI (m.put5 i fr to) := by unfold Em.put5; split <;> first | exact h | exact setF_inv h
theorem put2_same {m : Em} {i to : Int} : Same m (m.put2 i to) := by unfold Em.put2; split <;> first | exact .rfl' | exact restF_same
theorem put3_same {m : Em} {i to o : Int} : Same m (m.put3 i to o) := by unfold Em.put3; split <;> first | exact .rfl' | exact setF_same
theorem put4_same {m : Em} {i to : Int} : Same m (m.put4 i to) := by unfold Em.put4; split <;> first | exact .rfl' | exact setF_same
theorem put5_same {m : Em} {i fr to : Int} : Same m (m.put5 i fr to) := by unfold Em.put5; split <;> first | exact .rfl' | exact setF_same
theorem must_fail {m : Em} {b : Bool} {e : Int} (h : m.err = 0) (hb : b = false) : m.must b e = m.fail e := by unfold Em.must Em.fail; rw [if_pos ⟨h, hb⟩, if_pos h]
theorem setBox_self {h : Hp} {id : Nat} {cs : List V} (hb : h.box id = some cs) : h.setBox id cs = h := by
  cases h with
  | mk b t =>
    simp only [Hp.setBox, Hp.mk.injEq, and_true] at *
    funext j
    by_cases e : j = id
    · subst e; simpa using hb.symm
    · simp [e]
theorem must_quiet {m : Em} {ve vp : V} {id : Nat} {h : Hp} (hb : h.box id = some (emCells m ve vp)) (hz : m.err = 0) {ok : Bool} (hok : ok = true) {e : Int} (he : e ≠ 0) : ACalls Tryz.prog G 82 [.ptr id 0, .bool ok, .int .i64 e] h fun r h' => r = .bool true ∧ h' = h := by
  subst hok
  have e1 : h = h.setBox id (emCells m ve vp) := (setBox_self hb).symm
  have e2 : m.must true e = m := by unfold Em.must; rw [if_neg (by simp)]
  have := must_calls m ve vp true e he id h
  rw [e2, ← e1, hz] at this
  exact this
theorem put_cases (m : Em) (i base : Int) : m.err ≠ 0 ∨ (m.err = 0 ∧ inN i m.now.objs.length = false) ∨ (m.err = 0 ∧ inN i m.now.objs.length = true ∧ basesF base = false) ∨ (m.err = 0 ∧ inN i m.now.objs.length = true ∧ basesF base = true) := by
  by_cases h : m.err = 0
  · cases inN i m.now.objs.length <;> cases basesF base <;> simp [h]
  · exact .inl h
theorem inN_pick {i n : Int} {b : Bool} (h : inN i n = b) : (bif decide (0 ≤ i) then decide (i < n) else false) = b := by
  subst h; simp only [inN]; cases decide (0 ≤ i) <;> simp
theorem rest_ix {k : Nat} (h : k < 9) : ([.int .i64 4, .int .i64 5, .int .i64 6, .int .i64 7, .int .i64 8, .int .i64 9, .int .i64 10, .int .i64 11, .int .i64 12] : List V)[(k : Int).toNat * 1]? = some (.int .i64 (restL.getD k 0)) := by
  rw [Int.toNat_natCast, Nat.mul_one]
  match k, h with
  | 0, _ | 1, _ | 2, _ | 3, _ | 4, _ | 5, _ | 6, _ | 7, _ | 8, _ => rfl
theorem home_in {o : Obj} {b : Int} (h : basesF b = true) : 0 ≤ homeF o b ∧ homeF o b ≤ 10 := by
  simp only [basesF, homeF, zoneF, Bool.or_eq_true, beq_iff_eq, decide_eq_true_eq] at *
  grind

theorem putF_calls (i base : Int) {h0 : Hp} {id : Nat} {m : Em} {h : Hp} (he : EmAt h0 id m h) (hI : EmI m) (hp : m.pend.length ≤ 1000000) : ACalls Tryz.prog G 59 [.ptr id 0, .int .i64 i, .int .i64 base] h fun r h' => r = .tup [] ∧ EmAt h0 id (m.putF i base) h' := by
  obtain ⟨ve, vp, hr, rfl⟩ := he
  refine ACalls.enter Tryz.func59 rfl Tryz.ntmps59 Tryz.results59 rfl ?_
  refine AW.seq ?_
  refine AW.cut (fun T h1 => ∃ b, T = put (put (put (put T0 0 (V.ptr id 0)) 1 (V.int .i64 i)) 2 (V.int .i64 base)) 38 (V.bool b) ∧ ((b = true ∧ EmAt h0 id (m.putF i base) h1) ∨ (b = false ∧ h1 = (addTok ve (addTok vp h0)).setBox id (emCells m ve vp) ∧ m.err = 0 ∧ (0 ≤ i ∧ i < m.now.objs.length) ∧ basesF base = true))) ?_ ?_
  · skip
    have hbx : ((addTok ve (addTok vp h0)).setBox id (emCells m ve vp)).box id = some (emCells m ve vp) := Hp.box_setBox _ _ _
    rcases put_cases m i base with hz | ⟨hz, hi⟩ | ⟨hz, hi, hb⟩ | ⟨hz, hi, hb⟩
    · skip
      refine AW.region ?_
      refine AOps.q rfl rfl rfl (q_mv rfl (rfl : _ = V.ptr _ _)) ?_
      refine AOps.q rfl rfl rfl (QOp.call rfl (by exact Tryz.call13) fun h' hl' => by exact err_calls (hl'.box _ _ hbx)) ?_
      refine AOps.q rfl rfl rfl (q_neerr Tryz.underlying38 rfl rfl) ?_
      refine AOps.q rfl rfl rfl (q_mv rfl (rfl : _ = V.bool _)) ?_
      refine AOps.g (wanted_f rfl rfl) rfl rfl (fun hc => TLe.refl _) (fun hc => q_mv rfl (rfl : _ = V.ptr _ _)) ?_
      refine AOps.g (wanted_f rfl rfl) rfl rfl (fun hc => TLe.refl _) (fun hc => q_mv rfl (rfl : _ = V.int _ _)) ?_
      refine AOps.g (wanted_f rfl rfl) rfl rfl (fun hc => TLe.put (d := 17) (VLe.opt hc) (TLe.refl _)) (fun hc => q_ge rfl rfl rfl) ?_
      refine AOps.g (wanted_f rfl rfl) rfl rfl (fun hc => TLe.put (d := 18) (VLe.opt hc) (TLe.refl _)) (fun hc => q_mv rfl (rfl : _ = V.bool _)) ?_
      refine AOps.g (wanted_to rfl rfl) rfl rfl (fun hc => TLe.refl _) (fun hc => q_mv rfl (rfl : _ = V.int _ _)) ?_
      refine AOps.g (wanted_to rfl rfl) rfl rfl (fun hc => TLe.refl _) (fun hc => q_mv rfl (rfl : _ = V.ptr _ _)) ?_
      refine AOps.g (wanted_to rfl rfl) rfl rfl (fun hc => TLe.put (d := 21) (VLe.opt hc) (TLe.refl _)) (fun hc => q_nc rfl (rfl : _ = V.ptr _ _) rfl) ?_
      refine AOps.g (wanted_to rfl rfl) rfl rfl (fun hc => TLe.put (d := 22) (VLe.opt hc) (TLe.refl _)) (fun hc => q_fa_b rfl Tryz.underlying57 rfl (by exact Tryz.sizeOf29) (by decide) rfl (rfl : _ = 0)) ?_
      refine AOps.g (wanted_to rfl rfl) rfl rfl (fun hc => TLe.put (d := 23) (VLe.opt hc) (TLe.refl _)) (fun hc => q_fa_b rfl Tryz.underlying29 rfl (by exact Tryz.sizeOf22) (by decide) rfl (rfl : _ = 0)) ?_
      refine AOps.g (wanted_to rfl rfl) rfl rfl (fun hc => TLe.put (d := 24) (VLe.opt hc) (TLe.refl _)) (fun hc => q_load_b1 rfl Tryz.isAgg22 rfl (by exact Hp.box_setBox _ _ _) rfl) ?_
      refine AOps.g (wanted_to rfl rfl) rfl rfl (fun hc => TLe.put (d := 25) (VLe.opt hc) (TLe.refl _)) (fun hc => q_len rfl Tryz.underlying22 rfl) ?_
      refine AOps.g (wanted_to rfl rfl) rfl rfl (fun hc => TLe.put (d := 26) (VLe.opt hc) (TLe.put (d := 20) (VLe.opt hc) (TLe.refl _))) (fun hc => q_lt rfl rfl rfl) ?_
      refine AOps.g (wanted_f rfl rfl) rfl rfl (fun hc => TLe.put (d := 19) (VLe.opt hc) (TLe.refl _)) (fun hc => q_pickg rfl rfl (fun hp => by first | exact VLe.opt hp | exact VLe.opt (by rw [hp]; rfl) | exact VLe.opt (by simp_all)) (fun hp => by exact VLe.refl _)) ?_
      refine AOps.g (wanted_f rfl rfl) rfl rfl (fun hc => TLe.put (d := 28) (VLe.opt hc) (TLe.put (d := 16) (VLe.opt hc) (TLe.refl _))) (fun hc => (absurd hc (by simp [hz]) : QOp _ _ _ _ _ (V.bool false))) ?_
      refine AOps.g (wanted_f rfl rfl) rfl rfl (fun hc => TLe.put (d := 29) (VLe.opt hc) (TLe.refl _)) (fun hc => q_not rfl rfl) ?_
      refine AOps.q rfl rfl rfl (q_pickg rfl rfl (fun hp => by exact VLe.refl _) (fun hp => by first | exact VLe.opt hp | exact VLe.opt (by rw [hp]; rfl) | exact VLe.opt (by simp_all))) ?_
      refine AOps.q rfl rfl rfl (q_mv rfl (rfl : _ = V.bool _)) ?_
      refine AOps.g (wanted_f rfl rfl) rfl rfl (fun hc => TLe.refl _) (fun hc => q_mv rfl (rfl : _ = V.ptr _ _)) ?_
      refine AOps.g (wanted_f rfl rfl) rfl rfl (fun hc => TLe.refl _) (fun hc => q_mv rfl (rfl : _ = V.int _ _)) ?_
      refine AOps.g (wanted_f rfl rfl) rfl rfl (fun hc => TLe.put (d := 34) (VLe.opt hc) (TLe.refl _)) (fun hc => QOp.call rfl (by exact Tryz.call83) fun h' hl' => by exact bases_calls _ h') ?_
      refine AOps.g (wanted_f rfl rfl) rfl rfl (fun hc => TLe.put (d := 35) (VLe.opt hc) (TLe.put (d := 33) (VLe.opt hc) (TLe.refl _))) (fun hc => (absurd hc (by simp [hz]) : QOp _ _ _ _ _ (V.bool false))) ?_
      refine AOps.g (wanted_f rfl rfl) rfl rfl (fun hc => TLe.put (d := 36) (VLe.opt hc) (TLe.refl _)) (fun hc => q_not rfl rfl) ?_
      refine AOps.q rfl rfl rfl (q_pickg rfl rfl (fun hp => by exact VLe.refl _) (fun hp => by first | exact VLe.opt hp | exact VLe.opt (by rw [hp]; rfl) | exact VLe.opt (by simp_all))) ?_
      refine AOps.nil ?_
      exact Wk.mk (TLe.put (d := 38) (VLe.of_eq (congrArg V.bool (by simp [hz]))) (TLe.put (d := 2) (VLe.refl _) (TLe.put (d := 1) (VLe.refl _) (TLe.put (d := 0) (VLe.refl _) (TLe.zero _))))) (HLe.refl _) ⟨true, rfl, .inl ⟨rfl, by rw [Em.putF, if_pos hz]; exact ⟨ve, vp, hr, rfl⟩⟩⟩
    · skip
      have hA : (!(m.err != 0)) = true := by simp [hz]
      have hok := inN_pick hi
      refine AW.region ?_
      refine AOps.q rfl rfl rfl (q_mv rfl (rfl : _ = V.ptr _ _)) ?_
      refine AOps.q rfl rfl rfl (QOp.call rfl (by exact Tryz.call13) fun h' hl' => by exact err_calls (hl'.box _ _ hbx)) ?_
      refine AOps.q rfl rfl rfl (q_neerr Tryz.underlying38 rfl rfl) ?_
      refine AOps.q rfl rfl rfl (q_mv rfl (rfl : _ = V.bool _)) ?_
      refine AOps.g (wanted_f rfl rfl) rfl rfl (fun hc => TLe.refl _) (fun hc => q_mv rfl (rfl : _ = V.ptr _ _)) ?_
      refine AOps.g (wanted_f rfl rfl) rfl rfl (fun hc => TLe.refl _) (fun hc => q_mv rfl (rfl : _ = V.int _ _)) ?_
      refine AOps.g (wanted_f rfl rfl) rfl rfl (fun hc => TLe.put (d := 17) (VLe.opt hc) (TLe.refl _)) (fun hc => q_ge rfl rfl rfl) ?_
      refine AOps.g (wanted_f rfl rfl) rfl rfl (fun hc => TLe.put (d := 18) (VLe.opt hc) (TLe.refl _)) (fun hc => q_mv rfl (rfl : _ = V.bool _)) ?_
      refine AOps.g (wanted_to rfl rfl) rfl rfl (fun hc => TLe.refl _) (fun hc => q_mv rfl (rfl : _ = V.int _ _)) ?_
      refine AOps.g (wanted_to rfl rfl) rfl rfl (fun hc => TLe.refl _) (fun hc => q_mv rfl (rfl : _ = V.ptr _ _)) ?_
      refine AOps.g (wanted_to rfl rfl) rfl rfl (fun hc => TLe.put (d := 21) (VLe.opt hc) (TLe.refl _)) (fun hc => q_nc rfl (rfl : _ = V.ptr _ _) rfl) ?_
      refine AOps.g (wanted_to rfl rfl) rfl rfl (fun hc => TLe.put (d := 22) (VLe.opt hc) (TLe.refl _)) (fun hc => q_fa_b rfl Tryz.underlying57 rfl (by exact Tryz.sizeOf29) (by decide) rfl (rfl : _ = 0)) ?_
      refine AOps.g (wanted_to rfl rfl) rfl rfl (fun hc => TLe.put (d := 23) (VLe.opt hc) (TLe.refl _)) (fun hc => q_fa_b rfl Tryz.underlying29 rfl (by exact Tryz.sizeOf22) (by decide) rfl (rfl : _ = 0)) ?_
      refine AOps.g (wanted_to rfl rfl) rfl rfl (fun hc => TLe.put (d := 24) (VLe.opt hc) (TLe.refl _)) (fun hc => q_load_b1 rfl Tryz.isAgg22 rfl (by exact Hp.box_setBox _ _ _) rfl) ?_
      refine AOps.g (wanted_to rfl rfl) rfl rfl (fun hc => TLe.put (d := 25) (VLe.opt hc) (TLe.refl _)) (fun hc => q_len rfl Tryz.underlying22 rfl) ?_
      refine AOps.g (wanted_to rfl rfl) rfl rfl (fun hc => TLe.put (d := 26) (VLe.opt hc) (TLe.put (d := 20) (VLe.opt hc) (TLe.refl _))) (fun hc => q_lt rfl rfl rfl) ?_
      refine AOps.g (wanted_f rfl rfl) rfl rfl (fun hc => TLe.put (d := 19) (VLe.opt hc) (TLe.refl _)) (fun hc => q_pickg rfl rfl (fun hp => by first | exact VLe.opt hp | exact VLe.opt (by rw [hp]; rfl) | exact VLe.opt (by simp_all)) (fun hp => by exact VLe.refl _)) ?_
      refine AOps.gy (wanted_yes (wanted_f rfl rfl) hA) rfl rfl (AStep.le (ev_le (TLe.put (d := 16) (VLe.opt hA) (TLe.put (d := 28) (VLe.opt hA) (TLe.refl _)))) ((AStep.call rfl (by exact Tryz.call82) (must_calls m ve vp _ 4 (by decide) id _)).mono ?_))
      rintro x3 h3 ⟨rfl, rfl⟩
      refine AOps.g (wanted_f rfl rfl) rfl rfl (fun hc => TLe.refl _) (fun hc => q_not rfl rfl) ?_
      refine AOps.q rfl rfl rfl (q_pickg rfl rfl (fun hp => by exact VLe.refl _) (fun hp => by first | exact VLe.opt hp | exact VLe.opt (by rw [hp]; rfl) | exact VLe.opt (by simp_all))) ?_
      refine AOps.q rfl rfl rfl (q_mv rfl (rfl : _ = V.bool _)) ?_
      refine AOps.g (wanted_f rfl rfl) rfl rfl (fun hc => TLe.refl _) (fun hc => q_mv rfl (rfl : _ = V.ptr _ _)) ?_
      refine AOps.g (wanted_f rfl rfl) rfl rfl (fun hc => TLe.refl _) (fun hc => q_mv rfl (rfl : _ = V.int _ _)) ?_
      refine AOps.g (wanted_f rfl rfl) rfl rfl (fun hc => TLe.put (d := 34) (VLe.opt hc) (TLe.refl _)) (fun hc => QOp.call rfl (by exact Tryz.call83) fun h' hl' => by exact bases_calls _ h') ?_
      refine AOps.g (wanted_f rfl rfl) rfl rfl (fun hc => TLe.put (d := 35) (VLe.opt hc) (TLe.put (d := 33) (VLe.opt hc) (TLe.refl _))) (fun hc => (absurd hc (by simp [hz, hok]) : QOp _ _ _ _ _ (V.bool false))) ?_
      refine AOps.g (wanted_f rfl rfl) rfl rfl (fun hc => TLe.put (d := 36) (VLe.opt hc) (TLe.refl _)) (fun hc => q_not rfl rfl) ?_
      refine AOps.q rfl rfl rfl (q_pickg rfl rfl (fun hp => by exact VLe.refl _) (fun hp => by first | exact VLe.opt hp | exact VLe.opt (by rw [hp]; rfl) | exact VLe.opt (by simp_all))) ?_
      refine AOps.nil ?_
      exact Wk.mk (TLe.put (d := 38) (VLe.of_eq (congrArg V.bool (by simp [hz, hok]))) (TLe.put (d := 2) (VLe.refl _) (TLe.put (d := 1) (VLe.refl _) (TLe.put (d := 0) (VLe.refl _) (TLe.zero _))))) (HLe.refl _) ⟨true, rfl, .inl ⟨rfl, by rw [Em.putF, if_neg (by simpa using hz), if_pos hi, hok, must_fail hz rfl]; exact fail_at hr _⟩⟩
    · skip
      have hok := inN_pick hi
      refine AW.region ?_
      refine AOps.q rfl rfl rfl (q_mv rfl (rfl : _ = V.ptr _ _)) ?_
      refine AOps.q rfl rfl rfl (QOp.call rfl (by exact Tryz.call13) fun h' hl' => by exact err_calls (hl'.box _ _ hbx)) ?_
      refine AOps.q rfl rfl rfl (q_neerr Tryz.underlying38 rfl rfl) ?_
      refine AOps.q rfl rfl rfl (q_mv rfl (rfl : _ = V.bool _)) ?_
      refine AOps.g (wanted_f rfl rfl) rfl rfl (fun hc => TLe.refl _) (fun hc => q_mv rfl (rfl : _ = V.ptr _ _)) ?_
      refine AOps.g (wanted_f rfl rfl) rfl rfl (fun hc => TLe.refl _) (fun hc => q_mv rfl (rfl : _ = V.int _ _)) ?_
      refine AOps.g (wanted_f rfl rfl) rfl rfl (fun hc => TLe.put (d := 17) (VLe.opt hc) (TLe.refl _)) (fun hc => q_ge rfl rfl rfl) ?_
      refine AOps.g (wanted_f rfl rfl) rfl rfl (fun hc => TLe.put (d := 18) (VLe.opt hc) (TLe.refl _)) (fun hc => q_mv rfl (rfl : _ = V.bool _)) ?_
      refine AOps.g (wanted_to rfl rfl) rfl rfl (fun hc => TLe.refl _) (fun hc => q_mv rfl (rfl : _ = V.int _ _)) ?_
      refine AOps.g (wanted_to rfl rfl) rfl rfl (fun hc => TLe.refl _) (fun hc => q_mv rfl (rfl : _ = V.ptr _ _)) ?_
      refine AOps.g (wanted_to rfl rfl) rfl rfl (fun hc => TLe.put (d := 21) (VLe.opt hc) (TLe.refl _)) (fun hc => q_nc rfl (rfl : _ = V.ptr _ _) rfl) ?_
      refine AOps.g (wanted_to rfl rfl) rfl rfl (fun hc => TLe.put (d := 22) (VLe.opt hc) (TLe.refl _)) (fun hc => q_fa_b rfl Tryz.underlying57 rfl (by exact Tryz.sizeOf29) (by decide) rfl (rfl : _ = 0)) ?_
      refine AOps.g (wanted_to rfl rfl) rfl rfl (fun hc => TLe.put (d := 23) (VLe.opt hc) (TLe.refl _)) (fun hc => q_fa_b rfl Tryz.underlying29 rfl (by exact Tryz.sizeOf22) (by decide) rfl (rfl : _ = 0)) ?_
      refine AOps.g (wanted_to rfl rfl) rfl rfl (fun hc => TLe.put (d := 24) (VLe.opt hc) (TLe.refl _)) (fun hc => q_load_b1 rfl Tryz.isAgg22 rfl (by exact Hp.box_setBox _ _ _) rfl) ?_
      refine AOps.g (wanted_to rfl rfl) rfl rfl (fun hc => TLe.put (d := 25) (VLe.opt hc) (TLe.refl _)) (fun hc => q_len rfl Tryz.underlying22 rfl) ?_
      refine AOps.g (wanted_to rfl rfl) rfl rfl (fun hc => TLe.put (d := 26) (VLe.opt hc) (TLe.put (d := 20) (VLe.opt hc) (TLe.refl _))) (fun hc => q_lt rfl rfl rfl) ?_
      refine AOps.g (wanted_f rfl rfl) rfl rfl (fun hc => TLe.put (d := 19) (VLe.opt hc) (TLe.refl _)) (fun hc => q_pickg rfl rfl (fun hp => by first | exact VLe.opt hp | exact VLe.opt (by rw [hp]; rfl) | exact VLe.opt (by simp_all)) (fun hp => by exact VLe.refl _)) ?_
      refine AOps.g (wanted_f rfl rfl) rfl rfl (fun hc => TLe.put (d := 28) (VLe.opt hc) (TLe.put (d := 16) (VLe.opt hc) (TLe.refl _))) (fun hc => QOp.call (x := .bool true) rfl (by exact Tryz.call82) fun h' hl' => by exact must_quiet (hl'.box _ _ hbx) hz hok (by decide)) ?_
      refine AOps.g (wanted_f rfl rfl) rfl rfl (fun hc => TLe.put (d := 29) (VLe.opt hc) (TLe.refl _)) (fun hc => q_not rfl rfl) ?_
      refine AOps.q rfl rfl rfl (q_pickg rfl rfl (fun hp => by exact VLe.refl _) (fun hp => by first | exact VLe.opt hp | exact VLe.opt (by rw [hp]; rfl) | exact VLe.opt (by simp_all))) ?_
      refine AOps.q rfl rfl rfl (q_mv rfl (rfl : _ = V.bool _)) ?_
      refine AOps.g (wanted_f rfl rfl) rfl rfl (fun hc => TLe.refl _) (fun hc => q_mv rfl (rfl : _ = V.ptr _ _)) ?_
      refine AOps.g (wanted_f rfl rfl) rfl rfl (fun hc => TLe.refl _) (fun hc => q_mv rfl (rfl : _ = V.int _ _)) ?_
      refine AOps.g (wanted_f rfl rfl) rfl rfl (fun hc => TLe.put (d := 34) (VLe.opt hc) (TLe.refl _)) (fun hc => QOp.call rfl (by exact Tryz.call83) fun h' hl' => by exact bases_calls _ h') ?_
      have hA : (!(bif m.err != 0 then true else !true)) = true := by simp [hz]
      refine AOps.gy (wanted_yes (wanted_f rfl rfl) hA) rfl rfl (AStep.le (ev_le (TLe.put (d := 33) (VLe.opt hA) (TLe.put (d := 35) (VLe.opt hA) (TLe.refl _)))) ((AStep.call rfl (by exact Tryz.call82) (must_calls m ve vp _ 12 (by decide) id _)).mono ?_))
      rintro x3 h3 ⟨rfl, rfl⟩
      refine AOps.g (wanted_f rfl rfl) rfl rfl (fun hc => TLe.refl _) (fun hc => q_not rfl rfl) ?_
      refine AOps.q rfl rfl rfl (q_pickg rfl rfl (fun hp => by exact VLe.refl _) (fun hp => by first | exact VLe.opt hp | exact VLe.opt (by rw [hp]; rfl) | exact VLe.opt (by simp_all))) ?_
      refine AOps.nil ?_
      exact Wk.mk (TLe.put (d := 38) (VLe.of_eq (congrArg V.bool (by simp [hz, hb]))) (TLe.put (d := 2) (VLe.refl _) (TLe.put (d := 1) (VLe.refl _) (TLe.put (d := 0) (VLe.refl _) (TLe.zero _))))) (HLe.refl _) ⟨true, rfl, .inl ⟨rfl, by rw [Em.putF, if_neg (by simpa using hz), if_neg (by rw [hi]; decide), if_pos hb, hb, must_fail hz rfl]; exact fail_at hr _⟩⟩
    · skip
      have hok := inN_pick hi
      refine AW.region ?_
      refine AOps.q rfl rfl rfl (q_mv rfl (rfl : _ = V.ptr _ _)) ?_
      refine AOps.q rfl rfl rfl (QOp.call rfl (by exact Tryz.call13) fun h' hl' => by exact err_calls (hl'.box _ _ hbx)) ?_
      refine AOps.q rfl rfl rfl (q_neerr Tryz.underlying38 rfl rfl) ?_
      refine AOps.q rfl rfl rfl (q_mv rfl (rfl : _ = V.bool _)) ?_
      refine AOps.g (wanted_f rfl rfl) rfl rfl (fun hc => TLe.refl _) (fun hc => q_mv rfl (rfl : _ = V.ptr _ _)) ?_
      refine AOps.g (wanted_f rfl rfl) rfl rfl (fun hc => TLe.refl _) (fun hc => q_mv rfl (rfl : _ = V.int _ _)) ?_
      refine AOps.g (wanted_f rfl rfl) rfl rfl (fun hc => TLe.put (d := 17) (VLe.opt hc) (TLe.refl _)) (fun hc => q_ge rfl rfl rfl) ?_
      refine AOps.g (wanted_f rfl rfl) rfl rfl (fun hc => TLe.put (d := 18) (VLe.opt hc) (TLe.refl _)) (fun hc => q_mv rfl (rfl : _ = V.bool _)) ?_
      refine AOps.g (wanted_to rfl rfl) rfl rfl (fun hc => TLe.refl _) (fun hc => q_mv rfl (rfl : _ = V.int _ _)) ?_
      refine AOps.g (wanted_to rfl rfl) rfl rfl (fun hc => TLe.refl _) (fun hc => q_mv rfl (rfl : _ = V.ptr _ _)) ?_
      refine AOps.g (wanted_to rfl rfl) rfl rfl (fun hc => TLe.put (d := 21) (VLe.opt hc) (TLe.refl _)) (fun hc => q_nc rfl (rfl : _ = V.ptr _ _) rfl) ?_
      refine AOps.g (wanted_to rfl rfl) rfl rfl (fun hc => TLe.put (d := 22) (VLe.opt hc) (TLe.refl _)) (fun hc => q_fa_b rfl Tryz.underlying57 rfl (by exact Tryz.sizeOf29) (by decide) rfl (rfl : _ = 0)) ?_
      refine AOps.g (wanted_to rfl rfl) rfl rfl (fun hc => TLe.put (d := 23) (VLe.opt hc) (TLe.refl _)) (fun hc => q_fa_b rfl Tryz.underlying29 rfl (by exact Tryz.sizeOf22) (by decide) rfl (rfl : _ = 0)) ?_
      refine AOps.g (wanted_to rfl rfl) rfl rfl (fun hc => TLe.put (d := 24) (VLe.opt hc) (TLe.refl _)) (fun hc => q_load_b1 rfl Tryz.isAgg22 rfl (by exact Hp.box_setBox _ _ _) rfl) ?_
      refine AOps.g (wanted_to rfl rfl) rfl rfl (fun hc => TLe.put (d := 25) (VLe.opt hc) (TLe.refl _)) (fun hc => q_len rfl Tryz.underlying22 rfl) ?_
      refine AOps.g (wanted_to rfl rfl) rfl rfl (fun hc => TLe.put (d := 26) (VLe.opt hc) (TLe.put (d := 20) (VLe.opt hc) (TLe.refl _))) (fun hc => q_lt rfl rfl rfl) ?_
      refine AOps.g (wanted_f rfl rfl) rfl rfl (fun hc => TLe.put (d := 19) (VLe.opt hc) (TLe.refl _)) (fun hc => q_pickg rfl rfl (fun hp => by first | exact VLe.opt hp | exact VLe.opt (by rw [hp]; rfl) | exact VLe.opt (by simp_all)) (fun hp => by exact VLe.refl _)) ?_
      refine AOps.g (wanted_f rfl rfl) rfl rfl (fun hc => TLe.put (d := 28) (VLe.opt hc) (TLe.put (d := 16) (VLe.opt hc) (TLe.refl _))) (fun hc => QOp.call (x := .bool true) rfl (by exact Tryz.call82) fun h' hl' => by exact must_quiet (hl'.box _ _ hbx) hz hok (by decide)) ?_
      refine AOps.g (wanted_f rfl rfl) rfl rfl (fun hc => TLe.put (d := 29) (VLe.opt hc) (TLe.refl _)) (fun hc => q_not rfl rfl) ?_
      refine AOps.q rfl rfl rfl (q_pickg rfl rfl (fun hp => by exact VLe.refl _) (fun hp => by first | exact VLe.opt hp | exact VLe.opt (by rw [hp]; rfl) | exact VLe.opt (by simp_all))) ?_
      refine AOps.q rfl rfl rfl (q_mv rfl (rfl : _ = V.bool _)) ?_
      refine AOps.g (wanted_f rfl rfl) rfl rfl (fun hc => TLe.refl _) (fun hc => q_mv rfl (rfl : _ = V.ptr _ _)) ?_
      refine AOps.g (wanted_f rfl rfl) rfl rfl (fun hc => TLe.refl _) (fun hc => q_mv rfl (rfl : _ = V.int _ _)) ?_
      refine AOps.g (wanted_f rfl rfl) rfl rfl (fun hc => TLe.put (d := 34) (VLe.opt hc) (TLe.refl _)) (fun hc => QOp.call rfl (by exact Tryz.call83) fun h' hl' => by exact bases_calls _ h') ?_
      refine AOps.g (wanted_f rfl rfl) rfl rfl (fun hc => TLe.put (d := 35) (VLe.opt hc) (TLe.put (d := 33) (VLe.opt hc) (TLe.refl _))) (fun hc => QOp.call (x := .bool true) rfl (by exact Tryz.call82) fun h' hl' => by exact must_quiet (hl'.box _ _ hbx) hz hb (by decide)) ?_
      refine AOps.g (wanted_f rfl rfl) rfl rfl (fun hc => TLe.put (d := 36) (VLe.opt hc) (TLe.refl _)) (fun hc => q_not rfl rfl) ?_
      refine AOps.q rfl rfl rfl (q_pickg rfl rfl (fun hp => by exact VLe.refl _) (fun hp => by first | exact VLe.opt hp | exact VLe.opt (by rw [hp]; rfl) | exact VLe.opt (by simp_all))) ?_
      refine AOps.nil ?_
      exact Wk.mk (TLe.put (d := 38) (VLe.of_eq (congrArg V.bool (by simp [hz]))) (TLe.put (d := 2) (VLe.refl _) (TLe.put (d := 1) (VLe.refl _) (TLe.put (d := 0) (VLe.refl _) (TLe.zero _))))) (HLe.refl _) ⟨false, rfl, .inr ⟨rfl, rfl, hz, by simpa [inN] using hi, hb⟩⟩
  · rintro T h1 ⟨b, rfl, hM⟩
    refine AW.cond rfl (fun c0 => ?_) (fun c0 => ?_)
    · skip
      refine AW.ret ?_
      rcases hM with ⟨_, h⟩ | ⟨e, _⟩
      · exact retQ.mk .none ⟨rfl, h⟩
      · rw [e] at c0; cases c0
    · rcases hM with ⟨e, _⟩ | ⟨_, rfl, hz, hi, hbs⟩
      · rw [e] at c0; cases c0
      have hSz := hI.sz hz
      obtain ⟨o, ho⟩ : ∃ o, o = m.now.objs.getD i.toNat noObj := ⟨_, rfl⟩
      have hfr : 0 ≤ o 3 ∧ o 3 ≤ 10 := by rw [ho]; exact hSz.zn _
      obtain ⟨to, hto⟩ : ∃ to, to = homeF o base := ⟨_, rfl⟩
      have htr : 0 ≤ to ∧ to ≤ 10 := by rw [hto]; exact home_in hbs
      have hll := hSz.lists to.toNat
      have hF : m.putF i base = ((((((m.doL [⟨1, i, o 3, idxF (m.now.lists (o 3).toNat) i, to, if o 3 = to then (m.now.lists to.toNat).length - 1 else (m.now.lists to.toNat).length⟩]).put2 i to).put3 i to (o 1)).put4 i to).put5 i (o 3) to).showF i (knowZoneF to)).put7 i (o 3) to base (o 2) := by
        rw [Em.putF, if_neg (by simpa using hz), if_neg (by simp [inN, hi]), if_neg (by rw [hbs]; decide)]; simp only [Em.put6, putEv, ← ho, ← hto]
      refine AW.skip ?_
      refine AW.seq ?_
      refine AW.region ?_
      refine AOps.q rfl rfl rfl (q_mv rfl (rfl : _ = V.ptr _ _)) ?_
      refine AOps.q rfl rfl rfl (q_nc rfl (rfl : _ = V.ptr _ _) rfl) ?_
      refine AOps.q rfl rfl rfl (q_fa_b rfl Tryz.underlying57 rfl (by exact Tryz.sizeOf29) (by decide) rfl (rfl : _ = 0)) ?_
      refine AOps.q rfl rfl rfl (q_fa_b rfl Tryz.underlying29 rfl (by exact Tryz.sizeOf22) (by decide) rfl (rfl : _ = 0)) ?_
      refine AOps.q rfl rfl rfl (q_load_b1 rfl Tryz.isAgg22 rfl (by exact Hp.box_setBox _ _ _) rfl) ?_
      refine AOps.q rfl rfl rfl (q_mv rfl (rfl : _ = V.int _ _)) ?_
      refine AOps.q rfl rfl rfl (q_ia_s rfl Tryz.underlying22 Tryz.sizeOf49 rfl rfl hi.1 hi.2 (show _ = cObj o by rw [ho]; exact cObjs_elem' hi.1 hi.2)) ?_
      refine AOps.q rfl rfl rfl (q_load_iW rfl Tryz.isAgg49 Tryz.sizeOf49 rfl (by rfl)) ?_
      refine AOps.s rfl rfl rfl (a_alloc rfl Tryz.zeroValue49 rfl (fun id6 hid6 => ?_))
      refine AOps.s0 rfl rfl (a_storeWA rfl Tryz.sizeOf49 rfl rfl (rfl : _ = V.agg _) rfl rfl ?_)
      refine AOps.done 6 rfl hid6 ?_
      refine AOps.nil ?_
      refine AW.seq ?_
      refine AW.draw [] [] [(0, true), (1, true), (2, true), (3, true), (4, true), (5, true), (6, true)] mixed (by kernel_rfl) rfl (by kernel_rfl) ?_
      refine AOrd.q rfl rfl rfl rfl (q_ia_ai rfl Tryz.underlying49 Tryz.sizeOf3 rfl rfl (by decide) (by decide) rfl) ?_
      refine AOrd.q rfl rfl rfl rfl (q_load_i1 rfl Tryz.isAgg3 rfl rfl) ?_
      refine AOrd.q rfl rfl rfl rfl (q_load_iW rfl Tryz.isAgg49 Tryz.sizeOf49 rfl (by rfl)) ?_
      refine AOrd.q rfl rfl rfl rfl (q_mv rfl (rfl : _ = V.int _ _)) ?_
      refine AOrd.q rfl rfl rfl rfl (QOp.call (x := V.int .i64 to) rfl (by exact Tryz.call84) fun h' hl' => by rw [hto]; exact home_calls o base h') ?_
      refine AOrd.q rfl rfl rfl rfl (q_as rfl (rfl : _ = V.int _ _)) ?_
      refine AOrd.q rfl rfl rfl rfl (q_as rfl (rfl : _ = V.int _ _)) ?_
      refine AOrd.nil ?_
      refine AW.seq ?_
      refine AW.region ?_
      refine AOps.q rfl rfl rfl (q_mv rfl (rfl : _ = V.ptr _ _)) ?_
      refine AOps.q rfl rfl rfl (q_mv rfl (rfl : _ = V.int _ _)) ?_
      refine AOps.q rfl rfl rfl (q_nc rfl (rfl : _ = V.ptr _ _) rfl) ?_
      refine AOps.q rfl rfl rfl (q_fa_b rfl Tryz.underlying57 rfl (by exact Tryz.sizeOf29) (by decide) rfl (rfl : _ = 0)) ?_
      refine AOps.q rfl rfl rfl (q_fa_b rfl Tryz.underlying29 rfl (by exact Tryz.sizeOf24) (by decide) rfl (rfl : _ = 1)) ?_
      refine AOps.q rfl rfl rfl (q_ia_ab rfl Tryz.underlying24 Tryz.sizeOf23 rfl rfl (by omega) (by omega)) ?_
      refine AOps.q rfl rfl rfl (q_load_b1 rfl Tryz.isAgg23 rfl (by exact Hp.box_setBox _ _ _) (st_list_ix htr.1 (by omega))) ?_
      refine AOps.q rfl rfl rfl (q_len rfl Tryz.underlying23 rfl) ?_
      refine AOps.q rfl rfl rfl (q_as rfl (rfl : _ = V.int _ _)) ?_
      refine AOps.nil ?_
      refine AW.cut (fun T h1 => T = put (put (put (put (put (put (put T0 0 (V.ptr id 0)) 1 (V.int .i64 i)) 2 (V.int .i64 base)) 6 (V.iptr (cObj o))) 7 (V.int .i64 (o 3))) 8 (V.int .i64 to)) 9 (V.int .i64 (if o 3 = to then (m.now.lists to.toNat).length - 1 else (m.now.lists to.toNat).length)) ∧ h1 = (addTok ve (addTok vp h0)).setBox id (emCells m ve vp)) ?_ ?_
      · skip
        refine AW.seq ?_
        refine AW.region ?_
        refine AOps.q rfl rfl rfl (q_mv rfl (rfl : _ = V.int _ _)) ?_
        refine AOps.q rfl rfl rfl (q_mv rfl (rfl : _ = V.int _ _)) ?_
        refine AOps.q rfl rfl rfl (q_eq rfl rfl rfl) ?_
        refine AOps.nil ?_
        refine AW.cond rfl (fun c1 => ?_) (fun c1 => ?_)
        · skip
          refine AW.region ?_
          refine AOps.q rfl rfl rfl (q_mv rfl (rfl : _ = V.int _ _)) ?_
          refine AOps.q rfl rfl rfl (q_sub' rfl rfl rfl (by omega)) ?_
          refine AOps.q rfl rfl rfl (q_as rfl (rfl : _ = V.int _ _)) ?_
          refine AOps.nil ?_
          exact Wk.mk (TLe.put (d := 9) (VLe.of_eq (congrArg (V.int .i64) (by first | rw [if_pos (by simpa using c1)] | rw [if_neg (by simpa using c1)]))) (TLe.put (d := 8) (VLe.refl _) (TLe.put (d := 7) (VLe.refl _) (TLe.put (d := 6) (VLe.refl _) (TLe.put (d := 2) (VLe.refl _) (TLe.put (d := 1) (VLe.refl _) (TLe.put (d := 0) (VLe.refl _) (TLe.zero _)))))))) (HLe.refl _) ⟨rfl, rfl⟩
        · skip
          refine AW.skip ?_
          exact Wk.mk (TLe.put (d := 9) (VLe.of_eq (congrArg (V.int .i64) (by first | rw [if_pos (by simpa using c1)] | rw [if_neg (by simpa using c1)]))) (TLe.put (d := 8) (VLe.refl _) (TLe.put (d := 7) (VLe.refl _) (TLe.put (d := 6) (VLe.refl _) (TLe.put (d := 2) (VLe.refl _) (TLe.put (d := 1) (VLe.refl _) (TLe.put (d := 0) (VLe.refl _) (TLe.zero _)))))))) (HLe.refl _) ⟨rfl, rfl⟩
      · rintro T h1 ⟨rfl, rfl⟩
        refine AW.seq ?_
        refine AW.region ?_
        refine AOps.q rfl rfl rfl (q_mv rfl (rfl : _ = V.ptr _ _)) ?_
        refine AOps.q rfl rfl rfl (q_mv rfl (rfl : _ = V.int _ _)) ?_
        refine AOps.q rfl rfl rfl (q_mv rfl (rfl : _ = V.int _ _)) ?_
        refine AOps.q rfl rfl rfl (q_mv rfl (rfl : _ = V.ptr _ _)) ?_
        refine AOps.q rfl rfl rfl (q_mv rfl (rfl : _ = V.int _ _)) ?_
        refine AOps.q rfl rfl rfl (q_nc rfl (rfl : _ = V.ptr _ _) rfl) ?_
        refine AOps.q rfl rfl rfl (q_fa_b rfl Tryz.underlying57 rfl (by exact Tryz.sizeOf29) (by decide) rfl (rfl : _ = 0)) ?_
        refine AOps.q rfl rfl rfl (q_fa_b rfl Tryz.underlying29 rfl (by exact Tryz.sizeOf24) (by decide) rfl (rfl : _ = 1)) ?_
        refine AOps.q rfl rfl rfl (q_ia_ab rfl Tryz.underlying24 Tryz.sizeOf23 rfl rfl (by omega) (by omega)) ?_
        refine AOps.q rfl rfl rfl (q_load_b1 rfl Tryz.isAgg23 rfl (by exact Hp.box_setBox _ _ _) (st_list_ix hfr.1 (by omega))) ?_
        refine AOps.q rfl rfl rfl (q_mv rfl (rfl : _ = V.int _ _)) ?_
        refine AOps.q rfl rfl rfl (QOp.call rfl (by exact Tryz.call85) fun h' hl' => by exact index_calls _ _ (by have := hSz.lists (o 3).toNat; omega) h') ?_
        refine AOps.q rfl rfl rfl (q_mv rfl (rfl : _ = V.int _ _)) ?_
        refine AOps.q rfl rfl rfl (q_mv rfl (rfl : _ = V.int _ _)) ?_
        refine AOps.q rfl rfl rfl (q_buildS (ds := cEv ⟨1, i, o 3, idxF (m.now.lists (o 3).toNat) i, to, if o 3 = to then (m.now.lists to.toNat).length - 1 else (m.now.lists to.toNat).length⟩) rfl Tryz.zeroValue84 Tryz.underlying84 (pl84 Tryz.underlying84) rfl (by kernel_rfl)) ?_
        refine AOps.q rfl rfl rfl (q_buildSl rfl Tryz.underlying54 Tryz.sizeOf84 Tryz.zeroValue84 rfl rfl rfl rfl rfl) ?_
        refine AOps.s rfl rfl rfl ((AStep.call rfl (by exact Tryz.call57) (doL_calls [⟨1, i, o 3, idxF (m.now.lists (o 3).toNat) i, to, if o 3 = to then (m.now.lists to.toNat).length - 1 else (m.now.lists to.toNat).length⟩] (by simp) (by simp) (k := .full) ⟨ve, vp, hr, rfl⟩ hI)).mono ?_)
        rintro x3 h3 ⟨rfl, he3⟩
        refine AOps.nil ?_
        have hI1 : EmI (m.doL [⟨1, i, o 3, idxF (m.now.lists (o 3).toNat) i, to, if o 3 = to then (m.now.lists to.toNat).length - 1 else (m.now.lists to.toNat).length⟩]) := doL_inv (by simp) hI
        have hS1 : Same m (m.doL [⟨1, i, o 3, idxF (m.now.lists (o 3).toNat) i, to, if o 3 = to then (m.now.lists to.toNat).length - 1 else (m.now.lists to.toNat).length⟩]) := doL_same (by simp)
        rw [hF]
        generalize m.doL [⟨1, i, o 3, idxF (m.now.lists (o 3).toNat) i, to, if o 3 = to then (m.now.lists to.toNat).length - 1 else (m.now.lists to.toNat).length⟩] = m1 at he3 hI1 hS1 ⊢
        refine AW.cut (fun T h1 => T = put (put (put (put (put (put T0 0 (V.ptr id 0)) 1 (V.int .i64 i)) 2 (V.int .i64 base)) 6 (V.iptr (cObj o))) 7 (V.int .i64 (o 3))) 8 (V.int .i64 to) ∧ EmAt h0 id (m1.put2 i to) h1) ?_ ?_
        · skip
          refine AW.seq ?_
          refine AW.region ?_
          refine AOps.q rfl rfl rfl (q_mv rfl (rfl : _ = V.int _ _)) ?_
          refine AOps.q rfl rfl rfl (q_ne rfl rfl rfl) ?_
          refine AOps.nil ?_
          refine AW.cond rfl (fun c2 => ?_) (fun c2 => ?_)
          · skip
            refine AW.seq ?_
            refine AW.region ?_
            refine AOps.q rfl rfl rfl (q_load_iW rfl Tryz.isAgg25 Tryz.sizeOf25 rfl (by rfl)) ?_
            refine AOps.q rfl rfl rfl (q_mv rfl (rfl : _ = V.int _ _)) ?_
            refine AOps.nil ?_
            refine AW.block ?_
            refine AW.loop (fun n T hh => ∃ (k : Nat) , k ≤ 9 ∧ n = 9 - k ∧ T = put (put (put (put (put (put (put (put (T0) 85 (V.int .i64 (k : Nat))) 84 (V.agg [.int .i64 4, .int .i64 5, .int .i64 6, .int .i64 7, .int .i64 8, .int .i64 9, .int .i64 10, .int .i64 11, .int .i64 12])) 8 (V.int .i64 to)) 7 (V.int .i64 (o 3))) 6 (V.iptr (cObj o))) 2 (V.int .i64 base)) 1 (V.int .i64 i)) 0 (V.ptr id 0) ∧ EmAt h0 id (m1.restF i (restL.take k)) hh) (9) ?_ ?_
            · skip
              refine Wk.mk (TLe.put (d := 0) (VLe.refl _) (TLe.put (d := 1) (VLe.refl _) (TLe.put (d := 2) (VLe.refl _) (TLe.put (d := 6) (VLe.refl _) (TLe.put (d := 7) (VLe.refl _) (TLe.put (d := 8) (VLe.refl _) (TLe.put (d := 84) (VLe.refl _) (TLe.put (d := 85) (by exact VLe.of_eq (congrArg (V.int .i64) (by first | rfl | omega))) (TLe.zero _))))))))) (HLe.refl _) ⟨0, Nat.zero_le _, rfl, rfl, by exact he3⟩
            · skip
              rintro n T h' ⟨k, hk, rfl, rfl, hem⟩
              refine AW.seq ?_
              refine AW.region ?_
              refine AOps.q rfl rfl rfl (q_lt rfl rfl rfl) ?_
              refine AOps.nil ?_
              refine AW.seq ?_
              refine AW.cond rfl (fun c3 => ?_) (fun c3 => ?_)
              · have hltk : k < 9 := by have := of_decide_eq_true c3; omega
                refine AW.skip ?_
                refine AW.seq ?_
                refine AW.block ?_
                refine AW.seq ?_
                refine AW.region ?_
                refine AOps.q rfl rfl rfl (q_ix1 rfl Tryz.underlying25 Tryz.sizeOf3 Tryz.isAgg3 rfl rfl (by omega) (by omega) (rest_ix hltk)) ?_
                refine AOps.q rfl rfl rfl (q_as rfl (rfl : _ = V.int _ _)) ?_
                refine AOps.nil ?_
                refine AW.region ?_
                refine AOps.q rfl rfl rfl (q_mv rfl (rfl : _ = V.ptr _ _)) ?_
                refine AOps.q rfl rfl rfl (q_mv rfl (rfl : _ = V.int _ _)) ?_
                refine AOps.q rfl rfl rfl (q_mv rfl (rfl : _ = V.int _ _)) ?_
                refine AOps.s rfl rfl rfl ((AStep.call rfl (by exact Tryz.call86) (setF_calls i (restL.getD k 0) 0 hem (restF_inv hI1))).mono ?_)
                rintro x9 h9 ⟨rfl, he9⟩
                refine AOps.nil ?_
                refine AW.region ?_
                refine AOps.q rfl rfl rfl (q_add' rfl rfl rfl (by omega)) ?_
                refine AOps.q rfl rfl rfl (q_mv rfl (rfl : _ = V.int _ _)) ?_
                refine AOps.nil ?_
                refine Wk.mk (TLe.put (d := 0) (VLe.refl _) (TLe.put (d := 1) (VLe.refl _) (TLe.put (d := 2) (VLe.refl _) (TLe.put (d := 6) (VLe.refl _) (TLe.put (d := 7) (VLe.refl _) (TLe.put (d := 8) (VLe.refl _) (TLe.put (d := 84) (VLe.refl _) (TLe.put (d := 85) (by exact VLe.of_eq (congrArg (V.int .i64) (by first | rfl | omega))) (TLe.zero _))))))))) (HLe.refl _) ⟨_, ?_, k + 1, ?_, rfl, rfl, by rw [restF_next hltk]; exact he9⟩
                · omega
                · omega
              · obtain rfl : k = 9 := by have := of_decide_eq_false c3; omega
                refine AW.exit ?_
                exact Wk.mk (TLe.put (d := 8) (VLe.refl _) (TLe.put (d := 7) (VLe.refl _) (TLe.put (d := 6) (VLe.refl _) (TLe.put (d := 2) (VLe.refl _) (TLe.put (d := 1) (VLe.refl _) (TLe.put (d := 0) (VLe.refl _) (TLe.zero _))))))) (HLe.refl _) ⟨rfl, by first | (rw [Em.put2, if_pos (by simpa using c2)]; exact hem) | (rw [Em.put2, if_neg (by simpa using c2)]; exact he3)⟩
          · skip
            refine AW.skip ?_
            exact Wk.mk (TLe.put (d := 8) (VLe.refl _) (TLe.put (d := 7) (VLe.refl _) (TLe.put (d := 6) (VLe.refl _) (TLe.put (d := 2) (VLe.refl _) (TLe.put (d := 1) (VLe.refl _) (TLe.put (d := 0) (VLe.refl _) (TLe.zero _))))))) (HLe.refl _) ⟨rfl, by first | (rw [Em.put2, if_pos (by simpa using c2)]; exact hem) | (rw [Em.put2, if_neg (by simpa using c2)]; exact he3)⟩
        · rintro T h2 ⟨rfl, he4⟩
          refine AW.cut (fun T h1 => T = put (put (put (put (put (put T0 0 (V.ptr id 0)) 1 (V.int .i64 i)) 2 (V.int .i64 base)) 6 (V.iptr (cObj o))) 7 (V.int .i64 (o 3))) 8 (V.int .i64 to) ∧ EmAt h0 id ((m1.put2 i to).put3 i to (o 1)) h1) ?_ ?_
          · skip
            refine AW.seq ?_
            refine AW.region ?_
            refine AOps.q rfl rfl rfl (q_mv rfl (rfl : _ = V.int _ _)) ?_
            refine AOps.q rfl rfl rfl (q_lt rfl rfl rfl) ?_
            refine AOps.nil ?_
            refine AW.cond rfl (fun c4 => ?_) (fun c4 => ?_)
            · skip
              refine AW.region ?_
              refine AOps.q rfl rfl rfl (q_mv rfl (rfl : _ = V.ptr _ _)) ?_
              refine AOps.q rfl rfl rfl (q_mv rfl (rfl : _ = V.int _ _)) ?_
              refine AOps.q rfl rfl rfl (q_ia_ai rfl Tryz.underlying49 Tryz.sizeOf3 rfl rfl (by decide) (by decide) rfl) ?_
              refine AOps.q rfl rfl rfl (q_load_i1 rfl Tryz.isAgg3 rfl rfl) ?_
              refine AOps.s rfl rfl rfl ((AStep.call rfl (by exact Tryz.call86) (setF_calls i 2 (o 1) he4 (put2_inv hI1))).mono ?_)
              rintro x9 h9 ⟨rfl, he9⟩
              refine AOps.nil ?_
              exact Wk.mk (TLe.put (d := 8) (VLe.refl _) (TLe.put (d := 7) (VLe.refl _) (TLe.put (d := 6) (VLe.refl _) (TLe.put (d := 2) (VLe.refl _) (TLe.put (d := 1) (VLe.refl _) (TLe.put (d := 0) (VLe.refl _) (TLe.zero _))))))) (HLe.refl _) ⟨rfl, by first | (rw [Em.put3, if_pos (by simpa using c4)]; exact he9) | (rw [Em.put3, if_neg (by simpa using c4)]; exact he4)⟩
            · skip
              refine AW.skip ?_
              exact Wk.mk (TLe.put (d := 8) (VLe.refl _) (TLe.put (d := 7) (VLe.refl _) (TLe.put (d := 6) (VLe.refl _) (TLe.put (d := 2) (VLe.refl _) (TLe.put (d := 1) (VLe.refl _) (TLe.put (d := 0) (VLe.refl _) (TLe.zero _))))))) (HLe.refl _) ⟨rfl, by first | (rw [Em.put3, if_pos (by simpa using c4)]; exact he9) | (rw [Em.put3, if_neg (by simpa using c4)]; exact he4)⟩
          · rintro T h2 ⟨rfl, he5⟩
            refine AW.cut (fun T h1 => T = put (put (put (put (put (put T0 0 (V.ptr id 0)) 1 (V.int .i64 i)) 2 (V.int .i64 base)) 6 (V.iptr (cObj o))) 7 (V.int .i64 (o 3))) 8 (V.int .i64 to) ∧ EmAt h0 id (((m1.put2 i to).put3 i to (o 1)).put4 i to) h1) ?_ ?_
            · skip
              refine AW.seq ?_
              refine AW.region ?_
              refine AOps.q rfl rfl rfl (q_mv rfl (rfl : _ = V.int _ _)) ?_
              refine AOps.q rfl rfl rfl (q_ne rfl rfl rfl) ?_
              refine AOps.nil ?_
              refine AW.cond rfl (fun c5 => ?_) (fun c5 => ?_)
              · skip
                refine AW.region ?_
                refine AOps.q rfl rfl rfl (q_mv rfl (rfl : _ = V.ptr _ _)) ?_
                refine AOps.q rfl rfl rfl (q_mv rfl (rfl : _ = V.int _ _)) ?_
                refine AOps.s rfl rfl rfl ((AStep.call rfl (by exact Tryz.call86) (setF_calls i 16 0 he5 (put3_inv (put2_inv hI1)))).mono ?_)
                rintro x9 h9 ⟨rfl, he9⟩
                refine AOps.nil ?_
                exact Wk.mk (TLe.put (d := 8) (VLe.refl _) (TLe.put (d := 7) (VLe.refl _) (TLe.put (d := 6) (VLe.refl _) (TLe.put (d := 2) (VLe.refl _) (TLe.put (d := 1) (VLe.refl _) (TLe.put (d := 0) (VLe.refl _) (TLe.zero _))))))) (HLe.refl _) ⟨rfl, by first | (rw [Em.put4, if_pos (by simpa using c5)]; exact he9) | (rw [Em.put4, if_neg (by simpa using c5)]; exact he5)⟩
              · skip
                refine AW.skip ?_
                exact Wk.mk (TLe.put (d := 8) (VLe.refl _) (TLe.put (d := 7) (VLe.refl _) (TLe.put (d := 6) (VLe.refl _) (TLe.put (d := 2) (VLe.refl _) (TLe.put (d := 1) (VLe.refl _) (TLe.put (d := 0) (VLe.refl _) (TLe.zero _))))))) (HLe.refl _) ⟨rfl, by first | (rw [Em.put4, if_pos (by simpa using c5)]; exact he9) | (rw [Em.put4, if_neg (by simpa using c5)]; exact he5)⟩
            · rintro T h2 ⟨rfl, he6⟩
              refine AW.cut (fun T h1 => T = put (put (put (put (put (put T0 0 (V.ptr id 0)) 1 (V.int .i64 i)) 2 (V.int .i64 base)) 6 (V.iptr (cObj o))) 7 (V.int .i64 (o 3))) 8 (V.int .i64 to) ∧ EmAt h0 id ((((m1.put2 i to).put3 i to (o 1)).put4 i to).put5 i (o 3) to) h1) ?_ ?_
              · skip
                refine AW.seq ?_
                refine AW.region ?_
                refine AOps.q rfl rfl rfl (q_mv rfl (rfl : _ = V.int _ _)) ?_
                refine AOps.q rfl rfl rfl (q_eq rfl rfl rfl) ?_
                refine AOps.q rfl rfl rfl (q_mv rfl (rfl : _ = V.bool _)) ?_
                refine AOps.g (wanted_t rfl rfl) rfl rfl (fun hc => TLe.refl _) (fun hc => q_mv rfl (rfl : _ = V.int _ _)) ?_
                refine AOps.g (wanted_t rfl rfl) rfl rfl (fun hc => TLe.refl _) (fun hc => q_mv rfl (rfl : _ = V.int _ _)) ?_
                refine AOps.g (wanted_t rfl rfl) rfl rfl (fun hc => TLe.put (d := 109) (VLe.opt hc) (TLe.put (d := 108) (VLe.opt hc) (TLe.refl _))) (fun hc => q_ne rfl rfl rfl) ?_
                refine AOps.q rfl rfl rfl (q_pickg rfl rfl (fun hp => by first | exact VLe.opt hp | exact VLe.opt (by rw [hp]; rfl) | exact VLe.opt (by simp_all)) (fun hp => by exact VLe.refl _)) ?_
                refine AOps.nil ?_
                refine AW.cond rfl (fun c6 => ?_) (fun c6 => ?_)
                · skip
                  refine AW.region ?_
                  refine AOps.q rfl rfl rfl (q_mv rfl (rfl : _ = V.ptr _ _)) ?_
                  refine AOps.q rfl rfl rfl (q_mv rfl (rfl : _ = V.int _ _)) ?_
                  refine AOps.s rfl rfl rfl ((AStep.call rfl (by exact Tryz.call86) (setF_calls i 5 1 he6 (put4_inv (put3_inv (put2_inv hI1))))).mono ?_)
                  rintro x9 h9 ⟨rfl, he9⟩
                  refine AOps.nil ?_
                  exact Wk.mk (TLe.put (d := 8) (VLe.refl _) (TLe.put (d := 7) (VLe.refl _) (TLe.put (d := 6) (VLe.refl _) (TLe.put (d := 2) (VLe.refl _) (TLe.put (d := 1) (VLe.refl _) (TLe.put (d := 0) (VLe.refl _) (TLe.zero _))))))) (HLe.refl _) ⟨rfl, by first | (rw [Em.put5, if_pos (by simpa using c6)]; exact he9) | (rw [Em.put5, if_neg (by simpa using c6)]; exact he6)⟩
                · skip
                  refine AW.skip ?_
                  exact Wk.mk (TLe.put (d := 8) (VLe.refl _) (TLe.put (d := 7) (VLe.refl _) (TLe.put (d := 6) (VLe.refl _) (TLe.put (d := 2) (VLe.refl _) (TLe.put (d := 1) (VLe.refl _) (TLe.put (d := 0) (VLe.refl _) (TLe.zero _))))))) (HLe.refl _) ⟨rfl, by first | (rw [Em.put5, if_pos (by simpa using c6)]; exact he9) | (rw [Em.put5, if_neg (by simpa using c6)]; exact he6)⟩
              · rintro T h2 ⟨rfl, he7⟩
                refine AW.seq ?_
                have hI5 := put5_inv (i := i) (fr := o 3) (to := to) (put4_inv (i := i) (to := to) (put3_inv (i := i) (to := to) (o := o 1) (put2_inv (i := i) (to := to) hI1)))
                have hS5 := hS1.trans ((put2_same (i := i) (to := to)).trans ((put3_same (i := i) (to := to) (o := o 1)).trans ((put4_same (i := i) (to := to)).trans ((put5_same (i := i) (fr := o 3) (to := to)).trans (showF_same (i := i) (p := knowZoneF to))))))
                refine AW.region ?_
                refine AOps.q rfl rfl rfl (q_mv rfl (rfl : _ = V.ptr _ _)) ?_
                refine AOps.q rfl rfl rfl (q_mv rfl (rfl : _ = V.int _ _)) ?_
                refine AOps.q rfl rfl rfl (q_mv rfl (rfl : _ = V.int _ _)) ?_
                refine AOps.q rfl rfl rfl (QOp.call rfl (by exact Tryz.call88) fun h' hl' => by exact knowZone_calls _ h') ?_
                refine AOps.s rfl rfl rfl ((AStep.call rfl (by exact Tryz.call87) (showF_calls i (knowZoneF to) he7 hI5)).mono ?_)
                rintro x8 h8 ⟨rfl, he8⟩
                refine AOps.nil ?_
                obtain ⟨ve8, vp8, hr8, rfl⟩ := he8
                generalize ((((m1.put2 i to).put3 i to (o 1)).put4 i to).put5 i (o 3) to).showF i (knowZoneF to) = m6 at hr8 hS5 ⊢
                have hi6 : 0 ≤ i ∧ i < m6.now.objs.length := by rw [hS5.len]; exact hi
                have hp6 : m6.pend.length ≤ 1000000 := by rw [hS5.pend]; exact hp
                refine AW.block ?_
                refine AW.seq ?_
                refine AW.region ?_
                refine AOps.q rfl rfl rfl (q_mv rfl (rfl : _ = V.ptr _ _)) ?_
                refine AOps.q rfl rfl rfl (QOp.call rfl (by exact Tryz.call13) fun h' hl' => by exact err_calls (hl'.box _ _ (Hp.box_setBox _ _ _))) ?_
                refine AOps.q rfl rfl rfl (q_neerr Tryz.underlying38 rfl rfl) ?_
                refine AOps.q rfl rfl rfl (q_as rfl (rfl : _ = V.bool _)) ?_
                refine AOps.nil ?_
                refine AW.cond rfl (fun c7 => ?_) (fun c7 => ?_)
                · skip
                  refine AW.skip ?_
                  exact retQ.mk .none ⟨rfl, by rw [Em.put7, if_pos (by simpa using c7)]; exact ⟨ve8, vp8, hr8, rfl⟩⟩
                · skip
                  refine AW.seq ?_
                  refine AW.region ?_
                  refine AOps.q rfl rfl rfl (q_mv rfl (rfl : _ = V.int _ _)) ?_
                  refine AOps.q rfl rfl rfl (q_eq rfl rfl rfl) ?_
                  refine AOps.q rfl rfl rfl (q_mv rfl (rfl : _ = V.bool _)) ?_
                  refine AOps.g (wanted_t rfl rfl) rfl rfl (fun hc => TLe.refl _) (fun hc => q_mv rfl (rfl : _ = V.int _ _)) ?_
                  refine AOps.g (wanted_t rfl rfl) rfl rfl (fun hc => TLe.refl _) (fun hc => q_mv rfl (rfl : _ = V.int _ _)) ?_
                  refine AOps.g (wanted_t rfl rfl) rfl rfl (fun hc => TLe.put (d := 129) (VLe.opt hc) (TLe.put (d := 128) (VLe.opt hc) (TLe.refl _))) (fun hc => q_ne rfl rfl rfl) ?_
                  refine AOps.q rfl rfl rfl (q_pickg rfl rfl (fun hp => by first | exact VLe.opt hp | exact VLe.opt (by rw [hp]; rfl) | exact VLe.opt (by simp_all)) (fun hp => by exact VLe.refl _)) ?_
                  refine AOps.q rfl rfl rfl (q_as rfl (rfl : _ = V.bool _)) ?_
                  refine AOps.nil ?_
                  refine AW.cond rfl (fun c8 => ?_) (fun c8 => ?_)
                  · skip
                    refine AW.region ?_
                    refine AOps.q rfl rfl rfl (q_mv rfl (rfl : _ = V.ptr _ _)) ?_
                    refine AOps.q rfl rfl rfl (q_mv rfl (rfl : _ = V.int _ _)) ?_
                    refine AOps.q rfl rfl rfl (q_mv rfl (rfl : _ = V.ptr _ _)) ?_
                    refine AOps.q rfl rfl rfl (q_nc rfl (rfl : _ = V.ptr _ _) rfl) ?_
                    refine AOps.q rfl rfl rfl (q_fa_b rfl Tryz.underlying57 rfl (by exact Tryz.sizeOf29) (by decide) rfl (rfl : _ = 0)) ?_
                    refine AOps.q rfl rfl rfl (q_fa_b rfl Tryz.underlying29 rfl (by exact Tryz.sizeOf22) (by decide) rfl (rfl : _ = 0)) ?_
                    refine AOps.q rfl rfl rfl (q_load_b1 rfl Tryz.isAgg22 rfl (by exact Hp.box_setBox _ _ _) rfl) ?_
                    refine AOps.q rfl rfl rfl (q_mv rfl (rfl : _ = V.int _ _)) ?_
                    refine AOps.q rfl rfl rfl (q_ia_s rfl Tryz.underlying22 Tryz.sizeOf49 rfl rfl hi6.1 hi6.2 (cObjs_elem' hi6.1 hi6.2)) ?_
                    refine AOps.q rfl rfl rfl (q_ia_ai rfl Tryz.underlying49 Tryz.sizeOf3 rfl rfl (by decide) (by decide) rfl) ?_
                    refine AOps.q rfl rfl rfl (q_load_i1 rfl Tryz.isAgg3 rfl rfl) ?_
                    refine AOps.s rfl rfl rfl ((AStep.call rfl (by exact Tryz.call89) (await_calls i 2 _ ⟨ve8, vp8, hr8, rfl⟩ hi6 hp6)).mono ?_)
                    rintro x9 h9 ⟨rfl, he9⟩
                    refine AOps.nil ?_
                    exact retQ.mk .none ⟨rfl, by rw [Em.put7, if_neg (by simpa using c7), if_pos (by simpa using c8)]; exact he9⟩
                  · skip
                    refine AW.seq ?_
                    refine AW.region ?_
                    refine AOps.q rfl rfl rfl (q_mv rfl (rfl : _ = V.int _ _)) ?_
                    refine AOps.q rfl rfl rfl (q_eq rfl rfl rfl) ?_
                    refine AOps.q rfl rfl rfl (q_mv rfl (rfl : _ = V.bool _)) ?_
                    refine AOps.g (wanted_t rfl rfl) rfl rfl (fun hc => TLe.refl _) (fun hc => q_mv rfl (rfl : _ = V.int _ _)) ?_
                    refine AOps.g (wanted_t rfl rfl) rfl rfl (fun hc => TLe.put (d := 148) (VLe.opt hc) (TLe.refl _)) (fun hc => q_eq rfl rfl rfl) ?_
                    refine AOps.q rfl rfl rfl (q_pickg rfl rfl (fun hp => by first | exact VLe.opt hp | exact VLe.opt (by rw [hp]; rfl) | exact VLe.opt (by simp_all)) (fun hp => by exact VLe.refl _)) ?_
                    refine AOps.q rfl rfl rfl (q_as rfl (rfl : _ = V.bool _)) ?_
                    refine AOps.nil ?_
                    refine AW.cond rfl (fun c9 => ?_) (fun c9 => ?_)
                    · skip
                      refine AW.region ?_
                      refine AOps.q rfl rfl rfl (q_mv rfl (rfl : _ = V.ptr _ _)) ?_
                      refine AOps.q rfl rfl rfl (q_mv rfl (rfl : _ = V.int _ _)) ?_
                      refine AOps.q rfl rfl rfl (q_ia_ai rfl Tryz.underlying49 Tryz.sizeOf3 rfl rfl (by decide) (by decide) rfl) ?_
                      refine AOps.q rfl rfl rfl (q_load_i1 rfl Tryz.isAgg3 rfl rfl) ?_
                      refine AOps.s rfl rfl rfl ((AStep.call rfl (by exact Tryz.call89) (await_calls i 3 _ ⟨ve8, vp8, hr8, rfl⟩ hi6 hp6)).mono ?_)
                      rintro x9 h9 ⟨rfl, he9⟩
                      refine AOps.nil ?_
                      exact retQ.mk .none ⟨rfl, by rw [Em.put7, if_neg (by simpa using c7), if_neg (by simpa using c8), if_pos (by simpa using c9)]; exact he9⟩
                    · skip
                      refine AW.skip ?_
                      exact retQ.mk .none ⟨rfl, by rw [Em.put7, if_neg (by simpa using c7), if_neg (by simpa using c8), if_neg (by simpa using c9)]; exact ⟨ve8, vp8, hr8, rfl⟩⟩

/-! What is pending is little: every putting that makes something pending did an event. -/
theorem add_same {m : Em} {i ctl : Int} {l : List Int} : (m.add i ctl l).pend.length = m.pend.length + l.length ∧ (m.add i ctl l).evs = m.evs := ⟨by simp [Em.add], rfl⟩
theorem await_pend {m : Em} {i w ctl : Int} : (m.awaitF i w ctl).pend.length ≤ m.pend.length + 4 ∧ (m.awaitF i w ctl).evs = m.evs ∧ ((m.awaitF i w ctl).err = 0 → m.err = 0) := by
  have h1 : (usesF (cardE (m.now.objs.getD i.toNat noObj 0)).1 w).length ≤ 4 := Nat.le_trans uses_le (cardE_abs _)
  have h2 : (m.fail (cardE (m.now.objs.getD i.toNat noObj 0)).2).pend = m.pend := fail_same.pend
  have h3 : (m.fail (cardE (m.now.objs.getD i.toNat noObj 0)).2).evs = m.evs := by unfold Em.fail; split <;> rfl
  have h4 : (m.fail (cardE (m.now.objs.getD i.toNat noObj 0)).2).err = 0 → m.err = 0 := fail_same.err
  unfold Em.awaitF
  refine ⟨?_, h3, h4⟩
  rw [add_same.1, h2]; omega
theorem put7_pend {m : Em} {i fr to base ctl : Int} : (m.put7 i fr to base ctl).pend.length ≤ m.pend.length + (if m.err = 0 then 4 else 0) ∧ (m.put7 i fr to base ctl).evs = m.evs ∧ ((m.put7 i fr to base ctl).err = 0 → m.err = 0) := by
  unfold Em.put7; split
  · exact ⟨by omega, rfl, id⟩
  · rename_i h
    have h : m.err = 0 := by simpa using h
    rw [if_pos h]
    split
    · exact await_pend
    · split
      · exact await_pend
      · exact ⟨by omega, rfl, id⟩
theorem put6_same {m : Em} {i base : Int} {o : Obj} : Same m (m.put6 i base o) :=
  (put2_same (i := i) (to := homeF o base)).trans ((put3_same (i := i) (to := homeF o base) (o := o 1)).trans ((put4_same (i := i) (to := homeF o base)).trans ((put5_same (i := i) (fr := o 3) (to := homeF o base)).trans (showF_same (i := i) (p := knowZoneF (homeF o base))))))
theorem put6_inv {m : Em} {i base : Int} {o : Obj} (h : EmI m) : EmI (m.put6 i base o) :=
  showF_inv (put5_inv (i := i) (fr := o 3) (to := homeF o base) (put4_inv (i := i) (to := homeF o base) (put3_inv (i := i) (to := homeF o base) (o := o 1) (put2_inv (i := i) (to := homeF o base) h))))
theorem await_inv {m : Em} {i w ctl : Int} (h : EmI m) : EmI (m.awaitF i w ctl) := by
  have := fail_inv (e := (cardE (m.now.objs.getD i.toNat noObj 0)).2) h
  exact ⟨this.sz, this.evs⟩
theorem put7_inv {m : Em} {i fr to base ctl : Int} (h : EmI m) : EmI (m.put7 i fr to base ctl) := by
  unfold Em.put7; split
  · exact h
  · split
    · exact await_inv h
    · split
      · exact await_inv h
      · exact h
theorem putF_inv {m : Em} {i base : Int} (h : EmI m) : EmI (m.putF i base) := by
  unfold Em.putF; split
  · exact h
  · split
    · exact fail_inv h
    · split
      · exact fail_inv h
      · exact put7_inv (put6_inv (doL_inv (by simp [putEv]) h))
theorem putF_evs {m : Em} {i base : Int} : m.evs.length ≤ (m.putF i base).evs.length ∧ ((m.putF i base).err = 0 → m.err = 0 ∧ m.evs.length + 1 ≤ (m.putF i base).evs.length) ∧ (m.pend.length ≤ 4 * m.evs.length → (m.putF i base).pend.length ≤ 4 * (m.putF i base).evs.length) ∧ (m.putF i base).draws = m.draws := by
  unfold Em.putF; split
  · rename_i h; exact ⟨Nat.le_refl _, fun e => absurd e h, id, rfl⟩
  · rename_i h
    have h : m.err = 0 := by simpa using h
    split
    · unfold Em.fail; rw [if_pos h]; exact ⟨Nat.le_refl _, (fun e => by cases e), id, rfl⟩
    · split
      · unfold Em.fail; rw [if_pos h]; exact ⟨Nat.le_refl _, (fun e => by cases e), id, rfl⟩
      · dsimp only
        generalize hx : putEv m.now i base = x
        generalize m.now.objs.getD i.toNat noObj = o
        have s1 : Same m (m.doL [x]) := doL_same (by simp [← hx, putEv])
        have s2 : Same (m.doL [x]) ((m.doL [x]).put6 i base o) := put6_same
        have hmo := doL_more (m := m) (x := x)
        generalize m.doL [x] = m1 at *
        generalize m1.put6 i base o = m2 at *
        obtain ⟨p1, p2, p3⟩ := put7_pend (m := m2) (i := i) (fr := o 3) (to := homeF o base) (base := base) (ctl := o 2)
        have q1 := s1.evs; have q2 := s2.evs; have q3 := s1.pend; have q4 := s2.pend; have q5 := s1.err; have q6 := s2.err
        have hd : (m2.put7 i (o 3) (homeF o base) base (o 2)).draws = m2.draws := by
          unfold Em.put7 Em.awaitF
          have hf : ∀ e, (m2.fail e).draws = m2.draws := fun e => fail_same.draws
          split
          · rfl
          · split
            · exact hf _
            · split
              · exact hf _
              · rfl
        refine ⟨by rw [p2]; omega, fun e => ?_, fun e => ?_, by rw [hd, s2.draws, s1.draws]⟩
        · rw [p2]
          have e2 := p3 e
          have e1 := q6 e2
          exact ⟨h, by have := hmo e1; omega⟩
        · rw [p2]
          rw [q4, q3] at p1
          split at p1
          · rename_i e2; have := hmo (q6 e2); omega
          · omega

end Go.Proofs.YtnbmcbkokaoapaaGreatDoor
