/- Walks: events, done. -/
import Derived.Test.YtnbmcbkokaoapaaGreatDoorLists
import Derived.Test.YtnbmcbkokaoapaaGreatDoorAcc
namespace Go.Proofs.YtnbmcbkokaoapaaGreatDoor
open Go Go.AV
set_option maxRecDepth 100000
set_option maxHeartbeats 400000
/-- A move. -/
def moveF (s : St) (x : Ev) : St × Int :=
  if (s.objs.length : Int) ≤ x.a then (s, 4)
  else
    let r := removeF (s.lists x.b.toNat) x.c
    if r.2.2 ≠ 0 ∨ r.2.1 ≠ x.a then (s, 20)
    else
      let n := insertF (if x.d = x.b then r.1 else s.lists x.d.toNat) x.e x.a
      if n.2 ≠ 0 then (s, n.2)
      else (⟨s.objs.set x.a.toNat (upd (s.objs.getD x.a.toNat noObj) 3 x.d), upd (upd s.lists x.b.toNat r.1) x.d.toNat n.1, s.pl, s.game⟩, 0)
def madeF (x : Ev) : Obj := fun i => match i with | 0 => x.a | 1 => x.b | 2 => x.b | 3 => 10 | 13 => x.c | 17 => 3 | _ => 0
/-- An event is done (other than an unmaking): the state behind it; an error. -/
def evDo (s : St) (x : Ev) : St × Int :=
  if evCheck x ≠ 0 then (s, evCheck x)
  else if x.k = 0 then if 400 ≤ (s.objs.length : Int) then (s, 5) else (⟨s.objs ++ [madeF x], upd s.lists 10 (s.lists 10 ++ [(s.objs.length : Int)]), s.pl, s.game⟩, 0)
  else if x.k = 1 then moveF s x
  else if x.k = 2 then
    if (s.objs.length : Int) ≤ x.a then (s, 4)
    else if s.objs.getD x.a.toNat noObj x.b.toNat ≠ x.c then (s, 20)
    else (⟨s.objs.set x.a.toNat (upd (s.objs.getD x.a.toNat noObj) x.b.toNat x.d), s.lists, s.pl, s.game⟩, 0)
  else if x.k = 3 then
    if s.pl x.a.toNat x.b.toNat ≠ x.c then (s, 20) else (⟨s.objs, s.lists, upd s.pl x.a.toNat (upd (s.pl x.a.toNat) x.b.toNat x.d), s.game⟩, 0)
  else if s.game x.b.toNat ≠ x.c then (s, 20) else (⟨s.objs, s.lists, s.pl, upd s.game x.b.toNat x.d⟩, 0)

theorem evSet_calls (x : Ev) (v : Int) {id off : Nat} {cs : List V} {h : Hp} (hb : h.box id = some cs) (hv : cs[off]? = some (.int .i64 v)) : ACalls Tryz.prog G 108 [.ptr id off, eEv x] h fun r h' => r = eE (if v = x.c then 0 else 20) ∧ h' = if v = x.c then h.setBox id (splice cs off [.int .i64 x.d]) else h := by
  refine ACalls.enter Tryz.func108 rfl Tryz.ntmps108 Tryz.results108 rfl ?_
  refine AW.seq ?_
  refine AW.region ?_
  refine AOps.q rfl rfl rfl (q_boxa rfl (rfl : _ = V.agg _)) ?_
  refine AOps.q rfl rfl rfl (q_as rfl (rfl : _ = V.inil)) ?_
  refine AOps.nil ?_
  refine AW.seq ?_
  refine AW.seq ?_
  refine AW.draw [] [] [(0, true), (1, true), (2, true), (3, true), (4, true), (5, true)] mixed (by kernel_rfl) rfl (by kernel_rfl) ?_
  refine AOrd.q rfl rfl rfl rfl (q_mv rfl (rfl : _ = V.ptr _ _)) ?_
  refine AOrd.q rfl rfl rfl rfl (q_nc rfl (rfl : _ = V.ptr _ _) rfl) ?_
  refine AOrd.q rfl rfl rfl rfl (q_load_b1 rfl Tryz.isAgg3 rfl (hb) hv) ?_
  refine AOrd.q rfl rfl rfl rfl (q_fa_i rfl Tryz.underlying84 rfl (by exact Tryz.sizeOf3) (by decide) rfl (rfl : _ = List.drop 3 _)) ?_
  refine AOrd.q rfl rfl rfl rfl (q_load_i1 rfl Tryz.isAgg3 rfl rfl) ?_
  refine AOrd.q rfl rfl rfl rfl (q_ne rfl rfl rfl) ?_
  refine AOrd.nil ?_
  refine AW.cond rfl (fun c0 => ?_) (fun c0 => ?_)
  · skip
    refine AW.seq ?_
    refine AW.region ?_
    refine AOps.q rfl rfl rfl (q_iface rfl Tryz.underlying62 rfl) ?_
    refine AOps.q rfl rfl rfl (q_as rfl (rfl : _ = V.iface _ _)) ?_
    refine AOps.nil ?_
    refine AW.ret ?_
    exact retQ.mk (.one _) ⟨by show V.iface _ (V.int _ _) = _; rw [if_neg (by simpa using c0)]; exact (eErr_ne (by decide)).symm, by rw [if_neg (by simpa using c0)]⟩
  · skip
    refine AW.skip ?_
    refine AW.seq ?_
    refine AW.region ?_
    refine AOps.q rfl rfl rfl (q_mv rfl (rfl : _ = V.ptr _ _)) ?_
    refine AOps.q rfl rfl rfl (q_fa_i rfl Tryz.underlying84 rfl (by exact Tryz.sizeOf3) (by decide) rfl (rfl : _ = List.drop 4 _)) ?_
    refine AOps.q rfl rfl rfl (q_load_i1 rfl Tryz.isAgg3 rfl rfl) ?_
    refine AOps.q rfl rfl rfl (q_nc rfl (rfl : _ = V.ptr _ _) rfl) ?_
    refine AOps.s0 rfl rfl (a_store1 rfl Tryz.sizeOf3 rfl (hb) (rfl : _ = V.int _ _) rfl rfl (by have := (List.getElem?_eq_some_iff.1 hv).1; omega) ?_)
    refine AOps.nil ?_
    refine AW.seq ?_
    refine AW.region ?_
    refine AOps.q rfl rfl rfl (q_as rfl (rfl : _ = V.inil)) ?_
    refine AOps.nil ?_
    refine AW.ret ?_
    exact retQ.mk (.one _) ⟨by show V.inil = _; rw [if_pos (by simpa using c0)]; exact (eErr_zero _).symm, by rw [if_pos (by simpa using c0)]⟩

theorem st_list_ix {s : St} {rest : List V} {i : Int} (h0 : 0 ≤ i) (h1 : i < 11) : (cState s ++ rest)[1 + i.toNat * 1]? = some (eInts (s.lists i.toNat)) := by
  obtain ⟨n, rfl⟩ := Int.eq_ofNat_of_zero_le h0
  match n, h1 with
  | 0, _ | 1, _ | 2, _ | 3, _ | 4, _ | 5, _ | 6, _ | 7, _ | 8, _ | 9, _ | 10, _ => rfl
theorem st_list_set {s : St} {rest : List V} {i : Int} {l : List Int} (h0 : 0 ≤ i) (h1 : i < 11) : splice (cState s ++ rest) (1 + i.toNat * 1) [eInts l] = cState ⟨s.objs, upd s.lists i.toNat l, s.pl, s.game⟩ ++ rest := by
  obtain ⟨n, rfl⟩ := Int.eq_ofNat_of_zero_le h0
  match n, h1 with
  | 0, _ | 1, _ | 2, _ | 3, _ | 4, _ | 5, _ | 6, _ | 7, _ | 8, _ | 9, _ | 10, _ => rfl
theorem st_game_ix {s : St} {rest : List V} {i : Int} (h0 : 0 ≤ i) (h1 : i < 7) : (cState s ++ rest)[30 + i.toNat * 1]? = some (.int .i64 (s.game i.toNat)) := by
  obtain ⟨n, rfl⟩ := Int.eq_ofNat_of_zero_le h0
  match n, h1 with
  | 0, _ | 1, _ | 2, _ | 3, _ | 4, _ | 5, _ | 6, _ => rfl
theorem st_game_set {s : St} {rest : List V} {i v : Int} (h0 : 0 ≤ i) (h1 : i < 7) : splice (cState s ++ rest) (30 + i.toNat * 1) [.int .i64 v] = cState ⟨s.objs, s.lists, s.pl, upd s.game i.toNat v⟩ ++ rest := by
  obtain ⟨n, rfl⟩ := Int.eq_ofNat_of_zero_le h0
  match n, h1 with
  | 0, _ | 1, _ | 2, _ | 3, _ | 4, _ | 5, _ | 6, _ => rfl
theorem st_pl_ix {s : St} {rest : List V} {p i : Int} (hp0 : 0 ≤ p) (hp1 : p < 2) (h0 : 0 ≤ i) (h1 : i < 9) : (cState s ++ rest)[12 + p.toNat * 9 + i.toNat * 1]? = some (.int .i64 (s.pl p.toNat i.toNat)) := by
  obtain ⟨n, rfl⟩ := Int.eq_ofNat_of_zero_le h0
  obtain ⟨m, rfl⟩ := Int.eq_ofNat_of_zero_le hp0
  match m, hp1, n, h1 with
  | 0, _, 0, _ | 0, _, 1, _ | 0, _, 2, _ | 0, _, 3, _ | 0, _, 4, _ | 0, _, 5, _ | 0, _, 6, _ | 0, _, 7, _ | 0, _, 8, _ => rfl
  | 1, _, 0, _ | 1, _, 1, _ | 1, _, 2, _ | 1, _, 3, _ | 1, _, 4, _ | 1, _, 5, _ | 1, _, 6, _ | 1, _, 7, _ | 1, _, 8, _ => rfl
theorem st_pl_set {s : St} {rest : List V} {p i v : Int} (hp0 : 0 ≤ p) (hp1 : p < 2) (h0 : 0 ≤ i) (h1 : i < 9) : splice (cState s ++ rest) (12 + p.toNat * 9 + i.toNat * 1) [.int .i64 v] = cState ⟨s.objs, s.lists, upd s.pl p.toNat (upd (s.pl p.toNat) i.toNat v), s.game⟩ ++ rest := by
  obtain ⟨n, rfl⟩ := Int.eq_ofNat_of_zero_le h0
  obtain ⟨m, rfl⟩ := Int.eq_ofNat_of_zero_le hp0
  match m, hp1, n, h1 with
  | 0, _, 0, _ | 0, _, 1, _ | 0, _, 2, _ | 0, _, 3, _ | 0, _, 4, _ | 0, _, 5, _ | 0, _, 6, _ | 0, _, 7, _ | 0, _, 8, _ => rfl
  | 1, _, 0, _ | 1, _, 1, _ | 1, _, 2, _ | 1, _, 3, _ | 1, _, 4, _ | 1, _, 5, _ | 1, _, 6, _ | 1, _, 7, _ | 1, _, 8, _ => rfl
theorem obj_splice {o : Obj} {rest : List V} {b : Nat} {v : Int} (h : b < 18) : splice (cObj o ++ rest) b [.int .i64 v] = cObj (upd o b v) ++ rest := by
  have : b = 0 ∨ b = 1 ∨ b = 2 ∨ b = 3 ∨ b = 4 ∨ b = 5 ∨ b = 6 ∨ b = 7 ∨ b = 8 ∨ b = 9 ∨ b = 10 ∨ b = 11 ∨ b = 12 ∨ b = 13 ∨ b = 14 ∨ b = 15 ∨ b = 16 ∨ b = 17 := by omega
  rcases this with e | e | e | e | e | e | e | e | e | e | e | e | e | e | e | e | e | e <;> subst e <;> rfl
theorem objs_splice : ∀ {l : List Obj} {slack : List V} {a b : Nat} {v : Int}, a < l.length → b < 18 → splice (cObjs l ++ slack) (a * 18 + b) [.int .i64 v] = cObjs (l.set a (upd (l.getD a noObj) b v)) ++ slack
  | [], _, _, _, _, h, _ => by simp at h
  | o :: l, slack, 0, b, v, _, h => by
    have := obj_splice (o := o) (rest := cObjs l ++ slack) (v := v) h
    rw [Nat.zero_mul, Nat.zero_add]
    show splice ((cObj o ++ cObjs l) ++ slack) b _ = (cObj (upd o b v) ++ cObjs l) ++ slack
    rw [List.append_assoc, List.append_assoc]; exact this
  | o :: l, slack, a + 1, b, v, h, hb => by
    have ih := objs_splice (l := l) (slack := slack) (a := a) (b := b) (v := v) (by simpa using h) hb
    show splice ((cObj o ++ cObjs l) ++ slack) ((a + 1) * 18 + b) _ = (cObj o ++ cObjs (l.set a (upd (l.getD a noObj) b v))) ++ slack
    rw [List.append_assoc, List.append_assoc, ← ih, show (a + 1) * 18 + b = (a * 18 + b) + 18 by omega]
    rfl
theorem objs_get : ∀ {l : List Obj} {slack : List V} {a b : Nat}, a < l.length → b < 18 → (cObjs l ++ slack)[a * 18 + b]? = some (.int .i64 (l.getD a noObj b))
  | [], _, _, _, h, _ => by simp at h
  | o :: l, slack, 0, b, _, h => by
    rw [Nat.zero_mul, Nat.zero_add]
    show ((cObj o ++ cObjs l) ++ slack)[b]? = _
    rw [List.append_assoc, List.getElem?_append_left (by rw [cObj_len]; exact h)]
    exact cObj_ix h
  | o :: l, slack, a + 1, b, h, hb => by
    have ih := objs_get (l := l) (slack := slack) (a := a) (b := b) (by simpa using h) hb
    show ((cObj o ++ cObjs l) ++ slack)[(a + 1) * 18 + b]? = _
    rw [List.append_assoc, List.getElem?_append_right (by rw [cObj_len]; omega), cObj_len, show (a + 1) * 18 + b - 18 = a * 18 + b by omega, ih]
    rfl
theorem objs_ix {l : List Obj} {slack : List V} {a b : Int} (ha : 0 ≤ a) (ha1 : a < l.length) (hb : 0 ≤ b) (hb1 : b < 18) : (cObjs l ++ slack)[0 + a.toNat * 18 + b.toNat * 1]? = some (.int .i64 (l.getD a.toNat noObj b.toNat)) := by
  rw [Nat.zero_add, Nat.mul_one]; exact objs_get (by omega) (by omega)
theorem objs_set {l : List Obj} {slack : List V} {a b v : Int} (ha : 0 ≤ a) (ha1 : a < l.length) (hb : 0 ≤ b) (hb1 : b < 18) : splice (cObjs l ++ slack) (0 + a.toNat * 18 + b.toNat * 1) [.int .i64 v] = cObjs (l.set a.toNat (upd (l.getD a.toNat noObj) b.toNat v)) ++ slack := by
  rw [Nat.zero_add, Nat.mul_one]; exact objs_splice (by omega) (by omega)
theorem objs_lt {l : List Obj} {slack : List V} {a b : Int} (ha : 0 ≤ a) (ha1 : a < l.length) (hb : 0 ≤ b) (hb1 : b < 18) : 0 + a.toNat * 18 + b.toNat * 1 + 1 ≤ (cObjs l ++ slack).length := by
  have := (List.getElem?_eq_some_iff.1 (objs_ix (slack := slack) ha ha1 hb hb1)).1; omega
theorem objs_sealed {l l' : List Obj} {slack : List V} {id : Nat} (h : l'.length = l.length) : Sealed id (cObjs l' ++ slack) (.msl id 0 l.length) (eObjs l') := by
  refine .inr ⟨0, 18, l.length, rfl, ?_, by simp [cObjs_len, h]⟩
  rw [List.drop_zero, List.take_append_of_le_length (by rw [cObjs_len]; omega), List.take_of_length_le (by rw [cObjs_len]; omega), ← h]
theorem removeF_len {l : List Int} {i : Int} : (removeF l i).1.length ≤ l.length := by
  unfold removeF; split
  · simp; omega
  · simp
theorem move_bad {s : St} {x : Ev} (h0 : ¬ (s.objs.length : Int) ≤ x.a) (h1 : (bif (removeF (s.lists x.b.toNat) x.c).2.2 != 0 then true else (removeF (s.lists x.b.toNat) x.c).2.1 != x.a) = true) : moveF s x = (s, 20) := by
  simp only [moveF, if_neg h0]; rw [if_pos]
  cases e : ((removeF (s.lists x.b.toNat) x.c).2.2 != 0) with
  | true => exact .inl (by simpa using e)
  | false => rw [e] at h1; exact .inr (by simpa using h1)
theorem move_good {s : St} {x : Ev} (h1 : (bif (removeF (s.lists x.b.toNat) x.c).2.2 != 0 then true else (removeF (s.lists x.b.toNat) x.c).2.1 != x.a) = false) : ¬ ((removeF (s.lists x.b.toNat) x.c).2.2 ≠ 0 ∨ (removeF (s.lists x.b.toNat) x.c).2.1 ≠ x.a) := by
  cases e : ((removeF (s.lists x.b.toNat) x.c).2.2 != 0) with
  | true => rw [e] at h1; cases h1
  | false => rw [e] at h1; simp at e h1; simp [e, h1]
theorem move_err {s : St} {x : Ev} {to : List Int} (h0 : ¬ (s.objs.length : Int) ≤ x.a) (h1 : (bif (removeF (s.lists x.b.toNat) x.c).2.2 != 0 then true else (removeF (s.lists x.b.toNat) x.c).2.1 != x.a) = false)
    (ht : (if x.d = x.b then (removeF (s.lists x.b.toNat) x.c).1 else s.lists x.d.toNat) = to) (h2 : (insertF to x.e x.a).2 ≠ 0) : moveF s x = (s, (insertF to x.e x.a).2) := by
  simp only [moveF, if_neg h0, if_neg (move_good h1), ht, if_pos h2]
theorem move_ok {s : St} {x : Ev} {to : List Int} (h0 : ¬ (s.objs.length : Int) ≤ x.a) (h1 : (bif (removeF (s.lists x.b.toNat) x.c).2.2 != 0 then true else (removeF (s.lists x.b.toNat) x.c).2.1 != x.a) = false)
    (ht : (if x.d = x.b then (removeF (s.lists x.b.toNat) x.c).1 else s.lists x.d.toNat) = to) (h2 : (insertF to x.e x.a).2 = 0) :
    moveF s x = (⟨s.objs.set x.a.toNat (upd (s.objs.getD x.a.toNat noObj) 3 x.d), upd (upd s.lists x.b.toNat (removeF (s.lists x.b.toNat) x.c).1) x.d.toNat (insertF to x.e x.a).1, s.pl, s.game⟩, 0) := by
  simp only [moveF, if_neg h0, if_neg (move_good h1), ht, h2, ne_eq, not_true_eq_false, if_false]
/-- What an event's numbers must be for a move. -/
structure MoveOk (x : Ev) : Prop where
  a : 0 ≤ x.a
  b : 0 ≤ x.b ∧ x.b < 11
  c : 0 ≤ x.c
  d : 0 ≤ x.d ∧ x.d < 11
  e : 0 ≤ x.e

theorem evMove_calls (s : St) (x : Ev) (rest : List V) (hx : MoveOk x) (hb : s.objs.length ≤ 1000000) (hl : ∀ z, (s.lists z).length ≤ 1000000) {id : Nat} {h0 : Hp} (hf : h0.fresh id) : ACalls Tryz.prog G 107 [.ptr id 0, eEv x] (h0.setBox id (cState s ++ rest)) fun r h' => r = eE (moveF s x).2 ∧ h' = h0.setBox id (cState (moveF s x).1 ++ rest) := by
  obtain ⟨hxa, hxb, hxc, hxd, hxe⟩ := hx
  have hrl : (removeF (s.lists x.b.toNat) x.c).1.length ≤ 1000000 := Nat.le_trans removeF_len (hl _)
  refine ACalls.enter Tryz.func107 rfl Tryz.ntmps107 Tryz.results107 rfl ?_
  refine AW.seq ?_
  refine AW.region ?_
  refine AOps.q rfl rfl rfl (q_boxa rfl (rfl : _ = V.agg _)) ?_
  refine AOps.q rfl rfl rfl (q_as rfl (rfl : _ = V.inil)) ?_
  refine AOps.nil ?_
  refine AW.seq ?_
  refine AW.seq ?_
  refine AW.draw [] [] [(0, true), (1, true), (2, true), (3, true), (4, true), (5, true), (6, true), (7, true)] mixed (by kernel_rfl) rfl (by kernel_rfl) ?_
  refine AOrd.q rfl rfl rfl rfl (q_fa_i rfl Tryz.underlying84 rfl (by exact Tryz.sizeOf3) (by decide) rfl (rfl : _ = List.drop 1 _)) ?_
  refine AOrd.q rfl rfl rfl rfl (q_load_i1 rfl Tryz.isAgg3 rfl rfl) ?_
  refine AOrd.q rfl rfl rfl rfl (q_mv rfl (rfl : _ = V.ptr _ _)) ?_
  refine AOrd.q rfl rfl rfl rfl (q_nc rfl (rfl : _ = V.ptr _ _) rfl) ?_
  refine AOrd.q rfl rfl rfl rfl (q_fa_b rfl Tryz.underlying29 rfl (by exact Tryz.sizeOf22) (by decide) rfl (rfl : _ = 0)) ?_
  refine AOrd.q rfl rfl rfl rfl (q_load_b1 rfl Tryz.isAgg22 rfl (by exact Hp.box_setBox _ _ _) rfl) ?_
  refine AOrd.q rfl rfl rfl rfl (q_len rfl Tryz.underlying22 rfl) ?_
  refine AOrd.q rfl rfl rfl rfl (q_ge rfl rfl rfl) ?_
  refine AOrd.nil ?_
  refine AW.cond rfl (fun c0 => ?_) (fun c0 => ?_)
  · skip
    refine AW.seq ?_
    refine AW.region ?_
    refine AOps.q rfl rfl rfl (q_iface rfl Tryz.underlying62 rfl) ?_
    refine AOps.q rfl rfl rfl (q_as rfl (rfl : _ = V.iface _ _)) ?_
    refine AOps.nil ?_
    refine AW.ret ?_
    exact retQ.mk (.one _) ⟨by show V.iface _ (V.int _ _) = _; rw [moveF, if_pos (by simpa using c0)]; exact (eErr_ne (by decide)).symm, by rw [moveF, if_pos (by simpa using c0)]⟩
  · skip
    refine AW.skip ?_
    refine AW.seq ?_
    refine AW.draw [] [] [(0, true), (1, true), (2, true), (3, true), (4, true), (5, true), (6, true), (7, true), (8, true), (9, true), (10, true), (11, true), (12, true), (13, true), (14, true), (15, true), (16, true)] mixed (by kernel_rfl) rfl (by kernel_rfl) ?_
    refine AOrd.q rfl rfl rfl rfl (q_mv rfl (rfl : _ = V.ptr _ _)) ?_
    refine AOrd.q rfl rfl rfl rfl (q_fa_i rfl Tryz.underlying84 rfl (by exact Tryz.sizeOf3) (by decide) rfl (rfl : _ = List.drop 2 _)) ?_
    refine AOrd.q rfl rfl rfl rfl (q_load_i1 rfl Tryz.isAgg3 rfl rfl) ?_
    refine AOrd.q rfl rfl rfl rfl (q_nc rfl (rfl : _ = V.ptr _ _) rfl) ?_
    refine AOrd.q rfl rfl rfl rfl (q_fa_b rfl Tryz.underlying29 rfl (by exact Tryz.sizeOf24) (by decide) rfl (rfl : _ = 1)) ?_
    refine AOrd.q rfl rfl rfl rfl (q_ia_ab rfl Tryz.underlying24 Tryz.sizeOf23 rfl rfl (by omega) (by omega)) ?_
    refine AOrd.q rfl rfl rfl rfl (q_load_b1 rfl Tryz.isAgg23 rfl (by exact Hp.box_setBox _ _ _) (st_list_ix hxb.1 hxb.2)) ?_
    refine AOrd.q rfl rfl rfl rfl (q_fa_i rfl Tryz.underlying84 rfl (by exact Tryz.sizeOf3) (by decide) rfl (rfl : _ = List.drop 3 _)) ?_
    refine AOrd.q rfl rfl rfl rfl (q_load_i1 rfl Tryz.isAgg3 rfl rfl) ?_
    refine AOrd.q rfl rfl rfl rfl (QOp.call rfl (by exact Tryz.call130) fun h' _ => by exact remove_calls _ _ (hl _) h') ?_
    refine AOrd.q rfl rfl rfl rfl (q_mv rfl (rfl : _ = V.tup _)) ?_
    refine AOrd.q rfl rfl rfl rfl (q_extract rfl rfl rfl) ?_
    refine AOrd.q rfl rfl rfl rfl (q_extract rfl rfl rfl) ?_
    refine AOrd.q rfl rfl rfl rfl (q_extract rfl rfl rfl) ?_
    refine AOrd.q rfl rfl rfl rfl (q_as rfl (rfl : _ = V.sl _ _ _ _)) ?_
    refine AOrd.q rfl rfl rfl rfl (q_as rfl (rfl : _ = V.int _ _)) ?_
    refine AOrd.q rfl rfl rfl rfl (q_as rfl (rfl : _ = eErr _ _)) ?_
    refine AOrd.nil ?_
    refine AW.seq ?_
    refine AW.seq ?_
    refine AW.region ?_
    refine AOps.q rfl rfl rfl (q_mv rfl (rfl : _ = eErr _ _)) ?_
    refine AOps.q rfl rfl rfl (q_neerr Tryz.underlying38 rfl rfl) ?_
    refine AOps.q rfl rfl rfl (q_mv rfl (rfl : _ = V.bool _)) ?_
    refine AOps.g (wanted_f rfl rfl) rfl rfl (fun hc => TLe.refl _) (fun hc => q_mv rfl (rfl : _ = V.int _ _)) ?_
    refine AOps.g (wanted_f rfl rfl) rfl rfl (fun hc => TLe.refl _) (fun hc => q_fa_i rfl Tryz.underlying84 rfl (by exact Tryz.sizeOf3) (by decide) rfl (rfl : _ = List.drop 1 _)) ?_
    refine AOps.g (wanted_f rfl rfl) rfl rfl (fun hc => TLe.put (d := 37) (VLe.opt hc) (TLe.refl _)) (fun hc => q_load_i1 rfl Tryz.isAgg3 rfl rfl) ?_
    refine AOps.g (wanted_f rfl rfl) rfl rfl (fun hc => TLe.put (d := 38) (VLe.opt hc) (TLe.put (d := 36) (VLe.opt hc) (TLe.refl _))) (fun hc => q_ne rfl rfl rfl) ?_
    refine AOps.q rfl rfl rfl (q_pickg rfl rfl (fun hp => by exact VLe.refl _) (fun hp => by first | exact VLe.opt hp | exact VLe.opt (by rw [hp]; rfl) | exact VLe.opt (by simp_all))) ?_
    refine AOps.nil ?_
    refine AW.cond rfl (fun c1 => ?_) (fun c1 => ?_)
    · skip
      refine AW.seq ?_
      refine AW.region ?_
      refine AOps.q rfl rfl rfl (q_iface rfl Tryz.underlying62 rfl) ?_
      refine AOps.q rfl rfl rfl (q_as rfl (rfl : _ = V.iface _ _)) ?_
      refine AOps.nil ?_
      refine AW.ret ?_
      exact retQ.mk (.one _) ⟨by show V.iface _ (V.int _ _) = _; rw [move_bad (by simpa using c0) c1]; exact (eErr_ne (by decide)).symm, by rw [move_bad (by simpa using c0) c1]⟩
    · skip
      refine AW.skip ?_
      refine AW.seq ?_
      refine AW.draw [] [] [(0, true), (1, true), (2, true), (3, true), (4, true), (5, true), (6, true), (7, true)] mixed (by kernel_rfl) rfl (by kernel_rfl) ?_
      refine AOrd.q rfl rfl rfl rfl (q_mv rfl (rfl : _ = V.ptr _ _)) ?_
      refine AOrd.q rfl rfl rfl rfl (q_fa_i rfl Tryz.underlying84 rfl (by exact Tryz.sizeOf3) (by decide) rfl (rfl : _ = List.drop 4 _)) ?_
      refine AOrd.q rfl rfl rfl rfl (q_load_i1 rfl Tryz.isAgg3 rfl rfl) ?_
      refine AOrd.q rfl rfl rfl rfl (q_nc rfl (rfl : _ = V.ptr _ _) rfl) ?_
      refine AOrd.q rfl rfl rfl rfl (q_fa_b rfl Tryz.underlying29 rfl (by exact Tryz.sizeOf24) (by decide) rfl (rfl : _ = 1)) ?_
      refine AOrd.q rfl rfl rfl rfl (q_ia_ab rfl Tryz.underlying24 Tryz.sizeOf23 rfl rfl (by omega) (by omega)) ?_
      refine AOrd.q rfl rfl rfl rfl (q_load_b1 rfl Tryz.isAgg23 rfl (by exact Hp.box_setBox _ _ _) (st_list_ix hxd.1 hxd.2)) ?_
      refine AOrd.q rfl rfl rfl rfl (q_as rfl (rfl : _ = V.sl _ _ _ _)) ?_
      refine AOrd.nil ?_
      refine AW.seq ?_
      refine AW.seq ?_
      refine AW.region ?_
      refine AOps.q rfl rfl rfl (q_fa_i rfl Tryz.underlying84 rfl (by exact Tryz.sizeOf3) (by decide) rfl (rfl : _ = List.drop 4 _)) ?_
      refine AOps.q rfl rfl rfl (q_load_i1 rfl Tryz.isAgg3 rfl rfl) ?_
      refine AOps.q rfl rfl rfl (q_fa_i rfl Tryz.underlying84 rfl (by exact Tryz.sizeOf3) (by decide) rfl (rfl : _ = List.drop 2 _)) ?_
      refine AOps.q rfl rfl rfl (q_load_i1 rfl Tryz.isAgg3 rfl rfl) ?_
      refine AOps.q rfl rfl rfl (q_eq rfl rfl rfl) ?_
      refine AOps.nil ?_
      refine AW.cond rfl (fun c2 => ?_) (fun c2 => ?_)
      · skip
        refine AW.region ?_
        refine AOps.q rfl rfl rfl (q_mv rfl (rfl : _ = V.sl _ _ _ _)) ?_
        refine AOps.q rfl rfl rfl (q_as rfl (rfl : _ = V.sl _ _ _ _)) ?_
        refine AOps.nil ?_
        refine AW.seq ?_
        refine AW.region ?_
        refine AOps.q rfl rfl rfl (q_mv rfl (rfl : _ = V.sl _ _ _ _)) ?_
        refine AOps.q rfl rfl rfl (q_fa_i rfl Tryz.underlying84 rfl (by exact Tryz.sizeOf3) (by decide) rfl (rfl : _ = List.drop 5 _)) ?_
        refine AOps.q rfl rfl rfl (q_load_i1 rfl Tryz.isAgg3 rfl rfl) ?_
        refine AOps.q rfl rfl rfl (q_fa_i rfl Tryz.underlying84 rfl (by exact Tryz.sizeOf3) (by decide) rfl (rfl : _ = List.drop 1 _)) ?_
        refine AOps.q rfl rfl rfl (q_load_i1 rfl Tryz.isAgg3 rfl rfl) ?_
        refine AOps.q rfl rfl rfl (QOp.call rfl (by exact Tryz.call131) fun h' _ => by exact insert_calls _ _ _ (by first | assumption | exact hl _) h') ?_
        refine AOps.q rfl rfl rfl (q_mv rfl (rfl : _ = V.tup _)) ?_
        refine AOps.q rfl rfl rfl (q_extract rfl rfl rfl) ?_
        refine AOps.q rfl rfl rfl (q_extract rfl rfl rfl) ?_
        refine AOps.q rfl rfl rfl (q_as rfl (rfl : _ = V.sl _ _ _ _)) ?_
        refine AOps.q rfl rfl rfl (q_as rfl (rfl : _ = eErr _ _)) ?_
        refine AOps.nil ?_
        refine AW.seq ?_
        refine AW.seq ?_
        refine AW.region ?_
        refine AOps.q rfl rfl rfl (q_mv rfl (rfl : _ = eErr _ _)) ?_
        refine AOps.q rfl rfl rfl (q_neerr Tryz.underlying38 rfl rfl) ?_
        refine AOps.nil ?_
        refine AW.cond rfl (fun c3 => ?_) (fun c3 => ?_)
        · skip
          refine AW.seq ?_
          refine AW.region ?_
          refine AOps.q rfl rfl rfl (q_mv rfl (rfl : _ = eErr _ _)) ?_
          refine AOps.q rfl rfl rfl (q_as rfl (rfl : _ = eErr _ _)) ?_
          refine AOps.nil ?_
          refine AW.ret ?_
          exact retQ.mk (.one _) ⟨by rw [move_err (by simpa using c0) c1 (if_pos (by simpa using c2)) (by simpa using c3)]; rfl, by rw [move_err (by simpa using c0) c1 (if_pos (by simpa using c2)) (by simpa using c3)]⟩
        · skip
          refine AW.skip ?_
          refine AW.seq ?_
          have hlt : x.a < s.objs.length := by simpa using c0
          refine AW.draw [7] [4, 5] [(0, true), (1, true), (2, true), (3, true), (4, true), (5, true), (6, true), (7, false)] mixed (by kernel_rfl) rfl (by kernel_rfl) ?_
          refine AOrd.q rfl rfl rfl rfl (q_mv rfl (rfl : _ = V.ptr _ _)) ?_
          refine AOrd.q rfl rfl rfl rfl (q_fa_i rfl Tryz.underlying84 rfl (by exact Tryz.sizeOf3) (by decide) rfl (rfl : _ = List.drop 2 _)) ?_
          refine AOrd.q rfl rfl rfl rfl (q_load_i1 rfl Tryz.isAgg3 rfl rfl) ?_
          refine AOrd.q rfl rfl rfl rfl (q_mv rfl (rfl : _ = V.sl _ _ _ _)) ?_
          refine AOrd.p rfl rfl rfl (fun _ => q_nc rfl (rfl : _ = V.ptr _ _) rfl) ?_
          refine AOrd.p rfl rfl rfl (fun _ => q_fa_b rfl Tryz.underlying29 rfl (by exact Tryz.sizeOf24) (by decide) rfl (rfl : _ = 1)) ?_
          refine AOrd.q rfl rfl rfl rfl (q_ia_ab rfl Tryz.underlying24 Tryz.sizeOf23 rfl rfl (by omega) (by omega)) ?_
          refine AOrd.s0 rfl rfl rfl rfl (a_store1 rfl Tryz.sizeOf23 rfl (by exact Hp.box_setBox _ _ _) (rfl : _ = V.sl _ _ _ _) rfl rfl (by simp [cState]; omega) ?_)
          refine AOrd.nil ?_
          refine AW.seq ?_
          refine AW.hp (by rw [Hp.setBox_setBox, st_list_set hxb.1 hxb.2]) ?_
          refine AW.draw [7] [4, 5] [(0, true), (1, true), (2, true), (3, true), (4, true), (5, true), (6, true), (7, false)] mixed (by kernel_rfl) rfl (by kernel_rfl) ?_
          refine AOrd.q rfl rfl rfl rfl (q_mv rfl (rfl : _ = V.ptr _ _)) ?_
          refine AOrd.q rfl rfl rfl rfl (q_fa_i rfl Tryz.underlying84 rfl (by exact Tryz.sizeOf3) (by decide) rfl (rfl : _ = List.drop 4 _)) ?_
          refine AOrd.q rfl rfl rfl rfl (q_load_i1 rfl Tryz.isAgg3 rfl rfl) ?_
          refine AOrd.q rfl rfl rfl rfl (q_mv rfl (rfl : _ = V.sl _ _ _ _)) ?_
          refine AOrd.p rfl rfl rfl (fun _ => q_nc rfl (rfl : _ = V.ptr _ _) rfl) ?_
          refine AOrd.p rfl rfl rfl (fun _ => q_fa_b rfl Tryz.underlying29 rfl (by exact Tryz.sizeOf24) (by decide) rfl (rfl : _ = 1)) ?_
          refine AOrd.q rfl rfl rfl rfl (q_ia_ab rfl Tryz.underlying24 Tryz.sizeOf23 rfl rfl (by omega) (by omega)) ?_
          refine AOrd.s0 rfl rfl rfl rfl (a_store1 rfl Tryz.sizeOf23 rfl (by exact Hp.box_setBox _ _ _) (rfl : _ = V.sl _ _ _ _) rfl rfl (by simp [cState]; omega) ?_)
          refine AOrd.nil ?_
          refine AW.seq ?_
          refine AW.hp (by rw [Hp.setBox_setBox, st_list_set hxd.1 hxd.2]) ?_
          refine AW.region ?_
          refine AOps.q rfl rfl rfl (q_mv rfl (rfl : _ = V.ptr _ _)) ?_
          refine AOps.q rfl rfl rfl (q_mv rfl (rfl : _ = V.ptr _ _)) ?_
          refine AOps.q rfl rfl rfl (q_nc rfl (rfl : _ = V.ptr _ _) rfl) ?_
          refine AOps.q rfl rfl rfl (q_fa_b rfl Tryz.underlying29 rfl (by exact Tryz.sizeOf22) (by decide) rfl (rfl : _ = 0)) ?_
          refine AOps.q rfl rfl rfl (q_load_b1 rfl Tryz.isAgg22 rfl (by exact Hp.box_setBox _ _ _) rfl) ?_
          refine AOps.s rfl rfl rfl ((AStep.call rfl (by exact Tryz.call49) (cloneOM_calls .imm s.objs hb (by omega) _)).mono ?_)
          rintro x1 h1 ⟨idc, slack, hidc, rfl, rfl⟩
          have nec : id ≠ idc := Hp.ne_of_box (Hp.box_setBox _ _ _) hidc.1
          refine AOps.q rfl rfl rfl (q_nc rfl (rfl : _ = V.ptr _ _) rfl) ?_
          refine AOps.q rfl rfl rfl (q_fa_b rfl Tryz.underlying29 rfl (by exact Tryz.sizeOf22) (by decide) rfl (rfl : _ = 0)) ?_
          refine AOps.s0 rfl rfl (a_store1 rfl Tryz.sizeOf22 rfl (by exact (Hp.box_setBox_ne _ _ nec).trans (Hp.box_setBox _ _ _)) (rfl : _ = V.msl _ _ _) rfl rfl (by exact Nat.le_of_ble_eq_true rfl) ?_)
          refine AOps.hp (by rw [Hp.setBox_comm _ _ _ nec.symm, Hp.setBox_setBox]) ?_
          refine AOps.nil ?_
          refine AW.seq ?_
          refine AW.draw [10] [8] [(0, true), (1, true), (2, true), (3, true), (4, true), (5, true), (6, true), (7, true), (8, true), (9, true), (10, false)] mixed (by kernel_rfl) rfl (by kernel_rfl) ?_
          refine AOrd.q rfl rfl rfl rfl (q_mv rfl (rfl : _ = V.ptr _ _)) ?_
          refine AOrd.q rfl rfl rfl rfl (q_nc rfl (rfl : _ = V.ptr _ _) rfl) ?_
          refine AOrd.q rfl rfl rfl rfl (q_fa_b rfl Tryz.underlying29 rfl (by exact Tryz.sizeOf22) (by decide) rfl (rfl : _ = 0)) ?_
          refine AOrd.q rfl rfl rfl rfl (q_load_b1 rfl Tryz.isAgg22 rfl (by exact (Hp.box_setBox_ne _ _ nec).trans (Hp.box_setBox _ _ _)) rfl) ?_
          refine AOrd.q rfl rfl rfl rfl (q_fa_i rfl Tryz.underlying84 rfl (by exact Tryz.sizeOf3) (by decide) rfl (rfl : _ = List.drop 1 _)) ?_
          refine AOrd.q rfl rfl rfl rfl (q_load_i1 rfl Tryz.isAgg3 rfl rfl) ?_
          refine AOrd.q rfl rfl rfl rfl (q_fa_i rfl Tryz.underlying84 rfl (by exact Tryz.sizeOf3) (by decide) rfl (rfl : _ = List.drop 4 _)) ?_
          refine AOrd.q rfl rfl rfl rfl (q_load_i1 rfl Tryz.isAgg3 rfl rfl) ?_
          refine AOrd.p rfl rfl rfl (fun _ => q_ia_m rfl Tryz.underlying22 Tryz.sizeOf49 rfl rfl (by omega) (by omega)) ?_
          refine AOrd.q rfl rfl rfl rfl (q_ia_ab rfl Tryz.underlying49 Tryz.sizeOf3 rfl rfl (by decide) (by decide)) ?_
          refine AOrd.s0 rfl rfl rfl rfl (a_store1 rfl Tryz.sizeOf3 rfl (by exact Hp.box_setBox _ _ _) (rfl : _ = V.int _ _) rfl rfl (by exact objs_lt (by omega) (by omega) (by decide) (by decide)) ?_)
          refine AOrd.nil ?_
          refine AW.seq ?_
          refine AW.hp (by rw [Hp.setBox_setBox, objs_set (by omega) (by omega) (by decide) (by decide)]) ?_
          refine AW.sealIn2 (T' := T0) (cs' := cState ⟨s.objs.set x.a.toNat (upd (s.objs.getD x.a.toNat noObj) 3 x.d), _, _, _⟩ ++ rest) hf (Hp.fresh_swap hidc) rfl (fun j => match j with | 0 => .inr (objs_sealed (by simp)) | j + 1 => .inl (.refl _)) (fun i => .inl (.junk _)) ?_
          refine AW.region ?_
          refine AOps.q rfl rfl rfl (q_as rfl (rfl : _ = V.inil)) ?_
          refine AOps.nil ?_
          refine AW.ret ?_
          exact retQ.mk (.one _) ⟨by show V.inil = _; rw [move_ok (by simpa using c0) c1 (if_pos (by simpa using c2)) (by simpa using c3)]; exact (eErr_zero _).symm, by rw [move_ok (by simpa using c0) c1 (if_pos (by simpa using c2)) (by simpa using c3)]⟩
      · skip
        refine AW.skip ?_
        refine AW.seq ?_
        refine AW.region ?_
        refine AOps.q rfl rfl rfl (q_mv rfl (rfl : _ = V.sl _ _ _ _)) ?_
        refine AOps.q rfl rfl rfl (q_fa_i rfl Tryz.underlying84 rfl (by exact Tryz.sizeOf3) (by decide) rfl (rfl : _ = List.drop 5 _)) ?_
        refine AOps.q rfl rfl rfl (q_load_i1 rfl Tryz.isAgg3 rfl rfl) ?_
        refine AOps.q rfl rfl rfl (q_fa_i rfl Tryz.underlying84 rfl (by exact Tryz.sizeOf3) (by decide) rfl (rfl : _ = List.drop 1 _)) ?_
        refine AOps.q rfl rfl rfl (q_load_i1 rfl Tryz.isAgg3 rfl rfl) ?_
        refine AOps.q rfl rfl rfl (QOp.call rfl (by exact Tryz.call131) fun h' _ => by exact insert_calls _ _ _ (by first | assumption | exact hl _) h') ?_
        refine AOps.q rfl rfl rfl (q_mv rfl (rfl : _ = V.tup _)) ?_
        refine AOps.q rfl rfl rfl (q_extract rfl rfl rfl) ?_
        refine AOps.q rfl rfl rfl (q_extract rfl rfl rfl) ?_
        refine AOps.q rfl rfl rfl (q_as rfl (rfl : _ = V.sl _ _ _ _)) ?_
        refine AOps.q rfl rfl rfl (q_as rfl (rfl : _ = eErr _ _)) ?_
        refine AOps.nil ?_
        refine AW.seq ?_
        refine AW.seq ?_
        refine AW.region ?_
        refine AOps.q rfl rfl rfl (q_mv rfl (rfl : _ = eErr _ _)) ?_
        refine AOps.q rfl rfl rfl (q_neerr Tryz.underlying38 rfl rfl) ?_
        refine AOps.nil ?_
        refine AW.cond rfl (fun c4 => ?_) (fun c4 => ?_)
        · skip
          refine AW.seq ?_
          refine AW.region ?_
          refine AOps.q rfl rfl rfl (q_mv rfl (rfl : _ = eErr _ _)) ?_
          refine AOps.q rfl rfl rfl (q_as rfl (rfl : _ = eErr _ _)) ?_
          refine AOps.nil ?_
          refine AW.ret ?_
          exact retQ.mk (.one _) ⟨by rw [move_err (by simpa using c0) c1 (if_neg (by simpa using c2)) (by simpa using c4)]; rfl, by rw [move_err (by simpa using c0) c1 (if_neg (by simpa using c2)) (by simpa using c4)]⟩
        · skip
          refine AW.skip ?_
          refine AW.seq ?_
          have hlt : x.a < s.objs.length := by simpa using c0
          refine AW.draw [7] [4, 5] [(0, true), (1, true), (2, true), (3, true), (4, true), (5, true), (6, true), (7, false)] mixed (by kernel_rfl) rfl (by kernel_rfl) ?_
          refine AOrd.q rfl rfl rfl rfl (q_mv rfl (rfl : _ = V.ptr _ _)) ?_
          refine AOrd.q rfl rfl rfl rfl (q_fa_i rfl Tryz.underlying84 rfl (by exact Tryz.sizeOf3) (by decide) rfl (rfl : _ = List.drop 2 _)) ?_
          refine AOrd.q rfl rfl rfl rfl (q_load_i1 rfl Tryz.isAgg3 rfl rfl) ?_
          refine AOrd.q rfl rfl rfl rfl (q_mv rfl (rfl : _ = V.sl _ _ _ _)) ?_
          refine AOrd.p rfl rfl rfl (fun _ => q_nc rfl (rfl : _ = V.ptr _ _) rfl) ?_
          refine AOrd.p rfl rfl rfl (fun _ => q_fa_b rfl Tryz.underlying29 rfl (by exact Tryz.sizeOf24) (by decide) rfl (rfl : _ = 1)) ?_
          refine AOrd.q rfl rfl rfl rfl (q_ia_ab rfl Tryz.underlying24 Tryz.sizeOf23 rfl rfl (by omega) (by omega)) ?_
          refine AOrd.s0 rfl rfl rfl rfl (a_store1 rfl Tryz.sizeOf23 rfl (by exact Hp.box_setBox _ _ _) (rfl : _ = V.sl _ _ _ _) rfl rfl (by simp [cState]; omega) ?_)
          refine AOrd.nil ?_
          refine AW.seq ?_
          refine AW.hp (by rw [Hp.setBox_setBox, st_list_set hxb.1 hxb.2]) ?_
          refine AW.draw [7] [4, 5] [(0, true), (1, true), (2, true), (3, true), (4, true), (5, true), (6, true), (7, false)] mixed (by kernel_rfl) rfl (by kernel_rfl) ?_
          refine AOrd.q rfl rfl rfl rfl (q_mv rfl (rfl : _ = V.ptr _ _)) ?_
          refine AOrd.q rfl rfl rfl rfl (q_fa_i rfl Tryz.underlying84 rfl (by exact Tryz.sizeOf3) (by decide) rfl (rfl : _ = List.drop 4 _)) ?_
          refine AOrd.q rfl rfl rfl rfl (q_load_i1 rfl Tryz.isAgg3 rfl rfl) ?_
          refine AOrd.q rfl rfl rfl rfl (q_mv rfl (rfl : _ = V.sl _ _ _ _)) ?_
          refine AOrd.p rfl rfl rfl (fun _ => q_nc rfl (rfl : _ = V.ptr _ _) rfl) ?_
          refine AOrd.p rfl rfl rfl (fun _ => q_fa_b rfl Tryz.underlying29 rfl (by exact Tryz.sizeOf24) (by decide) rfl (rfl : _ = 1)) ?_
          refine AOrd.q rfl rfl rfl rfl (q_ia_ab rfl Tryz.underlying24 Tryz.sizeOf23 rfl rfl (by omega) (by omega)) ?_
          refine AOrd.s0 rfl rfl rfl rfl (a_store1 rfl Tryz.sizeOf23 rfl (by exact Hp.box_setBox _ _ _) (rfl : _ = V.sl _ _ _ _) rfl rfl (by simp [cState]; omega) ?_)
          refine AOrd.nil ?_
          refine AW.seq ?_
          refine AW.hp (by rw [Hp.setBox_setBox, st_list_set hxd.1 hxd.2]) ?_
          refine AW.region ?_
          refine AOps.q rfl rfl rfl (q_mv rfl (rfl : _ = V.ptr _ _)) ?_
          refine AOps.q rfl rfl rfl (q_mv rfl (rfl : _ = V.ptr _ _)) ?_
          refine AOps.q rfl rfl rfl (q_nc rfl (rfl : _ = V.ptr _ _) rfl) ?_
          refine AOps.q rfl rfl rfl (q_fa_b rfl Tryz.underlying29 rfl (by exact Tryz.sizeOf22) (by decide) rfl (rfl : _ = 0)) ?_
          refine AOps.q rfl rfl rfl (q_load_b1 rfl Tryz.isAgg22 rfl (by exact Hp.box_setBox _ _ _) rfl) ?_
          refine AOps.s rfl rfl rfl ((AStep.call rfl (by exact Tryz.call49) (cloneOM_calls .imm s.objs hb (by omega) _)).mono ?_)
          rintro x1 h1 ⟨idc, slack, hidc, rfl, rfl⟩
          have nec : id ≠ idc := Hp.ne_of_box (Hp.box_setBox _ _ _) hidc.1
          refine AOps.q rfl rfl rfl (q_nc rfl (rfl : _ = V.ptr _ _) rfl) ?_
          refine AOps.q rfl rfl rfl (q_fa_b rfl Tryz.underlying29 rfl (by exact Tryz.sizeOf22) (by decide) rfl (rfl : _ = 0)) ?_
          refine AOps.s0 rfl rfl (a_store1 rfl Tryz.sizeOf22 rfl (by exact (Hp.box_setBox_ne _ _ nec).trans (Hp.box_setBox _ _ _)) (rfl : _ = V.msl _ _ _) rfl rfl (by exact Nat.le_of_ble_eq_true rfl) ?_)
          refine AOps.hp (by rw [Hp.setBox_comm _ _ _ nec.symm, Hp.setBox_setBox]) ?_
          refine AOps.nil ?_
          refine AW.seq ?_
          refine AW.draw [10] [8] [(0, true), (1, true), (2, true), (3, true), (4, true), (5, true), (6, true), (7, true), (8, true), (9, true), (10, false)] mixed (by kernel_rfl) rfl (by kernel_rfl) ?_
          refine AOrd.q rfl rfl rfl rfl (q_mv rfl (rfl : _ = V.ptr _ _)) ?_
          refine AOrd.q rfl rfl rfl rfl (q_nc rfl (rfl : _ = V.ptr _ _) rfl) ?_
          refine AOrd.q rfl rfl rfl rfl (q_fa_b rfl Tryz.underlying29 rfl (by exact Tryz.sizeOf22) (by decide) rfl (rfl : _ = 0)) ?_
          refine AOrd.q rfl rfl rfl rfl (q_load_b1 rfl Tryz.isAgg22 rfl (by exact (Hp.box_setBox_ne _ _ nec).trans (Hp.box_setBox _ _ _)) rfl) ?_
          refine AOrd.q rfl rfl rfl rfl (q_fa_i rfl Tryz.underlying84 rfl (by exact Tryz.sizeOf3) (by decide) rfl (rfl : _ = List.drop 1 _)) ?_
          refine AOrd.q rfl rfl rfl rfl (q_load_i1 rfl Tryz.isAgg3 rfl rfl) ?_
          refine AOrd.q rfl rfl rfl rfl (q_fa_i rfl Tryz.underlying84 rfl (by exact Tryz.sizeOf3) (by decide) rfl (rfl : _ = List.drop 4 _)) ?_
          refine AOrd.q rfl rfl rfl rfl (q_load_i1 rfl Tryz.isAgg3 rfl rfl) ?_
          refine AOrd.p rfl rfl rfl (fun _ => q_ia_m rfl Tryz.underlying22 Tryz.sizeOf49 rfl rfl (by omega) (by omega)) ?_
          refine AOrd.q rfl rfl rfl rfl (q_ia_ab rfl Tryz.underlying49 Tryz.sizeOf3 rfl rfl (by decide) (by decide)) ?_
          refine AOrd.s0 rfl rfl rfl rfl (a_store1 rfl Tryz.sizeOf3 rfl (by exact Hp.box_setBox _ _ _) (rfl : _ = V.int _ _) rfl rfl (by exact objs_lt (by omega) (by omega) (by decide) (by decide)) ?_)
          refine AOrd.nil ?_
          refine AW.seq ?_
          refine AW.hp (by rw [Hp.setBox_setBox, objs_set (by omega) (by omega) (by decide) (by decide)]) ?_
          refine AW.sealIn2 (T' := T0) (cs' := cState ⟨s.objs.set x.a.toNat (upd (s.objs.getD x.a.toNat noObj) 3 x.d), _, _, _⟩ ++ rest) hf (Hp.fresh_swap hidc) rfl (fun j => match j with | 0 => .inr (objs_sealed (by simp)) | j + 1 => .inl (.refl _)) (fun i => .inl (.junk _)) ?_
          refine AW.region ?_
          refine AOps.q rfl rfl rfl (q_as rfl (rfl : _ = V.inil)) ?_
          refine AOps.nil ?_
          refine AW.ret ?_
          exact retQ.mk (.one _) ⟨by show V.inil = _; rw [move_ok (by simpa using c0) c1 (if_neg (by simpa using c2)) (by simpa using c4)]; exact (eErr_zero _).symm, by rw [move_ok (by simpa using c0) c1 (if_neg (by simpa using c2)) (by simpa using c4)]⟩

theorem evCheck_ok {x : Ev} (h : evCheck x = 0) : (0 ≤ x.k ∧ x.k < 6) ∧ (x.k = 1 → MoveOk x) ∧ (x.k = 2 → 0 ≤ x.a ∧ 0 ≤ x.b ∧ x.b < 18) ∧ (x.k = 3 → 0 ≤ x.a ∧ x.a < 2 ∧ 0 ≤ x.b ∧ x.b < 9) ∧ (x.k ≠ 0 ∧ x.k ≠ 5 ∧ x.k ≠ 1 ∧ x.k ≠ 2 ∧ x.k ≠ 3 → 0 ≤ x.b ∧ x.b < 7) := by
  unfold evCheck at h
  split at h
  · cases h
  · rename_i h1
    split at h
    · cases h
    · split at h
      · cases h
      · rename_i h2 h3
        simp only [Bool.not_eq_false] at h1 h3
        refine ⟨by simp [inN] at h1; omega, fun e => ?_, fun e => ?_, fun e => ?_, fun ⟨e0, e5, e1, e2, e3⟩ => ?_⟩
        · simp [evRanges, e, inN] at h3; exact ⟨by omega, by omega, by omega, by omega, by omega⟩
        · simp [evRanges, e, inN] at h3; omega
        · simp [evRanges, e, inN] at h3; omega
        · simp [evRanges, e0, e5, e1, e2, e3, inN] at h3; omega

theorem ite20_f {p : Prop} [Decidable p] (h : ((if p then (0 : Int) else 20) != 0) = false) : p := by
  by_cases e : p
  · exact e
  · rw [if_neg e] at h; cases h
theorem ite20_t {p : Prop} [Decidable p] (h : ((if p then (0 : Int) else 20) != 0) = true) : ¬ p := fun e => by rw [if_pos e] at h; cases h
theorem do_bad {s : St} {x : Ev} (h : evCheck x ≠ 0) : evDo s x = (s, evCheck x) := by rw [evDo, if_pos h]
theorem do_1 {s : St} {x : Ev} (h : evCheck x = 0) (e : x.k = 1) : evDo s x = moveF s x := by rw [evDo, if_neg (by simpa using h), if_neg (by omega), if_pos e]
theorem do_2 {s : St} {x : Ev} (h : evCheck x = 0) (e : x.k = 2) : evDo s x = if (s.objs.length : Int) ≤ x.a then (s, 4) else if s.objs.getD x.a.toNat noObj x.b.toNat ≠ x.c then (s, 20) else (⟨s.objs.set x.a.toNat (upd (s.objs.getD x.a.toNat noObj) x.b.toNat x.d), s.lists, s.pl, s.game⟩, 0) := by
  rw [evDo, if_neg (by simpa using h), if_neg (by omega), if_neg (by omega), if_pos e]
theorem do_3 {s : St} {x : Ev} (h : evCheck x = 0) (e : x.k = 3) : evDo s x = if s.pl x.a.toNat x.b.toNat ≠ x.c then (s, 20) else (⟨s.objs, s.lists, upd s.pl x.a.toNat (upd (s.pl x.a.toNat) x.b.toNat x.d), s.game⟩, 0) := by
  rw [evDo, if_neg (by simpa using h), if_neg (by omega), if_neg (by omega), if_neg (by omega), if_pos e]
theorem do_4 {s : St} {x : Ev} (h : evCheck x = 0) (e : x.k ≠ 0 ∧ x.k ≠ 5) (e1 : x.k ≠ 1) (e2 : x.k ≠ 2) (e3 : x.k ≠ 3) : evDo s x = if s.game x.b.toNat ≠ x.c then (s, 20) else (⟨s.objs, s.lists, s.pl, upd s.game x.b.toNat x.d⟩, 0) := by
  rw [evDo, if_neg (by simpa using h), if_neg e.1, if_neg e1, if_neg e2, if_neg e3]

theorem evDo_calls (s : St) (x : Ev) (rest : List V) (hk : x.k ≠ 0 ∧ x.k ≠ 5) (hb : s.objs.length ≤ 1000000) (hl : ∀ z, (s.lists z).length ≤ 1000000) {id : Nat} {h0 : Hp} (hf : h0.fresh id) : ACalls Tryz.prog G 81 [.ptr id 0, eEv x] (h0.setBox id (cState s ++ rest)) fun r h' => r = eE (evDo s x).2 ∧ h' = h0.setBox id (cState (evDo s x).1 ++ rest) := by
  refine ACalls.enter Tryz.func81 rfl Tryz.ntmps81 Tryz.results81 rfl ?_
  refine AW.seq ?_
  refine AW.region ?_
  refine AOps.q rfl rfl rfl (q_boxa rfl (rfl : _ = V.agg _)) ?_
  refine AOps.q rfl rfl rfl (q_as rfl (rfl : _ = V.inil)) ?_
  refine AOps.nil ?_
  refine AW.seq ?_
  refine AW.seq ?_
  refine AW.region ?_
  refine AOps.q rfl rfl rfl (q_load_iW rfl Tryz.isAgg84 Tryz.sizeOf84 rfl (by rfl)) ?_
  refine AOps.q rfl rfl rfl (QOp.call rfl (by exact Tryz.call56) fun h' hl' => by exact evCheck_calls _ h') ?_
  refine AOps.q rfl rfl rfl (q_as rfl (rfl : _ = eErr _ _)) ?_
  refine AOps.nil ?_
  refine AW.seq ?_
  refine AW.region ?_
  refine AOps.q rfl rfl rfl (q_mv rfl (rfl : _ = eErr _ _)) ?_
  refine AOps.q rfl rfl rfl (q_neerr Tryz.underlying38 rfl rfl) ?_
  refine AOps.nil ?_
  refine AW.cond rfl (fun c0 => ?_) (fun c0 => ?_)
  · skip
    refine AW.seq ?_
    refine AW.region ?_
    refine AOps.q rfl rfl rfl (q_mv rfl (rfl : _ = eErr _ _)) ?_
    refine AOps.q rfl rfl rfl (q_as rfl (rfl : _ = eErr _ _)) ?_
    refine AOps.nil ?_
    refine AW.ret ?_
    exact retQ.mk (.one _) ⟨by rw [do_bad (by simpa using c0)]; rfl, by rw [do_bad (by simpa using c0)]⟩
  · have hc : evCheck x = 0 := by simpa using c0
    have ok := evCheck_ok hc
    refine AW.skip ?_
    refine AW.seq ?_
    refine AW.seq ?_
    refine AW.region ?_
    refine AOps.q rfl rfl rfl (q_mv rfl (rfl : _ = V.ptr _ _)) ?_
    refine AOps.q rfl rfl rfl (q_eqnil Tryz.underlying127 rfl rfl rfl) ?_
    refine AOps.nil ?_
    refine AW.cond rfl (fun c1 => ?_) (fun c1 => ?_)
    · cases c1
    · skip
      refine AW.skip ?_
      refine AW.seq ?_
      refine AW.seq ?_
      refine AW.region ?_
      refine AOps.q rfl rfl rfl (q_fa_i rfl Tryz.underlying84 rfl (by exact Tryz.sizeOf3) (by decide) rfl (rfl : _ = List.drop 0 _)) ?_
      refine AOps.q rfl rfl rfl (q_load_i1 rfl Tryz.isAgg3 rfl rfl) ?_
      refine AOps.nil ?_
      refine AW.block ?_
      refine AW.seq ?_
      refine AW.region ?_
      refine AOps.q rfl rfl rfl (q_eq rfl rfl rfl) ?_
      refine AOps.q rfl rfl rfl (q_as rfl (rfl : _ = V.bool _)) ?_
      refine AOps.nil ?_
      refine AW.cond rfl (fun c2 => ?_) (fun c2 => ?_)
      · exact absurd (by simpa using c2) hk.1
      · skip
        refine AW.seq ?_
        refine AW.region ?_
        refine AOps.q rfl rfl rfl (q_eq rfl rfl rfl) ?_
        refine AOps.q rfl rfl rfl (q_as rfl (rfl : _ = V.bool _)) ?_
        refine AOps.nil ?_
        refine AW.cond rfl (fun c3 => ?_) (fun c3 => ?_)
        · exact absurd (by simpa using c3) hk.2
        · skip
          refine AW.seq ?_
          refine AW.region ?_
          refine AOps.q rfl rfl rfl (q_eq rfl rfl rfl) ?_
          refine AOps.q rfl rfl rfl (q_as rfl (rfl : _ = V.bool _)) ?_
          refine AOps.nil ?_
          refine AW.cond rfl (fun c4 => ?_) (fun c4 => ?_)
          · have e1 : x.k = 1 := by simpa using c4
            refine AW.seq ?_
            refine AW.region ?_
            refine AOps.q rfl rfl rfl (q_mv rfl (rfl : _ = V.ptr _ _)) ?_
            refine AOps.q rfl rfl rfl (q_load_iW rfl Tryz.isAgg84 Tryz.sizeOf84 rfl (by rfl)) ?_
            refine AOps.s rfl rfl rfl ((AStep.call rfl (by exact Tryz.call107) (evMove_calls s x rest (ok.2.1 e1) hb hl hf)).mono ?_)
            rintro x1 h1 ⟨rfl, rfl⟩
            refine AOps.q rfl rfl rfl (q_as rfl (rfl : _ = eErr _ _)) ?_
            refine AOps.nil ?_
            refine AW.ret ?_
            exact retQ.mk (.one _) ⟨by rw [do_1 hc e1]; rfl, by rw [do_1 hc e1]⟩
          · skip
            refine AW.seq ?_
            refine AW.region ?_
            refine AOps.q rfl rfl rfl (q_eq rfl rfl rfl) ?_
            refine AOps.q rfl rfl rfl (q_as rfl (rfl : _ = V.bool _)) ?_
            refine AOps.nil ?_
            refine AW.cond rfl (fun c5 => ?_) (fun c5 => ?_)
            · have e2 : x.k = 2 := by simpa using c5
              have ok2 := ok.2.2.1 e2
              refine AW.seq ?_
              refine AW.seq ?_
              refine AW.draw [] [] [(0, true), (1, true), (2, true), (3, true), (4, true), (5, true), (6, true), (7, true)] mixed (by kernel_rfl) rfl (by kernel_rfl) ?_
              refine AOrd.q rfl rfl rfl rfl (q_fa_i rfl Tryz.underlying84 rfl (by exact Tryz.sizeOf3) (by decide) rfl (rfl : _ = List.drop 1 _)) ?_
              refine AOrd.q rfl rfl rfl rfl (q_load_i1 rfl Tryz.isAgg3 rfl rfl) ?_
              refine AOrd.q rfl rfl rfl rfl (q_mv rfl (rfl : _ = V.ptr _ _)) ?_
              refine AOrd.q rfl rfl rfl rfl (q_nc rfl (rfl : _ = V.ptr _ _) rfl) ?_
              refine AOrd.q rfl rfl rfl rfl (q_fa_b rfl Tryz.underlying29 rfl (by exact Tryz.sizeOf22) (by decide) rfl (rfl : _ = 0)) ?_
              refine AOrd.q rfl rfl rfl rfl (q_load_b1 rfl Tryz.isAgg22 rfl (by exact Hp.box_setBox _ _ _) rfl) ?_
              refine AOrd.q rfl rfl rfl rfl (q_len rfl Tryz.underlying22 rfl) ?_
              refine AOrd.q rfl rfl rfl rfl (q_ge rfl rfl rfl) ?_
              refine AOrd.nil ?_
              refine AW.cond rfl (fun c6 => ?_) (fun c6 => ?_)
              · skip
                refine AW.seq ?_
                refine AW.region ?_
                refine AOps.q rfl rfl rfl (q_iface rfl Tryz.underlying62 rfl) ?_
                refine AOps.q rfl rfl rfl (q_as rfl (rfl : _ = V.iface _ _)) ?_
                refine AOps.nil ?_
                refine AW.ret ?_
                exact retQ.mk (.one _) ⟨by show V.iface _ (V.int _ _) = _; rw [do_2 hc e2, if_pos (by simpa using c6)]; exact (eErr_ne (by decide)).symm, by rw [do_2 hc e2, if_pos (by simpa using c6)]⟩
              · have hlt : x.a < s.objs.length := by simpa using c6
                refine AW.skip ?_
                refine AW.seq ?_
                refine AW.region ?_
                refine AOps.q rfl rfl rfl (q_mv rfl (rfl : _ = V.ptr _ _)) ?_
                refine AOps.q rfl rfl rfl (q_nc rfl (rfl : _ = V.ptr _ _) rfl) ?_
                refine AOps.q rfl rfl rfl (q_fa_b rfl Tryz.underlying29 rfl (by exact Tryz.sizeOf22) (by decide) rfl (rfl : _ = 0)) ?_
                refine AOps.q rfl rfl rfl (q_load_b1 rfl Tryz.isAgg22 rfl (by exact Hp.box_setBox _ _ _) rfl) ?_
                refine AOps.s rfl rfl rfl ((AStep.call rfl (by exact Tryz.call49) (cloneOM_calls .imm s.objs hb (by omega) _)).mono ?_)
                rintro x1 h1 ⟨idc, slack, hidc, rfl, rfl⟩
                refine AOps.q rfl rfl rfl (q_as rfl (rfl : _ = V.msl _ _ _)) ?_
                refine AOps.nil ?_
                refine AW.seq ?_
                refine AW.seq ?_
                refine AW.draw [8] [0, 1, 2, 3, 4, 5] [(0, true), (1, true), (2, true), (3, true), (4, true), (5, true), (6, true), (7, true), (8, false), (9, true)] mixed (by kernel_rfl) rfl (by kernel_rfl) ?_
                refine AOrd.p rfl rfl rfl (fun _ => q_mv rfl (rfl : _ = V.msl _ _ _)) ?_
                refine AOrd.p rfl rfl rfl (fun _ => q_fa_i rfl Tryz.underlying84 rfl (by exact Tryz.sizeOf3) (by decide) rfl (rfl : _ = List.drop 1 _)) ?_
                refine AOrd.p rfl rfl rfl (fun _ => q_load_i1 rfl Tryz.isAgg3 rfl rfl) ?_
                refine AOrd.p rfl rfl rfl (fun _ => q_fa_i rfl Tryz.underlying84 rfl (by exact Tryz.sizeOf3) (by decide) rfl (rfl : _ = List.drop 2 _)) ?_
                refine AOrd.p rfl rfl rfl (fun _ => q_load_i1 rfl Tryz.isAgg3 rfl rfl) ?_
                refine AOrd.p rfl rfl rfl (fun _ => q_ia_m rfl Tryz.underlying22 Tryz.sizeOf49 rfl rfl (by omega) (by omega)) ?_
                refine AOrd.q rfl rfl rfl rfl (q_ia_ab rfl Tryz.underlying49 Tryz.sizeOf3 rfl rfl (by omega) (by omega)) ?_
                refine AOrd.q rfl rfl rfl rfl (q_load_iW rfl Tryz.isAgg84 Tryz.sizeOf84 rfl (by rfl)) ?_
                refine AOrd.s rfl rfl rfl rfl ((AStep.call rfl (by exact Tryz.call108) (evSet_calls x _ (Hp.box_setBox _ _ _) (objs_ix (by omega) (by omega) (by omega) (by omega)))).mono ?_)
                rintro x2 h2 ⟨rfl, rfl⟩
                refine AOrd.q rfl rfl rfl rfl (q_as rfl (rfl : _ = eErr _ _)) ?_
                refine AOrd.nil ?_
                refine AW.seq ?_
                refine AW.region ?_
                refine AOps.q rfl rfl rfl (q_mv rfl (rfl : _ = eErr _ _)) ?_
                refine AOps.q rfl rfl rfl (q_neerr Tryz.underlying38 rfl rfl) ?_
                refine AOps.nil ?_
                refine AW.cond rfl (fun c7 => ?_) (fun c7 => ?_)
                · have hne := ite20_t c7
                  refine AW.hp (if_neg hne) ?_
                  refine AW.seq ?_
                  refine AW.region ?_
                  refine AOps.q rfl rfl rfl (q_mv rfl (rfl : _ = eErr _ _)) ?_
                  refine AOps.q rfl rfl rfl (q_as rfl (rfl : _ = eErr _ _)) ?_
                  refine AOps.nil ?_
                  refine AW.ret ?_
                  exact retQ.mk' (.one _) (.of_eq (by show eErr _ _ = _; rw [if_neg hne, do_2 hc e2, if_neg (by simpa using c6), if_pos hne])) (.setBox hidc.1) ⟨rfl, by rw [do_2 hc e2, if_neg (by simpa using c6), if_pos hne]⟩
                · have heq := ite20_f c7
                  refine AW.hp ((if_pos heq).trans (by rw [Hp.setBox_setBox, objs_set (by omega) (by omega) (by omega) (by omega)])) ?_
                  refine AW.skip ?_
                  refine AW.seq ?_
                  refine AW.stay (d := 6) (y := eObjs (s.objs.set x.a.toNat (upd (s.objs.getD x.a.toNat noObj) x.b.toNat x.d))) (h0 := h0.setBox id (cState s ++ rest)) (Hp.box_setBox _ _ _) (.setBox hidc.1) hidc.1 (objs_sealed (by simp)) ?_
                  refine AW.region ?_
                  refine AOps.q rfl rfl rfl (q_mv rfl (rfl : _ = V.ptr _ _)) ?_
                  refine AOps.q rfl rfl rfl (q_mv rfl (rfl : _ = V.sl _ _ _ _)) ?_
                  refine AOps.q rfl rfl rfl (q_nc rfl (rfl : _ = V.ptr _ _) rfl) ?_
                  refine AOps.q rfl rfl rfl (q_fa_b rfl Tryz.underlying29 rfl (by exact Tryz.sizeOf22) (by decide) rfl (rfl : _ = 0)) ?_
                  refine AOps.s0 rfl rfl (a_store1 rfl Tryz.sizeOf22 rfl (by exact Hp.box_setBox _ _ _) (rfl : _ = eObjs _) rfl rfl (by exact Nat.le_of_ble_eq_true rfl) ?_)
                  refine AOps.nil ?_
                  refine AW.seq ?_
                  refine AW.region ?_
                  refine AOps.q rfl rfl rfl (q_as rfl (rfl : _ = V.inil)) ?_
                  refine AOps.nil ?_
                  refine AW.ret ?_
                  exact retQ.mk (.one _) ⟨by show V.inil = _; rw [do_2 hc e2, if_neg (by simpa using c6), if_neg (by simpa using heq)]; exact (eErr_zero _).symm, by rw [Hp.setBox_setBox, do_2 hc e2, if_neg (by simpa using c6), if_neg (by simpa using heq)]; rfl⟩
            · skip
              refine AW.seq ?_
              refine AW.region ?_
              refine AOps.q rfl rfl rfl (q_eq rfl rfl rfl) ?_
              refine AOps.q rfl rfl rfl (q_as rfl (rfl : _ = V.bool _)) ?_
              refine AOps.nil ?_
              refine AW.cond rfl (fun c8 => ?_) (fun c8 => ?_)
              · have e3 : x.k = 3 := by simpa using c8
                have ok3 := ok.2.2.2.1 e3
                refine AW.seq ?_
                refine AW.draw [10] [0, 1, 2, 3, 4, 5, 6, 7] [(0, true), (1, true), (2, true), (3, true), (4, true), (5, true), (6, true), (7, true), (8, true), (9, true), (10, false), (11, true)] mixed (by kernel_rfl) rfl (by kernel_rfl) ?_
                refine AOrd.p rfl rfl rfl (fun _ => q_mv rfl (rfl : _ = V.ptr _ _)) ?_
                refine AOrd.p rfl rfl rfl (fun _ => q_fa_i rfl Tryz.underlying84 rfl (by exact Tryz.sizeOf3) (by decide) rfl (rfl : _ = List.drop 1 _)) ?_
                refine AOrd.p rfl rfl rfl (fun _ => q_load_i1 rfl Tryz.isAgg3 rfl rfl) ?_
                refine AOrd.p rfl rfl rfl (fun _ => q_fa_i rfl Tryz.underlying84 rfl (by exact Tryz.sizeOf3) (by decide) rfl (rfl : _ = List.drop 2 _)) ?_
                refine AOrd.p rfl rfl rfl (fun _ => q_load_i1 rfl Tryz.isAgg3 rfl rfl) ?_
                refine AOrd.p rfl rfl rfl (fun _ => q_nc rfl (rfl : _ = V.ptr _ _) rfl) ?_
                refine AOrd.p rfl rfl rfl (fun _ => q_fa_b rfl Tryz.underlying29 rfl (by exact Tryz.sizeOf26) (by decide) rfl (rfl : _ = 12)) ?_
                refine AOrd.p rfl rfl rfl (fun _ => q_ia_ab rfl Tryz.underlying26 Tryz.sizeOf25 rfl rfl (by omega) (by omega)) ?_
                refine AOrd.q rfl rfl rfl rfl (q_ia_ab rfl Tryz.underlying25 Tryz.sizeOf3 rfl rfl (by omega) (by omega)) ?_
                refine AOrd.q rfl rfl rfl rfl (q_load_iW rfl Tryz.isAgg84 Tryz.sizeOf84 rfl (by rfl)) ?_
                refine AOrd.s rfl rfl rfl rfl ((AStep.call rfl (by exact Tryz.call108) (evSet_calls x _ (Hp.box_setBox _ _ _) (st_pl_ix (by omega) (by omega) (by omega) (by omega)))).mono ?_)
                rintro x2 h2 ⟨rfl, rfl⟩
                refine AOrd.q rfl rfl rfl rfl (q_as rfl (rfl : _ = eErr _ _)) ?_
                refine AOrd.nil ?_
                refine AW.ret ?_
                by_cases e : s.pl x.a.toNat x.b.toNat = x.c
                · exact retQ.mk (.one _) ⟨by show eErr _ _ = _; rw [if_pos e, do_3 hc e3, if_neg (by simpa using e)], by rw [if_pos e, Hp.setBox_setBox, st_pl_set (by omega) (by omega) (by omega) (by omega), do_3 hc e3, if_neg (by simpa using e)]⟩
                · exact retQ.mk (.one _) ⟨by show eErr _ _ = _; rw [if_neg e, do_3 hc e3, if_pos e], by rw [if_neg e, do_3 hc e3, if_pos e]⟩
              · have ok4 := ok.2.2.2.2 ⟨hk.1, hk.2, by simpa using c4, by simpa using c5, by simpa using c8⟩
                refine AW.skip ?_
                refine AW.seq ?_
                refine AW.draw [7] [0, 1, 2, 3, 4] [(0, true), (1, true), (2, true), (3, true), (4, true), (5, true), (6, true), (7, false), (8, true)] mixed (by kernel_rfl) rfl (by kernel_rfl) ?_
                refine AOrd.p rfl rfl rfl (fun _ => q_mv rfl (rfl : _ = V.ptr _ _)) ?_
                refine AOrd.p rfl rfl rfl (fun _ => q_fa_i rfl Tryz.underlying84 rfl (by exact Tryz.sizeOf3) (by decide) rfl (rfl : _ = List.drop 2 _)) ?_
                refine AOrd.p rfl rfl rfl (fun _ => q_load_i1 rfl Tryz.isAgg3 rfl rfl) ?_
                refine AOrd.p rfl rfl rfl (fun _ => q_nc rfl (rfl : _ = V.ptr _ _) rfl) ?_
                refine AOrd.p rfl rfl rfl (fun _ => q_fa_b rfl Tryz.underlying29 rfl (by exact Tryz.sizeOf27) (by decide) rfl (rfl : _ = 30)) ?_
                refine AOrd.q rfl rfl rfl rfl (q_ia_ab rfl Tryz.underlying27 Tryz.sizeOf3 rfl rfl (by omega) (by omega)) ?_
                refine AOrd.q rfl rfl rfl rfl (q_load_iW rfl Tryz.isAgg84 Tryz.sizeOf84 rfl (by rfl)) ?_
                refine AOrd.s rfl rfl rfl rfl ((AStep.call rfl (by exact Tryz.call108) (evSet_calls x _ (Hp.box_setBox _ _ _) (st_game_ix (by omega) (by omega)))).mono ?_)
                rintro x2 h2 ⟨rfl, rfl⟩
                refine AOrd.q rfl rfl rfl rfl (q_as rfl (rfl : _ = eErr _ _)) ?_
                refine AOrd.nil ?_
                refine AW.ret ?_
                by_cases e : s.game x.b.toNat = x.c
                · exact retQ.mk (.one _) ⟨by show eErr _ _ = _; rw [if_pos e, do_4 hc hk (by simpa using c4) (by simpa using c5) (by simpa using c8), if_neg (by simpa using e)], by rw [if_pos e, Hp.setBox_setBox, st_game_set (by omega) (by omega), do_4 hc hk (by simpa using c4) (by simpa using c5) (by simpa using c8), if_neg (by simpa using e)]⟩
                · exact retQ.mk (.one _) ⟨by show eErr _ _ = _; rw [if_neg e, do_4 hc hk (by simpa using c4) (by simpa using c5) (by simpa using c8), if_pos e], by rw [if_neg e, do_4 hc hk (by simpa using c4) (by simpa using c5) (by simpa using c8), if_pos e]⟩

end Go.Proofs.YtnbmcbkokaoapaaGreatDoor
