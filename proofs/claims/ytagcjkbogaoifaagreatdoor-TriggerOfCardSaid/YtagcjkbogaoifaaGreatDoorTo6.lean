/- Walks: events, done. -/
import Derived.Test.YtagcjkbogaoifaaGreatDoorTo5
namespace Go.Proofs.YtagcjkbogaoifaaGreatDoor
open Go Go.AV Go.Proofs.Tryz
set_option maxRecDepth 100000
set_option maxHeartbeats 400000
/-- A move. -/
def moveF (s : St) (x : Ev) : St × Int :=
  if (s.objs.length : Int) ≤ x.a then (s, 4)
  else
    let r := removeF (s.lists x.b.toNat) x.c
    if r.2.2 ≠ 0 ∨ r.2.1 ≠ x.a then (s, 20)
    else
      let n := insertF (if x.d = x.b then r.1 else s.lists x.d.toNat) x.e x.a
      if n.2 ≠ 0 then (s, n.2)
      else (⟨s.objs.set x.a.toNat (upd (s.objs.getD x.a.toNat noObj) 3 x.d), upd (upd s.lists x.b.toNat r.1) x.d.toNat n.1, s.pl, s.game⟩, 0)
def madeF (x : Ev) : Obj := fun i => match i with | 0 => x.a | 1 => x.b | 2 => x.b | 3 => 10 | 13 => x.c | 17 => 3 | _ => 0
/-- An event is done (other than an unmaking): the state behind it; an error. -/
def evDo (s : St) (x : Ev) : St × Int :=
  if evCheck x ≠ 0 then (s, evCheck x)
  else if x.k = 0 then if 400 ≤ (s.objs.length : Int) then (s, 5) else (⟨s.objs ++ [madeF x], upd s.lists 10 (s.lists 10 ++ [(s.objs.length : Int)]), s.pl, s.game⟩, 0)
  else if x.k = 1 then moveF s x
  else if x.k = 2 then
    if (s.objs.length : Int) ≤ x.a then (s, 4)
    else if s.objs.getD x.a.toNat noObj x.b.toNat ≠ x.c then (s, 20)
    else (⟨s.objs.set x.a.toNat (upd (s.objs.getD x.a.toNat noObj) x.b.toNat x.d), s.lists, s.pl, s.game⟩, 0)
  else if x.k = 3 then
    if s.pl x.a.toNat x.b.toNat ≠ x.c then (s, 20) else (⟨s.objs, s.lists, upd s.pl x.a.toNat (upd (s.pl x.a.toNat) x.b.toNat x.d), s.game⟩, 0)
  else if s.game x.b.toNat ≠ x.c then (s, 20) else (⟨s.objs, s.lists, s.pl, upd s.game x.b.toNat x.d⟩, 0)

theorem evSet_calls (x : Ev) (v : Int) {id off : Nat} {cs : List V} {h : Hp} (hb : h.box id = some cs) (hv : cs[off]? = some (.int .i64 v)) : ACalls prog G 161 [.ptr id off, eEv x] h fun r h' => r = eE (if v = x.c then 0 else 20) ∧ h' = if v = x.c then h.setBox id (splice cs off [.int .i64 x.d]) else h := by
  refine ACalls.enter func161 rfl ntmps161 results161 rfl ?_
  refine .seq <|
    .region <|
    .bx rfl rfl ?_
  refine .u rfl rfl rfl (q_as rfl (rfl : _ = V.inil)) ?_
  refine .nil <|
    .seq <|
    .seq ?_
  refine AW.draw [] [] [(0, true), (1, true), (2, true), (3, true), (4, true), (5, true)] mixed (by kernel_rfl) rfl (by kernel_rfl) ?_
  refine .q rfl rfl rfl rfl (q_mv rfl (rfl : _ = V.ptr _ _)) ?_
  refine .q rfl rfl rfl rfl (q_nc rfl (rfl : _ = V.ptr _ _) rfl) ?_
  refine .q rfl rfl rfl rfl (q_load_b1 rfl isAgg3 rfl (hb) hv) ?_
  refine .q rfl rfl rfl rfl (q_fa_i rfl underlying116 rfl (by exact sizeOf3) (by decide) rfl (rfl : _ = List.drop 3 _)) ?_
  refine .q rfl rfl rfl rfl (q_load_i1 rfl isAgg3 rfl rfl) ?_
  refine .q rfl rfl rfl rfl (q_ne rfl rfl rfl) ?_
  refine AOrd.nil ?_
  refine AW.cond rfl (fun c0 => ?_) (fun c0 => ?_)
  · skip
    refine .seq <|
      .region ?_
    refine .u rfl rfl rfl (q_iface rfl underlying97 rfl) ?_
    refine .u rfl rfl rfl (q_as rfl (rfl : _ = V.iface _ _)) ?_
    refine .nil ?_
    refine AW.ret ?_
    exact retQ.mk (.one _) ⟨by show V.iface _ (V.int _ _) = _; rw [if_neg (by simpa using c0)]; exact (eErr_ne (by decide)).symm, by rw [if_neg (by simpa using c0)]⟩
  · skip
    refine AW.skip ?_
    refine .seq <|
      .region <|
      .mP rfl rfl <|
      .fi rfl f116_4 rfl <|
      .li rfl isAgg3 rfl rfl <|
      .nP rfl rfl ?_
    refine AOps.s0 rfl rfl (a_store1 rfl sizeOf3 rfl (hb) (rfl : _ = V.int _ _) rfl rfl (by have := (List.getElem?_eq_some_iff.1 hv).1; omega) ?_)
    refine .nil <|
      .seq <|
      .region ?_
    refine .u rfl rfl rfl (q_as rfl (rfl : _ = V.inil)) ?_
    refine .nil ?_
    refine AW.ret ?_
    exact retQ.mk (.one _) ⟨by show V.inil = _; rw [if_pos (by simpa using c0)]; exact (eErr_zero _).symm, by rw [if_pos (by simpa using c0)]⟩

theorem st_list_ix {s : St} {rest : List V} {i : Int} (h0 : 0 ≤ i) (h1 : i < 11) : (cState s ++ rest)[1 + i.toNat * 1]? = some (eInts (s.lists i.toNat)) := by
  obtain ⟨n, rfl⟩ := Int.eq_ofNat_of_zero_le h0
  match n, h1 with
  | 0, _ | 1, _ | 2, _ | 3, _ | 4, _ | 5, _ | 6, _ | 7, _ | 8, _ | 9, _ | 10, _ => rfl
theorem st_list_set {s : St} {rest : List V} {i : Int} {l : List Int} (h0 : 0 ≤ i) (h1 : i < 11) : splice (cState s ++ rest) (1 + i.toNat * 1) [eInts l] = cState ⟨s.objs, upd s.lists i.toNat l, s.pl, s.game⟩ ++ rest := by
  obtain ⟨n, rfl⟩ := Int.eq_ofNat_of_zero_le h0
  match n, h1 with
  | 0, _ | 1, _ | 2, _ | 3, _ | 4, _ | 5, _ | 6, _ | 7, _ | 8, _ | 9, _ | 10, _ => rfl
theorem st_game_ix {s : St} {rest : List V} {i : Int} (h0 : 0 ≤ i) (h1 : i < 7) : (cState s ++ rest)[30 + i.toNat * 1]? = some (.int .i64 (s.game i.toNat)) := by
  obtain ⟨n, rfl⟩ := Int.eq_ofNat_of_zero_le h0
  match n, h1 with
  | 0, _ | 1, _ | 2, _ | 3, _ | 4, _ | 5, _ | 6, _ => rfl
theorem st_game_set {s : St} {rest : List V} {i v : Int} (h0 : 0 ≤ i) (h1 : i < 7) : splice (cState s ++ rest) (30 + i.toNat * 1) [.int .i64 v] = cState ⟨s.objs, s.lists, s.pl, upd s.game i.toNat v⟩ ++ rest := by
  obtain ⟨n, rfl⟩ := Int.eq_ofNat_of_zero_le h0
  match n, h1 with
  | 0, _ | 1, _ | 2, _ | 3, _ | 4, _ | 5, _ | 6, _ => rfl
theorem st_pl_ix {s : St} {rest : List V} {p i : Int} (hp0 : 0 ≤ p) (hp1 : p < 2) (h0 : 0 ≤ i) (h1 : i < 9) : (cState s ++ rest)[12 + p.toNat * 9 + i.toNat * 1]? = some (.int .i64 (s.pl p.toNat i.toNat)) := by
  obtain ⟨n, rfl⟩ := Int.eq_ofNat_of_zero_le h0
  obtain ⟨m, rfl⟩ := Int.eq_ofNat_of_zero_le hp0
  match m, hp1, n, h1 with
  | 0, _, 0, _ | 0, _, 1, _ | 0, _, 2, _ | 0, _, 3, _ | 0, _, 4, _ | 0, _, 5, _ | 0, _, 6, _ | 0, _, 7, _ | 0, _, 8, _ => rfl
  | 1, _, 0, _ | 1, _, 1, _ | 1, _, 2, _ | 1, _, 3, _ | 1, _, 4, _ | 1, _, 5, _ | 1, _, 6, _ | 1, _, 7, _ | 1, _, 8, _ => rfl
theorem st_pl_set {s : St} {rest : List V} {p i v : Int} (hp0 : 0 ≤ p) (hp1 : p < 2) (h0 : 0 ≤ i) (h1 : i < 9) : splice (cState s ++ rest) (12 + p.toNat * 9 + i.toNat * 1) [.int .i64 v] = cState ⟨s.objs, s.lists, upd s.pl p.toNat (upd (s.pl p.toNat) i.toNat v), s.game⟩ ++ rest := by
  obtain ⟨n, rfl⟩ := Int.eq_ofNat_of_zero_le h0
  obtain ⟨m, rfl⟩ := Int.eq_ofNat_of_zero_le hp0
  match m, hp1, n, h1 with
  | 0, _, 0, _ | 0, _, 1, _ | 0, _, 2, _ | 0, _, 3, _ | 0, _, 4, _ | 0, _, 5, _ | 0, _, 6, _ | 0, _, 7, _ | 0, _, 8, _ => rfl
  | 1, _, 0, _ | 1, _, 1, _ | 1, _, 2, _ | 1, _, 3, _ | 1, _, 4, _ | 1, _, 5, _ | 1, _, 6, _ | 1, _, 7, _ | 1, _, 8, _ => rfl
theorem obj_splice {o : Obj} {rest : List V} {b : Nat} {v : Int} (h : b < 18) : splice (cObj o ++ rest) b [.int .i64 v] = cObj (upd o b v) ++ rest := by
  have : b = 0 ∨ b = 1 ∨ b = 2 ∨ b = 3 ∨ b = 4 ∨ b = 5 ∨ b = 6 ∨ b = 7 ∨ b = 8 ∨ b = 9 ∨ b = 10 ∨ b = 11 ∨ b = 12 ∨ b = 13 ∨ b = 14 ∨ b = 15 ∨ b = 16 ∨ b = 17 := by omega
  rcases this with e | e | e | e | e | e | e | e | e | e | e | e | e | e | e | e | e | e <;> subst e <;> rfl
theorem objs_splice : ∀ {l : List Obj} {slack : List V} {a b : Nat} {v : Int}, a < l.length → b < 18 → splice (cObjs l ++ slack) (a * 18 + b) [.int .i64 v] = cObjs (l.set a (upd (l.getD a noObj) b v)) ++ slack
  | [], _, _, _, _, h, _ => by simp at h
  | o :: l, slack, 0, b, v, _, h => by
    have := obj_splice (o := o) (rest := cObjs l ++ slack) (v := v) h
    rw [Nat.zero_mul, Nat.zero_add]
    show splice ((cObj o ++ cObjs l) ++ slack) b _ = (cObj (upd o b v) ++ cObjs l) ++ slack
    rw [List.append_assoc, List.append_assoc]; exact this
  | o :: l, slack, a + 1, b, v, h, hb => by
    have ih := objs_splice (l := l) (slack := slack) (a := a) (b := b) (v := v) (by simpa using h) hb
    show splice ((cObj o ++ cObjs l) ++ slack) ((a + 1) * 18 + b) _ = (cObj o ++ cObjs (l.set a (upd (l.getD a noObj) b v))) ++ slack
    rw [List.append_assoc, List.append_assoc, ← ih, show (a + 1) * 18 + b = (a * 18 + b) + 18 by omega]
    rfl
theorem objs_get : ∀ {l : List Obj} {slack : List V} {a b : Nat}, a < l.length → b < 18 → (cObjs l ++ slack)[a * 18 + b]? = some (.int .i64 (l.getD a noObj b))
  | [], _, _, _, h, _ => by simp at h
  | o :: l, slack, 0, b, _, h => by
    rw [Nat.zero_mul, Nat.zero_add]
    show ((cObj o ++ cObjs l) ++ slack)[b]? = _
    rw [List.append_assoc, List.getElem?_append_left (by rw [cObj_len]; exact h)]
    exact cObj_ix h
  | o :: l, slack, a + 1, b, h, hb => by
    have ih := objs_get (l := l) (slack := slack) (a := a) (b := b) (by simpa using h) hb
    show ((cObj o ++ cObjs l) ++ slack)[(a + 1) * 18 + b]? = _
    rw [List.append_assoc, List.getElem?_append_right (by rw [cObj_len]; omega), cObj_len, show (a + 1) * 18 + b - 18 = a * 18 + b by omega, ih]
    rfl
theorem objs_ix {l : List Obj} {slack : List V} {a b : Int} (ha : 0 ≤ a) (ha1 : a < l.length) (hb : 0 ≤ b) (hb1 : b < 18) : (cObjs l ++ slack)[0 + a.toNat * 18 + b.toNat * 1]? = some (.int .i64 (l.getD a.toNat noObj b.toNat)) := by
  rw [Nat.zero_add, Nat.mul_one]; exact objs_get (by omega) (by omega)
theorem objs_set {l : List Obj} {slack : List V} {a b v : Int} (ha : 0 ≤ a) (ha1 : a < l.length) (hb : 0 ≤ b) (hb1 : b < 18) : splice (cObjs l ++ slack) (0 + a.toNat * 18 + b.toNat * 1) [.int .i64 v] = cObjs (l.set a.toNat (upd (l.getD a.toNat noObj) b.toNat v)) ++ slack := by
  rw [Nat.zero_add, Nat.mul_one]; exact objs_splice (by omega) (by omega)
theorem objs_lt {l : List Obj} {slack : List V} {a b : Int} (ha : 0 ≤ a) (ha1 : a < l.length) (hb : 0 ≤ b) (hb1 : b < 18) : 0 + a.toNat * 18 + b.toNat * 1 + 1 ≤ (cObjs l ++ slack).length := by
  have := (List.getElem?_eq_some_iff.1 (objs_ix (slack := slack) ha ha1 hb hb1)).1; omega
theorem objs_sealed {l l' : List Obj} {slack : List V} {id : Nat} (h : l'.length = l.length) : Sealed id (cObjs l' ++ slack) (.msl id 0 l.length) (eObjs l') := by
  refine .inr ⟨0, 18, l.length, rfl, ?_, by simp [cObjs_len, h]⟩
  rw [List.drop_zero, List.take_append_of_le_length (by rw [cObjs_len]; omega), List.take_of_length_le (by rw [cObjs_len]; omega), ← h]
theorem removeF_len {l : List Int} {i : Int} : (removeF l i).1.length ≤ l.length := by
  unfold removeF; split
  · simp; omega
  · simp
theorem move_bad {s : St} {x : Ev} (h0 : ¬ (s.objs.length : Int) ≤ x.a) (h1 : (bif (removeF (s.lists x.b.toNat) x.c).2.2 != 0 then true else (removeF (s.lists x.b.toNat) x.c).2.1 != x.a) = true) : moveF s x = (s, 20) := by
  simp only [moveF, if_neg h0]; rw [if_pos]
  cases e : ((removeF (s.lists x.b.toNat) x.c).2.2 != 0) with
  | true => exact .inl (by simpa using e)
  | false => rw [e] at h1; exact .inr (by simpa using h1)
theorem move_good {s : St} {x : Ev} (h1 : (bif (removeF (s.lists x.b.toNat) x.c).2.2 != 0 then true else (removeF (s.lists x.b.toNat) x.c).2.1 != x.a) = false) : ¬ ((removeF (s.lists x.b.toNat) x.c).2.2 ≠ 0 ∨ (removeF (s.lists x.b.toNat) x.c).2.1 ≠ x.a) := by
  cases e : ((removeF (s.lists x.b.toNat) x.c).2.2 != 0) with
  | true => rw [e] at h1; cases h1
  | false => rw [e] at h1; simp at e h1; simp [e, h1]
theorem move_err {s : St} {x : Ev} {to : List Int} (h0 : ¬ (s.objs.length : Int) ≤ x.a) (h1 : (bif (removeF (s.lists x.b.toNat) x.c).2.2 != 0 then true else (removeF (s.lists x.b.toNat) x.c).2.1 != x.a) = false)
    (ht : (if x.d = x.b then (removeF (s.lists x.b.toNat) x.c).1 else s.lists x.d.toNat) = to) (h2 : (insertF to x.e x.a).2 ≠ 0) : moveF s x = (s, (insertF to x.e x.a).2) := by
  simp only [moveF, if_neg h0, if_neg (move_good h1), ht, if_pos h2]
theorem move_ok {s : St} {x : Ev} {to : List Int} (h0 : ¬ (s.objs.length : Int) ≤ x.a) (h1 : (bif (removeF (s.lists x.b.toNat) x.c).2.2 != 0 then true else (removeF (s.lists x.b.toNat) x.c).2.1 != x.a) = false)
    (ht : (if x.d = x.b then (removeF (s.lists x.b.toNat) x.c).1 else s.lists x.d.toNat) = to) (h2 : (insertF to x.e x.a).2 = 0) :
    moveF s x = (⟨s.objs.set x.a.toNat (upd (s.objs.getD x.a.toNat noObj) 3 x.d), upd (upd s.lists x.b.toNat (removeF (s.lists x.b.toNat) x.c).1) x.d.toNat (insertF to x.e x.a).1, s.pl, s.game⟩, 0) := by
  simp only [moveF, if_neg h0, if_neg (move_good h1), ht, h2, ne_eq, not_true_eq_false, if_false]
/-- What an event's numbers must be for a move. -/
structure MoveOk (x : Ev) : Prop where
  a : 0 ≤ x.a
  b : 0 ≤ x.b ∧ x.b < 11
  c : 0 ≤ x.c
  d : 0 ≤ x.d ∧ x.d < 11
  e : 0 ≤ x.e

theorem evMove_calls (s : St) (x : Ev) (rest : List V) (hx : MoveOk x) (hb : s.objs.length ≤ 1000000) (hl : ∀ z, (s.lists z).length ≤ 1000000) {id : Nat} {h0 : Hp} (hf : h0.fresh id) : ACalls prog G 160 [.ptr id 0, eEv x] (h0.setBox id (cState s ++ rest)) fun r h' => r = eE (moveF s x).2 ∧ h' = h0.setBox id (cState (moveF s x).1 ++ rest) := by
  obtain ⟨hxa, hxb, hxc, hxd, hxe⟩ := hx
  have hrl : (removeF (s.lists x.b.toNat) x.c).1.length ≤ 1000000 := Nat.le_trans removeF_len (hl _)
  refine ACalls.enter func160 rfl ntmps160 results160 rfl ?_
  refine .seq <|
    .region <|
    .bx rfl rfl ?_
  refine .u rfl rfl rfl (q_as rfl (rfl : _ = V.inil)) ?_
  refine .nil <|
    .seq <|
    .seq ?_
  refine AW.draw [] [] [(0, true), (1, true), (2, true), (3, true), (4, true), (5, true), (6, true), (7, true)] mixed (by kernel_rfl) rfl (by kernel_rfl) ?_
  refine .q rfl rfl rfl rfl (q_fa_i rfl underlying116 rfl (by exact sizeOf3) (by decide) rfl (rfl : _ = List.drop 1 _)) ?_
  refine .q rfl rfl rfl rfl (q_load_i1 rfl isAgg3 rfl rfl) ?_
  refine .q rfl rfl rfl rfl (q_mv rfl (rfl : _ = V.ptr _ _)) ?_
  refine .q rfl rfl rfl rfl (q_nc rfl (rfl : _ = V.ptr _ _) rfl) ?_
  refine .q rfl rfl rfl rfl (q_fa_b rfl underlying29 rfl (by exact sizeOf22) (by decide) rfl (rfl : _ = 0)) ?_
  refine .q rfl rfl rfl rfl (q_load_b1 rfl isAgg22 rfl (by exact bsb) rfl) ?_
  refine .q rfl rfl rfl rfl (q_len rfl underlying22 rfl) ?_
  refine .q rfl rfl rfl rfl (q_ge rfl rfl rfl) ?_
  refine AOrd.nil ?_
  refine AW.cond rfl (fun c0 => ?_) (fun c0 => ?_)
  · skip
    refine .seq <|
      .region ?_
    refine .u rfl rfl rfl (q_iface rfl underlying97 rfl) ?_
    refine .u rfl rfl rfl (q_as rfl (rfl : _ = V.iface _ _)) ?_
    refine .nil ?_
    refine AW.ret ?_
    exact retQ.mk (.one _) ⟨by show V.iface _ (V.int _ _) = _; rw [moveF, if_pos (by simpa using c0)]; exact (eErr_ne (by decide)).symm, by rw [moveF, if_pos (by simpa using c0)]⟩
  · skip
    refine AW.skip ?_
    refine .seq ?_
    refine AW.draw [] [] [(0, true), (1, true), (2, true), (3, true), (4, true), (5, true), (6, true), (7, true), (8, true), (9, true), (10, true), (11, true), (12, true), (13, true), (14, true), (15, true), (16, true)] mixed (by kernel_rfl) rfl (by kernel_rfl) ?_
    refine .q rfl rfl rfl rfl (q_mv rfl (rfl : _ = V.ptr _ _)) ?_
    refine .q rfl rfl rfl rfl (q_fa_i rfl underlying116 rfl (by exact sizeOf3) (by decide) rfl (rfl : _ = List.drop 2 _)) ?_
    refine .q rfl rfl rfl rfl (q_load_i1 rfl isAgg3 rfl rfl) ?_
    refine .q rfl rfl rfl rfl (q_nc rfl (rfl : _ = V.ptr _ _) rfl) ?_
    refine .q rfl rfl rfl rfl (q_fa_b rfl underlying29 rfl (by exact sizeOf24) (by decide) rfl (rfl : _ = 1)) ?_
    refine .q rfl rfl rfl rfl (q_ia_ab rfl underlying24 sizeOf23 rfl rfl (by omega) (by omega)) ?_
    refine .q rfl rfl rfl rfl (q_load_b1 rfl isAgg23 rfl (by exact bsb) (st_list_ix hxb.1 hxb.2)) ?_
    refine .q rfl rfl rfl rfl (q_fa_i rfl underlying116 rfl (by exact sizeOf3) (by decide) rfl (rfl : _ = List.drop 3 _)) ?_
    refine .q rfl rfl rfl rfl (q_load_i1 rfl isAgg3 rfl rfl) ?_
    refine .q rfl rfl rfl rfl (QOp.call rfl (by exact call192) fun h' _ => by exact remove_calls _ _ (hl _) h') ?_
    refine .q rfl rfl rfl rfl (q_mv rfl (rfl : _ = V.tup _)) ?_
    refine .q rfl rfl rfl rfl (q_extract rfl rfl rfl) ?_
    refine .q rfl rfl rfl rfl (q_extract rfl rfl rfl) ?_
    refine .q rfl rfl rfl rfl (q_extract rfl rfl rfl) ?_
    refine .q rfl rfl rfl rfl (q_as rfl (rfl : _ = V.sl _ _ _ _)) ?_
    refine .q rfl rfl rfl rfl (q_as rfl (rfl : _ = V.int _ _)) ?_
    refine .q rfl rfl rfl rfl (q_as rfl (rfl : _ = eErr _ _)) ?_
    refine AOrd.nil ?_
    refine .seq <|
      .seq <|
      .region ?_
    refine .u rfl rfl rfl (q_mv rfl (rfl : _ = eErr _ _)) ?_
    refine .u rfl rfl rfl (q_neerr underlying58 rfl rfl) ?_
    refine .mB rfl rfl ?_
    refine .gf rfl rfl rfl (fun _ => tl0) (fun hc => q_mv rfl (rfl : _ = V.int _ _)) ?_
    refine .gf rfl rfl rfl (fun _ => tl0) (fun hc => q_fa_i rfl underlying116 rfl (by exact sizeOf3) (by decide) rfl (rfl : _ = List.drop 1 _)) ?_
    refine .gf rfl rfl rfl (fun hc => tl1 37 (.opt hc)) (fun hc => q_load_i1 rfl isAgg3 rfl rfl) ?_
    refine .gf rfl rfl rfl (fun hc => tl2 38 36 (.opt hc) (.opt hc)) (fun hc => q_ne rfl rfl rfl) ?_
    refine .pf rfl rfl rfl rfl <|
      .nil ?_
    refine AW.cond rfl (fun c1 => ?_) (fun c1 => ?_)
    · skip
      refine .seq <|
        .region ?_
      refine .u rfl rfl rfl (q_iface rfl underlying97 rfl) ?_
      refine .u rfl rfl rfl (q_as rfl (rfl : _ = V.iface _ _)) ?_
      refine .nil ?_
      refine AW.ret ?_
      exact retQ.mk (.one _) ⟨by show V.iface _ (V.int _ _) = _; rw [move_bad (by simpa using c0) c1]; exact (eErr_ne (by decide)).symm, by rw [move_bad (by simpa using c0) c1]⟩
    · skip
      refine AW.skip ?_
      refine .seq ?_
      refine AW.draw [] [] [(0, true), (1, true), (2, true), (3, true), (4, true), (5, true), (6, true), (7, true)] mixed (by kernel_rfl) rfl (by kernel_rfl) ?_
      refine .q rfl rfl rfl rfl (q_mv rfl (rfl : _ = V.ptr _ _)) ?_
      refine .q rfl rfl rfl rfl (q_fa_i rfl underlying116 rfl (by exact sizeOf3) (by decide) rfl (rfl : _ = List.drop 4 _)) ?_
      refine .q rfl rfl rfl rfl (q_load_i1 rfl isAgg3 rfl rfl) ?_
      refine .q rfl rfl rfl rfl (q_nc rfl (rfl : _ = V.ptr _ _) rfl) ?_
      refine .q rfl rfl rfl rfl (q_fa_b rfl underlying29 rfl (by exact sizeOf24) (by decide) rfl (rfl : _ = 1)) ?_
      refine .q rfl rfl rfl rfl (q_ia_ab rfl underlying24 sizeOf23 rfl rfl (by omega) (by omega)) ?_
      refine .q rfl rfl rfl rfl (q_load_b1 rfl isAgg23 rfl (by exact bsb) (st_list_ix hxd.1 hxd.2)) ?_
      refine .q rfl rfl rfl rfl (q_as rfl (rfl : _ = V.sl _ _ _ _)) ?_
      refine AOrd.nil ?_
      refine .seq <|
        .seq <|
        .region <|
        .fi rfl f116_4 rfl <|
        .li rfl isAgg3 rfl rfl <|
        .fi rfl f116_2 rfl <|
        .li rfl isAgg3 rfl rfl <|
        .qe rfl rfl rfl <|
        .nil ?_
      refine AW.cond rfl (fun c2 => ?_) (fun c2 => ?_)
      · skip
        refine .region <|
          .mS rfl rfl <|
          .aS rfl rfl <|
          .nil <|
          .seq <|
          .region <|
          .mS rfl rfl <|
          .fi rfl f116_5 rfl <|
          .li rfl isAgg3 rfl rfl <|
          .fi rfl f116_1 rfl <|
          .li rfl isAgg3 rfl rfl ?_
        refine .u rfl rfl rfl (QOp.call rfl call193 fun h' _ => by exact insert_calls _ _ _ (by first | assumption | exact hl _) h') ?_
        refine .u rfl rfl rfl (q_mv rfl (rfl : _ = V.tup _)) ?_
        refine .u rfl rfl rfl (q_extract rfl rfl rfl) ?_
        refine .u rfl rfl rfl (q_extract rfl rfl rfl) ?_
        refine .aS rfl rfl ?_
        refine .u rfl rfl rfl (q_as rfl (rfl : _ = eErr _ _)) ?_
        refine .nil <|
          .seq <|
          .seq <|
          .region ?_
        refine .u rfl rfl rfl (q_mv rfl (rfl : _ = eErr _ _)) ?_
        refine .u rfl rfl rfl (q_neerr underlying58 rfl rfl) ?_
        refine .nil ?_
        refine AW.cond rfl (fun c3 => ?_) (fun c3 => ?_)
        · skip
          refine .seq <|
            .region ?_
          refine .u rfl rfl rfl (q_mv rfl (rfl : _ = eErr _ _)) ?_
          refine .u rfl rfl rfl (q_as rfl (rfl : _ = eErr _ _)) ?_
          refine .nil ?_
          refine AW.ret ?_
          exact retQ.mk (.one _) ⟨by rw [move_err (by simpa using c0) c1 (if_pos (by simpa using c2)) (by simpa using c3)]; rfl, by rw [move_err (by simpa using c0) c1 (if_pos (by simpa using c2)) (by simpa using c3)]⟩
        · skip
          refine AW.skip ?_
          refine .seq ?_
          have hlt : x.a < s.objs.length := by simpa using c0
          refine AW.draw [7] [4, 5] [(0, true), (1, true), (2, true), (3, true), (4, true), (5, true), (6, true), (7, false)] mixed (by kernel_rfl) rfl (by kernel_rfl) ?_
          refine .q rfl rfl rfl rfl (q_mv rfl (rfl : _ = V.ptr _ _)) ?_
          refine .q rfl rfl rfl rfl (q_fa_i rfl underlying116 rfl (by exact sizeOf3) (by decide) rfl (rfl : _ = List.drop 2 _)) ?_
          refine .q rfl rfl rfl rfl (q_load_i1 rfl isAgg3 rfl rfl) ?_
          refine .q rfl rfl rfl rfl (q_mv rfl (rfl : _ = V.sl _ _ _ _)) ?_
          refine .p rfl rfl rfl (fun _ => q_nc rfl (rfl : _ = V.ptr _ _) rfl) ?_
          refine .p rfl rfl rfl (fun _ => q_fa_b rfl underlying29 rfl (by exact sizeOf24) (by decide) rfl (rfl : _ = 1)) ?_
          refine .q rfl rfl rfl rfl (q_ia_ab rfl underlying24 sizeOf23 rfl rfl (by omega) (by omega)) ?_
          refine AOrd.s0 rfl rfl rfl rfl (a_store1 rfl sizeOf23 rfl (by exact bsb) (rfl : _ = V.sl _ _ _ _) rfl rfl (by simp [cState]; omega) ?_)
          refine AOrd.nil ?_
          refine .seq ?_
          refine AW.hp (by rw [Hp.setBox_setBox, st_list_set hxb.1 hxb.2]) ?_
          refine AW.draw [7] [4, 5] [(0, true), (1, true), (2, true), (3, true), (4, true), (5, true), (6, true), (7, false)] mixed (by kernel_rfl) rfl (by kernel_rfl) ?_
          refine .q rfl rfl rfl rfl (q_mv rfl (rfl : _ = V.ptr _ _)) ?_
          refine .q rfl rfl rfl rfl (q_fa_i rfl underlying116 rfl (by exact sizeOf3) (by decide) rfl (rfl : _ = List.drop 4 _)) ?_
          refine .q rfl rfl rfl rfl (q_load_i1 rfl isAgg3 rfl rfl) ?_
          refine .q rfl rfl rfl rfl (q_mv rfl (rfl : _ = V.sl _ _ _ _)) ?_
          refine .p rfl rfl rfl (fun _ => q_nc rfl (rfl : _ = V.ptr _ _) rfl) ?_
          refine .p rfl rfl rfl (fun _ => q_fa_b rfl underlying29 rfl (by exact sizeOf24) (by decide) rfl (rfl : _ = 1)) ?_
          refine .q rfl rfl rfl rfl (q_ia_ab rfl underlying24 sizeOf23 rfl rfl (by omega) (by omega)) ?_
          refine AOrd.s0 rfl rfl rfl rfl (a_store1 rfl sizeOf23 rfl (by exact bsb) (rfl : _ = V.sl _ _ _ _) rfl rfl (by simp [cState]; omega) ?_)
          refine AOrd.nil ?_
          refine .seq ?_
          refine AW.hp (by rw [Hp.setBox_setBox, st_list_set hxd.1 hxd.2]) ?_
          refine .region <|
            .mP rfl rfl <|
            .mP rfl rfl <|
            .nP rfl rfl <|
            .fb rfl f29_0 rfl rfl <|
            .lb rfl isAgg22 rfl rfl ?_
          refine AOps.s rfl rfl rfl ((AStep.call rfl (by exact call81) (cloneOM_calls .imm s.objs hb (by omega) _)).mono ?_)
          rintro x1 h1 ⟨idc, slack, hidc, rfl, rfl⟩
          have nec : id ≠ idc := Hp.ne_of_box (Hp.box_setBox _ _ _) hidc.1
          refine .nP rfl rfl <|
            .fb rfl f29_0 rfl rfl ?_
          refine AOps.s0 rfl rfl (a_store1 rfl sizeOf22 rfl (by exact (Hp.box_setBox_ne _ _ nec).trans (Hp.box_setBox _ _ _)) (rfl : _ = V.msl _ _ _) rfl rfl (by exact Nat.le_of_ble_eq_true rfl) ?_)
          refine AOps.hp (by rw [Hp.setBox_comm _ _ _ nec.symm, Hp.setBox_setBox]) ?_
          refine .nil <|
            .seq ?_
          refine AW.draw [10] [8] [(0, true), (1, true), (2, true), (3, true), (4, true), (5, true), (6, true), (7, true), (8, true), (9, true), (10, false)] mixed (by kernel_rfl) rfl (by kernel_rfl) ?_
          refine .q rfl rfl rfl rfl (q_mv rfl (rfl : _ = V.ptr _ _)) ?_
          refine .q rfl rfl rfl rfl (q_nc rfl (rfl : _ = V.ptr _ _) rfl) ?_
          refine .q rfl rfl rfl rfl (q_fa_b rfl underlying29 rfl (by exact sizeOf22) (by decide) rfl (rfl : _ = 0)) ?_
          refine .q rfl rfl rfl rfl (q_load_b1 rfl isAgg22 rfl (by exact (Hp.box_setBox_ne _ _ nec).trans (Hp.box_setBox _ _ _)) rfl) ?_
          refine .q rfl rfl rfl rfl (q_fa_i rfl underlying116 rfl (by exact sizeOf3) (by decide) rfl (rfl : _ = List.drop 1 _)) ?_
          refine .q rfl rfl rfl rfl (q_load_i1 rfl isAgg3 rfl rfl) ?_
          refine .q rfl rfl rfl rfl (q_fa_i rfl underlying116 rfl (by exact sizeOf3) (by decide) rfl (rfl : _ = List.drop 4 _)) ?_
          refine .q rfl rfl rfl rfl (q_load_i1 rfl isAgg3 rfl rfl) ?_
          refine .p rfl rfl rfl (fun _ => q_ia_m rfl underlying22 sizeOf72 rfl rfl (by omega) (by omega)) ?_
          refine .q rfl rfl rfl rfl (q_ia_ab rfl underlying72 sizeOf3 rfl rfl (by decide) (by decide)) ?_
          refine AOrd.s0 rfl rfl rfl rfl (a_store1 rfl sizeOf3 rfl (by exact bsb) (rfl : _ = V.int _ _) rfl rfl (by exact objs_lt (by omega) (by omega) (by decide) (by decide)) ?_)
          refine AOrd.nil ?_
          refine .seq ?_
          refine AW.hp (by rw [Hp.setBox_setBox, objs_set (by omega) (by omega) (by decide) (by decide)]) ?_
          refine AW.sealIn2 (T' := T0) (cs' := cState ⟨s.objs.set x.a.toNat (upd (s.objs.getD x.a.toNat noObj) 3 x.d), _, _, _⟩ ++ rest) hf (Hp.fresh_swap hidc) rfl (fun j => match j with | 0 => .inr (objs_sealed (by simp)) | j + 1 => .inl (.refl _)) (fun i => .inl (.junk _)) ?_
          refine .region ?_
          refine .u rfl rfl rfl (q_as rfl (rfl : _ = V.inil)) ?_
          refine .nil ?_
          refine AW.ret ?_
          exact retQ.mk (.one _) ⟨by show V.inil = _; rw [move_ok (by simpa using c0) c1 (if_pos (by simpa using c2)) (by simpa using c3)]; exact (eErr_zero _).symm, by rw [move_ok (by simpa using c0) c1 (if_pos (by simpa using c2)) (by simpa using c3)]⟩
      · skip
        refine AW.skip ?_
        refine .seq <|
          .region <|
          .mS rfl rfl <|
          .fi rfl f116_5 rfl <|
          .li rfl isAgg3 rfl rfl <|
          .fi rfl f116_1 rfl <|
          .li rfl isAgg3 rfl rfl ?_
        refine .u rfl rfl rfl (QOp.call rfl call193 fun h' _ => by exact insert_calls _ _ _ (by first | assumption | exact hl _) h') ?_
        refine .u rfl rfl rfl (q_mv rfl (rfl : _ = V.tup _)) ?_
        refine .u rfl rfl rfl (q_extract rfl rfl rfl) ?_
        refine .u rfl rfl rfl (q_extract rfl rfl rfl) ?_
        refine .aS rfl rfl ?_
        refine .u rfl rfl rfl (q_as rfl (rfl : _ = eErr _ _)) ?_
        refine .nil <|
          .seq <|
          .seq <|
          .region ?_
        refine .u rfl rfl rfl (q_mv rfl (rfl : _ = eErr _ _)) ?_
        refine .u rfl rfl rfl (q_neerr underlying58 rfl rfl) ?_
        refine .nil ?_
        refine AW.cond rfl (fun c4 => ?_) (fun c4 => ?_)
        · skip
          refine .seq <|
            .region ?_
          refine .u rfl rfl rfl (q_mv rfl (rfl : _ = eErr _ _)) ?_
          refine .u rfl rfl rfl (q_as rfl (rfl : _ = eErr _ _)) ?_
          refine .nil ?_
          refine AW.ret ?_
          exact retQ.mk (.one _) ⟨by rw [move_err (by simpa using c0) c1 (if_neg (by simpa using c2)) (by simpa using c4)]; rfl, by rw [move_err (by simpa using c0) c1 (if_neg (by simpa using c2)) (by simpa using c4)]⟩
        · skip
          refine AW.skip ?_
          refine .seq ?_
          have hlt : x.a < s.objs.length := by simpa using c0
          refine AW.draw [7] [4, 5] [(0, true), (1, true), (2, true), (3, true), (4, true), (5, true), (6, true), (7, false)] mixed (by kernel_rfl) rfl (by kernel_rfl) ?_
          refine .q rfl rfl rfl rfl (q_mv rfl (rfl : _ = V.ptr _ _)) ?_
          refine .q rfl rfl rfl rfl (q_fa_i rfl underlying116 rfl (by exact sizeOf3) (by decide) rfl (rfl : _ = List.drop 2 _)) ?_
          refine .q rfl rfl rfl rfl (q_load_i1 rfl isAgg3 rfl rfl) ?_
          refine .q rfl rfl rfl rfl (q_mv rfl (rfl : _ = V.sl _ _ _ _)) ?_
          refine .p rfl rfl rfl (fun _ => q_nc rfl (rfl : _ = V.ptr _ _) rfl) ?_
          refine .p rfl rfl rfl (fun _ => q_fa_b rfl underlying29 rfl (by exact sizeOf24) (by decide) rfl (rfl : _ = 1)) ?_
          refine .q rfl rfl rfl rfl (q_ia_ab rfl underlying24 sizeOf23 rfl rfl (by omega) (by omega)) ?_
          refine AOrd.s0 rfl rfl rfl rfl (a_store1 rfl sizeOf23 rfl (by exact bsb) (rfl : _ = V.sl _ _ _ _) rfl rfl (by simp [cState]; omega) ?_)
          refine AOrd.nil ?_
          refine .seq ?_
          refine AW.hp (by rw [Hp.setBox_setBox, st_list_set hxb.1 hxb.2]) ?_
          refine AW.draw [7] [4, 5] [(0, true), (1, true), (2, true), (3, true), (4, true), (5, true), (6, true), (7, false)] mixed (by kernel_rfl) rfl (by kernel_rfl) ?_
          refine .q rfl rfl rfl rfl (q_mv rfl (rfl : _ = V.ptr _ _)) ?_
          refine .q rfl rfl rfl rfl (q_fa_i rfl underlying116 rfl (by exact sizeOf3) (by decide) rfl (rfl : _ = List.drop 4 _)) ?_
          refine .q rfl rfl rfl rfl (q_load_i1 rfl isAgg3 rfl rfl) ?_
          refine .q rfl rfl rfl rfl (q_mv rfl (rfl : _ = V.sl _ _ _ _)) ?_
          refine .p rfl rfl rfl (fun _ => q_nc rfl (rfl : _ = V.ptr _ _) rfl) ?_
          refine .p rfl rfl rfl (fun _ => q_fa_b rfl underlying29 rfl (by exact sizeOf24) (by decide) rfl (rfl : _ = 1)) ?_
          refine .q rfl rfl rfl rfl (q_ia_ab rfl underlying24 sizeOf23 rfl rfl (by omega) (by omega)) ?_
          refine AOrd.s0 rfl rfl rfl rfl (a_store1 rfl sizeOf23 rfl (by exact bsb) (rfl : _ = V.sl _ _ _ _) rfl rfl (by simp [cState]; omega) ?_)
          refine AOrd.nil ?_
          refine .seq ?_
          refine AW.hp (by rw [Hp.setBox_setBox, st_list_set hxd.1 hxd.2]) ?_
          refine .region <|
            .mP rfl rfl <|
            .mP rfl rfl <|
            .nP rfl rfl <|
            .fb rfl f29_0 rfl rfl <|
            .lb rfl isAgg22 rfl rfl ?_
          refine AOps.s rfl rfl rfl ((AStep.call rfl (by exact call81) (cloneOM_calls .imm s.objs hb (by omega) _)).mono ?_)
          rintro x1 h1 ⟨idc, slack, hidc, rfl, rfl⟩
          have nec : id ≠ idc := Hp.ne_of_box (Hp.box_setBox _ _ _) hidc.1
          refine .nP rfl rfl <|
            .fb rfl f29_0 rfl rfl ?_
          refine AOps.s0 rfl rfl (a_store1 rfl sizeOf22 rfl (by exact (Hp.box_setBox_ne _ _ nec).trans (Hp.box_setBox _ _ _)) (rfl : _ = V.msl _ _ _) rfl rfl (by exact Nat.le_of_ble_eq_true rfl) ?_)
          refine AOps.hp (by rw [Hp.setBox_comm _ _ _ nec.symm, Hp.setBox_setBox]) ?_
          refine .nil <|
            .seq ?_
          refine AW.draw [10] [8] [(0, true), (1, true), (2, true), (3, true), (4, true), (5, true), (6, true), (7, true), (8, true), (9, true), (10, false)] mixed (by kernel_rfl) rfl (by kernel_rfl) ?_
          refine .q rfl rfl rfl rfl (q_mv rfl (rfl : _ = V.ptr _ _)) ?_
          refine .q rfl rfl rfl rfl (q_nc rfl (rfl : _ = V.ptr _ _) rfl) ?_
          refine .q rfl rfl rfl rfl (q_fa_b rfl underlying29 rfl (by exact sizeOf22) (by decide) rfl (rfl : _ = 0)) ?_
          refine .q rfl rfl rfl rfl (q_load_b1 rfl isAgg22 rfl (by exact (Hp.box_setBox_ne _ _ nec).trans (Hp.box_setBox _ _ _)) rfl) ?_
          refine .q rfl rfl rfl rfl (q_fa_i rfl underlying116 rfl (by exact sizeOf3) (by decide) rfl (rfl : _ = List.drop 1 _)) ?_
          refine .q rfl rfl rfl rfl (q_load_i1 rfl isAgg3 rfl rfl) ?_
          refine .q rfl rfl rfl rfl (q_fa_i rfl underlying116 rfl (by exact sizeOf3) (by decide) rfl (rfl : _ = List.drop 4 _)) ?_
          refine .q rfl rfl rfl rfl (q_load_i1 rfl isAgg3 rfl rfl) ?_
          refine .p rfl rfl rfl (fun _ => q_ia_m rfl underlying22 sizeOf72 rfl rfl (by omega) (by omega)) ?_
          refine .q rfl rfl rfl rfl (q_ia_ab rfl underlying72 sizeOf3 rfl rfl (by decide) (by decide)) ?_
          refine AOrd.s0 rfl rfl rfl rfl (a_store1 rfl sizeOf3 rfl (by exact bsb) (rfl : _ = V.int _ _) rfl rfl (by exact objs_lt (by omega) (by omega) (by decide) (by decide)) ?_)
          refine AOrd.nil ?_
          refine .seq ?_
          refine AW.hp (by rw [Hp.setBox_setBox, objs_set (by omega) (by omega) (by decide) (by decide)]) ?_
          refine AW.sealIn2 (T' := T0) (cs' := cState ⟨s.objs.set x.a.toNat (upd (s.objs.getD x.a.toNat noObj) 3 x.d), _, _, _⟩ ++ rest) hf (Hp.fresh_swap hidc) rfl (fun j => match j with | 0 => .inr (objs_sealed (by simp)) | j + 1 => .inl (.refl _)) (fun i => .inl (.junk _)) ?_
          refine .region ?_
          refine .u rfl rfl rfl (q_as rfl (rfl : _ = V.inil)) ?_
          refine .nil ?_
          refine AW.ret ?_
          exact retQ.mk (.one _) ⟨by show V.inil = _; rw [move_ok (by simpa using c0) c1 (if_neg (by simpa using c2)) (by simpa using c4)]; exact (eErr_zero _).symm, by rw [move_ok (by simpa using c0) c1 (if_neg (by simpa using c2)) (by simpa using c4)]⟩

theorem evCheck_ok {x : Ev} (h : evCheck x = 0) : (0 ≤ x.k ∧ x.k < 6) ∧ (x.k = 1 → MoveOk x) ∧ (x.k = 2 → 0 ≤ x.a ∧ 0 ≤ x.b ∧ x.b < 18) ∧ (x.k = 3 → 0 ≤ x.a ∧ x.a < 2 ∧ 0 ≤ x.b ∧ x.b < 9) ∧ (x.k ≠ 0 ∧ x.k ≠ 5 ∧ x.k ≠ 1 ∧ x.k ≠ 2 ∧ x.k ≠ 3 → 0 ≤ x.b ∧ x.b < 7) := by
  unfold evCheck at h
  split at h
  · cases h
  · rename_i h1
    split at h
    · cases h
    · split at h
      · cases h
      · rename_i h2 h3
        simp only [Bool.not_eq_false] at h1 h3
        refine ⟨by simp [inN] at h1; omega, fun e => ?_, fun e => ?_, fun e => ?_, fun ⟨e0, e5, e1, e2, e3⟩ => ?_⟩
        · simp [evRanges, e, inN] at h3; exact ⟨by omega, by omega, by omega, by omega, by omega⟩
        · simp [evRanges, e, inN] at h3; omega
        · simp [evRanges, e, inN] at h3; omega
        · simp [evRanges, e0, e5, e1, e2, e3, inN] at h3; omega

theorem ite20_f {p : Prop} [Decidable p] (h : ((if p then (0 : Int) else 20) != 0) = false) : p := by
  by_cases e : p
  · exact e
  · rw [if_neg e] at h; cases h
theorem ite20_t {p : Prop} [Decidable p] (h : ((if p then (0 : Int) else 20) != 0) = true) : ¬ p := fun e => by rw [if_pos e] at h; cases h
theorem do_bad {s : St} {x : Ev} (h : evCheck x ≠ 0) : evDo s x = (s, evCheck x) := by rw [evDo, if_pos h]
theorem do_1 {s : St} {x : Ev} (h : evCheck x = 0) (e : x.k = 1) : evDo s x = moveF s x := by rw [evDo, if_neg (by simpa using h), if_neg (by omega), if_pos e]
theorem do_2 {s : St} {x : Ev} (h : evCheck x = 0) (e : x.k = 2) : evDo s x = if (s.objs.length : Int) ≤ x.a then (s, 4) else if s.objs.getD x.a.toNat noObj x.b.toNat ≠ x.c then (s, 20) else (⟨s.objs.set x.a.toNat (upd (s.objs.getD x.a.toNat noObj) x.b.toNat x.d), s.lists, s.pl, s.game⟩, 0) := by
  rw [evDo, if_neg (by simpa using h), if_neg (by omega), if_neg (by omega), if_pos e]
theorem do_3 {s : St} {x : Ev} (h : evCheck x = 0) (e : x.k = 3) : evDo s x = if s.pl x.a.toNat x.b.toNat ≠ x.c then (s, 20) else (⟨s.objs, s.lists, upd s.pl x.a.toNat (upd (s.pl x.a.toNat) x.b.toNat x.d), s.game⟩, 0) := by
  rw [evDo, if_neg (by simpa using h), if_neg (by omega), if_neg (by omega), if_neg (by omega), if_pos e]
theorem do_4 {s : St} {x : Ev} (h : evCheck x = 0) (e : x.k ≠ 0 ∧ x.k ≠ 5) (e1 : x.k ≠ 1) (e2 : x.k ≠ 2) (e3 : x.k ≠ 3) : evDo s x = if s.game x.b.toNat ≠ x.c then (s, 20) else (⟨s.objs, s.lists, s.pl, upd s.game x.b.toNat x.d⟩, 0) := by
  rw [evDo, if_neg (by simpa using h), if_neg e.1, if_neg e1, if_neg e2, if_neg e3]

theorem evDo_calls (s : St) (x : Ev) (rest : List V) (hk : x.k ≠ 0 ∧ x.k ≠ 5) (hb : s.objs.length ≤ 1000000) (hl : ∀ z, (s.lists z).length ≤ 1000000) {id : Nat} {h0 : Hp} (hf : h0.fresh id) : ACalls prog G 119 [.ptr id 0, eEv x] (h0.setBox id (cState s ++ rest)) fun r h' => r = eE (evDo s x).2 ∧ h' = h0.setBox id (cState (evDo s x).1 ++ rest) := by
  refine ACalls.enter func119 rfl ntmps119 results119 rfl ?_
  refine .seq <|
    .region <|
    .bx rfl rfl ?_
  refine .u rfl rfl rfl (q_as rfl (rfl : _ = V.inil)) ?_
  refine .nil <|
    .seq <|
    .seq <|
    .region <|
    .lw rfl isAgg116 sizeOf116 rfl rfl ?_
  refine .u rfl rfl rfl (QOp.call rfl call87 fun h' hl' => by exact evCheck_calls _ h') ?_
  refine .u rfl rfl rfl (q_as rfl (rfl : _ = eErr _ _)) ?_
  refine .nil <|
    .seq <|
    .region ?_
  refine .u rfl rfl rfl (q_mv rfl (rfl : _ = eErr _ _)) ?_
  refine .u rfl rfl rfl (q_neerr underlying58 rfl rfl) ?_
  refine .nil ?_
  refine AW.cond rfl (fun c0 => ?_) (fun c0 => ?_)
  · skip
    refine .seq <|
      .region ?_
    refine .u rfl rfl rfl (q_mv rfl (rfl : _ = eErr _ _)) ?_
    refine .u rfl rfl rfl (q_as rfl (rfl : _ = eErr _ _)) ?_
    refine .nil ?_
    refine AW.ret ?_
    exact retQ.mk (.one _) ⟨by rw [do_bad (by simpa using c0)]; rfl, by rw [do_bad (by simpa using c0)]⟩
  · have hc : evCheck x = 0 := by simpa using c0
    have ok := evCheck_ok hc
    refine AW.skip ?_
    refine .seq <|
      .seq <|
      .region <|
      .mP rfl rfl ?_
    refine .u rfl rfl rfl (q_eqnil underlying148 rfl rfl rfl) ?_
    refine .nil ?_
    refine AW.cond rfl (fun c1 => ?_) (fun c1 => ?_)
    · cases c1
    · skip
      refine AW.skip ?_
      refine .seq <|
        .seq <|
        .region <|
        .fi rfl f116_0 rfl <|
        .li rfl isAgg3 rfl rfl <|
        .nil <|
        .block <|
        .seq <|
        .region <|
        .qe rfl rfl rfl <|
        .aB rfl rfl <|
        .nil ?_
      refine AW.cond rfl (fun c2 => ?_) (fun c2 => ?_)
      · exact absurd (by simpa using c2) hk.1
      · skip
        refine .seq <|
          .region <|
          .qe rfl rfl rfl <|
          .aB rfl rfl <|
          .nil ?_
        refine AW.cond rfl (fun c3 => ?_) (fun c3 => ?_)
        · exact absurd (by simpa using c3) hk.2
        · skip
          refine .seq <|
            .region <|
            .qe rfl rfl rfl <|
            .aB rfl rfl <|
            .nil ?_
          refine AW.cond rfl (fun c4 => ?_) (fun c4 => ?_)
          · have e1 : x.k = 1 := by simpa using c4
            refine .seq <|
              .region <|
              .mP rfl rfl <|
              .lw rfl isAgg116 sizeOf116 rfl rfl ?_
            refine AOps.s rfl rfl rfl ((AStep.call rfl (by exact call160) (evMove_calls s x rest (ok.2.1 e1) hb hl hf)).mono ?_)
            rintro x1 h1 ⟨rfl, rfl⟩
            refine .u rfl rfl rfl (q_as rfl (rfl : _ = eErr _ _)) ?_
            refine .nil ?_
            refine AW.ret ?_
            exact retQ.mk (.one _) ⟨by rw [do_1 hc e1]; rfl, by rw [do_1 hc e1]⟩
          · skip
            refine .seq <|
              .region <|
              .qe rfl rfl rfl <|
              .aB rfl rfl <|
              .nil ?_
            refine AW.cond rfl (fun c5 => ?_) (fun c5 => ?_)
            · have e2 : x.k = 2 := by simpa using c5
              have ok2 := ok.2.2.1 e2
              refine .seq <|
                .seq ?_
              refine AW.draw [] [] [(0, true), (1, true), (2, true), (3, true), (4, true), (5, true), (6, true), (7, true)] mixed (by kernel_rfl) rfl (by kernel_rfl) ?_
              refine .q rfl rfl rfl rfl (q_fa_i rfl underlying116 rfl (by exact sizeOf3) (by decide) rfl (rfl : _ = List.drop 1 _)) ?_
              refine .q rfl rfl rfl rfl (q_load_i1 rfl isAgg3 rfl rfl) ?_
              refine .q rfl rfl rfl rfl (q_mv rfl (rfl : _ = V.ptr _ _)) ?_
              refine .q rfl rfl rfl rfl (q_nc rfl (rfl : _ = V.ptr _ _) rfl) ?_
              refine .q rfl rfl rfl rfl (q_fa_b rfl underlying29 rfl (by exact sizeOf22) (by decide) rfl (rfl : _ = 0)) ?_
              refine .q rfl rfl rfl rfl (q_load_b1 rfl isAgg22 rfl (by exact bsb) rfl) ?_
              refine .q rfl rfl rfl rfl (q_len rfl underlying22 rfl) ?_
              refine .q rfl rfl rfl rfl (q_ge rfl rfl rfl) ?_
              refine AOrd.nil ?_
              refine AW.cond rfl (fun c6 => ?_) (fun c6 => ?_)
              · skip
                refine .seq <|
                  .region ?_
                refine .u rfl rfl rfl (q_iface rfl underlying97 rfl) ?_
                refine .u rfl rfl rfl (q_as rfl (rfl : _ = V.iface _ _)) ?_
                refine .nil ?_
                refine AW.ret ?_
                exact retQ.mk (.one _) ⟨by show V.iface _ (V.int _ _) = _; rw [do_2 hc e2, if_pos (by simpa using c6)]; exact (eErr_ne (by decide)).symm, by rw [do_2 hc e2, if_pos (by simpa using c6)]⟩
              · have hlt : x.a < s.objs.length := by simpa using c6
                refine AW.skip ?_
                refine .seq <|
                  .region <|
                  .mP rfl rfl <|
                  .nP rfl rfl <|
                  .fb rfl f29_0 rfl rfl <|
                  .lb rfl isAgg22 rfl rfl ?_
                refine AOps.s rfl rfl rfl ((AStep.call rfl (by exact call81) (cloneOM_calls .imm s.objs hb (by omega) _)).mono ?_)
                rintro x1 h1 ⟨idc, slack, hidc, rfl, rfl⟩
                refine .u rfl rfl rfl (q_as rfl (rfl : _ = V.msl _ _ _)) ?_
                refine .nil <|
                  .seq <|
                  .seq ?_
                refine AW.draw [8] [0, 1, 2, 3, 4, 5] [(0, true), (1, true), (2, true), (3, true), (4, true), (5, true), (6, true), (7, true), (8, false), (9, true)] mixed (by kernel_rfl) rfl (by kernel_rfl) ?_
                refine .p rfl rfl rfl (fun _ => q_mv rfl (rfl : _ = V.msl _ _ _)) ?_
                refine .p rfl rfl rfl (fun _ => q_fa_i rfl underlying116 rfl (by exact sizeOf3) (by decide) rfl (rfl : _ = List.drop 1 _)) ?_
                refine .p rfl rfl rfl (fun _ => q_load_i1 rfl isAgg3 rfl rfl) ?_
                refine .p rfl rfl rfl (fun _ => q_fa_i rfl underlying116 rfl (by exact sizeOf3) (by decide) rfl (rfl : _ = List.drop 2 _)) ?_
                refine .p rfl rfl rfl (fun _ => q_load_i1 rfl isAgg3 rfl rfl) ?_
                refine .p rfl rfl rfl (fun _ => q_ia_m rfl underlying22 sizeOf72 rfl rfl (by omega) (by omega)) ?_
                refine .q rfl rfl rfl rfl (q_ia_ab rfl underlying72 sizeOf3 rfl rfl (by omega) (by omega)) ?_
                refine .q rfl rfl rfl rfl (q_load_iW rfl isAgg116 sizeOf116 rfl (by rfl)) ?_
                refine AOrd.s rfl rfl rfl rfl ((AStep.call rfl (by exact call161) (evSet_calls x _ (Hp.box_setBox _ _ _) (objs_ix (by omega) (by omega) (by omega) (by omega)))).mono ?_)
                rintro x2 h2 ⟨rfl, rfl⟩
                refine .q rfl rfl rfl rfl (q_as rfl (rfl : _ = eErr _ _)) ?_
                refine AOrd.nil ?_
                refine .seq <|
                  .region ?_
                refine .u rfl rfl rfl (q_mv rfl (rfl : _ = eErr _ _)) ?_
                refine .u rfl rfl rfl (q_neerr underlying58 rfl rfl) ?_
                refine .nil ?_
                refine AW.cond rfl (fun c7 => ?_) (fun c7 => ?_)
                · have hne := ite20_t c7
                  refine AW.hp (if_neg hne) ?_
                  refine .seq <|
                    .region ?_
                  refine .u rfl rfl rfl (q_mv rfl (rfl : _ = eErr _ _)) ?_
                  refine .u rfl rfl rfl (q_as rfl (rfl : _ = eErr _ _)) ?_
                  refine .nil ?_
                  refine AW.ret ?_
                  exact retQ.mk' (.one _) (.of_eq (by show eErr _ _ = _; rw [if_neg hne, do_2 hc e2, if_neg (by simpa using c6), if_pos hne])) (.setBox hidc.1) ⟨rfl, by rw [do_2 hc e2, if_neg (by simpa using c6), if_pos hne]⟩
                · have heq := ite20_f c7
                  refine AW.hp ((if_pos heq).trans (by rw [Hp.setBox_setBox, objs_set (by omega) (by omega) (by omega) (by omega)])) ?_
                  refine AW.skip ?_
                  refine .seq ?_
                  refine AW.stay (d := 6) (y := eObjs (s.objs.set x.a.toNat (upd (s.objs.getD x.a.toNat noObj) x.b.toNat x.d))) (h0 := h0.setBox id (cState s ++ rest)) (Hp.box_setBox _ _ _) (.setBox hidc.1) hidc.1 (objs_sealed (by simp)) ?_
                  refine .region <|
                    .mP rfl rfl <|
                    .mS rfl rfl <|
                    .nP rfl rfl <|
                    .fb rfl f29_0 rfl rfl ?_
                  refine AOps.s0 rfl rfl (a_store1 rfl sizeOf22 rfl (by exact bsb) (rfl : _ = eObjs _) rfl rfl (by exact Nat.le_of_ble_eq_true rfl) ?_)
                  refine .nil <|
                    .seq <|
                    .region ?_
                  refine .u rfl rfl rfl (q_as rfl (rfl : _ = V.inil)) ?_
                  refine .nil ?_
                  refine AW.ret ?_
                  exact retQ.mk (.one _) ⟨by show V.inil = _; rw [do_2 hc e2, if_neg (by simpa using c6), if_neg (by simpa using heq)]; exact (eErr_zero _).symm, by rw [Hp.setBox_setBox, do_2 hc e2, if_neg (by simpa using c6), if_neg (by simpa using heq)]; rfl⟩
            · skip
              refine .seq <|
                .region <|
                .qe rfl rfl rfl <|
                .aB rfl rfl <|
                .nil ?_
              refine AW.cond rfl (fun c8 => ?_) (fun c8 => ?_)
              · have e3 : x.k = 3 := by simpa using c8
                have ok3 := ok.2.2.2.1 e3
                refine .seq ?_
                refine AW.draw [10] [0, 1, 2, 3, 4, 5, 6, 7] [(0, true), (1, true), (2, true), (3, true), (4, true), (5, true), (6, true), (7, true), (8, true), (9, true), (10, false), (11, true)] mixed (by kernel_rfl) rfl (by kernel_rfl) ?_
                refine .p rfl rfl rfl (fun _ => q_mv rfl (rfl : _ = V.ptr _ _)) ?_
                refine .p rfl rfl rfl (fun _ => q_fa_i rfl underlying116 rfl (by exact sizeOf3) (by decide) rfl (rfl : _ = List.drop 1 _)) ?_
                refine .p rfl rfl rfl (fun _ => q_load_i1 rfl isAgg3 rfl rfl) ?_
                refine .p rfl rfl rfl (fun _ => q_fa_i rfl underlying116 rfl (by exact sizeOf3) (by decide) rfl (rfl : _ = List.drop 2 _)) ?_
                refine .p rfl rfl rfl (fun _ => q_load_i1 rfl isAgg3 rfl rfl) ?_
                refine .p rfl rfl rfl (fun _ => q_nc rfl (rfl : _ = V.ptr _ _) rfl) ?_
                refine .p rfl rfl rfl (fun _ => q_fa_b rfl underlying29 rfl (by exact sizeOf26) (by decide) rfl (rfl : _ = 12)) ?_
                refine .p rfl rfl rfl (fun _ => q_ia_ab rfl underlying26 sizeOf25 rfl rfl (by omega) (by omega)) ?_
                refine .q rfl rfl rfl rfl (q_ia_ab rfl underlying25 sizeOf3 rfl rfl (by omega) (by omega)) ?_
                refine .q rfl rfl rfl rfl (q_load_iW rfl isAgg116 sizeOf116 rfl (by rfl)) ?_
                refine AOrd.s rfl rfl rfl rfl ((AStep.call rfl (by exact call161) (evSet_calls x _ (Hp.box_setBox _ _ _) (st_pl_ix (by omega) (by omega) (by omega) (by omega)))).mono ?_)
                rintro x2 h2 ⟨rfl, rfl⟩
                refine .q rfl rfl rfl rfl (q_as rfl (rfl : _ = eErr _ _)) ?_
                refine AOrd.nil ?_
                refine AW.ret ?_
                by_cases e : s.pl x.a.toNat x.b.toNat = x.c
                · exact retQ.mk (.one _) ⟨by show eErr _ _ = _; rw [if_pos e, do_3 hc e3, if_neg (by simpa using e)], by rw [if_pos e, Hp.setBox_setBox, st_pl_set (by omega) (by omega) (by omega) (by omega), do_3 hc e3, if_neg (by simpa using e)]⟩
                · exact retQ.mk (.one _) ⟨by show eErr _ _ = _; rw [if_neg e, do_3 hc e3, if_pos e], by rw [if_neg e, do_3 hc e3, if_pos e]⟩
              · have ok4 := ok.2.2.2.2 ⟨hk.1, hk.2, by simpa using c4, by simpa using c5, by simpa using c8⟩
                refine AW.skip ?_
                refine .seq ?_
                refine AW.draw [7] [0, 1, 2, 3, 4] [(0, true), (1, true), (2, true), (3, true), (4, true), (5, true), (6, true), (7, false), (8, true)] mixed (by kernel_rfl) rfl (by kernel_rfl) ?_
                refine .p rfl rfl rfl (fun _ => q_mv rfl (rfl : _ = V.ptr _ _)) ?_
                refine .p rfl rfl rfl (fun _ => q_fa_i rfl underlying116 rfl (by exact sizeOf3) (by decide) rfl (rfl : _ = List.drop 2 _)) ?_
                refine .p rfl rfl rfl (fun _ => q_load_i1 rfl isAgg3 rfl rfl) ?_
                refine .p rfl rfl rfl (fun _ => q_nc rfl (rfl : _ = V.ptr _ _) rfl) ?_
                refine .p rfl rfl rfl (fun _ => q_fa_b rfl underlying29 rfl (by exact sizeOf27) (by decide) rfl (rfl : _ = 30)) ?_
                refine .q rfl rfl rfl rfl (q_ia_ab rfl underlying27 sizeOf3 rfl rfl (by omega) (by omega)) ?_
                refine .q rfl rfl rfl rfl (q_load_iW rfl isAgg116 sizeOf116 rfl (by rfl)) ?_
                refine AOrd.s rfl rfl rfl rfl ((AStep.call rfl (by exact call161) (evSet_calls x _ (Hp.box_setBox _ _ _) (st_game_ix (by omega) (by omega)))).mono ?_)
                rintro x2 h2 ⟨rfl, rfl⟩
                refine .q rfl rfl rfl rfl (q_as rfl (rfl : _ = eErr _ _)) ?_
                refine AOrd.nil ?_
                refine AW.ret ?_
                by_cases e : s.game x.b.toNat = x.c
                · exact retQ.mk (.one _) ⟨by show eErr _ _ = _; rw [if_pos e, do_4 hc hk (by simpa using c4) (by simpa using c5) (by simpa using c8), if_neg (by simpa using e)], by rw [if_pos e, Hp.setBox_setBox, st_game_set (by omega) (by omega), do_4 hc hk (by simpa using c4) (by simpa using c5) (by simpa using c8), if_neg (by simpa using e)]⟩
                · exact retQ.mk (.one _) ⟨by show eErr _ _ = _; rw [if_neg e, do_4 hc hk (by simpa using c4) (by simpa using c5) (by simpa using c8), if_pos e], by rw [if_neg e, do_4 hc hk (by simpa using c4) (by simpa using c5) (by simpa using c8), if_pos e]⟩

end Go.Proofs.YtagcjkbogaoifaaGreatDoor
/- Walks: an emitter's errors, and what it answers. -/
namespace Go.Proofs.YtagcjkbogaoifaaGreatDoor
open Go Go.AV Go.Proofs.Tryz
set_option maxRecDepth 100000
set_option maxHeartbeats 400000
/-- An emitter. -/
structure Em where
  now : St
  draws : List Int
  evs : List Ev
  pend : List Pd
  err : Int
/-- An emitter's cells; 've', 'vp': its events, and what is pending. -/
def emCells (m : Em) (ve vp : V) : List V := cState m.now ++ [eInts m.draws, ve, vp, eE m.err]
/-- What holds of an emitter's parts. -/
structure EmR (h0 : Hp) (id : Nat) (m : Em) (ve vp : V) : Prop where
  ae : AccV 6 m.evs.length (cEvs m.evs) ve
  ap : AccV 3 m.pend.length (cPds m.pend) vp
  fp : vFresh vp h0
  fe : vFresh ve (addTok vp h0)
  fi : (addTok ve (addTok vp h0)).fresh id
/-- An emitter in memory. -/
def EmAt (h0 : Hp) (id : Nat) (m : Em) (h : Hp) : Prop := ∃ ve vp, EmR h0 id m ve vp ∧ h = (addTok ve (addTok vp h0)).setBox id (emCells m ve vp)
theorem EmR.le {h0 : Hp} {id : Nat} {m : Em} {ve vp : V} (r : EmR h0 id m ve vp) (cs : List V) : HLe ((addTok ve (addTok vp h0)).setBox id cs) h0 := (HLe.setBox r.fi.1).trans ((addTok_le r.fe).trans (addTok_le r.fp))
theorem EmAt.le {h0 : Hp} {id : Nat} {m : Em} {h : Hp} (e : EmAt h0 id m h) : HLe h h0 := by
  obtain ⟨ve, vp, r, rfl⟩ := e; exact r.le _
def Em.fail (m : Em) (e : Int) : Em := if m.err = 0 then ⟨m.now, m.draws, m.evs, m.pend, e⟩ else m
def Em.must (m : Em) (ok : Bool) (e : Int) : Em := if m.err = 0 ∧ ok = false then ⟨m.now, m.draws, m.evs, m.pend, e⟩ else m
def noSt : St := ⟨[], fun _ => [], fun _ _ => 0, fun _ => 0⟩
def Em.state (m : Em) : St := if m.err = 0 then m.now else noSt
def Em.pending (m : Em) : List Pd := if m.err = 0 then m.pend else []
theorem em_err (m : Em) (ve vp : V) (e : Int) : splice (emCells m ve vp) 40 [eE e] = emCells ⟨m.now, m.draws, m.evs, m.pend, e⟩ ve vp := rfl
abbrev eEvs (l : List Ev) : V := .sl .imm 6 l.length (cEvs l)
abbrev ePds (l : List Pd) : V := .sl .imm 3 l.length (cPds l)

theorem err_calls {m : Em} {ve vp : V} {id : Nat} {h : Hp} (hb : h.box id = some (emCells m ve vp)) : ACalls prog G 18 [.ptr id 0] h fun r h' => r = eE m.err ∧ h' = h := by
  refine ACalls.enter func18 rfl ntmps18 results18 rfl ?_
  refine .seq <|
    .region ?_
  refine .u rfl rfl rfl (q_as rfl (rfl : _ = V.inil)) ?_
  refine .nil <|
    .seq <|
    .seq <|
    .region <|
    .mP rfl rfl ?_
  refine .u rfl rfl rfl (q_eqnil underlying48 rfl rfl rfl) ?_
  refine .nil ?_
  refine AW.cond rfl (fun c0 => ?_) (fun c0 => ?_)
  · cases c0
  · skip
    refine AW.skip ?_
    refine .seq <|
      .region <|
      .mP rfl rfl <|
      .nP rfl rfl <|
      .fb rfl f86_40 rfl rfl ?_
    refine .u rfl rfl rfl (q_load_b1 rfl isAgg58 rfl (hb) rfl) ?_
    refine .u rfl rfl rfl (q_as rfl (rfl : _ = eErr _ _)) ?_
    refine .nil ?_
    refine AW.ret ?_
    exact retQ.mk (.one _) ⟨rfl, rfl⟩

theorem fail_calls (m : Em) (ve vp : V) (e : Int) (id : Nat) (h : Hp) : ACalls prog G 37 [.ptr id 0, eE e] (h.setBox id (emCells m ve vp)) fun r h' => r = .tup [] ∧ h' = h.setBox id (emCells (m.fail e) ve vp) := by
  refine ACalls.enter func37 rfl ntmps37 results37 rfl ?_
  refine .seq <|
    .region <|
    .mP rfl rfl ?_
  refine .u rfl rfl rfl (q_nenil underlying48 rfl rfl rfl) ?_
  refine .mB rfl rfl ?_
  refine .gt rfl rfl rfl (fun _ => tl0) (fun hc => q_mv rfl (rfl : _ = V.ptr _ _)) ?_
  refine .gt rfl rfl rfl (fun hc => tl1 7 (.opt hc)) (fun hc => q_nc rfl (rfl : _ = V.ptr _ _) rfl) ?_
  refine .gt rfl rfl rfl (fun hc => tl1 8 (.opt hc)) (fun hc => q_fa_b rfl underlying86 rfl (by exact sizeOf58) (by decide) rfl (rfl : _ = 40)) ?_
  refine .gt rfl rfl rfl (fun hc => tl1 9 (.opt hc)) (fun hc => q_load_b1 rfl isAgg58 rfl (by exact bsb) rfl) ?_
  refine .gt rfl rfl rfl (fun hc => tl1 10 (.opt hc)) (fun hc => q_eqerr underlying58 rfl rfl) ?_
  refine .pt rfl rfl rfl rfl <|
    .nil ?_
  refine AW.cond rfl (fun c0 => ?_) (fun c0 => ?_)
  · skip
    refine .region <|
      .mP rfl rfl ?_
    refine .u rfl rfl rfl (q_mv rfl (rfl : _ = eErr _ _)) ?_
    refine .nP rfl rfl <|
      .fb rfl f86_40 rfl rfl ?_
    refine AOps.s0 rfl rfl (a_store1 rfl sizeOf58 rfl (by exact bsb) (rfl : _ = eErr _ _) (eErr_solid _ _).2 (eErr_solid _ _).1 (by first | decide | exact Nat.le_of_ble_eq_true rfl) ?_)
    refine .nil ?_
    exact retQ.mk .none ⟨rfl, by rw [Hp.setBox_setBox, em_err, Em.fail, if_pos (by simpa using c0)]⟩
  · skip
    refine AW.skip ?_
    exact retQ.mk .none ⟨rfl, by rw [Em.fail, if_neg (by simpa using c0)]⟩

theorem must_calls (m : Em) (ve vp : V) (ok : Bool) (e : Int) (he : e ≠ 0) (id : Nat) (h : Hp) : ACalls prog G 65 [.ptr id 0, .bool ok, .int .i64 e] (h.setBox id (emCells m ve vp)) fun r h' => r = .bool (m.err == 0 && ok) ∧ h' = h.setBox id (emCells (m.must ok e) ve vp) := by
  refine ACalls.enter func65 rfl ntmps65 results65 rfl ?_
  refine .seq <|
    .region <|
    .aB rfl rfl <|
    .nil <|
    .seq <|
    .seq <|
    .region <|
    .mP rfl rfl ?_
  refine .u rfl rfl rfl (QOp.call rfl call18 fun h' hl' => by exact err_calls (hl'.box _ _ (Hp.box_setBox _ _ _))) ?_
  refine .u rfl rfl rfl (q_neerr underlying58 rfl rfl) ?_
  refine .nil ?_
  refine AW.cond rfl (fun c0 => ?_) (fun c0 => ?_)
  · skip
    refine .seq <|
      .region <|
      .aB rfl rfl <|
      .nil ?_
    refine AW.ret ?_
    exact retQ.mk (.one _) ⟨congrArg V.bool (by have h0 : m.err ≠ 0 := by simpa using c0
                                                simp [h0]), by rw [Em.must, if_neg (fun h1 => by simp [h1.1] at c0)]⟩
  · skip
    refine AW.skip ?_
    refine .seq <|
      .seq <|
      .region <|
      .mB rfl rfl <|
      .nt rfl rfl <|
      .nil ?_
    refine AW.cond rfl (fun c1 => ?_) (fun c1 => ?_)
    · skip
      refine .region <|
        .mP rfl rfl <|
        .mI rfl rfl ?_
      refine .u rfl rfl rfl (q_mkerr rfl underlying97 rfl rfl he) ?_
      refine .nP rfl rfl <|
        .fb rfl f86_40 rfl rfl ?_
      refine AOps.s0 rfl rfl (a_store1 rfl sizeOf58 rfl (by exact bsb) (rfl : _ = eErr _ _) (eErr_solid _ _).2 (eErr_solid _ _).1 (by first | decide | exact Nat.le_of_ble_eq_true rfl) ?_)
      refine .nil <|
        .seq <|
        .region <|
        .mB rfl rfl <|
        .aB rfl rfl <|
        .nil ?_
      refine AW.ret ?_
      have h0 : m.err = 0 := by simpa using c0
      obtain rfl : ok = false := by simpa using c1
      exact retQ.mk (.one _) ⟨congrArg V.bool (by simp), by rw [Hp.setBox_setBox, em_err, Em.must, if_pos ⟨h0, rfl⟩]⟩
    · skip
      refine AW.skip ?_
      refine .seq <|
        .region <|
        .mB rfl rfl <|
        .aB rfl rfl <|
        .nil ?_
      refine AW.ret ?_
      have h0 : m.err = 0 := by simpa using c0
      obtain rfl : ok = true := by simpa using c1
      exact retQ.mk (.one _) ⟨congrArg V.bool (by simp [h0]), by rw [Em.must, if_neg (by simp)]⟩

theorem zState_le : LLe zState (cState noSt) := by
  refine .cons .nilimm (.cons .nilimm (.cons .nilimm (.cons .nilimm (.cons .nilimm (.cons .nilimm (.cons .nilimm (.cons .nilimm (.cons .nilimm (.cons .nilimm (.cons .nilimm (.cons .nilimm ?_)))))))))))
  exact .refl _

theorem state_calls {m : Em} {ve vp : V} {id : Nat} {h : Hp} (hb : h.box id = some (emCells m ve vp)) (ho : m.err = 0 → m.now.objs.length ≤ 1000000 ∧ ∀ z, (m.now.lists z).length ≤ 1000000) : ACalls prog G 16 [.ptr id 0] h fun r h' => r = eState m.state ∧ h' = h := by
  refine ACalls.enter func16 rfl ntmps16 results16 rfl ?_
  refine .seq <|
    .region ?_
  refine AOps.s rfl rfl rfl (a_alloc rfl zeroValue29 rfl (fun id2 hid2 => ?_))
  refine .nil <|
    .seq <|
    .seq ?_
  have hb2 := (HLe.setBox (cs := zState) hid2.1).box _ _ hb
  refine .region <|
    .mP rfl rfl ?_
  refine .u rfl rfl rfl (QOp.call rfl call18 fun h' hl' => by exact err_calls (hl'.box _ _ hb2)) ?_
  refine .u rfl rfl rfl (q_neerr underlying58 rfl rfl) ?_
  refine .nil ?_
  refine AW.cond rfl (fun c0 => ?_) (fun c0 => ?_)
  · skip
    refine .seq <|
      .region ?_
    refine .u rfl rfl rfl (q_buildS (ds := zState) rfl zeroValue29 underlying29 (pl29 underlying29) rfl (by kernel_rfl)) ?_
    refine .sw sizeOf29 rfl rfl rfl rfl <|
      .nil ?_
    refine AW.ret ?_
    exact retQ.mk' (Res.cellB isAgg29 sizeOf29 rfl (by exact bsb) rfl) (by rw [Em.state, if_neg (by simpa using c0)]; exact zState_le.agg) (.setBox hid2.1) ⟨rfl, rfl⟩
  · skip
    refine AW.skip ?_
    refine .seq <|
      .region <|
      .mP rfl rfl <|
      .nP rfl rfl <|
      .fb rfl f86_0 rfl rfl ?_
    refine .u rfl rfl rfl (q_load_bN (ds := cState m.now) rfl isAgg29 sizeOf29 (by decide) rfl (hb2) rfl rfl) ?_
    refine .u rfl rfl rfl (QOp.call rfl call34 fun h' hl' => by exact copy_calls _ (ho (by simpa using c0)).1 (ho (by simpa using c0)).2 h') ?_
    refine .sw sizeOf29 rfl rfl rfl rfl <|
      .nil ?_
    refine AW.ret ?_
    exact retQ.mk' (Res.cellB isAgg29 sizeOf29 rfl (by exact bsb) rfl) (by rw [Em.state, if_pos (by simpa using c0)]; exact VLe.refl _) (.setBox hid2.1) ⟨rfl, rfl⟩

theorem pending_calls {m : Em} {ve vp : V} {id : Nat} {h : Hp} (hb : h.box id = some (emCells m ve vp)) (hvp : AccV 3 m.pend.length (cPds m.pend) vp) (ho : m.pend.length ≤ 1000000) : ACalls prog G 15 [.ptr id 0] h fun r h' => r = ePds m.pending ∧ h' = h := by
  refine ACalls.enter func15 rfl ntmps15 results15 rfl ?_
  refine .seq <|
    .region <|
    .aN rfl rfl <|
    .nil <|
    .seq <|
    .seq <|
    .region <|
    .mP rfl rfl ?_
  refine .u rfl rfl rfl (QOp.call rfl call18 fun h' hl' => by exact err_calls (hl'.box _ _ hb)) ?_
  refine .u rfl rfl rfl (q_neerr underlying58 rfl rfl) ?_
  refine .nil ?_
  refine AW.cond rfl (fun c0 => ?_) (fun c0 => ?_)
  · skip
    refine .seq <|
      .region <|
      .aN rfl rfl <|
      .nil ?_
    refine AW.ret ?_
    exact retQ.mk' (.one _) (by rw [Em.pending, if_neg (by simpa using c0)]; exact VLe.nilimm) (.refl _) ⟨rfl, rfl⟩
  · skip
    refine AW.skip ?_
    refine .seq <|
      .region <|
      .mP rfl rfl <|
      .nP rfl rfl <|
      .fb rfl f86_39 rfl rfl ?_
    refine .u rfl rfl rfl (q_load_b1 rfl isAgg53 rfl (hb) rfl) ?_
    refine .u rfl rfl rfl (QOp.call rfl call50 fun h' hl' => by exact ACalls.args (bs := [ePds m.pend]) rfl (fun j => match j with | 0 => hvp.imm | j + 1 => .refl _) (cloneP_calls .imm m.pend ho h')) ?_
    refine .aS rfl rfl <|
      .nil ?_
    refine AW.ret ?_
    exact retQ.mk' (.one _) (by rw [Em.pending, if_pos (by simpa using c0)]; exact VLe.refl _) (.refl _) ⟨rfl, rfl⟩

end Go.Proofs.YtagcjkbogaoifaaGreatDoor
/- Walks: an object is made. -/
namespace Go.Proofs.YtagcjkbogaoifaaGreatDoor
open Go Go.AV Go.Proofs.Tryz
set_option maxRecDepth 100000
set_option maxHeartbeats 400000
def createF (s : St) (x : Ev) : St × Int := if 400 ≤ (s.objs.length : Int) then (s, 5) else (⟨s.objs ++ [madeF x], upd s.lists 10 (s.lists 10 ++ [(s.objs.length : Int)]), s.pl, s.game⟩, 0)
theorem do_0 {s : St} {x : Ev} (h : evCheck x = 0) (e : x.k = 0) : evDo s x = createF s x := by rw [evDo, if_neg (by simpa using h), if_pos e]; rfl
theorem one_app {l : List Int} {n : Int} {v : V} (h : VLe v (.sl .imm 1 (l.length + 1) (cInts l ++ [.int .i64 n]))) : VLe v (eInts (l ++ [n])) := by
  have e : eInts (l ++ [n]) = .sl .imm 1 (l.length + 1) (cInts l ++ [.int .i64 n]) := by simp [cInts]
  rw [e]; exact h
theorem one_appO {l : List Obj} {o : Obj} {v : V} (h : VLe v (.sl .imm 18 (l.length + 1) (cObjs l ++ cObj o))) : VLe v (eObjs (l ++ [o])) := by
  have e : eObjs (l ++ [o]) = .sl .imm 18 (l.length + 1) (cObjs l ++ cObj o) := by simp [cObjs]
  rw [e]; exact h

theorem cloneIA_calls (k : SK) (l : List Int) (hb : l.length ≤ 1000000) (h : Hp) : ACalls prog G 35 [.sl k 1 l.length (cInts l)] h fun r h' => Go.AV.Acc h 1 l.length (cInts l) r h' := by
  refine ACalls.enter func35 rfl ntmps35 results35 rfl ?_
  refine .seq <|
    .region <|
    .aN rfl rfl <|
    .nil <|
    .seq <|
    .seq <|
    .region <|
    .mS rfl rfl ?_
  refine AOps.s rfl rfl rfl (a_eqnil_sl underlying23 rfl rfl (fun b hnil => ?_))
  refine .nil ?_
  refine AW.cond rfl (fun c0 => ?_) (fun c0 => ?_)
  · skip
    refine .seq <|
      .region <|
      .aN rfl rfl <|
      .nil ?_
    refine AW.ret ?_
    obtain ⟨e1, e2⟩ := hnil c0
    exact retQ.mk (.one _) (by rw [e1, e2]; exact Acc.nil h 1)
  · skip
    refine AW.skip ?_
    refine .seq <|
      .region ?_
    refine .u rfl rfl rfl (q_buildSl (ds := []) rfl underlying23 sizeOf3 zeroValue3 rfl rfl rfl rfl rfl) ?_
    refine .mS rfl rfl ?_
    refine AOps.s rfl rfl rfl (a_append rfl underlying23 (i := t3) (by kernel_rfl) rfl (n := 1) (by' := 8) rfl rfl rfl rfl (Acc.full rfl) rfl (by simp [cInts_len]) (by decide) (by omega) (by omega) rfl (fun v2 h2 acc => ?_))
    refine .u rfl rfl rfl (q_as rfl (rfl : _ = _)) ?_
    refine .nil ?_
    refine AW.ret ?_
    exact retQ.mk (.one _) (by have := acc; rw [List.nil_append, Nat.zero_add] at this; exact this)

theorem cloneOA_calls (k : SK) (l : List Obj) (hb : l.length ≤ 1000000) (h : Hp) : ACalls prog G 81 [.sl k 18 l.length (cObjs l)] h fun r h' => Go.AV.Acc h 18 l.length (cObjs l) r h' := by
  refine ACalls.enter func81 rfl ntmps81 results81 rfl ?_
  refine .seq <|
    .region <|
    .aN rfl rfl <|
    .nil <|
    .seq <|
    .seq <|
    .region <|
    .mS rfl rfl ?_
  refine AOps.s rfl rfl rfl (a_eqnil_sl underlying22 rfl rfl (fun b hnil => ?_))
  refine .nil ?_
  refine AW.cond rfl (fun c0 => ?_) (fun c0 => ?_)
  · skip
    refine .seq <|
      .region <|
      .aN rfl rfl <|
      .nil ?_
    refine AW.ret ?_
    obtain ⟨e1, e2⟩ := hnil c0
    exact retQ.mk (.one _) (by rw [e1, e2]; exact Acc.nil h 18)
  · skip
    refine AW.skip ?_
    refine .seq <|
      .region ?_
    refine .u rfl rfl rfl (q_buildSl (ds := []) rfl underlying22 sizeOf72 zeroValue72 rfl rfl rfl rfl rfl) ?_
    refine .mS rfl rfl ?_
    refine AOps.s rfl rfl rfl (a_append rfl underlying22 (i := t72) (by kernel_rfl) rfl (n := 18) (by' := 144) rfl rfl rfl rfl (Acc.full rfl) rfl (by simp [cObjs_len]) (by decide) (by omega) (by omega) rfl (fun v2 h2 acc => ?_))
    refine .u rfl rfl rfl (q_as rfl (rfl : _ = _)) ?_
    refine .nil ?_
    refine AW.ret ?_
    exact retQ.mk (.one _) (by have := acc; rw [List.nil_append, Nat.zero_add] at this; exact this)

theorem made_calls (x : Ev) (h : Hp) : ACalls prog G 191 [eEv x] h fun r h' => r = eObj (madeF x) ∧ h' = h := by
  refine ACalls.enter func191 rfl ntmps191 results191 rfl ?_
  refine .seq <|
    .region <|
    .bx rfl rfl ?_
  refine AOps.s rfl rfl rfl (a_alloc rfl zeroValue72 rfl (fun id2 hid2 => ?_))
  refine .nil <|
    .seq <|
    .region <|
    .fi rfl f116_1 rfl <|
    .li rfl isAgg3 rfl rfl <|
    .fi rfl f116_2 rfl <|
    .li rfl isAgg3 rfl rfl <|
    .fi rfl f116_2 rfl <|
    .li rfl isAgg3 rfl rfl <|
    .fi rfl f116_3 rfl <|
    .li rfl isAgg3 rfl rfl ?_
  refine .u rfl rfl rfl (q_buildA (ds := cObj (madeF x)) rfl zeroValue72 underlying72 sizeOf3 rfl (by kernel_rfl)) ?_
  refine .sw sizeOf72 rfl rfl rfl rfl <|
    .nil ?_
  refine AW.ret ?_
  exact retQ.mk' (Res.cellB isAgg72 sizeOf72 rfl (by exact bsb) rfl) (VLe.refl _) (HLe.setBox hid2.1) ⟨rfl, rfl⟩

theorem evCreate_calls (s : St) (x : Ev) (rest : List V) (hb : s.objs.length ≤ 1000000) (hl : ∀ z, (s.lists z).length ≤ 1000000) {id : Nat} {h0 : Hp} (hf : h0.fresh id) : ACalls prog G 158 [.ptr id 0, eEv x] (h0.setBox id (cState s ++ rest)) fun r h' => r = eE (createF s x).2 ∧ h' = h0.setBox id (cState (createF s x).1 ++ rest) := by
  have hl10 := hl 10
  refine ACalls.enter func158 rfl ntmps158 results158 rfl ?_
  refine .seq <|
    .region <|
    .bx rfl rfl ?_
  refine .u rfl rfl rfl (q_as rfl (rfl : _ = V.inil)) ?_
  refine .nil <|
    .seq <|
    .seq <|
    .region <|
    .mP rfl rfl <|
    .nP rfl rfl <|
    .fb rfl f29_0 rfl rfl ?_
  refine .u rfl rfl rfl (q_load_b1 rfl isAgg22 rfl (by first | exact Hp.box_setBox _ _ _ | exact acc1.hle.box _ _ (Hp.box_setBox _ _ _)) rfl) ?_
  refine .ln rfl underlying22 rfl <|
    .qg rfl rfl rfl <|
    .nil ?_
  refine AW.cond rfl (fun c0 => ?_) (fun c0 => ?_)
  · skip
    refine .seq <|
      .region ?_
    refine .u rfl rfl rfl (q_iface rfl underlying97 rfl) ?_
    refine .u rfl rfl rfl (q_as rfl (rfl : _ = V.iface _ _)) ?_
    refine .nil ?_
    refine AW.ret ?_
    exact retQ.mk (.one _) ⟨by show V.iface _ (V.int _ _) = _; rw [createF, if_pos (by simpa using c0)]; exact (eErr_ne (by decide)).symm, by rw [createF, if_pos (by simpa using c0)]⟩
  · skip
    refine AW.skip ?_
    refine .seq ?_
    refine AW.draw3 [13, 17] [0, 14, 15] [(0, true), (1, true), (2, true), (3, true), (4, true), (5, true), (7, true), (8, true), (9, true), (10, true), (11, true), (12, true), (14, true), (15, true), (6, false), (13, false), (16, true), (17, false)] mixed (by kernel_rfl) rfl (by kernel_rfl) ?_
    refine .p rfl rfl rfl (fun _ => q_mv rfl (rfl : _ = V.ptr _ _)) ?_
    refine .q rfl rfl rfl rfl (q_mv rfl (rfl : _ = V.ptr _ _)) ?_
    refine .q rfl rfl rfl rfl (q_nc rfl (rfl : _ = V.ptr _ _) rfl) ?_
    refine .q rfl rfl rfl rfl (q_fa_b rfl underlying29 rfl (by exact sizeOf24) (by decide) rfl (rfl : _ = 1)) ?_
    refine .q rfl rfl rfl rfl (q_ia_ab rfl underlying24 sizeOf23 rfl rfl (by decide) (by decide)) ?_
    refine .q rfl rfl rfl rfl (q_load_b1 rfl isAgg23 rfl (by first | exact Hp.box_setBox _ _ _ | exact acc1.hle.box _ _ (Hp.box_setBox _ _ _)) rfl) ?_
    refine .q rfl rfl rfl rfl (q_mv rfl (rfl : _ = V.ptr _ _)) ?_
    refine .q rfl rfl rfl rfl (q_nc rfl (rfl : _ = V.ptr _ _) rfl) ?_
    refine .q rfl rfl rfl rfl (q_fa_b rfl underlying29 rfl (by exact sizeOf22) (by decide) rfl (rfl : _ = 0)) ?_
    refine .q rfl rfl rfl rfl (q_load_b1 rfl isAgg22 rfl (by first | exact Hp.box_setBox _ _ _ | exact acc1.hle.box _ _ (Hp.box_setBox _ _ _)) rfl) ?_
    refine .q rfl rfl rfl rfl (q_len rfl underlying22 rfl) ?_
    refine .q rfl rfl rfl rfl (q_buildSl rfl underlying23 sizeOf3 zeroValue3 rfl rfl rfl rfl rfl) ?_
    refine .p rfl rfl rfl (fun _ => q_nc rfl (rfl : _ = V.ptr _ _) rfl) ?_
    refine .p rfl rfl rfl (fun _ => q_fa_b rfl underlying29 rfl (by exact sizeOf24) (by decide) rfl (rfl : _ = 1)) ?_
    refine AOrd.s' rfl rfl rfl ((AStep.call rfl (by exact call35) (cloneIA_calls .imm (s.lists 10) (by omega) _)).mono ?_)
    intro x1 h1 acc1
    refine ⟨?_, acc1.hle⟩
    refine AOrd.s rfl rfl rfl rfl (AStep.wk (a_append rfl underlying23 (i := t3) (by kernel_rfl) rfl (n := 1) (by' := 8) rfl rfl rfl rfl acc1 rfl rfl (by decide) (by omega) (by omega) rfl (fun v2 h2 acc => ⟨eInts (s.lists 10 ++ [(s.objs.length : Int)]), _, ?_, acc.hle, ?_⟩)))
    · exact one_app acc.vle
    refine .q rfl rfl rfl rfl (q_ia_ab rfl underlying24 sizeOf23 rfl rfl (by decide) (by decide)) ?_
    refine AOrd.s0 rfl rfl rfl rfl (a_store1 rfl sizeOf23 rfl (by first | exact Hp.box_setBox _ _ _ | exact acc1.hle.box _ _ (Hp.box_setBox _ _ _)) (rfl : _ = V.sl _ _ _ _) rfl rfl (by first | decide | exact Nat.le_of_ble_eq_true rfl) ?_)
    refine AOrd.nil ?_
    refine .seq ?_
    refine AW.draw3 [9, 12] [0] [(0, true), (1, true), (2, true), (3, true), (4, true), (6, true), (5, false), (7, true), (8, true), (9, false), (10, true), (11, true), (12, false)] mixed (by kernel_rfl) rfl (by kernel_rfl) ?_
    refine .p rfl rfl rfl (fun _ => q_mv rfl (rfl : _ = V.ptr _ _)) ?_
    refine .q rfl rfl rfl rfl (q_mv rfl (rfl : _ = V.ptr _ _)) ?_
    refine .q rfl rfl rfl rfl (q_nc rfl (rfl : _ = V.ptr _ _) rfl) ?_
    refine .q rfl rfl rfl rfl (q_fa_b rfl underlying29 rfl (by exact sizeOf22) (by decide) rfl (rfl : _ = 0)) ?_
    refine .q rfl rfl rfl rfl (q_load_b1 rfl isAgg22 rfl (by first | exact Hp.box_setBox _ _ _ | exact acc1.hle.box _ _ (Hp.box_setBox _ _ _)) rfl) ?_
    refine .q rfl rfl rfl rfl (q_load_iW rfl isAgg116 sizeOf116 rfl (by rfl)) ?_
    refine AOrd.s' rfl rfl rfl ((AStep.call rfl (by exact call81) (cloneOA_calls .imm s.objs (by omega) _)).mono ?_)
    intro x1 h1 acc1
    refine ⟨?_, acc1.hle⟩
    refine .q rfl rfl rfl rfl (QOp.call rfl (by exact call191) fun h' hl' => by exact made_calls x h') ?_
    refine .q rfl rfl rfl rfl (q_buildSl rfl underlying22 sizeOf72 zeroValue72 rfl rfl rfl rfl rfl) ?_
    refine AOrd.s rfl rfl rfl rfl (AStep.wk (a_append rfl underlying22 (i := t72) (by kernel_rfl) rfl (n := 18) (by' := 144) rfl rfl rfl rfl acc1 rfl rfl (by decide) (by omega) (by omega) rfl (fun v2 h2 acc => ⟨eObjs (s.objs ++ [madeF x]), _, ?_, acc.hle, ?_⟩)))
    · exact one_appO acc.vle
    refine .q rfl rfl rfl rfl (q_nc rfl (rfl : _ = V.ptr _ _) rfl) ?_
    refine .q rfl rfl rfl rfl (q_fa_b rfl underlying29 rfl (by exact sizeOf22) (by decide) rfl (rfl : _ = 0)) ?_
    refine AOrd.s0 rfl rfl rfl rfl (a_store1 rfl sizeOf22 rfl (by first | exact Hp.box_setBox _ _ _ | exact acc1.hle.box _ _ (Hp.box_setBox _ _ _)) (rfl : _ = V.sl _ _ _ _) rfl rfl (by first | decide | exact Nat.le_of_ble_eq_true rfl) ?_)
    refine AOrd.nil ?_
    refine .seq <|
      .region ?_
    refine .u rfl rfl rfl (q_as rfl (rfl : _ = V.inil)) ?_
    refine .nil ?_
    refine AW.ret ?_
    exact retQ.mk (.one _) ⟨by show V.inil = _; rw [createF, if_neg (by simpa using c0)]; exact (eErr_zero _).symm, by rw [createF, if_neg (by simpa using c0), Hp.setBox_setBox, Hp.setBox_setBox]; rfl⟩

theorem evDo0_calls (s : St) (x : Ev) (rest : List V) (hk : x.k = 0) (hb : s.objs.length ≤ 1000000) (hl : ∀ z, (s.lists z).length ≤ 1000000) {id : Nat} {h0 : Hp} (hf : h0.fresh id) : ACalls prog G 119 [.ptr id 0, eEv x] (h0.setBox id (cState s ++ rest)) fun r h' => r = eE (evDo s x).2 ∧ h' = h0.setBox id (cState (evDo s x).1 ++ rest) := by
  refine ACalls.enter func119 rfl ntmps119 results119 rfl ?_
  refine .seq <|
    .region <|
    .bx rfl rfl ?_
  refine .u rfl rfl rfl (q_as rfl (rfl : _ = V.inil)) ?_
  refine .nil <|
    .seq <|
    .seq <|
    .region <|
    .lw rfl isAgg116 sizeOf116 rfl rfl ?_
  refine .u rfl rfl rfl (QOp.call rfl call87 fun h' hl' => by exact evCheck_calls _ h') ?_
  refine .u rfl rfl rfl (q_as rfl (rfl : _ = eErr _ _)) ?_
  refine .nil <|
    .seq <|
    .region ?_
  refine .u rfl rfl rfl (q_mv rfl (rfl : _ = eErr _ _)) ?_
  refine .u rfl rfl rfl (q_neerr underlying58 rfl rfl) ?_
  refine .nil ?_
  refine AW.cond rfl (fun c0 => ?_) (fun c0 => ?_)
  · skip
    refine .seq <|
      .region ?_
    refine .u rfl rfl rfl (q_mv rfl (rfl : _ = eErr _ _)) ?_
    refine .u rfl rfl rfl (q_as rfl (rfl : _ = eErr _ _)) ?_
    refine .nil ?_
    refine AW.ret ?_
    exact retQ.mk (.one _) ⟨by rw [do_bad (by simpa using c0)]; rfl, by rw [do_bad (by simpa using c0)]⟩
  · have hc : evCheck x = 0 := by simpa using c0
    refine AW.skip ?_
    refine .seq <|
      .seq <|
      .region <|
      .mP rfl rfl ?_
    refine .u rfl rfl rfl (q_eqnil underlying148 rfl rfl rfl) ?_
    refine .nil ?_
    refine AW.cond rfl (fun c1 => ?_) (fun c1 => ?_)
    · cases c1
    · skip
      refine AW.skip ?_
      refine .seq <|
        .seq <|
        .region <|
        .fi rfl f116_0 rfl <|
        .li rfl isAgg3 rfl rfl <|
        .nil <|
        .block <|
        .seq <|
        .region <|
        .qe rfl rfl rfl <|
        .aB rfl rfl <|
        .nil ?_
      refine AW.cond rfl (fun c2 => ?_) (fun c2 => ?_)
      · skip
        refine .seq <|
          .region <|
          .mP rfl rfl <|
          .lw rfl isAgg116 sizeOf116 rfl rfl ?_
        refine AOps.s rfl rfl rfl ((AStep.call rfl (by exact call158) (evCreate_calls s x rest hb hl hf)).mono ?_)
        rintro x1 h1 ⟨rfl, rfl⟩
        refine .u rfl rfl rfl (q_as rfl (rfl : _ = eErr _ _)) ?_
        refine .nil ?_
        refine AW.ret ?_
        exact retQ.mk (.one _) ⟨by rw [do_0 hc hk]; rfl, by rw [do_0 hc hk]⟩
      · exact absurd hk (by simpa using c2)

theorem evDo_any (s : St) (x : Ev) (rest : List V) (hk : x.k ≠ 5) (hb : s.objs.length ≤ 1000000) (hl : ∀ z, (s.lists z).length ≤ 1000000) {id : Nat} {h0 : Hp} (hf : h0.fresh id) : ACalls prog G 119 [.ptr id 0, eEv x] (h0.setBox id (cState s ++ rest)) fun r h' => r = eE (evDo s x).2 ∧ h' = h0.setBox id (cState (evDo s x).1 ++ rest) := by
  by_cases h : x.k = 0
  · exact evDo0_calls s x rest h hb hl hf
  · exact evDo_calls s x rest ⟨h, hk⟩ hb hl hf

end Go.Proofs.YtagcjkbogaoifaaGreatDoor
/- Walks: an emitter's events. -/
namespace Go.Proofs.YtagcjkbogaoifaaGreatDoor
open Go Go.AV Go.Proofs.Tryz
set_option maxRecDepth 100000
set_option maxHeartbeats 400000
/-- A state of a size that may be: so many objects, so many places. -/
structure Sz (s : St) : Prop where
  objs : s.objs.length ≤ 400
  total : (ids s).length ≤ s.objs.length
  hi : ∀ z, 11 ≤ z → s.lists z = []
  zn : ∀ i, 0 ≤ s.objs.getD i noObj 3 ∧ s.objs.getD i noObj 3 ≤ 10
theorem flat_ge {f : Nat → List Int} {n z : Nat} (h : z < n) : (f z).length ≤ ((List.range n).flatMap f).length := by
  induction n with
  | zero => omega
  | succ n ih =>
    rw [List.range_succ, List.flatMap_append, List.length_append]
    simp only [List.flatMap_cons, List.flatMap_nil, List.append_nil]
    by_cases e : z = n
    · subst e; omega
    · have := ih (by omega); omega
theorem Sz.lists {s : St} (h : Sz s) (z : Nat) : (s.lists z).length ≤ 400 := by
  by_cases e : z < 11
  · exact Nat.le_trans (flat_ge e) (Nat.le_trans h.total h.objs)
  · rw [h.hi z (by omega)]; simp
theorem flat_congr {f g : Nat → List Int} {n : Nat} (h : ∀ j, j < n → f j = g j) : (List.range n).flatMap f = (List.range n).flatMap g := by
  induction n with
  | zero => rfl
  | succ n ih =>
    rw [List.range_succ, List.flatMap_append, List.flatMap_append, ih fun j hj => h j (by omega)]
    simp [h n (by omega)]
theorem flat_upd {f : Nat → List Int} {l : List Int} {n z : Nat} (h : z < n) : ((List.range n).flatMap (upd f z l)).length + (f z).length = ((List.range n).flatMap f).length + l.length := by
  induction n with
  | zero => omega
  | succ n ih =>
    rw [List.range_succ, List.flatMap_append, List.flatMap_append, List.length_append, List.length_append]
    simp only [List.flatMap_cons, List.flatMap_nil, List.append_nil]
    by_cases e : z = n
    · subst e
      have : (List.range z).flatMap (upd f z l) = (List.range z).flatMap f := by
        exact flat_congr fun j hj => by simp only [upd]; rw [if_neg (by omega)]
      rw [this]; simp only [upd, if_true]; omega
    · have := ih (by omega)
      have e2 : upd f z l n = f n := by simp only [upd]; rw [if_neg (Ne.symm e)]
      rw [e2]; omega
theorem removeF_total {l : List Int} {i : Int} (h : (removeF l i).2.2 = 0) : (removeF l i).1.length + 1 = l.length := by
  unfold removeF at h ⊢
  split at h
  · rename_i hi
    rw [if_pos hi]; simp [inN] at hi ⊢; omega
  · simp at h
theorem insertF_total {l : List Int} {i x : Int} (h : (insertF l i x).2 = 0) : (insertF l i x).1.length = l.length + 1 := by
  unfold insertF at h ⊢
  split at h
  · rename_i hi
    rw [if_pos hi]; simp [inN] at hi ⊢; omega
  · simp at h
theorem zn_set {l : List Obj} {a b : Nat} {v : Int} (h : ∀ i, 0 ≤ l.getD i noObj 3 ∧ l.getD i noObj 3 ≤ 10) (hv : b = 3 → 0 ≤ v ∧ v ≤ 10) : ∀ i, 0 ≤ (l.set a (upd (l.getD a noObj) b v)).getD i noObj 3 ∧ (l.set a (upd (l.getD a noObj) b v)).getD i noObj 3 ≤ 10 := by
  intro i
  have e : (l.set a (upd (l.getD a noObj) b v)).getD i noObj = if a = i ∧ a < l.length then upd (l.getD a noObj) b v else l.getD i noObj := by
    simp only [List.getD_eq_getElem?_getD, List.getElem?_set]
    by_cases e : a = i
    · subst e; by_cases g : a < l.length <;> simp [g]
    · simp [e]
  rw [e]; split
  · simp only [upd]; split
    · rename_i h3; exact hv h3.symm
    · exact h a
  · exact h i
theorem moveF_sz {s : St} {x : Ev} (hx : MoveOk x) (h : Sz s) : Sz (moveF s x).1 := by
  by_cases h0 : (s.objs.length : Int) ≤ x.a
  · rw [moveF, if_pos h0]; exact h
  · cases h1 : (bif (removeF (s.lists x.b.toNat) x.c).2.2 != 0 then true else (removeF (s.lists x.b.toNat) x.c).2.1 != x.a) with
    | true => rw [move_bad h0 h1]; exact h
    | false =>
      by_cases h2 : (insertF (if x.d = x.b then (removeF (s.lists x.b.toNat) x.c).1 else s.lists x.d.toNat) x.e x.a).2 = 0
      · rw [move_ok h0 h1 rfl h2]
        have hr := move_good h1
        have hr0 : (removeF (s.lists x.b.toNat) x.c).2.2 = 0 := by
          by_cases e : (removeF (s.lists x.b.toNat) x.c).2.2 = 0
          · exact e
          · exact absurd (.inl e) hr
        have e1 := removeF_total hr0
        have e2 := insertF_total h2
        obtain ⟨_, hb, _, hd, _⟩ := hx
        have f1 := flat_upd (f := s.lists) (l := (removeF (s.lists x.b.toNat) x.c).1) (n := 11) (z := x.b.toNat) (by omega)
        have f2 := flat_upd (f := upd s.lists x.b.toNat (removeF (s.lists x.b.toNat) x.c).1) (l := (insertF (if x.d = x.b then (removeF (s.lists x.b.toNat) x.c).1 else s.lists x.d.toNat) x.e x.a).1) (n := 11) (z := x.d.toNat) (by omega)
        have e3 : (upd s.lists x.b.toNat (removeF (s.lists x.b.toNat) x.c).1 x.d.toNat).length = (if x.d = x.b then (removeF (s.lists x.b.toNat) x.c).1 else s.lists x.d.toNat).length := by
          simp only [upd]
          by_cases e : x.d = x.b
          · rw [if_pos (by omega), if_pos e]
          · rw [if_neg (by omega), if_neg e]
        have ht := h.total
        unfold ids at ht
        refine ⟨by simpa using h.objs, ?_, fun z hz => ?_, zn_set h.zn (fun _ => by omega)⟩
        · unfold ids
          show ((List.range 11).flatMap (upd (upd s.lists x.b.toNat _) x.d.toNat _)).length ≤ (s.objs.set _ _).length
          rw [List.length_set]; omega
        · show upd (upd s.lists x.b.toNat _) x.d.toNat _ z = []
          simp only [upd]; rw [if_neg (by omega), if_neg (by omega)]; exact h.hi z hz
      · rw [move_err h0 h1 rfl h2]; exact h
theorem evCheck_b {x : Ev} (h : evCheck x = 0) (e : x.k = 2) : x.b ≠ 3 := by
  unfold evCheck at h
  split at h
  · cases h
  · split at h
    · cases h
    · split at h
      · cases h
      · rename_i h1 h2 h3
        simp only [evRanges, e, Bool.and_eq_true, bne_iff_ne] at h3; simp at h3; exact h3.2.2.1
theorem createF_sz {s : St} {x : Ev} (h : Sz s) : Sz (createF s x).1 := by
  unfold createF
  split
  · exact h
  · rename_i hn
    have f1 := flat_upd (f := s.lists) (l := s.lists 10 ++ [(s.objs.length : Int)]) (n := 11) (z := 10) (by omega)
    have ht := h.total
    unfold ids at ht
    refine ⟨by simp only [List.length_append, List.length_singleton]; omega, ?_, fun z hz => ?_, fun i => ?_⟩
    · unfold ids
      simp only [List.length_append, List.length_singleton] at f1 ⊢
      omega
    · show upd s.lists 10 _ z = []
      simp only [upd]; rw [if_neg (by omega)]; exact h.hi z hz
    · show 0 ≤ (s.objs ++ [madeF x]).getD i noObj 3 ∧ (s.objs ++ [madeF x]).getD i noObj 3 ≤ 10
      simp only [List.getD_eq_getElem?_getD]
      by_cases hi : i < s.objs.length
      · rw [List.getElem?_append_left hi, ← List.getD_eq_getElem?_getD]; exact h.zn i
      · rw [List.getElem?_append_right (by omega)]
        by_cases h0 : i - s.objs.length = 0
        · rw [h0]; show (0 : Int) ≤ 10 ∧ (10 : Int) ≤ 10; omega
        · rw [List.getElem?_eq_none (by simp; omega)]; exact ⟨by decide, by decide⟩
theorem evDo_sz' {s : St} {x : Ev} (h : Sz s) : Sz (evDo s x).1 := by
  by_cases hc : evCheck x = 0
  · have ok := evCheck_ok hc
    by_cases hk : x.k = 0
    · rw [do_0 hc hk]; exact createF_sz h
    rw [evDo, if_neg (by simpa using hc), if_neg hk]
    split
    · rename_i e; exact moveF_sz (ok.2.1 e) h
    · split
      · split
        · exact h
        · split
          · exact h
          · rename_i e2 _ _; exact ⟨by simpa using h.objs, by simpa [ids] using h.total, h.hi, zn_set h.zn (fun e => by have := evCheck_b hc e2; have := (ok.2.2.1 e2); omega)⟩
      · split
        · split
          · exact h
          · exact ⟨h.objs, h.total, h.hi, h.zn⟩
        · split
          · exact h
          · exact ⟨h.objs, h.total, h.hi, h.zn⟩
  · rw [do_bad hc]; exact h
def Em.do1 (m : Em) (x : Ev) : Em :=
  if m.err ≠ 0 then m
  else if (evDo m.now x).2 ≠ 0 then ⟨(evDo m.now x).1, m.draws, m.evs, m.pend, (evDo m.now x).2⟩
  else if m.evs.length < 65536 then ⟨(evDo m.now x).1, m.draws, m.evs ++ [x], m.pend, m.err⟩ else ⟨(evDo m.now x).1, m.draws, m.evs, m.pend, 5⟩
def Em.doL (m : Em) (l : List Ev) : Em := l.foldl Em.do1 m
theorem do1_stop {m : Em} {x : Ev} (h : m.err ≠ 0) : m.do1 x = m := by rw [Em.do1, if_pos h]
theorem doL_stop {m : Em} {l : List Ev} (h : m.err ≠ 0) : m.doL l = m := by
  induction l with
  | nil => rfl
  | cons x l ih => rw [Em.doL, List.foldl_cons, do1_stop h]; exact ih
theorem doL_part {m : Em} {l : List Ev} {i : Nat} (h : (m.doL (l.take i)).err ≠ 0) : m.doL l = m.doL (l.take i) := by
  have : m.doL l = (m.doL (l.take i)).doL (l.drop i) := by
    rw [Em.doL, Em.doL, Em.doL, ← List.foldl_append, List.take_append_drop]
  rw [this, doL_stop h]
/-- What holds of an emitter beside. -/
structure EmI (m : Em) : Prop where
  sz : m.err = 0 → Sz m.now
  evs : m.evs.length ≤ 65536
theorem do1_inv' {m : Em} {x : Ev} (h : EmI m) : EmI (m.do1 x) := by
  unfold Em.do1
  split
  · exact h
  · rename_i h0
    have h0 : m.err = 0 := by simpa using h0
    split
    · rename_i h1; exact ⟨fun e => absurd e h1, h.evs⟩
    · split
      · exact ⟨fun _ => evDo_sz' (h.sz h0), by simp; omega⟩
      · exact ⟨(fun e => by cases e), h.evs⟩
theorem doL_inv' {m : Em} {l : List Ev} (h : EmI m) : EmI (m.doL l) := by
  induction l generalizing m with
  | nil => exact h
  | cons x l ih => exact ih (m := m.do1 x) (do1_inv' h)
theorem doL_inv {m : Em} {l : List Ev} (_ : ∀ x ∈ l, x.k ≠ 0) (h : EmI m) : EmI (m.doL l) := doL_inv' h
theorem em_acc_e {h0 : Hp} {id : Nat} {m : Em} {ve vp : V} (r : EmR h0 id m ve vp) (cs : List V) : Go.AV.Acc ((addTok vp h0).setBox id cs) 6 m.evs.length (cEvs m.evs) ve ((addTok ve (addTok vp h0)).setBox id cs) := by
  refine acc_iff.2 ⟨r.ae, ?_, (addTok_setBox _ _ _ _).symm⟩
  have h1 := r.fe
  have h2 := r.fi.2
  unfold vFresh at *
  split
  · rename_i t n len c
    simp only [addTok] at h2
    have hne : t ≠ id := fun e => by subst e; simp at h2
    exact ⟨by rw [Hp.box_setBox_ne _ _ hne]; exact h1.1, h1.2⟩
  · trivial
theorem em_app_e {h0 h' : Hp} {id : Nat} {m : Em} {ve vp v' : V} {cs : List V} {x : Ev} (r : EmR h0 id m ve vp) (acc : Go.AV.Acc ((addTok vp h0).setBox id cs) 6 (m.evs.length + 1) (cEvs m.evs ++ cEv x) v' h') (now : St) (err : Int) :
    h'.box id = some cs ∧ (v'.cells = [v'] ∧ v'.solid = true) ∧ (∀ cs', h'.setBox id cs' = (addTok v' (addTok vp h0)).setBox id cs') ∧ EmR h0 id ⟨now, m.draws, m.evs ++ [x], m.pend, err⟩ v' vp := by
  obtain ⟨a, f, rfl⟩ := acc_iff.1 acc
  have hc : cEvs (m.evs ++ [x]) = cEvs m.evs ++ cEv x := by simp [cEvs]
  have hid : (addTok vp h0).fresh id := by
    refine ⟨by have := r.fi.1; rwa [addTok_box] at this, ?_⟩
    cases e : (addTok vp h0).tok id with
    | none => rfl
    | some n => have := (addTok_le r.fe).tok id n e; rw [r.fi.2] at this; cases this
  have fe : vFresh v' (addTok vp h0) ∧ (addTok v' (addTok vp h0)).tok id = none := by
    unfold vFresh addTok at *
    split
    · rename_i t n len c
      simp only at f
      have hne : t ≠ id := fun e => by subst e; have := f.1; simp at this
      exact ⟨⟨by have := f.1; rwa [Hp.box_setBox_ne _ _ hne] at this, f.2⟩, by rw [Hp.tok_setTok_ne _ _ hne.symm]; exact hid.2⟩
    · exact ⟨trivial, hid.2⟩
  refine ⟨by rw [addTok_box, Hp.box_setBox], a.cells, fun cs' => by rw [addTok_setBox, Hp.setBox_setBox], ?_⟩
  exact ⟨by simpa [hc] using a, r.ap, r.fp, fe.1, ⟨by rw [addTok_box]; exact hid.1, fe.2⟩⟩

def noEv : Ev := ⟨0, 0, 0, 0, 0, 0⟩
theorem doL_next {m : Em} {l : List Ev} {i : Nat} (hi : i < l.length) : m.doL (l.take (i + 1)) = (m.doL (l.take i)).do1 (l.getD i noEv) := by
  rw [getD_of' hi, Em.doL, Em.doL, List.take_add_one, List.getElem?_eq_getElem hi, List.foldl_append]; rfl
theorem evs_mem {l : List Ev} {i : Nat} (h : i < l.length) : l.getD i noEv ∈ l := by rw [getD_of' h]; exact List.getElem_mem h
theorem cEvs_elem : ∀ {l : List Ev} {i : Nat}, i < l.length → ((cEvs l).drop (i * 6)).take 6 = cEv (l.getD i noEv)
  | [], i, h => by simp at h
  | o :: l, 0, _ => rfl
  | o :: l, i + 1, h => by
    have ih := cEvs_elem (l := l) (i := i) (by simpa using h)
    show ((cEv o ++ cEvs l).drop ((i + 1) * 6)).take 6 = cEv (l.getD i noEv)
    rw [← ih, show (i + 1) * 6 = (cEv o).length + i * 6 by show _ = 6 + i * 6; omega, List.drop_append, List.drop_eq_nil_of_le (by omega)]
    simp
theorem cEvs_at {l : List Ev} {i : Nat} (h : i < l.length) : ((cEvs l).drop ((i : Int).toNat * 6)).take 6 = cEv (l.getD i noEv) := by
  rw [Int.toNat_natCast]; exact cEvs_elem h

theorem doA_calls (l : List Ev) (hk : ∀ x ∈ l, x.k ≠ 5) (hlen : l.length ≤ 1000) {k : SK} {h0 : Hp} {id : Nat} {m : Em} {h : Hp} (he : EmAt h0 id m h) (hI : EmI m) : ACalls prog G 68 [.ptr id 0, .sl k 6 l.length (cEvs l)] h fun r h' => r = .tup [] ∧ EmAt h0 id (m.doL l) h' := by
  refine ACalls.enter func68 rfl ntmps68 results68 rfl ?_
  refine .seq <|
    .region <|
    .mS rfl rfl <|
    .ln rfl underlying84 rfl <|
    .mI rfl rfl <|
    .nil <|
    .block ?_
  refine AW.loop (fun n T hh => ∃ (i : Nat) , i ≤ l.length ∧ n = l.length - i ∧ T = put (put (put (put (T0) 9 (V.int .i64 (i : Nat))) 8 (V.int .i64 l.length)) 7 (V.sl k 6 l.length (cEvs l))) 0 (V.ptr id 0) ∧ EmAt h0 id (m.doL (l.take i)) hh) (l.length) ?_ ?_
  · skip
    refine Wk.mk (TLe.put (d := 0) (VLe.refl _) (TLe.put (d := 7) (VLe.refl _) (TLe.put (d := 8) (VLe.refl _) (TLe.put (d := 9) (by exact VLe.of_eq (congrArg (V.int .i64) (by first | rfl | omega))) (TLe.zero _))))) (HLe.refl _) ⟨0, Nat.zero_le _, rfl, rfl, by rw [List.take_zero]; exact he⟩
  · skip
    rintro n T h' ⟨i, hi, rfl, rfl, hem⟩
    refine .seq <|
      .region <|
      .ql rfl rfl rfl <|
      .nil <|
      .seq ?_
    refine AW.cond rfl (fun c0 => ?_) (fun c0 => ?_)
    · have hlt : i < l.length := by have := of_decide_eq_true c0; omega
      obtain ⟨ve, vp, hr, rfl⟩ := hem
      have hin : EmI (m.doL (l.take i)) := doL_inv' hI
      generalize hm1 : m.doL (l.take i) = m1 at *
      have hx := hk _ (evs_mem hlt)
      refine AW.skip ?_
      refine .seq <|
        .block <|
        .seq <|
        .region ?_
      refine .u rfl rfl rfl (q_ia_s rfl underlying84 sizeOf116 rfl rfl (by omega) (by omega) (cEvs_at hlt)) ?_
      refine .lw rfl isAgg116 sizeOf116 rfl rfl ?_
      refine AOps.s rfl rfl rfl (a_alloc rfl zeroValue116 rfl (fun id5 hid5 => ?_))
      refine .sw sizeOf116 rfl rfl rfl rfl ?_
      refine AOps.done 5 rfl hid5 ?_
      refine .nil <|
        .seq <|
        .seq <|
        .region <|
        .mP rfl rfl ?_
      refine .u rfl rfl rfl (QOp.call rfl call18 fun h' hl' => by exact err_calls (hl'.box _ _ (Hp.box_setBox _ _ _))) ?_
      refine .u rfl rfl rfl (q_neerr underlying58 rfl rfl) ?_
      refine .nil ?_
      refine AW.cond rfl (fun c1 => ?_) (fun c1 => ?_)
      · skip
        refine AW.ret ?_
        exact retQ.mk .none ⟨rfl, by rw [doL_part (i := i) (by rw [hm1]; simpa using c1), hm1]; exact ⟨ve, vp, hr, rfl⟩⟩
      · have he1 : m1.err = 0 := by simpa using c1
        refine AW.skip ?_
        refine .seq <|
          .seq ?_
        refine AW.draw [4] [0, 1] [(0, true), (1, true), (2, true), (3, true), (4, false), (5, true)] mixed (by kernel_rfl) rfl (by kernel_rfl) ?_
        refine .p rfl rfl rfl (fun _ => q_mv rfl (rfl : _ = V.ptr _ _)) ?_
        refine .p rfl rfl rfl (fun _ => q_nc rfl (rfl : _ = V.ptr _ _) rfl) ?_
        refine .q rfl rfl rfl rfl (q_fa_b rfl underlying86 rfl (by exact sizeOf29) (by decide) rfl (rfl : _ = 0)) ?_
        refine .q rfl rfl rfl rfl (q_load_iW rfl isAgg116 sizeOf116 rfl (by rfl)) ?_
        refine AOrd.s rfl rfl rfl rfl ((AStep.call rfl (by exact call119) (evDo_any m1.now (l.getD i noEv) [eInts m1.draws, ve, vp, eE m1.err] hx (by have := (hin.sz he1).objs; omega) (fun z => by have := (hin.sz he1).lists z; omega) hr.fi)).mono ?_)
        rintro x2 h2 ⟨rfl, rfl⟩
        refine .q rfl rfl rfl rfl (q_as rfl (rfl : _ = eErr _ _)) ?_
        refine AOrd.nil ?_
        refine .seq <|
          .region ?_
        refine .u rfl rfl rfl (q_mv rfl (rfl : _ = eErr _ _)) ?_
        refine .u rfl rfl rfl (q_neerr underlying58 rfl rfl) ?_
        refine .nil ?_
        refine AW.cond rfl (fun c2 => ?_) (fun c2 => ?_)
        · skip
          refine .seq <|
            .region <|
            .mP rfl rfl ?_
          refine .u rfl rfl rfl (q_mv rfl (rfl : _ = eErr _ _)) ?_
          refine .nP rfl rfl <|
            .fb rfl f86_40 rfl rfl ?_
          refine AOps.s0 rfl rfl (a_store1 rfl sizeOf58 rfl (by exact bsb) (rfl : _ = eErr _ _) (eErr_solid _ _).2 (eErr_solid _ _).1 (by first | decide | exact Nat.le_of_ble_eq_true rfl) ?_)
          refine .nil ?_
          refine AW.ret ?_
          have h2 : (evDo m1.now (l.getD i noEv)).2 ≠ 0 := by simpa using c2
          have e1 : m.doL (l.take (i + 1)) = ⟨(evDo m1.now (l.getD i noEv)).1, m1.draws, m1.evs, m1.pend, (evDo m1.now (l.getD i noEv)).2⟩ := by rw [doL_next hlt, hm1, Em.do1, if_neg (by simpa using he1), if_pos h2]
          exact retQ.mk .none ⟨rfl, by rw [doL_part (i := i + 1) (by rw [e1]; exact h2), e1, Hp.setBox_setBox]; exact ⟨ve, vp, ⟨hr.ae, hr.ap, hr.fp, hr.fe, hr.fi⟩, rfl⟩⟩
        · have h2 : (evDo m1.now (l.getD i noEv)).2 = 0 := by simpa using c2
          have hev := hin.evs
          refine AW.skip ?_
          refine .seq <|
            .region <|
            .mP rfl rfl <|
            .mP rfl rfl <|
            .nP rfl rfl <|
            .fb rfl f86_38 rfl rfl <|
            .lb rfl isAgg84 rfl rfl ?_
          refine .u rfl rfl rfl (q_len rfl underlying84 (by exact hr.ae.len?)) ?_
          refine .ql rfl rfl rfl ?_
          refine AOps.s rfl rfl rfl ((AStep.call rfl (by exact call65) (must_calls ⟨(evDo m1.now (l.getD i noEv)).1, m1.draws, m1.evs, m1.pend, m1.err⟩ ve vp _ 5 (by decide) id _)).mono ?_)
          rintro x3 h3 ⟨rfl, rfl⟩
          refine .nil ?_
          refine AW.cond rfl (fun c3 => ?_) (fun c3 => ?_)
          · refine AW.hp (by rw [Em.must, if_neg (by intro e; rw [e.2] at c3; simp at c3)]) ?_
            have hr2 : EmR h0 id ⟨(evDo m1.now (l.getD i noEv)).1, m1.draws, m1.evs, m1.pend, m1.err⟩ ve vp := ⟨hr.ae, hr.ap, hr.fp, hr.fe, hr.fi⟩
            refine AW.draw [7, 10] [0, 1, 2, 3, 5, 8] [(0, true), (1, true), (2, true), (3, true), (4, true), (5, true), (6, true), (7, false), (8, true), (9, true), (10, false)] mixed (by kernel_rfl) rfl (by kernel_rfl) ?_
            refine .p rfl rfl rfl (fun _ => q_mv rfl (rfl : _ = V.ptr _ _)) ?_
            refine .p rfl rfl rfl (fun _ => q_mv rfl (rfl : _ = V.ptr _ _)) ?_
            refine .p rfl rfl rfl (fun _ => q_nc rfl (rfl : _ = V.ptr _ _) rfl) ?_
            refine .p rfl rfl rfl (fun _ => q_fa_b rfl underlying86 rfl (by exact sizeOf84) (by decide) rfl (rfl : _ = 38)) ?_
            refine .q rfl rfl rfl rfl (q_load_b1 rfl isAgg84 rfl (by exact bsb) rfl) ?_
            refine .p rfl rfl rfl (fun _ => q_load_iW rfl isAgg116 sizeOf116 rfl (by rfl)) ?_
            refine .q rfl rfl rfl rfl (q_buildSl rfl underlying84 sizeOf116 zeroValue116 rfl rfl rfl rfl rfl) ?_
            refine AOrd.s rfl rfl rfl rfl (a_append rfl underlying84 (i := t116) (by kernel_rfl) rfl (n := 6) (by' := 48) rfl rfl rfl rfl (em_acc_e hr2 _) rfl rfl (by decide) (by show (m1.evs.length + 1) * 48 ≤ _; omega) (by show m1.evs.length + 1 ≤ _; omega) rfl (fun v3 h3 acc => ?_))
            obtain ⟨hb3, hc3, hs3, hr3⟩ := em_app_e hr2 acc (evDo m1.now (l.getD i noEv)).1 m1.err
            refine .p rfl rfl rfl (fun _ => q_nc rfl (rfl : _ = V.ptr _ _) rfl) ?_
            refine .q rfl rfl rfl rfl (q_fa_b rfl underlying86 rfl (by exact sizeOf84) (by decide) rfl (rfl : _ = 38)) ?_
            refine AOrd.s0 rfl rfl rfl rfl (a_store1 rfl sizeOf84 rfl (by exact hb3) (rfl : _ = v3) hc3.1 hc3.2 (by exact Nat.le_of_ble_eq_true rfl) ?_)
            refine AOrd.nil ?_
            refine .region <|
              .ad rfl rfl rfl (by omega) <|
              .mI rfl rfl <|
              .nil ?_
            refine Wk.mk (TLe.put (d := 0) (VLe.refl _) (TLe.put (d := 7) (VLe.refl _) (TLe.put (d := 8) (VLe.refl _) (TLe.put (d := 9) (by exact VLe.of_eq (congrArg (V.int .i64) (by first | rfl | omega))) (TLe.zero _))))) (HLe.refl _) ⟨_, ?_, i + 1, ?_, rfl, rfl, by first | (rw [doL_next hlt, hm1, Em.do1, if_neg (by simpa using he1), if_neg (by simpa using h2), if_pos (by have := c3; simp [he1] at this; omega)]; exact ⟨v3, vp, hr3, hs3 _⟩) | (rw [doL_next hlt, hm1, Em.do1, if_neg (by simpa using he1), if_neg (by simpa using h2), if_neg (by have := c3; simp [he1] at this; omega)]; exact ⟨ve, vp, ⟨hr.ae, hr.ap, hr.fp, hr.fe, hr.fi⟩, rfl⟩)⟩
            · omega
            · omega
          · refine AW.hp (by rw [Em.must, if_pos ⟨he1, by simpa [he1] using c3⟩]) ?_
            refine AW.skip ?_
            refine .region <|
              .ad rfl rfl rfl (by omega) <|
              .mI rfl rfl <|
              .nil ?_
            refine Wk.mk (TLe.put (d := 0) (VLe.refl _) (TLe.put (d := 7) (VLe.refl _) (TLe.put (d := 8) (VLe.refl _) (TLe.put (d := 9) (by exact VLe.of_eq (congrArg (V.int .i64) (by first | rfl | omega))) (TLe.zero _))))) (HLe.refl _) ⟨_, ?_, i + 1, ?_, rfl, rfl, by first | (rw [doL_next hlt, hm1, Em.do1, if_neg (by simpa using he1), if_neg (by simpa using h2), if_pos (by have := c3; simp [he1] at this; omega)]; exact ⟨v3, vp, hr3, hs3 _⟩) | (rw [doL_next hlt, hm1, Em.do1, if_neg (by simpa using he1), if_neg (by simpa using h2), if_neg (by have := c3; simp [he1] at this; omega)]; exact ⟨ve, vp, ⟨hr.ae, hr.ap, hr.fp, hr.fe, hr.fi⟩, rfl⟩)⟩
            · omega
            · omega
    · obtain rfl : i = l.length := by have := of_decide_eq_false c0; omega
      refine AW.exit ?_
      rw [List.take_length] at hem
      exact retQ.mk .none ⟨rfl, hem⟩

theorem doL_calls (l : List Ev) (hk : ∀ x ∈ l, x.k ≠ 0 ∧ x.k ≠ 5) (hlen : l.length ≤ 1000) {k : SK} {h0 : Hp} {id : Nat} {m : Em} {h : Hp} (he : EmAt h0 id m h) (hI : EmI m) : ACalls prog G 68 [.ptr id 0, .sl k 6 l.length (cEvs l)] h fun r h' => r = .tup [] ∧ EmAt h0 id (m.doL l) h' :=
  doA_calls l (fun x hx => (hk x hx).2) hlen he hI

end Go.Proofs.YtagcjkbogaoifaaGreatDoor
/- Walks: what an emitter sets. -/
namespace Go.Proofs.YtagcjkbogaoifaaGreatDoor
open Go Go.AV Go.Proofs.Tryz
set_option maxRecDepth 100000
set_option maxHeartbeats 400000
def Em.set (m : Em) (e : Ev) (was n : Int) : Em := if was = n then m.fail (evCheck ⟨e.k, e.a, e.b, was, n, e.e⟩) else m.doL [⟨e.k, e.a, e.b, was, n, e.e⟩]
theorem fail_inv {m : Em} {e : Int} (h : EmI m) : EmI (m.fail e) := by
  unfold Em.fail; split
  · rename_i h0; exact ⟨fun _ => h.sz h0, h.evs⟩
  · exact h
theorem fail_at {h0 : Hp} {id : Nat} {m : Em} {ve vp : V} (hr : EmR h0 id m ve vp) (e : Int) : EmAt h0 id (m.fail e) ((addTok ve (addTok vp h0)).setBox id (emCells (m.fail e) ve vp)) := by
  refine ⟨ve, vp, ?_, rfl⟩
  unfold Em.fail; split
  · exact ⟨hr.ae, hr.ap, hr.fp, hr.fe, hr.fi⟩
  · exact hr

theorem set_calls (e : Ev) (was n : Int) (hk : e.k ≠ 0 ∧ e.k ≠ 5) {h0 : Hp} {id : Nat} {m : Em} {h : Hp} (he : EmAt h0 id m h) (hI : EmI m) : ACalls prog G 88 [.ptr id 0, eEv e, .int .i64 was, .int .i64 n] h fun r h' => r = .tup [] ∧ EmAt h0 id (m.set e was n) h' := by
  refine ACalls.enter func88 rfl ntmps88 results88 rfl ?_
  refine .seq <|
    .region ?_
  refine AOps.s rfl rfl rfl (a_boxa rfl (rfl : _ = V.agg _) (fun id5 hid5 => ?_))
  refine .nil <|
    .seq <|
    .seq <|
    .region <|
    .mI rfl rfl <|
    .mI rfl rfl <|
    .fb rfl f116_3 rfl rfl ?_
  refine AOps.s0 rfl rfl (a_store1 rfl sizeOf3 rfl (by exact bsb) (rfl : _ = V.int _ _) rfl rfl (by first | decide | exact Nat.le_of_ble_eq_true rfl) ?_)
  refine .fb rfl f116_4 rfl rfl ?_
  refine AOps.s0 rfl rfl (a_store1 rfl sizeOf3 rfl (by exact bsb) (rfl : _ = V.int _ _) rfl rfl (by first | decide | exact Nat.le_of_ble_eq_true rfl) ?_)
  refine .nil <|
    .seq ?_
  refine AW.hp (h' := h.setBox id5 (cEv ⟨e.k, e.a, e.b, was, n, e.e⟩)) (by rw [Hp.setBox_setBox, Hp.setBox_setBox]; rfl) ?_
  refine AW.done 5 rfl hid5 ?_
  refine .region <|
    .mI rfl rfl <|
    .mI rfl rfl <|
    .qe rfl rfl rfl <|
    .nil ?_
  refine AW.cond rfl (fun c0 => ?_) (fun c0 => ?_)
  · obtain ⟨ve, vp, hr, rfl⟩ := he
    refine .seq <|
      .region <|
      .mP rfl rfl <|
      .lw rfl isAgg116 sizeOf116 rfl rfl ?_
    refine .u rfl rfl rfl (QOp.call rfl call87 fun h' hl' => by exact evCheck_calls ⟨e.k, e.a, e.b, was, n, e.e⟩ h') ?_
    refine AOps.s rfl rfl rfl ((AStep.call rfl (by exact call37) (fail_calls _ ve vp _ id _)).mono ?_)
    rintro x3 h3 ⟨rfl, rfl⟩
    refine .nil ?_
    refine AW.ret ?_
    exact retQ.mk .none ⟨rfl, by rw [Em.set, if_pos (by simpa using c0)]; exact fail_at hr _⟩
  · skip
    refine AW.skip ?_
    refine .region <|
      .mP rfl rfl <|
      .lw rfl isAgg116 sizeOf116 rfl rfl ?_
    refine .u rfl rfl rfl (q_buildSl rfl underlying84 sizeOf116 zeroValue116 rfl rfl rfl rfl rfl) ?_
    refine AOps.s rfl rfl rfl ((AStep.call rfl (by exact call68) (doL_calls [⟨e.k, e.a, e.b, was, n, e.e⟩] (by simpa using hk) (by simp) (k := .full) he hI)).mono ?_)
    rintro x3 h3 ⟨rfl, he3⟩
    refine .nil ?_
    exact retQ.mk .none ⟨rfl, by rw [Em.set, if_neg (by simpa using c0)]; exact he3⟩

def Em.setF (m : Em) (i f n : Int) : Em :=
  if m.err ≠ 0 then m
  else if evCheck ⟨2, i, f, 0, n, 0⟩ ≠ 0 ∨ (m.now.objs.length : Int) ≤ i then m.doL [⟨2, i, f, 0, n, 0⟩]
  else m.set ⟨2, i, f, 0, n, 0⟩ (m.now.objs.getD i.toNat noObj f.toNat) n
def Em.gameF (m : Em) (f n : Int) : Em :=
  if m.err ≠ 0 then m
  else if evCheck ⟨4, 0, f, 0, 0, 0⟩ ≠ 0 then m.doL [⟨4, 0, f, 0, 0, 0⟩]
  else m.set ⟨4, 0, f, 0, 0, 0⟩ (m.now.game f.toNat) n

theorem game'_calls (f n : Int) {h0 : Hp} {id : Nat} {m : Em} {h : Hp} (he : EmAt h0 id m h) (hI : EmI m) : ACalls prog G 41 [.ptr id 0, .int .i64 f, .int .i64 n] h fun r h' => r = .tup [] ∧ EmAt h0 id (m.gameF f n) h' := by
  obtain ⟨ve, vp, hr, rfl⟩ := he
  refine ACalls.enter func41 rfl ntmps41 results41 rfl ?_
  refine .seq <|
    .seq <|
    .region <|
    .mP rfl rfl ?_
  refine .u rfl rfl rfl (QOp.call rfl call18 fun h' hl' => by exact err_calls (hl'.box _ _ (Hp.box_setBox _ _ _))) ?_
  refine .u rfl rfl rfl (q_neerr underlying58 rfl rfl) ?_
  refine .nil ?_
  refine AW.cond rfl (fun c0 => ?_) (fun c0 => ?_)
  · skip
    refine AW.ret ?_
    exact retQ.mk .none ⟨rfl, by rw [Em.gameF, if_pos (by simpa using c0)]; exact ⟨ve, vp, hr, rfl⟩⟩
  · skip
    refine AW.skip ?_
    refine .seq <|
      .region <|
      .mI rfl rfl ?_
    refine .u rfl rfl rfl (q_buildS (ds := cEv ⟨4, 0, f, 0, 0, 0⟩) rfl zeroValue116 underlying116 (pl116 underlying116) rfl (by kernel_rfl)) ?_
    refine AOps.s rfl rfl rfl (a_alloc rfl zeroValue116 rfl (fun id6 hid6 => ?_))
    refine .sw sizeOf116 rfl rfl rfl rfl ?_
    refine AOps.done 6 rfl hid6 ?_
    refine .nil <|
      .seq <|
      .seq <|
      .region <|
      .lw rfl isAgg116 sizeOf116 rfl rfl ?_
    refine .u rfl rfl rfl (QOp.call rfl call87 fun h' hl' => by exact evCheck_calls ⟨4, 0, f, 0, 0, 0⟩ h') ?_
    refine .u rfl rfl rfl (q_neerr underlying58 rfl rfl) ?_
    refine .nil ?_
    refine AW.cond rfl (fun c1 => ?_) (fun c1 => ?_)
    · skip
      refine .seq <|
        .region <|
        .mP rfl rfl <|
        .lw rfl isAgg116 sizeOf116 rfl rfl ?_
      refine .u rfl rfl rfl (q_buildSl rfl underlying84 sizeOf116 zeroValue116 rfl rfl rfl rfl rfl) ?_
      refine AOps.s rfl rfl rfl ((AStep.call rfl (by exact call68) (doL_calls [⟨4, 0, f, 0, 0, 0⟩] (by simp) (by simp) (k := .full) ⟨ve, vp, hr, rfl⟩ hI)).mono ?_)
      rintro x3 h3 ⟨rfl, he3⟩
      refine .nil ?_
      refine AW.ret ?_
      exact retQ.mk .none ⟨rfl, by rw [Em.gameF, if_neg (by simpa using c0), if_pos (by simpa using c1)]; exact he3⟩
    · have hc : evCheck ⟨4, 0, f, 0, 0, 0⟩ = 0 := by simpa using c1
      have ok := (evCheck_ok hc).2.2.2.2 (by simp)
      have ok1 : 0 ≤ f := ok.1
      have ok2 : f < 7 := ok.2
      refine AW.skip ?_
      refine AW.draw [10] [2, 3, 4, 5, 6, 7] [(0, true), (1, true), (2, true), (3, true), (4, true), (5, true), (6, true), (7, true), (8, true), (9, true), (10, false)] mixed (by kernel_rfl) rfl (by kernel_rfl) ?_
      refine .q rfl rfl rfl rfl (q_mv rfl (rfl : _ = V.ptr _ _)) ?_
      refine .q rfl rfl rfl rfl (q_load_iW rfl isAgg116 sizeOf116 rfl (by rfl)) ?_
      refine .p rfl rfl rfl (fun _ => q_mv rfl (rfl : _ = V.ptr _ _)) ?_
      refine .p rfl rfl rfl (fun _ => q_mv rfl (rfl : _ = V.int _ _)) ?_
      refine .p rfl rfl rfl (fun _ => q_nc rfl (rfl : _ = V.ptr _ _) rfl) ?_
      refine .p rfl rfl rfl (fun _ => q_fa_b rfl underlying86 rfl (by exact sizeOf29) (by decide) rfl (rfl : _ = 0)) ?_
      refine .p rfl rfl rfl (fun _ => q_fa_b rfl underlying29 rfl (by exact sizeOf27) (by decide) rfl (rfl : _ = 30)) ?_
      refine .p rfl rfl rfl (fun _ => q_ia_ab rfl underlying27 sizeOf3 rfl rfl (by omega) (by omega)) ?_
      refine .q rfl rfl rfl rfl (q_load_b1 rfl isAgg3 rfl (by exact bsb) (st_game_ix ok1 ok2)) ?_
      refine .q rfl rfl rfl rfl (q_mv rfl (rfl : _ = V.int _ _)) ?_
      refine AOrd.s rfl rfl rfl rfl ((AStep.call rfl (by exact call88) (set_calls ⟨4, 0, f, 0, 0, 0⟩ _ n (by simp) ⟨ve, vp, hr, rfl⟩ hI)).mono ?_)
      rintro x3 h3 ⟨rfl, he3⟩
      refine AOrd.nil ?_
      exact retQ.mk .none ⟨rfl, by rw [Em.gameF, if_neg (by simpa using c0), if_neg (by simpa using c1)]; exact he3⟩

theorem setF_yes {e i n : Int} (h : (bif e != 0 then true else decide (n ≤ i)) = true) : e ≠ 0 ∨ n ≤ i := by
  by_cases h0 : e = 0
  · subst h0; exact .inr (by simpa using h)
  · exact .inl h0
theorem setF_no {e i n : Int} (h : (bif e != 0 then true else decide (n ≤ i)) = false) : e = 0 ∧ i < n := by
  by_cases h0 : e = 0
  · subst h0; exact ⟨rfl, by simpa using h⟩
  · have : (e != 0) = true := by simpa using h0
    rw [this] at h; cases h

theorem setF_calls (i f n : Int) {h0 : Hp} {id : Nat} {m : Em} {h : Hp} (he : EmAt h0 id m h) (hI : EmI m) : ACalls prog G 39 [.ptr id 0, .int .i64 i, .int .i64 f, .int .i64 n] h fun r h' => r = .tup [] ∧ EmAt h0 id (m.setF i f n) h' := by
  obtain ⟨ve, vp, hr, rfl⟩ := he
  refine ACalls.enter func39 rfl ntmps39 results39 rfl ?_
  refine .seq <|
    .seq <|
    .region <|
    .mP rfl rfl ?_
  refine .u rfl rfl rfl (QOp.call rfl call18 fun h' hl' => by exact err_calls (hl'.box _ _ (Hp.box_setBox _ _ _))) ?_
  refine .u rfl rfl rfl (q_neerr underlying58 rfl rfl) ?_
  refine .nil ?_
  refine AW.cond rfl (fun c0 => ?_) (fun c0 => ?_)
  · skip
    refine AW.ret ?_
    exact retQ.mk .none ⟨rfl, by rw [Em.setF, if_pos (by simpa using c0)]; exact ⟨ve, vp, hr, rfl⟩⟩
  · skip
    refine AW.skip ?_
    refine .seq <|
      .region <|
      .mI rfl rfl <|
      .mI rfl rfl <|
      .mI rfl rfl ?_
    refine .u rfl rfl rfl (q_buildS (ds := cEv ⟨2, i, f, 0, n, 0⟩) rfl zeroValue116 underlying116 (pl116 underlying116) rfl (by kernel_rfl)) ?_
    refine AOps.s rfl rfl rfl (a_alloc rfl zeroValue116 rfl (fun id8 hid8 => ?_))
    refine .sw sizeOf116 rfl rfl rfl rfl ?_
    refine AOps.done 8 rfl hid8 ?_
    refine .nil <|
      .seq <|
      .seq <|
      .region <|
      .lw rfl isAgg116 sizeOf116 rfl rfl ?_
    refine .u rfl rfl rfl (QOp.call rfl call87 fun h' hl' => by exact evCheck_calls ⟨2, i, f, 0, n, 0⟩ h') ?_
    refine .u rfl rfl rfl (q_neerr underlying58 rfl rfl) ?_
    refine .mB rfl rfl ?_
    refine .gf rfl rfl rfl (fun _ => tl0) (fun hc => q_mv rfl (rfl : _ = V.int _ _)) ?_
    refine .gf rfl rfl rfl (fun _ => tl0) (fun hc => q_mv rfl (rfl : _ = V.ptr _ _)) ?_
    refine .gf rfl rfl rfl (fun hc => tl1 21 (.opt hc)) (fun hc => q_nc rfl (rfl : _ = V.ptr _ _) rfl) ?_
    refine .gf rfl rfl rfl (fun hc => tl1 22 (.opt hc)) (fun hc => q_fa_b rfl underlying86 rfl (by exact sizeOf29) (by decide) rfl (rfl : _ = 0)) ?_
    refine .gf rfl rfl rfl (fun hc => tl1 23 (.opt hc)) (fun hc => q_fa_b rfl underlying29 rfl (by exact sizeOf22) (by decide) rfl (rfl : _ = 0)) ?_
    refine .gf rfl rfl rfl (fun hc => tl1 24 (.opt hc)) (fun hc => q_load_b1 rfl isAgg22 rfl (by exact bsb) rfl) ?_
    refine .gf rfl rfl rfl (fun hc => tl1 25 (.opt hc)) (fun hc => q_len rfl underlying22 rfl) ?_
    refine .gf rfl rfl rfl (fun hc => tl2 26 20 (.opt hc) (.opt hc)) (fun hc => q_ge rfl rfl rfl) ?_
    refine .pf rfl rfl rfl rfl <|
      .nil ?_
    refine AW.cond rfl (fun c1 => ?_) (fun c1 => ?_)
    · skip
      refine .seq <|
        .region <|
        .mP rfl rfl <|
        .lw rfl isAgg116 sizeOf116 rfl rfl ?_
      refine .u rfl rfl rfl (q_buildSl rfl underlying84 sizeOf116 zeroValue116 rfl rfl rfl rfl rfl) ?_
      refine AOps.s rfl rfl rfl ((AStep.call rfl (by exact call68) (doL_calls [⟨2, i, f, 0, n, 0⟩] (by simp) (by simp) (k := .full) ⟨ve, vp, hr, rfl⟩ hI)).mono ?_)
      rintro x3 h3 ⟨rfl, he3⟩
      refine .nil ?_
      refine AW.ret ?_
      exact retQ.mk .none ⟨rfl, by rw [Em.setF, if_neg (by simpa using c0), if_pos (setF_yes c1)]; exact he3⟩
    · have hc := setF_no c1
      have ok := (evCheck_ok hc.1).2.2.1 rfl
      have ok1 : 0 ≤ i := ok.1
      have ok2 : 0 ≤ f := ok.2.1
      have ok3 : f < 18 := ok.2.2
      have hlt := hc.2
      refine AW.skip ?_
      refine AW.draw [13] [2, 3, 4, 5, 7, 8, 9, 10] [(0, true), (1, true), (2, true), (3, true), (4, true), (5, true), (7, true), (8, true), (12, true), (6, false), (9, true), (10, true), (11, true), (13, false)] mixed (by kernel_rfl) rfl (by kernel_rfl) ?_
      refine .q rfl rfl rfl rfl (q_mv rfl (rfl : _ = V.ptr _ _)) ?_
      refine .q rfl rfl rfl rfl (q_load_iW rfl isAgg116 sizeOf116 rfl (by rfl)) ?_
      refine .p rfl rfl rfl (fun _ => q_mv rfl (rfl : _ = V.ptr _ _)) ?_
      refine .p rfl rfl rfl (fun _ => q_nc rfl (rfl : _ = V.ptr _ _) rfl) ?_
      refine .p rfl rfl rfl (fun _ => q_fa_b rfl underlying86 rfl (by exact sizeOf29) (by decide) rfl (rfl : _ = 0)) ?_
      refine .p rfl rfl rfl (fun _ => q_fa_b rfl underlying29 rfl (by exact sizeOf22) (by decide) rfl (rfl : _ = 0)) ?_
      refine .p rfl rfl rfl (fun _ => q_mv rfl (rfl : _ = V.int _ _)) ?_
      refine .p rfl rfl rfl (fun _ => q_mv rfl (rfl : _ = V.int _ _)) ?_
      refine .q rfl rfl rfl rfl (q_mv rfl (rfl : _ = V.int _ _)) ?_
      refine AOrd.qf rfl rfl rfl (q_load_b1 rfl isAgg22 rfl (by exact bsb) rfl) ?_
      refine .p rfl rfl rfl (fun _ => q_ia_s rfl underlying22 sizeOf72 rfl rfl (by omega) (by omega) (cObjs_elem' (by omega) (by omega))) ?_
      refine .p rfl rfl rfl (fun _ => q_ia_ai rfl underlying72 sizeOf3 rfl rfl (by omega) (by omega) rfl) ?_
      refine .q rfl rfl rfl rfl (q_load_i1 rfl isAgg3 rfl (objp_ix ok2 ok3)) ?_
      refine AOrd.s rfl rfl rfl rfl ((AStep.call rfl (by exact call88) (set_calls ⟨2, i, f, 0, n, 0⟩ _ n (by simp) ⟨ve, vp, hr, rfl⟩ hI)).mono ?_)
      rintro x3 h3 ⟨rfl, he3⟩
      refine AOrd.nil ?_
      exact retQ.mk .none ⟨rfl, by rw [Em.setF, if_neg (by simpa using c0), if_neg (by have := setF_no c1; omega)]; exact he3⟩

end Go.Proofs.YtagcjkbogaoifaaGreatDoor
