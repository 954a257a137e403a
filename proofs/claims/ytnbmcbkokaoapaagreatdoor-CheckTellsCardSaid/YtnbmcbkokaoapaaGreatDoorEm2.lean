/- Walks: an emitter's events. -/
import Derived.Test.YtnbmcbkokaoapaaGreatDoorEm1
namespace Go.Proofs.YtnbmcbkokaoapaaGreatDoor
open Go Go.AV
set_option maxRecDepth 100000
set_option maxHeartbeats 400000
/-- A state of a size that may be: so many objects, so many places. -/
structure Sz (s : St) : Prop where
  objs : s.objs.length ≤ 400
  total : (ids s).length ≤ 400
  hi : ∀ z, 11 ≤ z → s.lists z = []
  zn : ∀ i, 0 ≤ s.objs.getD i noObj 3 ∧ s.objs.getD i noObj 3 ≤ 10
theorem flat_ge {f : Nat → List Int} {n z : Nat} (h : z < n) : (f z).length ≤ ((List.range n).flatMap f).length := by
  induction n with
  | zero => omega
  | succ n ih =>
    rw [List.range_succ, List.flatMap_append, List.length_append]
    simp only [List.flatMap_cons, List.flatMap_nil, List.append_nil]
    by_cases e : z = n
    · subst e; omega
    · have := ih (by omega); omega
theorem Sz.lists {s : St} (h : Sz s) (z : Nat) : (s.lists z).length ≤ 400 := by
  by_cases e : z < 11
  · exact Nat.le_trans (flat_ge e) h.total
  · rw [h.hi z (by omega)]; simp
theorem flat_congr {f g : Nat → List Int} {n : Nat} (h : ∀ j, j < n → f j = g j) : (List.range n).flatMap f = (List.range n).flatMap g := by
  induction n with
  | zero => rfl
  | succ n ih =>
    rw [List.range_succ, List.flatMap_append, List.flatMap_append, ih fun j hj => h j (by omega)]
    simp [h n (by omega)]
theorem flat_upd {f : Nat → List Int} {l : List Int} {n z : Nat} (h : z < n) : ((List.range n).flatMap (upd f z l)).length + (f z).length = ((List.range n).flatMap f).length + l.length := by
  induction n with
  | zero => omega
  | succ n ih =>
    rw [List.range_succ, List.flatMap_append, List.flatMap_append, List.length_append, List.length_append]
    simp only [List.flatMap_cons, List.flatMap_nil, List.append_nil]
    by_cases e : z = n
    · subst e
      have : (List.range z).flatMap (upd f z l) = (List.range z).flatMap f := by
        exact flat_congr fun j hj => by simp only [upd]; rw [if_neg (by omega)]
      rw [this]; simp only [upd, if_true]; omega
    · have := ih (by omega)
      have e2 : upd f z l n = f n := by simp only [upd]; rw [if_neg (Ne.symm e)]
      rw [e2]; omega
theorem removeF_total {l : List Int} {i : Int} (h : (removeF l i).2.2 = 0) : (removeF l i).1.length + 1 = l.length := by
  unfold removeF at h ⊢
  split at h
  · rename_i hi
    rw [if_pos hi]; simp [inN] at hi ⊢; omega
  · simp at h
theorem insertF_total {l : List Int} {i x : Int} (h : (insertF l i x).2 = 0) : (insertF l i x).1.length = l.length + 1 := by
  unfold insertF at h ⊢
  split at h
  · rename_i hi
    rw [if_pos hi]; simp [inN] at hi ⊢; omega
  · simp at h
theorem zn_set {l : List Obj} {a b : Nat} {v : Int} (h : ∀ i, 0 ≤ l.getD i noObj 3 ∧ l.getD i noObj 3 ≤ 10) (hv : b = 3 → 0 ≤ v ∧ v ≤ 10) : ∀ i, 0 ≤ (l.set a (upd (l.getD a noObj) b v)).getD i noObj 3 ∧ (l.set a (upd (l.getD a noObj) b v)).getD i noObj 3 ≤ 10 := by
  intro i
  have e : (l.set a (upd (l.getD a noObj) b v)).getD i noObj = if a = i ∧ a < l.length then upd (l.getD a noObj) b v else l.getD i noObj := by
    simp only [List.getD_eq_getElem?_getD, List.getElem?_set]
    by_cases e : a = i
    · subst e; by_cases g : a < l.length <;> simp [g]
    · simp [e]
  rw [e]; split
  · simp only [upd]; split
    · rename_i h3; exact hv h3.symm
    · exact h a
  · exact h i
theorem moveF_sz {s : St} {x : Ev} (hx : MoveOk x) (h : Sz s) : Sz (moveF s x).1 := by
  by_cases h0 : (s.objs.length : Int) ≤ x.a
  · rw [moveF, if_pos h0]; exact h
  · cases h1 : (bif (removeF (s.lists x.b.toNat) x.c).2.2 != 0 then true else (removeF (s.lists x.b.toNat) x.c).2.1 != x.a) with
    | true => rw [move_bad h0 h1]; exact h
    | false =>
      by_cases h2 : (insertF (if x.d = x.b then (removeF (s.lists x.b.toNat) x.c).1 else s.lists x.d.toNat) x.e x.a).2 = 0
      · rw [move_ok h0 h1 rfl h2]
        have hr := move_good h1
        have hr0 : (removeF (s.lists x.b.toNat) x.c).2.2 = 0 := by
          by_cases e : (removeF (s.lists x.b.toNat) x.c).2.2 = 0
          · exact e
          · exact absurd (.inl e) hr
        have e1 := removeF_total hr0
        have e2 := insertF_total h2
        obtain ⟨_, hb, _, hd, _⟩ := hx
        have f1 := flat_upd (f := s.lists) (l := (removeF (s.lists x.b.toNat) x.c).1) (n := 11) (z := x.b.toNat) (by omega)
        have f2 := flat_upd (f := upd s.lists x.b.toNat (removeF (s.lists x.b.toNat) x.c).1) (l := (insertF (if x.d = x.b then (removeF (s.lists x.b.toNat) x.c).1 else s.lists x.d.toNat) x.e x.a).1) (n := 11) (z := x.d.toNat) (by omega)
        have e3 : (upd s.lists x.b.toNat (removeF (s.lists x.b.toNat) x.c).1 x.d.toNat).length = (if x.d = x.b then (removeF (s.lists x.b.toNat) x.c).1 else s.lists x.d.toNat).length := by
          simp only [upd]
          by_cases e : x.d = x.b
          · rw [if_pos (by omega), if_pos e]
          · rw [if_neg (by omega), if_neg e]
        have ht := h.total
        unfold ids at ht
        refine ⟨by simpa using h.objs, ?_, fun z hz => ?_, zn_set h.zn (fun _ => by omega)⟩
        · unfold ids
          show ((List.range 11).flatMap (upd (upd s.lists x.b.toNat _) x.d.toNat _)).length ≤ 400
          omega
        · show upd (upd s.lists x.b.toNat _) x.d.toNat _ z = []
          simp only [upd]; rw [if_neg (by omega), if_neg (by omega)]; exact h.hi z hz
      · rw [move_err h0 h1 rfl h2]; exact h
theorem evCheck_b {x : Ev} (h : evCheck x = 0) (e : x.k = 2) : x.b ≠ 3 := by
  unfold evCheck at h
  split at h
  · cases h
  · split at h
    · cases h
    · split at h
      · cases h
      · rename_i h1 h2 h3
        simp only [evRanges, e, Bool.and_eq_true, bne_iff_ne] at h3; simp at h3; exact h3.2.2.1
theorem evDo_sz {s : St} {x : Ev} (hk : x.k ≠ 0) (h : Sz s) : Sz (evDo s x).1 := by
  by_cases hc : evCheck x = 0
  · have ok := evCheck_ok hc
    rw [evDo, if_neg (by simpa using hc), if_neg hk]
    split
    · rename_i e; exact moveF_sz (ok.2.1 e) h
    · split
      · split
        · exact h
        · split
          · exact h
          · rename_i e2 _ _; exact ⟨by simpa using h.objs, h.total, h.hi, zn_set h.zn (fun e => by have := evCheck_b hc e2; have := (ok.2.2.1 e2); omega)⟩
      · split
        · split
          · exact h
          · exact ⟨h.objs, h.total, h.hi, h.zn⟩
        · split
          · exact h
          · exact ⟨h.objs, h.total, h.hi, h.zn⟩
  · rw [do_bad hc]; exact h
def Em.do1 (m : Em) (x : Ev) : Em :=
  if m.err ≠ 0 then m
  else if (evDo m.now x).2 ≠ 0 then ⟨(evDo m.now x).1, m.draws, m.evs, m.pend, (evDo m.now x).2⟩
  else if m.evs.length < 65536 then ⟨(evDo m.now x).1, m.draws, m.evs ++ [x], m.pend, m.err⟩ else ⟨(evDo m.now x).1, m.draws, m.evs, m.pend, 5⟩
def Em.doL (m : Em) (l : List Ev) : Em := l.foldl Em.do1 m
theorem do1_stop {m : Em} {x : Ev} (h : m.err ≠ 0) : m.do1 x = m := by rw [Em.do1, if_pos h]
theorem doL_stop {m : Em} {l : List Ev} (h : m.err ≠ 0) : m.doL l = m := by
  induction l with
  | nil => rfl
  | cons x l ih => rw [Em.doL, List.foldl_cons, do1_stop h]; exact ih
theorem doL_take {m : Em} {l : List Ev} {i : Nat} {x : Ev} (hi : i < l.length) (hx : l.getD i x = x) : m.doL (l.take (i + 1)) = (m.doL (l.take i)).do1 x := by
  rw [getD_of' hi] at hx
  rw [Em.doL, Em.doL, List.take_add_one, List.getElem?_eq_getElem hi, hx]; simp
theorem doL_part {m : Em} {l : List Ev} {i : Nat} (h : (m.doL (l.take i)).err ≠ 0) : m.doL l = m.doL (l.take i) := by
  have : m.doL l = (m.doL (l.take i)).doL (l.drop i) := by
    rw [Em.doL, Em.doL, Em.doL, ← List.foldl_append, List.take_append_drop]
  rw [this, doL_stop h]
/-- What holds of an emitter beside. -/
structure EmI (m : Em) : Prop where
  sz : m.err = 0 → Sz m.now
  evs : m.evs.length ≤ 65536
theorem do1_inv {m : Em} {x : Ev} (hk : x.k ≠ 0) (h : EmI m) : EmI (m.do1 x) := by
  unfold Em.do1
  split
  · exact h
  · rename_i h0
    have h0 : m.err = 0 := by simpa using h0
    split
    · rename_i h1; exact ⟨fun e => absurd e h1, h.evs⟩
    · split
      · exact ⟨fun _ => evDo_sz hk (h.sz h0), by simp; omega⟩
      · exact ⟨(fun e => by cases e), h.evs⟩
theorem doL_inv {m : Em} {l : List Ev} (hk : ∀ x ∈ l, x.k ≠ 0) (h : EmI m) : EmI (m.doL l) := by
  induction l generalizing m with
  | nil => exact h
  | cons x l ih => exact ih (m := m.do1 x) (fun y hy => hk y (by simp [hy])) (do1_inv (hk x (by simp)) h)
/-! The rows, beside the emitter's variable. -/
theorem em_acc_e {h0 : Hp} {id : Nat} {m : Em} {ve vp : V} (r : EmR h0 id m ve vp) (cs : List V) : Go.AV.Acc ((addTok vp h0).setBox id cs) 6 m.evs.length (cEvs m.evs) ve ((addTok ve (addTok vp h0)).setBox id cs) := by
  refine acc_iff.2 ⟨r.ae, ?_, (addTok_setBox _ _ _ _).symm⟩
  have h1 := r.fe
  have h2 := r.fi.2
  unfold vFresh at *
  split
  · rename_i t n len c
    simp only [addTok] at h2
    have hne : t ≠ id := fun e => by subst e; simp at h2
    exact ⟨by rw [Hp.box_setBox_ne _ _ hne]; exact h1.1, h1.2⟩
  · trivial
theorem em_app_e {h0 h' : Hp} {id : Nat} {m : Em} {ve vp v' : V} {cs : List V} {x : Ev} (r : EmR h0 id m ve vp) (acc : Go.AV.Acc ((addTok vp h0).setBox id cs) 6 (m.evs.length + 1) (cEvs m.evs ++ cEv x) v' h') (now : St) (err : Int) :
    h'.box id = some cs ∧ (v'.cells = [v'] ∧ v'.solid = true) ∧ (∀ cs', h'.setBox id cs' = (addTok v' (addTok vp h0)).setBox id cs') ∧ EmR h0 id ⟨now, m.draws, m.evs ++ [x], m.pend, err⟩ v' vp := by
  obtain ⟨a, f, rfl⟩ := acc_iff.1 acc
  have hc : cEvs (m.evs ++ [x]) = cEvs m.evs ++ cEv x := by simp [cEvs]
  have hid : (addTok vp h0).fresh id := by
    refine ⟨by have := r.fi.1; rwa [addTok_box] at this, ?_⟩
    cases e : (addTok vp h0).tok id with
    | none => rfl
    | some n => have := (addTok_le r.fe).tok id n e; rw [r.fi.2] at this; cases this
  have fe : vFresh v' (addTok vp h0) ∧ (addTok v' (addTok vp h0)).tok id = none := by
    unfold vFresh addTok at *
    split
    · rename_i t n len c
      simp only at f
      have hne : t ≠ id := fun e => by subst e; have := f.1; simp at this
      exact ⟨⟨by have := f.1; rwa [Hp.box_setBox_ne _ _ hne] at this, f.2⟩, by rw [Hp.tok_setTok_ne _ _ hne.symm]; exact hid.2⟩
    · exact ⟨trivial, hid.2⟩
  refine ⟨by rw [addTok_box, Hp.box_setBox], a.cells, fun cs' => by rw [addTok_setBox, Hp.setBox_setBox], ?_⟩
  exact ⟨by simpa [hc] using a, r.ap, r.fp, fe.1, ⟨by rw [addTok_box]; exact hid.1, fe.2⟩⟩

def noEv : Ev := ⟨0, 0, 0, 0, 0, 0⟩
theorem doL_next {m : Em} {l : List Ev} {i : Nat} (hi : i < l.length) : m.doL (l.take (i + 1)) = (m.doL (l.take i)).do1 (l.getD i noEv) := by
  rw [getD_of' hi, Em.doL, Em.doL, List.take_add_one, List.getElem?_eq_getElem hi, List.foldl_append]; rfl
theorem evs_mem {l : List Ev} {i : Nat} (h : i < l.length) : l.getD i noEv ∈ l := by rw [getD_of' h]; exact List.getElem_mem h
theorem cEvs_elem : ∀ {l : List Ev} {i : Nat}, i < l.length → ((cEvs l).drop (i * 6)).take 6 = cEv (l.getD i noEv)
  | [], i, h => by simp at h
  | o :: l, 0, _ => rfl
  | o :: l, i + 1, h => by
    have ih := cEvs_elem (l := l) (i := i) (by simpa using h)
    show ((cEv o ++ cEvs l).drop ((i + 1) * 6)).take 6 = cEv (l.getD i noEv)
    rw [← ih, show (i + 1) * 6 = (cEv o).length + i * 6 by show _ = 6 + i * 6; omega, List.drop_append, List.drop_eq_nil_of_le (by omega)]
    simp
theorem cEvs_at {l : List Ev} {i : Nat} (h : i < l.length) : ((cEvs l).drop ((i : Int).toNat * 6)).take 6 = cEv (l.getD i noEv) := by
  rw [Int.toNat_natCast]; exact cEvs_elem h

theorem doL_calls (l : List Ev) (hk : ∀ x ∈ l, x.k ≠ 0 ∧ x.k ≠ 5) (hlen : l.length ≤ 1000) {k : SK} {h0 : Hp} {id : Nat} {m : Em} {h : Hp} (he : EmAt h0 id m h) (hI : EmI m) : ACalls Tryz.prog G 57 [.ptr id 0, .sl k 6 l.length (cEvs l)] h fun r h' => r = .tup [] ∧ EmAt h0 id (m.doL l) h' := by
  refine ACalls.enter Tryz.func57 rfl Tryz.ntmps57 Tryz.results57 rfl ?_
  refine AW.seq ?_
  refine AW.region ?_
  refine AOps.q rfl rfl rfl (q_mv rfl (rfl : _ = V.sl _ _ _ _)) ?_
  refine AOps.q rfl rfl rfl (q_len rfl Tryz.underlying54 rfl) ?_
  refine AOps.q rfl rfl rfl (q_mv rfl (rfl : _ = V.int _ _)) ?_
  refine AOps.nil ?_
  refine AW.block ?_
  refine AW.loop (fun n T hh => ∃ (i : Nat) , i ≤ l.length ∧ n = l.length - i ∧ T = put (put (put (put (T0) 9 (V.int .i64 (i : Nat))) 8 (V.int .i64 l.length)) 7 (V.sl k 6 l.length (cEvs l))) 0 (V.ptr id 0) ∧ EmAt h0 id (m.doL (l.take i)) hh) (l.length) ?_ ?_
  · skip
    refine Wk.mk (TLe.put (d := 0) (VLe.refl _) (TLe.put (d := 7) (VLe.refl _) (TLe.put (d := 8) (VLe.refl _) (TLe.put (d := 9) (by exact VLe.of_eq (congrArg (V.int .i64) (by first | rfl | omega))) (TLe.zero _))))) (HLe.refl _) ⟨0, Nat.zero_le _, rfl, rfl, by rw [List.take_zero]; exact he⟩
  · skip
    rintro n T h' ⟨i, hi, rfl, rfl, hem⟩
    refine AW.seq ?_
    refine AW.region ?_
    refine AOps.q rfl rfl rfl (q_lt rfl rfl rfl) ?_
    refine AOps.nil ?_
    refine AW.seq ?_
    refine AW.cond rfl (fun c0 => ?_) (fun c0 => ?_)
    · have hlt : i < l.length := by have := of_decide_eq_true c0; omega
      obtain ⟨ve, vp, hr, rfl⟩ := hem
      have hin : EmI (m.doL (l.take i)) := doL_inv (fun x hx => (hk x (List.mem_of_mem_take hx)).1) hI
      generalize hm1 : m.doL (l.take i) = m1 at *
      have hx := hk _ (evs_mem hlt)
      refine AW.skip ?_
      refine AW.seq ?_
      refine AW.block ?_
      refine AW.seq ?_
      refine AW.region ?_
      refine AOps.q rfl rfl rfl (q_ia_s rfl Tryz.underlying54 Tryz.sizeOf84 rfl rfl (by omega) (by omega) (cEvs_at hlt)) ?_
      refine AOps.q rfl rfl rfl (q_load_iW rfl Tryz.isAgg84 Tryz.sizeOf84 rfl (by rfl)) ?_
      refine AOps.s rfl rfl rfl (a_alloc rfl Tryz.zeroValue84 rfl (fun id5 hid5 => ?_))
      refine AOps.s0 rfl rfl (a_storeWA rfl Tryz.sizeOf84 rfl rfl (rfl : _ = V.agg _) rfl rfl ?_)
      refine AOps.done 5 rfl hid5 ?_
      refine AOps.nil ?_
      refine AW.seq ?_
      refine AW.seq ?_
      refine AW.region ?_
      refine AOps.q rfl rfl rfl (q_mv rfl (rfl : _ = V.ptr _ _)) ?_
      refine AOps.q rfl rfl rfl (QOp.call rfl (by exact Tryz.call13) fun h' hl' => by exact err_calls (hl'.box _ _ (Hp.box_setBox _ _ _))) ?_
      refine AOps.q rfl rfl rfl (q_neerr Tryz.underlying38 rfl rfl) ?_
      refine AOps.nil ?_
      refine AW.cond rfl (fun c1 => ?_) (fun c1 => ?_)
      · skip
        refine AW.ret ?_
        exact retQ.mk .none ⟨rfl, by rw [doL_part (i := i) (by rw [hm1]; simpa using c1), hm1]; exact ⟨ve, vp, hr, rfl⟩⟩
      · have he1 : m1.err = 0 := by simpa using c1
        refine AW.skip ?_
        refine AW.seq ?_
        refine AW.seq ?_
        refine AW.draw [4] [0, 1] [(0, true), (1, true), (2, true), (3, true), (4, false), (5, true)] mixed (by kernel_rfl) rfl (by kernel_rfl) ?_
        refine AOrd.p rfl rfl rfl (fun _ => q_mv rfl (rfl : _ = V.ptr _ _)) ?_
        refine AOrd.p rfl rfl rfl (fun _ => q_nc rfl (rfl : _ = V.ptr _ _) rfl) ?_
        refine AOrd.q rfl rfl rfl rfl (q_fa_b rfl Tryz.underlying57 rfl (by exact Tryz.sizeOf29) (by decide) rfl (rfl : _ = 0)) ?_
        refine AOrd.q rfl rfl rfl rfl (q_load_iW rfl Tryz.isAgg84 Tryz.sizeOf84 rfl (by rfl)) ?_
        refine AOrd.s rfl rfl rfl rfl ((AStep.call rfl (by exact Tryz.call81) (evDo_calls m1.now (l.getD i noEv) [eInts m1.draws, ve, vp, eE m1.err] hx (by have := (hin.sz he1).objs; omega) (fun z => by have := (hin.sz he1).lists z; omega) hr.fi)).mono ?_)
        rintro x2 h2 ⟨rfl, rfl⟩
        refine AOrd.q rfl rfl rfl rfl (q_as rfl (rfl : _ = eErr _ _)) ?_
        refine AOrd.nil ?_
        refine AW.seq ?_
        refine AW.region ?_
        refine AOps.q rfl rfl rfl (q_mv rfl (rfl : _ = eErr _ _)) ?_
        refine AOps.q rfl rfl rfl (q_neerr Tryz.underlying38 rfl rfl) ?_
        refine AOps.nil ?_
        refine AW.cond rfl (fun c2 => ?_) (fun c2 => ?_)
        · skip
          refine AW.seq ?_
          refine AW.region ?_
          refine AOps.q rfl rfl rfl (q_mv rfl (rfl : _ = V.ptr _ _)) ?_
          refine AOps.q rfl rfl rfl (q_mv rfl (rfl : _ = eErr _ _)) ?_
          refine AOps.q rfl rfl rfl (q_nc rfl (rfl : _ = V.ptr _ _) rfl) ?_
          refine AOps.q rfl rfl rfl (q_fa_b rfl Tryz.underlying57 rfl (by exact Tryz.sizeOf38) (by decide) rfl (rfl : _ = 40)) ?_
          refine AOps.s0 rfl rfl (a_store1 rfl Tryz.sizeOf38 rfl (by exact Hp.box_setBox _ _ _) (rfl : _ = eErr _ _) (eErr_solid _ _).2 (eErr_solid _ _).1 (by first | decide | exact Nat.le_of_ble_eq_true rfl) ?_)
          refine AOps.nil ?_
          refine AW.ret ?_
          have h2 : (evDo m1.now (l.getD i noEv)).2 ≠ 0 := by simpa using c2
          have e1 : m.doL (l.take (i + 1)) = ⟨(evDo m1.now (l.getD i noEv)).1, m1.draws, m1.evs, m1.pend, (evDo m1.now (l.getD i noEv)).2⟩ := by rw [doL_next hlt, hm1, Em.do1, if_neg (by simpa using he1), if_pos h2]
          exact retQ.mk .none ⟨rfl, by rw [doL_part (i := i + 1) (by rw [e1]; exact h2), e1, Hp.setBox_setBox]; exact ⟨ve, vp, ⟨hr.ae, hr.ap, hr.fp, hr.fe, hr.fi⟩, rfl⟩⟩
        · have h2 : (evDo m1.now (l.getD i noEv)).2 = 0 := by simpa using c2
          have hev := hin.evs
          refine AW.skip ?_
          refine AW.seq ?_
          refine AW.region ?_
          refine AOps.q rfl rfl rfl (q_mv rfl (rfl : _ = V.ptr _ _)) ?_
          refine AOps.q rfl rfl rfl (q_mv rfl (rfl : _ = V.ptr _ _)) ?_
          refine AOps.q rfl rfl rfl (q_nc rfl (rfl : _ = V.ptr _ _) rfl) ?_
          refine AOps.q rfl rfl rfl (q_fa_b rfl Tryz.underlying57 rfl (by exact Tryz.sizeOf54) (by decide) rfl (rfl : _ = 38)) ?_
          refine AOps.q rfl rfl rfl (q_load_b1 rfl Tryz.isAgg54 rfl (by exact Hp.box_setBox _ _ _) rfl) ?_
          refine AOps.q rfl rfl rfl (q_len rfl Tryz.underlying54 (by exact hr.ae.len?)) ?_
          refine AOps.q rfl rfl rfl (q_lt rfl rfl rfl) ?_
          refine AOps.s rfl rfl rfl ((AStep.call rfl (by exact Tryz.call82) (must_calls ⟨(evDo m1.now (l.getD i noEv)).1, m1.draws, m1.evs, m1.pend, m1.err⟩ ve vp _ 5 (by decide) id _)).mono ?_)
          rintro x3 h3 ⟨rfl, rfl⟩
          refine AOps.nil ?_
          refine AW.cond rfl (fun c3 => ?_) (fun c3 => ?_)
          · refine AW.hp (by rw [Em.must, if_neg (by intro e; rw [e.2] at c3; simp at c3)]) ?_
            have hr2 : EmR h0 id ⟨(evDo m1.now (l.getD i noEv)).1, m1.draws, m1.evs, m1.pend, m1.err⟩ ve vp := ⟨hr.ae, hr.ap, hr.fp, hr.fe, hr.fi⟩
            refine AW.draw [7, 10] [0, 1, 2, 3, 5, 8] [(0, true), (1, true), (2, true), (3, true), (4, true), (5, true), (6, true), (7, false), (8, true), (9, true), (10, false)] mixed (by kernel_rfl) rfl (by kernel_rfl) ?_
            refine AOrd.p rfl rfl rfl (fun _ => q_mv rfl (rfl : _ = V.ptr _ _)) ?_
            refine AOrd.p rfl rfl rfl (fun _ => q_mv rfl (rfl : _ = V.ptr _ _)) ?_
            refine AOrd.p rfl rfl rfl (fun _ => q_nc rfl (rfl : _ = V.ptr _ _) rfl) ?_
            refine AOrd.p rfl rfl rfl (fun _ => q_fa_b rfl Tryz.underlying57 rfl (by exact Tryz.sizeOf54) (by decide) rfl (rfl : _ = 38)) ?_
            refine AOrd.q rfl rfl rfl rfl (q_load_b1 rfl Tryz.isAgg54 rfl (by exact Hp.box_setBox _ _ _) rfl) ?_
            refine AOrd.p rfl rfl rfl (fun _ => q_load_iW rfl Tryz.isAgg84 Tryz.sizeOf84 rfl (by rfl)) ?_
            refine AOrd.q rfl rfl rfl rfl (q_buildSl rfl Tryz.underlying54 Tryz.sizeOf84 Tryz.zeroValue84 rfl rfl rfl rfl rfl) ?_
            refine AOrd.s rfl rfl rfl rfl (a_append rfl Tryz.underlying54 (i := Tryz.t84) (by kernel_rfl) rfl (n := 6) (by' := 48) rfl rfl rfl rfl (em_acc_e hr2 _) rfl rfl (by decide) (by show (m1.evs.length + 1) * 48 ≤ _; omega) (by show m1.evs.length + 1 ≤ _; omega) rfl (fun v3 h3 acc => ?_))
            obtain ⟨hb3, hc3, hs3, hr3⟩ := em_app_e hr2 acc (evDo m1.now (l.getD i noEv)).1 m1.err
            refine AOrd.p rfl rfl rfl (fun _ => q_nc rfl (rfl : _ = V.ptr _ _) rfl) ?_
            refine AOrd.q rfl rfl rfl rfl (q_fa_b rfl Tryz.underlying57 rfl (by exact Tryz.sizeOf54) (by decide) rfl (rfl : _ = 38)) ?_
            refine AOrd.s0 rfl rfl rfl rfl (a_store1 rfl Tryz.sizeOf54 rfl (by exact hb3) (rfl : _ = v3) hc3.1 hc3.2 (by exact Nat.le_of_ble_eq_true rfl) ?_)
            refine AOrd.nil ?_
            refine AW.region ?_
            refine AOps.q rfl rfl rfl (q_add' rfl rfl rfl (by omega)) ?_
            refine AOps.q rfl rfl rfl (q_mv rfl (rfl : _ = V.int _ _)) ?_
            refine AOps.nil ?_
            refine Wk.mk (TLe.put (d := 0) (VLe.refl _) (TLe.put (d := 7) (VLe.refl _) (TLe.put (d := 8) (VLe.refl _) (TLe.put (d := 9) (by exact VLe.of_eq (congrArg (V.int .i64) (by first | rfl | omega))) (TLe.zero _))))) (HLe.refl _) ⟨_, ?_, i + 1, ?_, rfl, rfl, by first | (rw [doL_next hlt, hm1, Em.do1, if_neg (by simpa using he1), if_neg (by simpa using h2), if_pos (by have := c3; simp [he1] at this; omega)]; exact ⟨v3, vp, hr3, hs3 _⟩) | (rw [doL_next hlt, hm1, Em.do1, if_neg (by simpa using he1), if_neg (by simpa using h2), if_neg (by have := c3; simp [he1] at this; omega)]; exact ⟨ve, vp, ⟨hr.ae, hr.ap, hr.fp, hr.fe, hr.fi⟩, rfl⟩)⟩
            · omega
            · omega
          · refine AW.hp (by rw [Em.must, if_pos ⟨he1, by simpa [he1] using c3⟩]) ?_
            refine AW.skip ?_
            refine AW.region ?_
            refine AOps.q rfl rfl rfl (q_add' rfl rfl rfl (by omega)) ?_
            refine AOps.q rfl rfl rfl (q_mv rfl (rfl : _ = V.int _ _)) ?_
            refine AOps.nil ?_
            refine Wk.mk (TLe.put (d := 0) (VLe.refl _) (TLe.put (d := 7) (VLe.refl _) (TLe.put (d := 8) (VLe.refl _) (TLe.put (d := 9) (by exact VLe.of_eq (congrArg (V.int .i64) (by first | rfl | omega))) (TLe.zero _))))) (HLe.refl _) ⟨_, ?_, i + 1, ?_, rfl, rfl, by first | (rw [doL_next hlt, hm1, Em.do1, if_neg (by simpa using he1), if_neg (by simpa using h2), if_pos (by have := c3; simp [he1] at this; omega)]; exact ⟨v3, vp, hr3, hs3 _⟩) | (rw [doL_next hlt, hm1, Em.do1, if_neg (by simpa using he1), if_neg (by simpa using h2), if_neg (by have := c3; simp [he1] at this; omega)]; exact ⟨ve, vp, ⟨hr.ae, hr.ap, hr.fp, hr.fe, hr.fi⟩, rfl⟩)⟩
            · omega
            · omega
    · obtain rfl : i = l.length := by have := of_decide_eq_false c0; omega
      refine AW.exit ?_
      rw [List.take_length] at hem
      exact retQ.mk .none ⟨rfl, hem⟩

end Go.Proofs.YtnbmcbkokaoapaaGreatDoor
