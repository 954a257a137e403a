/- The abstract walk, eighth part: variables that are written once; results that lie in variables; slices that are made; equality of numbers side by side. -/
import Derived.Test.YtnbmcbkokaoapaaGreatDoorAv7
namespace Go.AV
section
variable {P : Program} {G : Nat → Option (List V)} {N : Nat} {Q : Post} {T : Tm} {h : Hp} {o : Oper} {ρ : Operand → V} {mu : Nat → Nat} {nx : Nat} {w : World}

theorem q_quo' {t t2 : TypeId} {x y : Operand} (ho : o.op = .binOp .quo t x y t2) {m n : Int} (hx : ρ x = .int .i64 m) (hy : ρ y = .int .i64 n) (hm : 0 ≤ m ∧ m ≤ 9223372036854775807) (hn : 0 < n) : QOp P G h o ρ (.int .i64 (m / n)) := by
  have := q_quo (P := P) (G := G) (h := h) ho hx hy (by omega)
  have h1 : m / n ≤ m := Int.ediv_le_self n hm.1
  have h2 : 0 ≤ m / n := Int.ediv_nonneg hm.1 (by omega)
  rwa [Int.tdiv_eq_ediv_of_nonneg hm.1, IntWalk.i64_in _ (by omega)] at this
theorem q_rem' {t t2 : TypeId} {x y : Operand} (ho : o.op = .binOp .rem t x y t2) {m n : Int} (hx : ρ x = .int .i64 m) (hy : ρ y = .int .i64 n) (hm : 0 ≤ m ∧ m ≤ 9223372036854775807) (hn : 0 < n) : QOp P G h o ρ (.int .i64 (m % n)) := by
  have := q_rem (P := P) (G := G) (h := h) ho hx hy (by omega)
  rwa [Int.tmod_eq_emod_of_nonneg hm.1] at this

/-! ### What is written no more -/
/-- A variable's pointer, or a slice over it, as one to something that stays. -/
def Sealed (id : Nat) (cs : List V) (x y : V) : Prop :=
  (∃ off, x = .ptr id off ∧ y = .iptr (cs.drop off)) ∨ ∃ off n len, x = .msl id off len ∧ y = .sl .imm n len ((cs.drop off).take (len * n)) ∧ off + len * n ≤ cs.length
theorem Sealed.ptr {id : Nat} {cs : List V} : Sealed id cs (.ptr id 0) (.iptr cs) := .inl ⟨0, rfl, rfl⟩
theorem Sealed.msl {id n len : Nat} {cs : List V} (h : cs.length = len * n) : Sealed id cs (.msl id 0 len) (.sl .imm n len cs) := .inr ⟨0, n, len, rfl, by rw [List.drop_zero, ← h, List.take_length], by omega⟩

theorem Rel.stay (r : Rel G mu nx h w) {id : Nat} {cs : List V} (hb : h.box id = some cs) {h0 : Hp} (hl : HLe h h0) (hn : h0.box id = none) {v : Value} {x y : V} (hv : Rep (env mu nx h w) v x) (hs : Sealed id cs x y) : Rep (env mu nx h0 w) v y := by
  obtain ⟨k1, vs, el, k2, k3, k4, k5⟩ := r.box id cs hb
  have im : ∀ j (hj : j < vs.size), (env mu nx h0 w).imm (mu id) j (vs.getD j undef) := fun j hj => by
    refine ⟨⟨(Array.getElem?_eq_some_iff.1 k2).1, fun i hi e => ?_, fun t n ht e => ?_⟩, ?_, ?_⟩
    · have hne : i ≠ id := fun e' => by subst e'; exact hi hn
      exact hne (r.inj i id (hl.alive (.inl hi)) (.inl (by simp [hb])) e)
    · have he := r.inj t id (.inr (by rw [hl.tok t n ht]; simp)) (.inl (by simp [hb])) e
      subst he
      have := r.excl t (by simp [hb])
      rw [hl.tok t n ht] at this; cases this
    · rw [cell_of_row w _ j vs el (0, 0) k2]; simp [Array.getD, hj]
    · simpa [Array.getD, hj] using k4 j hj
  have rp : ∀ j (hj : j < vs.size) (hj' : j < cs.length), Rep (env mu nx h0 w) (vs.getD j undef) cs[j] := fun j hj hj' => by
    have := (k5 j hj hj').mono (hl.env mu nx w)
    simpa [Array.getD, hj] using this
  rcases hs with ⟨off, rfl, rfl⟩ | ⟨off, n, len, rfl, rfl, hle⟩
  · rw [hv.ptr_inv.2]
    refine .iptr _ _ _ (fun j => vs.getD (off + j) undef) (fun j hj => im _ ?_) (fun j hj => ?_)
    · simp at hj; omega
    · simp at hj
      have := rp (off + j) (by omega) (by omega)
      simpa using this
  · cases hv with
    | msl _ _ _ cap hid hc _ _ =>
      have hlen : ((cs.drop off).take (len * n)).length = len * n := by simp; omega
      refine .sl .imm _ _ n len cap _ (fun j => vs.getD (off + j) undef) hlen hc trivial (fun j hj => im _ ?_) (fun j hj => ?_)
      · rw [hlen] at hj; omega
      · have hj' := hj; rw [hlen] at hj'
        have := rp (off + j) (by omega) (by omega)
        simpa using this
theorem St.stay {mu nx w a} (s : St G N mu nx h w a T) {d id : Nat} {cs : List V} {y : V} {h0 : Hp} (hb : h.box id = some cs) (hl : HLe h h0) (hn : h0.box id = none) (hs : Sealed id cs (T d) y) : St G N mu nx h0 w a (Go.AV.put T d y) :=
  ⟨hl.rel s.rel, s.defers, s.size, fun i => by
    by_cases hi : i = d
    · subst hi; rw [put_same]; exact s.rel.stay hb hl hn (s.tmps i) hs
    · rw [put_ne _ _ hi]; exact (s.tmps i).mono (hl.env mu nx w)⟩
theorem AW.stay {c : Code} {d id : Nat} {cs : List V} {y : V} {h0 : Hp} (hb : h.box id = some cs) (hl : HLe h h0) (hn : h0.box id = none) (hs : Sealed id cs (T d) y) (k : AW P G N c Q (put T d y) h0) : AW P G N c Q T h :=
  fun mu nx w a s => wp_mono (k mu nx w a (s.stay hb hl hn hs)) fun _ _ _ q => lift_trans hl.ext q
theorem AOps.stay {ops : Array Oper} {l : List Oper} {d id : Nat} {cs : List V} {y : V} {h0 : Hp} (hb : h.box id = some cs) (hl : HLe h h0) (hn : h0.box id = none) (hs : Sealed id cs (T d) y) (k : AOps P G N ops Q l (put T d y) h0) : AOps P G N ops Q l T h :=
  fun mu nx w a s Q' hQ => k mu nx w a (s.stay hb hl hn hs) Q' fun _ _ _ q => hQ _ _ _ (lift_trans hl.ext q)
/-- The usual spelling: a variable that has just been made and filled. -/
theorem AOps.done {ops : Array Oper} {l : List Oper} {id : Nat} {cs : List V} (d : Nat) (hT : T d = .ptr id 0) (hf : h.fresh id) (k : AOps P G N ops Q l (put T d (.iptr cs)) h) : AOps P G N ops Q l T (h.setBox id cs) :=
  .stay (h0 := h) (Hp.box_setBox _ _ _) (.setBox hf.1) hf.1 (by rw [hT]; exact .ptr) k
theorem AW.done {c : Code} {id : Nat} {cs : List V} (d : Nat) (hT : T d = .ptr id 0) (hf : h.fresh id) (k : AW P G N c Q (put T d (.iptr cs)) h) : AW P G N c Q T (h.setBox id cs) :=
  .stay (h0 := h) (Hp.box_setBox _ _ _) (.setBox hf.1) hf.1 (by rw [hT]; exact .ptr) k

/-! ### Results that lie in variables -/
theorem run_results_cell {fn : Func} {t : Nat} {ty : TypeId} {b off n : Nat} {tmps : Array Value} {f : Nat → Value} (hf : fn.results = #[.cell t ty]) (hp : tmps.getD t undef = .pointer (some ⟨b, off, none⟩)) (ha : ∀ w, (isAgg ty).run P w = .ok true w) (hs : ∀ w, (sizeOf ty).run P w = .ok n w)
    (hc : ∀ j, j < n → w.cell? ⟨b, off + j, none⟩ = some (f j)) : (results fn tmps).run P w = .ok (.agg ((List.range n).map f).toArray) w := by
  have := run_loadN (P := P) ha hs hc
  simp only [Instr.loadAt, Instr.sureAddr, Sem.run_bind, Sem.run_pure, Result.andThen_ok] at this
  have hp' : tmps[t]?.getD undef = .pointer (some ⟨b, off, none⟩) := by simpa using hp
  simp [results, hf, asAddr, hp', this]
theorem run_results_cell1 {fn : Func} {t u : Nat} {ty : TypeId} {b off n : Nat} {tmps : Array Value} {f : Nat → Value} (hf : fn.results = #[.cell t ty, .tmp u]) (hp : tmps.getD t undef = .pointer (some ⟨b, off, none⟩)) (ha : ∀ w, (isAgg ty).run P w = .ok true w) (hs : ∀ w, (sizeOf ty).run P w = .ok n w)
    (hc : ∀ j, j < n → w.cell? ⟨b, off + j, none⟩ = some (f j)) : (results fn tmps).run P w = .ok (.tuple #[.agg ((List.range n).map f).toArray, tmps.getD u undef]) w := by
  have := run_loadN (P := P) ha hs hc
  simp only [Instr.loadAt, Instr.sureAddr, Sem.run_bind, Sem.run_pure, Result.andThen_ok] at this
  have hp' : tmps[t]?.getD undef = .pointer (some ⟨b, off, none⟩) := by simpa using hp
  simp [results, hf, asAddr, hp', this]
/-- What a pointer's cells hold. -/
theorem St.cells_i {mu nx w a} (s : St G N mu nx h w a T) {t n : Nat} {cs : List V} (hT : T t = .iptr cs) (hl : cs.length = n) : ∃ b off f, a.tmps.getD t undef = .pointer (some ⟨b, off, none⟩) ∧ (∀ j, j < n → w.cell? ⟨b, off + j, none⟩ = some (f j)) ∧ Rep (env mu nx h w) (.agg ((List.range n).map f).toArray) (.agg cs) := by
  have h1 := s.tmps t; rw [hT] at h1
  obtain ⟨b, off, f, e, hi, h2⟩ := h1.iptr_inv
  exact ⟨b, off, f, e, fun j hj => (hi j (by omega)).2.1, rep_agg_range hl (fun j hj => (hi j (by omega)).2.2) fun j hj hj' => h2 j hj'⟩
theorem St.cells_b {mu nx w a} (s : St G N mu nx h w a T) {t n id : Nat} {cs : List V} (hT : T t = .ptr id 0) (hb : h.box id = some cs) (hl : cs.length = n) : ∃ b off f, a.tmps.getD t undef = .pointer (some ⟨b, off, none⟩) ∧ (∀ j, j < n → w.cell? ⟨b, off + j, none⟩ = some (f j)) ∧ Rep (env mu nx h w) (.agg ((List.range n).map f).toArray) (.agg cs) := by
  have h1 := s.tmps t; rw [hT] at h1
  obtain ⟨_, vs, el, hh, hsz, hone, hrep⟩ := s.rel.box id cs hb
  refine ⟨mu id, 0, fun j => vs.getD j undef, (h1.ptr_inv).2, fun j hj => ?_, rep_agg_range hl (fun j hj => ?_) fun j hj hj' => ?_⟩
  · rw [Nat.zero_add, cell_of_row w _ j vs el (0, 0) hh]; simp [Array.getD, show j < vs.size by omega]
  · have := hone j (by omega); simpa [Array.getD, show j < vs.size by omega] using this
  · have := hrep j (by omega) hj'; simpa [Array.getD, show j < vs.size by omega] using this
theorem Res.cellI {t n : Nat} {ty : TypeId} (ha : ∀ w, (isAgg ty).run P w = .ok true w) (hs : ∀ w, (sizeOf ty).run P w = .ok n w) {cs : List V} (hT : T t = .iptr cs) (hl : cs.length = n) : Res P T h #[.cell t ty] (.agg cs) :=
  .gen fun fn G N mu nx w a s hf => by
    obtain ⟨b, off, f, e, hc, hr⟩ := s.cells_i hT hl
    exact ⟨_, run_results_cell hf e ha hs hc, hr⟩
theorem Res.cellB {t n id : Nat} {ty : TypeId} (ha : ∀ w, (isAgg ty).run P w = .ok true w) (hs : ∀ w, (sizeOf ty).run P w = .ok n w) {cs : List V} (hT : T t = .ptr id 0) (hb : h.box id = some cs) (hl : cs.length = n) : Res P T h #[.cell t ty] (.agg cs) :=
  .gen fun fn G N mu nx w a s hf => by
    obtain ⟨b, off, f, e, hc, hr⟩ := s.cells_b hT hb hl
    exact ⟨_, run_results_cell hf e ha hs hc, hr⟩
theorem rep_two {E : Env} {u v : Value} {x y : V} (h1 : Rep E u x) (h2 : Rep E v y) : Rep E (.tuple #[u, v]) (.tup [x, y]) :=
  .tup _ _ rfl fun j hj hj' => by
    match j with
    | 0 => exact h1
    | 1 => exact h2
    | j + 2 => exact absurd hj (by simp)
theorem Res.cellI1 {t u n : Nat} {ty : TypeId} (ha : ∀ w, (isAgg ty).run P w = .ok true w) (hs : ∀ w, (sizeOf ty).run P w = .ok n w) {cs : List V} (hT : T t = .iptr cs) (hl : cs.length = n) : Res P T h #[.cell t ty, .tmp u] (.tup [.agg cs, T u]) :=
  .gen fun fn G N mu nx w a s hf => by
    obtain ⟨b, off, f, e, hc, hr⟩ := s.cells_i hT hl
    exact ⟨_, run_results_cell1 hf e ha hs hc, rep_two hr (s.tmps u)⟩
theorem Res.cellB1 {t u n id : Nat} {ty : TypeId} (ha : ∀ w, (isAgg ty).run P w = .ok true w) (hs : ∀ w, (sizeOf ty).run P w = .ok n w) {cs : List V} (hT : T t = .ptr id 0) (hb : h.box id = some cs) (hl : cs.length = n) : Res P T h #[.cell t ty, .tmp u] (.tup [.agg cs, T u]) :=
  .gen fun fn G N mu nx w a s hf => by
    obtain ⟨b, off, f, e, hc, hr⟩ := s.cells_b hT hb hl
    exact ⟨_, run_results_cell1 hf e ha hs hc, rep_two hr (s.tmps u)⟩

/-! ### Saying less, part by part -/
theorem VLe.agg {cs ds : List V} (hl : cs.length = ds.length) (hv : ∀ j, VLe (cs.getD j .junk) (ds.getD j .junk)) : VLe (.agg cs) (.agg ds) := fun E v hr => by
  cases hr with
  | agg vs _ e h1 h2 =>
    refine .agg vs ds (e.trans hl) h1 fun j hj hj' => ?_
    · have := hv j E vs[j]
      rw [List.getD_eq_getElem?_getD, List.getD_eq_getElem?_getD, List.getElem?_eq_getElem (by omega), List.getElem?_eq_getElem hj'] at this
      exact this (h2 j hj (by omega))
theorem VLe.tup {cs ds : List V} (hl : cs.length = ds.length) (hv : ∀ j, VLe (cs.getD j .junk) (ds.getD j .junk)) : VLe (.tup cs) (.tup ds) := fun E v hr => by
  cases hr with
  | tup vs _ e h2 =>
    refine .tup vs ds (e.trans hl) fun j hj hj' => ?_
    · have := hv j E vs[j]
      rw [List.getD_eq_getElem?_getD, List.getD_eq_getElem?_getD, List.getElem?_eq_getElem (by omega), List.getElem?_eq_getElem hj'] at this
      exact this (h2 j hj (by omega))
theorem VLe.sl {k : SK} {n len : Nat} {cs ds : List V} (hl : cs.length = ds.length) (hv : ∀ j, VLe (cs.getD j .junk) (ds.getD j .junk)) : VLe (.sl k n len cs) (.sl .imm n len ds) := fun E v hr => by
  rcases hr.sl_inv with ⟨rfl, e2, e3, _⟩ | ⟨b, off, cap, f, rfl, hl', hc, hk, hm, h2⟩
  · subst e2 e3
    have : ds = [] := List.eq_nil_of_length_eq_zero (by simpa using hl.symm)
    subst this; exact .slnil n
  · exact .sl .imm b off n len cap ds f (by omega) hc trivial (fun j hj => hm j (by omega)) fun j hj => by
      have := hv j E (f j)
      rw [List.getD_eq_getElem?_getD, List.getD_eq_getElem?_getD, List.getElem?_eq_getElem (by omega), List.getElem?_eq_getElem hj] at this
      exact this (h2 j (by omega))
/-- Two lists of values, place by place. -/
inductive LLe : List V → List V → Prop
  | nil : LLe [] []
  | cons {x y : V} {xs ys : List V} (h : VLe x y) (t : LLe xs ys) : LLe (x :: xs) (y :: ys)
theorem LLe.refl : ∀ (l : List V), LLe l l
  | [] => .nil
  | x :: l => .cons (.refl x) (.refl l)
theorem LLe.length {a b : List V} (h : LLe a b) : a.length = b.length := by induction h with
  | nil => rfl
  | cons _ _ ih => simp [ih]
theorem LLe.get {a b : List V} (h : LLe a b) : ∀ j, VLe (a.getD j .junk) (b.getD j .junk) := by
  induction h with
  | nil => exact fun j => .refl _
  | cons h t ih => intro j; cases j with
    | zero => exact h
    | succ j => exact ih j
theorem LLe.append {a b c d : List V} (h : LLe a b) (k : LLe c d) : LLe (a ++ c) (b ++ d) := by
  induction h with
  | nil => exact k
  | cons h t ih => exact .cons h ih
theorem LLe.agg {a b : List V} (h : LLe a b) : VLe (.agg a) (.agg b) := .agg h.length h.get
theorem LLe.tup {a b : List V} (h : LLe a b) : VLe (.tup a) (.tup b) := .tup h.length h.get
theorem LLe.sl {k : SK} {n len : Nat} {a b : List V} (h : LLe a b) : VLe (.sl k n len a) (.sl .imm n len b) := .sl h.length h.get

/-! ### Calls of function values -/
theorem QOp.callv {g : Operand} {f : FuncId} {first captured : List V} {xs : List Operand} {ts : Array TypeId} {x : V} (ho : o.op = .call ⟨.value g, xs.toArray, ts⟩) (hg : ρ g = .func (.func f) first captured)
    (hf : ∀ args w, (callFunc f args).run P w = .ok (.enter f args) w) (k : ∀ h', HLe h' h → ACalls P G f (first ++ xs.map ρ ++ captured) h' fun y h'' => y = x ∧ h'' = h') : QOp P G h o ρ x :=
  fun h' hl => .callv ho hg hf (k h' hl)

/-! ### Slices against nil -/
/-- A slice that is held by value, against nil: either answer, if it is empty. -/
theorem a_eqnil_sl {t t2 e : TypeId} (ht : P.underlying t = some (.slice e)) {x : Operand} (ho : o.op = .binOp .eql t x (.const (.slice none 0 0)) t2) {n len : Nat} {cs : List V} {k : SK} (hx : ρ x = .sl k n len cs) {K : V → Hp → Prop}
    (kk : ∀ b : Bool, (b = true → cs = [] ∧ len = 0) → K (.bool b) h) : AStep P G o ρ h K := by
  intro mu nx w a _ r hr K' Q' hK
  have h1 := hr x (by simp [ho, Op.operands]); rw [hx] at h1
  have hu : ∀ w, (underlying t).run P w = .ok (.slice e) w := fun w => run_underlying ht w
  obtain ⟨b, hb, hrun⟩ : ∃ b : Bool, (b = true → cs = [] ∧ len = 0) ∧ (execOp a.eval o).run P w = .ok (.value (.bool b)) w := by
    rcases h1.sl_inv with ⟨e1, e2, e3, _⟩ | ⟨bs, off, cap, f, e1, _⟩
    · refine ⟨true, fun _ => ⟨e2, e3⟩, ?_⟩
      simp only [execOp, ho, Act.eval] at e1 ⊢
      rw [e1]
      have key : ∀ n w, (Op.equalIn (n + 1) t (.slice none 0 0) (.slice none 0 0)).run P w = .ok true w := fun n w => by simp only [Op.equalIn, Sem.run_bind, hu, Result.andThen_ok]; rfl
      exact run_eq2 (fun _ => rfl) (b := true) (key 9999) rfl rfl w
    · refine ⟨false, (fun e => by cases e), ?_⟩
      simp only [execOp, ho, Act.eval] at e1 ⊢
      rw [e1]
      have key : ∀ n w, (Op.equalIn (n + 1) t (.slice (some ⟨bs, off, none⟩) len cap) (.slice none 0 0)).run P w = .ok false w := fun n w => by simp only [Op.equalIn, Sem.run_bind, hu, Result.andThen_ok]; rfl
      exact run_eq2 (fun _ => rfl) (b := false) (key 9999) rfl rfl w
  unfold Oper.wp
  rw [hrun]
  exact hK _ (.bool b) mu nx h w (kk b hb) r (.bool b) (.refl _ _ _ _)

/-! ### Slices that are made -/
theorem a_makeSl {t e : TypeId} {x y : Operand} (ho : o.op = .makeSlice t x y) (ht : P.underlying t = some (.slice e)) {i : TypeInfo} (hi : P.info? e = some i) {z : Value} (hz : i.zero = some z) (hs : i.size = 1) (hzc : z.cells = #[z]) (hb : i.bytes ≤ 1024)
    {k k2 : IntKind} {n : Int} (hx : ρ x = .int k n) (hy : ρ y = .int k2 n) (h0 : 0 ≤ n) (h1 : n ≤ 1000000) (hsol : (cv z).solid = true) {K : V → Hp → Prop}
    (kk : ∀ id, h.fresh id → K (.msl id 0 n.toNat) (h.setBox id (List.replicate n.toNat (cv z)))) : AStep P G o ρ h K := by
  intro mu nx w a _ r hr K' Q' hK
  have g1 := hr x (by simp [ho, Op.operands]); rw [hx] at g1
  have g2 := hr y (by simp [ho, Op.operands]); rw [hy] at g2
  have hbytes : (i.bytes : Int) * n ≤ 281474976710656 := by
    have : (i.bytes : Int) * n ≤ 1024 * 1000000 := Int.mul_le_mul (by omega) h1 h0 (by omega)
    omega
  have hrun : (execOp a.eval o).run P w = .ok (.value (.slice (some ⟨w.heap.size, 0, none⟩) n.toNat n.toNat)) (w.alloc (.cells (madeCells z.cells (n.toNat * i.size)) e)) := by
    simp only [execOp, ho, g1.int_inv, g2.int_inv, Sem.run_bind, run_make (P := P) w t e i z ht hi hz k k2 n n h0 (Int.le_refl _) hbytes (by omega), Result.andThen_ok]; rfl
  obtain ⟨e1, e2, e3⟩ := rep_cells (rep_cv (env mu nx h w) z) hsol
  have hm : ∀ j (hj : j < (madeCells z.cells (n.toNat * i.size)).size), (madeCells z.cells (n.toNat * i.size))[j] = z := fun j hj => by
    simp only [madeCells, Array.getElem_map, Array.getElem_range, hzc]
    simp [Nat.mod_one]
  have hsz : (madeCells z.cells (n.toNat * i.size)).size = (List.replicate n.toNat (cv z)).length := by rw [size_madeCells, hs]; simp
  have hz1 : z.oneCell' = true ∧ Rep (env mu nx h w) z (cv z) := by
    have a1 := e2 0 (by rw [hzc]; exact Nat.zero_lt_one)
    exact ⟨by simpa [hzc] using a1, rep_cv _ z⟩
  obtain ⟨r', x'⟩ := r.newBox (Grows.alloc w (.cells (madeCells z.cells (n.toNat * i.size)) e)) (b := w.heap.size) (Nat.le_refl _) (heap_alloc_new w _) hsz (fun j hj => by rw [hm j hj]; exact hz1.1) (fun j hj hj' => by rw [hm j hj]; simpa using hz1.2)
  unfold Oper.wp
  rw [hrun]
  refine hK _ _ _ _ _ _ (kk nx r.fresh) r' ?_ x'
  have hcap : (env (muNew mu nx w.heap.size) (nx + 1) (h.setBox nx (List.replicate n.toNat (cv z))) (w.alloc (.cells (madeCells z.cells (n.toNat * i.size)) e))).cap w.heap.size (0 + n.toNat) := ⟨_, _, _, heap_alloc_new w _, by rw [size_madeCells, hs]; omega⟩
  have := Rep.msl (E := env (muNew mu nx w.heap.size) (nx + 1) (h.setBox nx (List.replicate n.toNat (cv z))) (w.alloc (.cells (madeCells z.cells (n.toNat * i.size)) e))) nx 0 n.toNat n.toNat (Nat.lt_succ_self _) (Nat.le_refl _) (by rw [show (env (muNew mu nx w.heap.size) (nx + 1) (h.setBox nx (List.replicate n.toNat (cv z))) (w.alloc (.cells (madeCells z.cells (n.toNat * i.size)) e))).mu nx = w.heap.size from muNew_nx]; exact hcap) (by omega)
  rwa [show (env (muNew mu nx w.heap.size) (nx + 1) (h.setBox nx (List.replicate n.toNat (cv z))) (w.alloc (.cells (madeCells z.cells (n.toNat * i.size)) e))).mu nx = w.heap.size from muNew_nx] at this

/-! ### Numbers side by side, compared -/
def nums (l : List Int) : List V := l.map (V.int .i64)
/-- Two lists of numbers, as parts of two values. -/
def EqI (P : Program) (t : TypeId) (n d : Nat) : Prop := ∀ (xs ys : Array Value) (off : Nat) (a b : Nat → Int), (∀ j, j < n → xs[off + j]? = some (.int .i64 (a j))) → (∀ j, j < n → ys[off + j]? = some (.int .i64 (b j))) → ∀ w,
  ∃ u v c, (part t xs off).run P w = .ok u w ∧ (part t ys off).run P w = .ok v w ∧ (Op.equalIn d t u v).run P w = .ok c w ∧ (c = true ↔ ∀ j, j < n → a j = b j)
theorem EqI.int {t : TypeId} {d : Nat} (ha : ∀ w, (isAgg t).run P w = .ok false w) (ht : P.underlying t = some (.int .i64)) : EqI P t 1 (d + 1) := fun xs ys off a b hx hy w => by
  refine ⟨_, _, a 0 == b 0, run_part1 ha (by simpa using hx 0 (by omega)), run_part1 ha (by simpa using hy 0 (by omega)), run_equalIn_int w d t .i64 .i64 (a 0) (b 0) ht, ?_⟩
  simp only [beq_iff_eq]
  exact ⟨fun e j hj => by obtain rfl : j = 0 := by omega
                          exact e, fun e => e 0 (by omega)⟩
def eqElems (e : TypeId) (d n : Nat) (xs ys : Array Value) : List Nat → Sem Bool
  | [] => pure true
  | i :: l => do
    let r ← Op.equalIn d e (← part e xs (i * n)) (← part e ys (i * n))
    if (!r) = true then pure false else eqElems e d n xs ys l
theorem run_equalIn_array {t e : TypeId} {l n : Nat} (ht : P.underlying t = some (.array l e)) (hs : ∀ w, (sizeOf e).run P w = .ok n w) (d : Nat) (xs ys : Array Value) (w : World) :
    (Op.equalIn (d + 1) t (.agg xs) (.agg ys)).run P w = (eqElems e d n xs ys (List.range l)).run P w := by
  simp only [Op.equalIn, Sem.run_bind, run_underlying ht, Result.andThen_ok, hs]
  rw [Std.Legacy.Range.forIn_eq_forIn_range']
  have : List.range' [0:l].start [0:l].size [0:l].step = List.range l := by simp [Std.Legacy.Range.size, List.range_eq_range']
  rw [this]
  generalize List.range l = fs
  induction fs generalizing w with
  | nil => simp [eqElems]
  | cons f fs ih =>
    simp only [List.forIn_cons, eqElems, Sem.run_bind, Sem.run_ite]
    generalize (part e xs (f * n)).run P w = r1
    cases r1 with
    | ok a w1 =>
      simp only [Result.andThen_ok]
      generalize (part e ys (f * n)).run P w1 = r2
      cases r2 with
      | ok b w2 =>
        simp only [Result.andThen_ok]
        generalize (Op.equalIn d e a b).run P w2 = r3
        cases r3 with
        | ok r w3 =>
          cases r
          · simp only [Result.andThen_ok, Bool.not_false, if_true, Sem.run_pure]
          · simp only [Result.andThen_ok, Bool.not_true, Bool.false_eq_true, if_false, Sem.run_pure]
            exact ih w3
        | halt x w3 => simp [Result.andThen]
      | halt x w2 => simp [Result.andThen]
    | halt x w1 => simp [Result.andThen]
theorem EqI.array {t e : TypeId} {l m n d : Nat} (he : EqI P e m d) (ha : ∀ w, (isAgg t).run P w = .ok true w) (ht : P.underlying t = some (.array l e)) (hs : ∀ w, (sizeOf e).run P w = .ok m w) (hn : ∀ w, (sizeOf t).run P w = .ok n w) (hln : l * m = n) : EqI P t n (d + 1) := by
  intro xs ys off a b hx hy w
  subst hln
  suffices H : ∃ c, (Op.equalIn (d + 1) t (.agg (xs.extract off (off + l * m))) (.agg (ys.extract off (off + l * m)))).run P w = .ok c w ∧ (c = true ↔ ∀ j, j < l * m → a j = b j) by
    obtain ⟨c, c1, c2⟩ := H
    exact ⟨_, _, c, run_partN ha hn, run_partN ha hn, c1, c2⟩
  rw [run_equalIn_array ht hs]
  have hget : ∀ (zs : Array Value) (c : Nat → Int), (∀ j, j < l * m → zs[off + j]? = some (.int .i64 (c j))) → ∀ j, j < l * m → (zs.extract off (off + l * m))[j]? = some (.int .i64 (c j)) := fun zs c hz j hj => by
    rw [Array.getElem?_extract]
    have h1 := hz j hj
    have := (Array.getElem?_eq_some_iff.1 (hz (l * m - 1) (by omega))).1
    have h2 : j < min (off + l * m) zs.size - off := by omega
    rw [if_pos h2]; exact h1
  have gx := hget xs a hx
  have gy := hget ys b hy
  generalize xs.extract off (off + l * m) = us at gx
  generalize ys.extract off (off + l * m) = vs at gy
  have key : ∀ (is : List Nat), (∀ i ∈ is, i < l) → ∃ c, (eqElems e d m us vs is).run P w = .ok c w ∧ (c = true ↔ ∀ i ∈ is, ∀ j, j < m → a (i * m + j) = b (i * m + j)) := by
    intro is
    induction is with
    | nil => intro _; exact ⟨true, by simp [eqElems], by simp⟩
    | cons i is ih =>
      intro hi
      have hil : i < l := hi i (by simp)
      have hb : ∀ j, j < m → i * m + j < l * m := fun j hj => by
        have := Nat.mul_le_mul_right m (show i + 1 ≤ l from hil); rw [Nat.add_mul] at this; omega
      obtain ⟨u, v, c, h1, h2, h3, h4⟩ := he us vs (i * m) (fun j => a (i * m + j)) (fun j => b (i * m + j)) (fun j hj => gx _ (hb j hj)) (fun j hj => gy _ (hb j hj)) w
      obtain ⟨c', h5, h6⟩ := ih fun k hk => hi k (by simp [hk])
      simp only [eqElems, Sem.run_bind, h1, h2, h3, Result.andThen_ok]
      cases c with
      | true => exact ⟨c', by simpa using h5, by rw [h6]; simp only [List.mem_cons, forall_eq_or_imp]; exact ⟨fun hh => ⟨h4.1 rfl, hh⟩, fun hh => hh.2⟩⟩
      | false => exact ⟨false, by simp, by
          constructor
          · intro e; cases e
          · intro hh; exact absurd (h4.2 (hh i (by simp))) (by simp)⟩
  obtain ⟨c, c1, c2⟩ := key _ (fun i hi => List.mem_range.1 hi)
  refine ⟨c, c1, c2.trans ?_⟩
  simp only [List.mem_range]
  refine ⟨fun hh j hj => ?_, fun hh i hi j hj => hh _ ?_⟩
  · have hm0 : 0 < m := Nat.pos_of_ne_zero fun e => by subst e; simp at hj
    have h1 := hh (j / m) (Nat.div_lt_of_lt_mul (by rwa [Nat.mul_comm] at hj)) (j % m) (Nat.mod_lt _ hm0)
    have h2 : j / m * m + j % m = j := by rw [Nat.mul_comm]; exact Nat.div_add_mod j m
    rw [h2] at h1; exact h1
  · have := Nat.mul_le_mul_right m (show i + 1 ≤ l from hi); rw [Nat.add_mul] at this; omega
/-- A structure of numbers alone. -/
theorem EqI.struct {t e : TypeId} {fs : Array Field} {n d : Nat} (ha : ∀ w, (isAgg t).run P w = .ok true w) (ht : P.underlying t = some (.struct fs)) (hn : ∀ w, (sizeOf t).run P w = .ok n w) (hp : P.stoodInHeld t = false)
    (hea : ∀ w, (isAgg e).run P w = .ok false w) (he : P.underlying e = some (.int .i64)) (hl : fs.size = n) (hf : ∀ j (hj : j < fs.size), (fs[j]).offset = j ∧ (fs[j]).type = e ∧ (fs[j]).name ≠ "_") : EqI P t n (d + 2) := by
  intro xs ys off a b hx hy w
  suffices H : ∃ c, (Op.equalIn (d + 2) t (.agg (xs.extract off (off + n))) (.agg (ys.extract off (off + n)))).run P w = .ok c w ∧ (c = true ↔ ∀ j, j < n → a j = b j) by
    obtain ⟨c, c1, c2⟩ := H
    exact ⟨_, _, c, run_partN ha hn, run_partN ha hn, c1, c2⟩
  have hfo : P.fieldsOf t = fs := by simp [Program.fieldsOf, ht]
  rw [run_equalIn_struct w (d + 1) t _ _ (by rw [hfo]; exact ht) hp, hfo]
  have hget : ∀ (zs : Array Value) (c : Nat → Int), (∀ j, j < n → zs[off + j]? = some (.int .i64 (c j))) → ∀ j, j < n → (zs.extract off (off + n))[j]? = some (.int .i64 (c j)) := fun zs c hz j hj => by
    rw [Array.getElem?_extract]
    have h1 := hz j hj
    have := (Array.getElem?_eq_some_iff.1 (hz (n - 1) (by omega))).1
    have h2 : j < min (off + n) zs.size - off := by omega
    rw [if_pos h2]; exact h1
  have gx := hget xs a hx
  have gy := hget ys b hy
  generalize xs.extract off (off + n) = us at gx
  generalize ys.extract off (off + n) = vs at gy
  have key : ∀ (l : List Field) (k : Nat), (∀ i (hi : i < l.length), (l[i]).offset = k + i ∧ (l[i]).type = e ∧ (l[i]).name ≠ "_") → k + l.length ≤ n →
      ∃ c, (Op.eqFields (d + 1) us vs l).run P w = .ok c w ∧ (c = true ↔ ∀ j, k ≤ j → j < k + l.length → a j = b j) := by
    intro l
    induction l with
    | nil => exact fun k _ _ => ⟨true, by simp [Op.eqFields], by simp; intro j h1 h2; omega⟩
    | cons f l ih =>
      intro k hk hkn
      obtain ⟨f1, f2, f3⟩ := hk 0 (by simp)
      simp only [List.getElem_cons_zero, Nat.add_zero] at f1 f2 f3
      obtain ⟨c', h5, h6⟩ := ih (k + 1) (fun i hi => by have := hk (i + 1) (by simpa using hi); simp only [List.getElem_cons_succ] at this; rw [show k + 1 + i = k + (i + 1) by omega]; exact this) (by simp at hkn; omega)
      have hkl : k < n := by simp at hkn; omega
      have p1 : (part f.type us f.offset).run P w = .ok (.int .i64 (a k)) w := by rw [f1, f2]; exact run_part1 hea (gx k hkl)
      have p2 : (part f.type vs f.offset).run P w = .ok (.int .i64 (b k)) w := by rw [f1, f2]; exact run_part1 hea (gy k hkl)
      have p3 : (Op.equalIn (d + 1) f.type (.int .i64 (a k)) (.int .i64 (b k))).run P w = .ok (a k == b k) w := by rw [f2]; exact run_equalIn_int w d e .i64 .i64 _ _ he
      simp only [Op.eqFields, f3, ne_eq, not_false_eq_true, if_true, Sem.run_bind, p1, p2, p3, Result.andThen_ok]
      by_cases hq : a k = b k
      · refine ⟨c', by simpa [hq] using h5, h6.trans ⟨fun hh j h1 h2 => ?_, fun hh j h1 h2 => hh j (by omega) (by simp; omega)⟩⟩
        by_cases hjk : j = k
        · subst hjk; exact hq
        · exact hh j (by omega) (by simp at h2; omega)
      · refine ⟨false, by simp [hq], ⟨(fun e => by cases e), fun hh => absurd (hh k (by omega) (by simp)) hq⟩⟩
  obtain ⟨c, c1, c2⟩ := key fs.toList 0 (fun i hi => by simpa using hf i (by simpa using hi)) (by simp [hl])
  refine ⟨c, c1, c2.trans ?_⟩
  simp only [Array.length_toList, hl, Nat.zero_add]
  exact ⟨fun hh j hj => hh j (by omega) hj, fun hh j _ hj => hh j hj⟩

theorem nums_rep {E : Env} {v : Value} {l : List Int} (hr : Rep E v (.agg (nums l))) : ∃ vs, v = .agg vs ∧ vs.size = l.length ∧ ∀ j, j < l.length → vs[j]? = some (.int .i64 (l.getD j 0)) := by
  cases hr with
  | agg vs _ e h1 h2 =>
    refine ⟨vs, rfl, by simpa [nums] using e, fun j hj => ?_⟩
    have hj' : j < vs.size := by rw [e]; simpa [nums] using hj
    have := h2 j hj' (by simpa [nums] using hj)
    simp only [nums, List.getElem_map] at this
    rw [Array.getElem?_eq_getElem hj', this.int_inv]
    simp [List.getD, hj]
theorem ext_getD {a b : List Int} (hl : a.length = b.length) : (∀ j, j < a.length → a.getD j 0 = b.getD j 0) ↔ a = b := by
  refine ⟨fun hh => List.ext_getElem hl fun i h1 h2 => ?_, fun e => by subst e; exact fun _ _ => rfl⟩
  have := hh i h1
  simpa [List.getD, h1, h2] using this
theorem run_eqI {t : TypeId} {n d : Nat} (he : EqI P t n (d + 1)) (ha : ∀ w, (isAgg t).run P w = .ok true w) (hn : ∀ w, (sizeOf t).run P w = .ok n w) {xs ys : Array Value} {a b : List Int} (hla : a.length = n) (hlb : b.length = n) (hxs : xs.size = n) (hys : ys.size = n)
    (hx : ∀ j, j < n → xs[j]? = some (.int .i64 (a.getD j 0))) (hy : ∀ j, j < n → ys[j]? = some (.int .i64 (b.getD j 0))) (w : World) : (Op.equalIn (d + 1) t (.agg xs) (.agg ys)).run P w = .ok (decide (a = b)) w := by
  obtain ⟨u, v, c, h1, h2, h3, h4⟩ := he xs ys 0 (fun j => a.getD j 0) (fun j => b.getD j 0) (by simpa using hx) (by simpa using hy) w
  rw [run_partN ha hn] at h1 h2
  have e1 : xs.extract 0 (0 + n) = xs := by rw [Nat.zero_add, ← hxs]; exact Array.extract_size
  have e2 : ys.extract 0 (0 + n) = ys := by rw [Nat.zero_add, ← hys]; exact Array.extract_size
  rw [e1] at h1; rw [e2] at h2
  cases h1; cases h2
  rw [h3]
  congr 1
  rw [Bool.eq_iff_iff, h4]; simp only [decide_eq_true_eq]
  rw [← ext_getD (by omega), hla]
theorem q_eqI {t t2 : TypeId} {n : Nat} (he : EqI P t n 10000) (ha : ∀ w, (isAgg t).run P w = .ok true w) (hn : ∀ w, (sizeOf t).run P w = .ok n w) (hm : P.eqGuardType P.depth t = false) {x y : Operand} (ho : o.op = .binOp .eql t x y t2) {a b : List Int}
    (hx : ρ x = .agg (nums a)) (hy : ρ y = .agg (nums b)) (hla : a.length = n) (hlb : b.length = n) : QOp P G h o ρ (.bool (decide (a = b))) :=
  .of_run fun _ _ _ _ w e _ hr => by
    have h1 := hr x (by simp [ho, Op.operands]); rw [hx] at h1
    have h2 := hr y (by simp [ho, Op.operands]); rw [hy] at h2
    obtain ⟨xs, e1, s1, g1⟩ := nums_rep h1
    obtain ⟨ys, e2, s2, g2⟩ := nums_rep h2
    refine ⟨.bool (decide (a = b)), ?_, .bool _⟩
    have hq : (Op.equalIn 10000 t (.agg xs) (.agg ys)).run P w = .ok (decide (a = b)) w := run_eqI (d := 9999) he ha hn hla hlb (by omega) (by omega) (by simpa [hla] using g1) (by simpa [hlb] using g2) w
    simp only [execOp, ho, e1, e2, Sem.run_bind, run_eqGuard_agg w .eql t x y xs ys hm, Result.andThen_ok, run_eql_struct, hq, Sem.run_pure]
theorem q_neI {t t2 : TypeId} {n : Nat} (he : EqI P t n 10000) (ha : ∀ w, (isAgg t).run P w = .ok true w) (hn : ∀ w, (sizeOf t).run P w = .ok n w) (hm : P.eqGuardType P.depth t = false) {x y : Operand} (ho : o.op = .binOp .neq t x y t2) {a b : List Int}
    (hx : ρ x = .agg (nums a)) (hy : ρ y = .agg (nums b)) (hla : a.length = n) (hlb : b.length = n) : QOp P G h o ρ (.bool !(decide (a = b))) :=
  .of_run fun _ _ _ _ w e _ hr => by
    have h1 := hr x (by simp [ho, Op.operands]); rw [hx] at h1
    have h2 := hr y (by simp [ho, Op.operands]); rw [hy] at h2
    obtain ⟨xs, e1, s1, g1⟩ := nums_rep h1
    obtain ⟨ys, e2, s2, g2⟩ := nums_rep h2
    refine ⟨.bool !(decide (a = b)), ?_, .bool _⟩
    have hq : (Op.equalIn 10000 t (.agg xs) (.agg ys)).run P w = .ok (decide (a = b)) w := run_eqI (d := 9999) he ha hn hla hlb (by omega) (by omega) (by simpa [hla] using g1) (by simpa [hlb] using g2) w
    simp only [execOp, ho, e1, e2, Sem.run_bind, run_eqGuard_agg w .neq t x y xs ys hm, Result.andThen_ok, run_neq_struct, hq, Sem.run_pure]
end
end Go.AV
