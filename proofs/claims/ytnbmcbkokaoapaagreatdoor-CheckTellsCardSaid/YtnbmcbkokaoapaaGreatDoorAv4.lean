/- The abstract walk, fourth part: operations that make memory or write to it. -/
import Derived.Test.YtnbmcbkokaoapaaGreatDoorAv3
namespace Go.AV

def Hp.setBox (h : Hp) (id : Nat) (cs : List V) : Hp := { h with box := fun i => if i = id then some cs else h.box i }
def Hp.setTok (h : Hp) (id n : Nat) : Hp := { h with tok := fun i => if i = id then some n else h.tok i }
def Hp.delTok (h : Hp) (id : Nat) : Hp := { h with tok := fun i => if i = id then none else h.tok i }
def Hp.fresh (h : Hp) (id : Nat) : Prop := h.box id = none ∧ h.tok id = none

@[simp] theorem Hp.box_setBox (h : Hp) (id : Nat) (cs : List V) : (h.setBox id cs).box id = some cs := by simp [Hp.setBox]
theorem Hp.box_setBox_ne (h : Hp) {id i : Nat} (cs : List V) (e : i ≠ id) : (h.setBox id cs).box i = h.box i := by simp [Hp.setBox, e]
@[simp] theorem Hp.tok_setBox (h : Hp) (id : Nat) (cs : List V) : (h.setBox id cs).tok = h.tok := rfl
@[simp] theorem Hp.box_setTok (h : Hp) (id n : Nat) : (h.setTok id n).box = h.box := rfl
@[simp] theorem Hp.tok_setTok (h : Hp) (id n : Nat) : (h.setTok id n).tok id = some n := by simp [Hp.setTok]
theorem Hp.tok_setTok_ne (h : Hp) {id i : Nat} (n : Nat) (e : i ≠ id) : (h.setTok id n).tok i = h.tok i := by simp [Hp.setTok, e]
@[simp] theorem Hp.box_delTok (h : Hp) (id : Nat) : (h.delTok id).box = h.box := rfl
@[simp] theorem Hp.tok_delTok (h : Hp) (id : Nat) : (h.delTok id).tok id = none := by simp [Hp.delTok]
theorem Hp.setBox_setBox (h : Hp) (id : Nat) (a b : List V) : (h.setBox id a).setBox id b = h.setBox id b := by
  simp only [Hp.setBox]; congr 1; funext i; split <;> simp_all
theorem Hp.setBox_comm (h : Hp) {i j : Nat} (a b : List V) (e : i ≠ j) : (h.setBox i a).setBox j b = (h.setBox j b).setBox i a := by
  simp only [Hp.setBox]; congr 1; funext k
  by_cases h1 : k = i
  · subst h1; simp [e]
  · by_cases h2 : k = j
    · subst h2; simp [h1]
    · simp [h1, h2]
theorem Hp.setTok_delTok (h : Hp) {id n : Nat} (e : h.tok id = none) : (h.setTok id n).delTok id = h := by
  obtain ⟨b, t⟩ := h
  simp only [Hp.setTok, Hp.delTok]; congr 1; funext i; split
  · subst_vars; exact e.symm
  · rfl
theorem Hp.setTok_setBox (h : Hp) (t n id : Nat) (cs : List V) : (h.setTok t n).setBox id cs = (h.setBox id cs).setTok t n := rfl
theorem Hp.delTok_setBox (h : Hp) (t id : Nat) (cs : List V) : (h.delTok t).setBox id cs = (h.setBox id cs).delTok t := rfl

theorem HLe.setBox {h : Hp} {id : Nat} {cs : List V} (f : h.box id = none) : HLe (h.setBox id cs) h :=
  ⟨fun i c e => by
    by_cases hi : i = id
    · subst hi; rw [f] at e; cases e
    · rw [Hp.box_setBox_ne h cs hi]; exact e, fun _ _ e => e⟩
theorem HLe.setTok {h : Hp} {id n : Nat} (f : h.tok id = none) : HLe (h.setTok id n) h :=
  ⟨fun _ _ e => e, fun i c e => by
    by_cases hi : i = id
    · subst hi; rw [f] at e; cases e
    · rw [Hp.tok_setTok_ne h n hi]; exact e⟩
theorem Hp.fresh_swap {h : Hp} {i j : Nat} {c c' : List V} (f : (h.setBox i c).fresh j) : (h.setBox i c').fresh j := by
  have hne : j ≠ i := fun e => by subst e; have := f.1; simp at this
  exact ⟨by have := f.1; rw [Hp.box_setBox_ne h c hne] at this; rw [Hp.box_setBox_ne h c' hne]; exact this, f.2⟩
theorem Hp.ne_of_box {h : Hp} {i j : Nat} {cs : List V} (a : h.box i = some cs) (b : h.box j = none) : i ≠ j := fun e => by subst e; rw [a] at b; cases b

section
variable {P : Program} {G : Nat → Option (List V)} {h : Hp} {o : Oper} {ρ : Operand → V} {mu : Nat → Nat} {nx : Nat} {w : World}

theorem Rel.alive_lt (r : Rel G mu nx h w) {i : Nat} (a : h.alive i) : i < nx ∧ mu i < w.heap.size := by
  rcases a with a | a
  · cases e : h.box i with
    | none => exact absurd e a
    | some cs =>
      obtain ⟨h1, vs, el, h2, _⟩ := r.box i cs e
      exact ⟨h1, (Array.getElem?_eq_some_iff.1 h2).1⟩
  · cases e : h.tok i with
    | none => exact absurd e a
    | some n =>
      obtain ⟨h1, vs, el, h2, _⟩ := r.tok i n e
      exact ⟨h1, (Array.getElem?_eq_some_iff.1 h2).1⟩
theorem Rel.fresh (r : Rel G mu nx h w) : h.fresh nx :=
  ⟨by cases e : h.box nx with | none => rfl | some cs => exact absurd (r.alive_lt (i := nx) (.inl (by simp [e]))).1 (Nat.lt_irrefl _),
   by cases e : h.tok nx with | none => rfl | some cs => exact absurd (r.alive_lt (i := nx) (.inr (by simp [e]))).1 (Nat.lt_irrefl _)⟩

def muNew (mu : Nat → Nat) (nx b : Nat) : Nat → Nat := fun i => if i = nx then b else mu i
theorem muNew_lt {i b : Nat} (h : i < nx) : muNew mu nx b i = mu i := by unfold muNew; rw [if_neg (by omega)]
theorem muNew_nx {b : Nat} : muNew mu nx b nx = b := by unfold muNew; rw [if_pos rfl]

/-- A world that keeps all blocks that are there, and has more. -/
structure Grows (w w' : World) : Prop where
  os : w'.os = w.os
  tape : w'.tape = w.tape
  output : w'.output = w.output
  size : w.heap.size ≤ w'.heap.size
  block : ∀ b, b < w.heap.size → w'.heap[b]? = w.heap[b]?
theorem Grows.cell {w w' : World} (g : Grows w w') {b i : Nat} {v : Value} (h : w.cell? ⟨b, i, none⟩ = some v) : w'.cell? ⟨b, i, none⟩ = some v := by
  have hb : b < w.heap.size := World.block_lt_of_cell? w _ h
  rw [World.cell?_of_block (g.block b hb)]; exact h
theorem Grows.alloc (w : World) (o : Obj) : Grows w (w.alloc o) := ⟨rfl, rfl, rfl, by simp, fun _ hk => heap_alloc_old w o hk⟩
theorem Grows.drew_alloc (w : World) (o : Obj) : Grows w (w.drew.alloc o) := ⟨rfl, rfl, rfl, by simp, fun _ hk => heap_alloc_old w.drew o hk⟩
theorem Grows.refl (w : World) : Grows w w := ⟨rfl, rfl, rfl, Nat.le_refl _, fun _ _ => rfl⟩

/-- More blocks, a new number or none: what was there stays. -/
theorem env_grows (r : Rel G mu nx h w) {w' : World} (g : Grows w w') {mu' : Nat → Nat} {nx' : Nat} {h' : Hp} (hnx : nx ≤ nx') (hmu : ∀ i, i < nx → mu' i = mu i)
    (hold : ∀ i, h'.alive i → (h.alive i ∧ h'.box i = h.box i ∧ h'.tok i = h.tok i) ∨ w.heap.size ≤ mu' i) : (env mu nx h w).le (env mu' nx' h' w') where
  nx := hnx
  mu := hmu
  imm := fun b i v ⟨⟨p1, p2, p3⟩, q1, q2⟩ => ⟨⟨Nat.lt_of_lt_of_le p1 g.size, fun id hid e => by
      rcases hold id (.inl hid) with ⟨a, a1, a2⟩ | a
      · rw [hmu id (r.alive_lt a).1] at e
        exact p2 id (by rw [← a1]; exact hid) e
      · omega, fun t n ht e => by
      rcases hold t (.inr (by simp [ht])) with ⟨a, a1, a2⟩ | a
      · rw [hmu t (r.alive_lt a).1] at e
        exact p3 t n (by rw [← a2]; exact ht) e
      · omega⟩, g.cell q1, q2⟩
  cap := fun b n ⟨cs, el, fr, q1, q2⟩ => ⟨cs, el, fr, by rw [g.block b (Array.getElem?_eq_some_iff.1 q1).1]; exact q1, q2⟩

theorem Rel.grows_same (r : Rel G mu nx h w) {w' : World} (g : Grows w w') : Rel G mu nx h w' ∧ Ext mu nx h w mu nx h w' := by
  have le := env_grows r g (mu' := mu) (nx' := nx) (h' := h) (Nat.le_refl _) (fun _ _ => rfl) (fun i a => .inl ⟨a, rfl, rfl⟩)
  refine ⟨⟨fun id cs e => ?_, fun t n e => ?_, r.inj, r.excl, fun g' cs e => (r.glob g' cs e).mono le⟩, ⟨le, g.os, g.tape, g.output, g.size, fun b hb _ => g.block b hb, fun id hid => .inr ⟨id, hid, rfl⟩⟩⟩
  · obtain ⟨h1, vs, el, h2, h3, h4, h5⟩ := r.box id cs e
    exact ⟨h1, vs, el, by rw [g.block _ (Array.getElem?_eq_some_iff.1 h2).1]; exact h2, h3, h4, fun j hj hj' => (h5 j hj hj').mono le⟩
  · obtain ⟨h1, vs, el, h2, h3⟩ := r.tok t n e
    exact ⟨h1, vs, el, by rw [g.block _ (Array.getElem?_eq_some_iff.1 h2).1]; exact h2, h3⟩

/-- A new box. -/
theorem Rel.newBox (r : Rel G mu nx h w) {w' : World} (g : Grows w w') {b : Nat} (hb : w.heap.size ≤ b) {vs : Array Value} {el : TypeId} (hh : w'.heap[b]? = some (.cells vs el (0, 0))) {cs : List V} (hs : vs.size = cs.length)
    (h1 : ∀ j (_ : j < vs.size), vs[j].oneCell' = true) (h2 : ∀ j (_ : j < vs.size) (_ : j < cs.length), Rep (env mu nx h w) vs[j] cs[j]) :
    Rel G (muNew mu nx b) (nx + 1) (h.setBox nx cs) w' ∧ Ext mu nx h w (muNew mu nx b) (nx + 1) (h.setBox nx cs) w' := by
  have fr := r.fresh
  have ali : ∀ i, (h.setBox nx cs).alive i → (h.alive i ∧ i < nx) ∨ i = nx := fun i a => by
    by_cases hi : i = nx
    · exact .inr hi
    · refine .inl ?_
      have : h.alive i := by
        rcases a with a | a
        · rw [Hp.box_setBox_ne h cs hi] at a; exact .inl a
        · exact .inr a
      exact ⟨this, (r.alive_lt this).1⟩
  have le := env_grows r g (mu' := muNew mu nx b) (nx' := nx + 1) (h' := h.setBox nx cs) (Nat.le_succ _) (fun i hi => muNew_lt hi) (fun i a => by
    rcases ali i a with ⟨a, hi⟩ | rfl
    · exact .inl ⟨a, Hp.box_setBox_ne h cs (by omega), rfl⟩
    · exact .inr (by rw [muNew_nx]; exact hb))
  refine ⟨⟨fun id c e => ?_, fun t n e => ?_, fun i j a a' e => ?_, fun i hi => ?_, fun g' c e => (r.glob g' c e).mono le⟩, ⟨le, g.os, g.tape, g.output, g.size, fun b hb _ => g.block b hb, fun id hid => ?_⟩⟩
  · by_cases hi : id = nx
    · subst hi
      simp at e; subst e
      exact ⟨Nat.lt_succ_self _, vs, el, by rw [muNew_nx]; exact hh, hs, h1, fun j hj hj' => (h2 j hj hj').mono le⟩
    · rw [Hp.box_setBox_ne h cs hi] at e
      obtain ⟨k1, vs', el', k2, k3, k4, k5⟩ := r.box id c e
      exact ⟨by omega, vs', el', by rw [muNew_lt k1, g.block _ (Array.getElem?_eq_some_iff.1 k2).1]; exact k2, k3, k4, fun j hj hj' => (k5 j hj hj').mono le⟩
  · obtain ⟨k1, vs', el', k2, k3⟩ := r.tok t n e
    exact ⟨by omega, vs', el', by rw [muNew_lt k1, g.block _ (Array.getElem?_eq_some_iff.1 k2).1]; exact k2, k3⟩
  · rcases ali i a with ⟨b1, hi⟩ | hi <;> rcases ali j a' with ⟨b2, hj⟩ | hj
    · rw [muNew_lt hi, muNew_lt hj] at e; exact r.inj i j b1 b2 e
    · rw [muNew_lt hi, hj, muNew_nx] at e; have := (r.alive_lt b1).2; omega
    · rw [muNew_lt hj, hi, muNew_nx] at e; have := (r.alive_lt b2).2; omega
    · rw [hi, hj]
  · by_cases hi' : i = nx
    · subst hi'; exact fr.2
    · rw [Hp.box_setBox_ne h cs hi'] at hi; exact r.excl i hi
  · rcases ali id hid with ⟨a, hi⟩ | rfl
    · exact .inr ⟨id, a, (muNew_lt hi).symm⟩
    · exact .inl (by rw [muNew_nx]; exact hb)

/-- A new row that is appended to. -/
theorem Rel.newTok (r : Rel G mu nx h w) {w' : World} (g : Grows w w') {b : Nat} (hb : w.heap.size ≤ b) {vs : Array Value} {el : TypeId} (hh : w'.heap[b]? = some (.cells vs el (0, 0))) {n : Nat} (hs : n ≤ vs.size) :
    Rel G (muNew mu nx b) (nx + 1) (h.setTok nx n) w' ∧ Ext mu nx h w (muNew mu nx b) (nx + 1) (h.setTok nx n) w' := by
  have fr := r.fresh
  have ali : ∀ i, (h.setTok nx n).alive i → (h.alive i ∧ i < nx) ∨ i = nx := fun i a => by
    by_cases hi : i = nx
    · exact .inr hi
    · refine .inl ?_
      have : h.alive i := by
        rcases a with a | a
        · exact .inl a
        · rw [Hp.tok_setTok_ne h n hi] at a; exact .inr a
      exact ⟨this, (r.alive_lt this).1⟩
  have le := env_grows r g (mu' := muNew mu nx b) (nx' := nx + 1) (h' := h.setTok nx n) (Nat.le_succ _) (fun i hi => muNew_lt hi) (fun i a => by
    rcases ali i a with ⟨a, hi⟩ | rfl
    · exact .inl ⟨a, rfl, Hp.tok_setTok_ne h n (by omega)⟩
    · exact .inr (by rw [muNew_nx]; exact hb))
  refine ⟨⟨fun id c e => ?_, fun t m e => ?_, fun i j a a' e => ?_, fun i hi => ?_, fun g' c e => (r.glob g' c e).mono le⟩, ⟨le, g.os, g.tape, g.output, g.size, fun b hb _ => g.block b hb, fun id hid => ?_⟩⟩
  · obtain ⟨k1, vs', el', k2, k3, k4, k5⟩ := r.box id c e
    exact ⟨by omega, vs', el', by rw [muNew_lt k1, g.block _ (Array.getElem?_eq_some_iff.1 k2).1]; exact k2, k3, k4, fun j hj hj' => (k5 j hj hj').mono le⟩
  · by_cases hi : t = nx
    · subst hi
      simp at e; subst e
      exact ⟨Nat.lt_succ_self _, vs, el, by rw [muNew_nx]; exact hh, hs⟩
    · rw [Hp.tok_setTok_ne h n hi] at e
      obtain ⟨k1, vs', el', k2, k3⟩ := r.tok t m e
      exact ⟨by omega, vs', el', by rw [muNew_lt k1, g.block _ (Array.getElem?_eq_some_iff.1 k2).1]; exact k2, k3⟩
  · rcases ali i a with ⟨b1, hi⟩ | hi <;> rcases ali j a' with ⟨b2, hj⟩ | hj
    · rw [muNew_lt hi, muNew_lt hj] at e; exact r.inj i j b1 b2 e
    · rw [muNew_lt hi, hj, muNew_nx] at e; have := (r.alive_lt b1).2; omega
    · rw [muNew_lt hj, hi, muNew_nx] at e; have := (r.alive_lt b2).2; omega
    · rw [hi, hj]
  · have hne : i ≠ nx := fun e => by subst e; exact hi fr.1
    rw [Hp.tok_setTok_ne h n hne]
    exact r.excl i hi
  · rcases ali id hid with ⟨a, hi⟩ | rfl
    · exact .inr ⟨id, a, (muNew_lt hi).symm⟩
    · exact .inl (by rw [muNew_nx]; exact hb)

/-- The cells of a new block are protected, if no box is behind it, and no row that is shorter. -/
theorem imm_new (r : Rel G mu nx h w) {w' : World} {b : Nat} (hb : w.heap.size ≤ b) {vs : Array Value} {el : TypeId} (hh : w'.heap[b]? = some (.cells vs el (0, 0))) (h1 : ∀ j (_ : j < vs.size), vs[j].oneCell' = true) {j : Nat} (hj : j < vs.size) :
    (env mu nx h w').imm b j vs[j] := by
  refine ⟨⟨(Array.getElem?_eq_some_iff.1 hh).1, fun id hid e => ?_, fun t n ht e => ?_⟩, ?_, h1 j hj⟩
  · have := (r.alive_lt (i := id) (.inl hid)).2; omega
  · have := (r.alive_lt (i := t) (.inr (by simp [ht]))).2; omega
  · rw [cell_of_row w' b j vs el (0, 0) hh]; simp [hj]
theorem imm_tok (r : Rel G mu nx h w) {w' : World} {b : Nat} (hb : w.heap.size ≤ b) {vs : Array Value} {el : TypeId} (hh : w'.heap[b]? = some (.cells vs el (0, 0))) (h1 : ∀ j (_ : j < vs.size), vs[j].oneCell' = true) {n j : Nat} (hn : n ≤ vs.size) (hj : j < n) :
    (env (muNew mu nx b) (nx + 1) (h.setTok nx n) w').imm b j (vs[j]'(by omega)) := by
  refine ⟨⟨(Array.getElem?_eq_some_iff.1 hh).1, fun id hid e => ?_, fun t m ht e => ?_⟩, ?_, h1 j (by omega)⟩
  · have a := r.alive_lt (i := id) (.inl hid)
    rw [muNew_lt a.1] at e; omega
  · by_cases hi : t = nx
    · subst hi; simp at ht; omega
    · rw [Hp.tok_setTok_ne h n hi] at ht
      have a := r.alive_lt (i := t) (.inr (by simp [ht]))
      rw [muNew_lt a.1] at e; omega
  · rw [cell_of_row w' b j vs el (0, 0) hh]; simp

/-- Cells of a value, abstractly. -/
def V.cells : V → List V
  | .agg cs => cs
  | v => [v]
def V.solid : V → Bool
  | .junk => false
  | .tup _ => false
  | .opt _ _ => false
  | _ => true
theorem rep_cells {E : Env} {v : Value} {x : V} (hr : Rep E v x) (hs : x.solid = true) :
    v.cells.size = x.cells.length ∧ (∀ j (_ : j < v.cells.size), (v.cells[j]).oneCell' = true) ∧ ∀ j (_ : j < v.cells.size) (_ : j < x.cells.length), Rep E v.cells[j] x.cells[j] := by
  have one : ∀ (v : Value) (x : V), Rep E v x → v.cells = #[v] → x.cells = [x] → v.oneCell' = true →
      v.cells.size = x.cells.length ∧ (∀ j (_ : j < v.cells.size), (v.cells[j]).oneCell' = true) ∧ ∀ j (_ : j < v.cells.size) (_ : j < x.cells.length), Rep E v.cells[j] x.cells[j] := by
    intro v x hr e1 e2 e3
    simp only [e1, e2]
    refine ⟨by simp, fun j hj => ?_, fun j hj hj' => ?_⟩
    · have : j = 0 := by simp at hj; omega
      subst this; simpa using e3
    · have : j = 0 := by simp at hj; omega
      subst this; simpa using hr
  cases hr with
  | agg vs cs e h1 h2 => exact ⟨e, h1, h2⟩
  | tup vs cs e h2 => cases hs
  | junk v => cases hs
  | optT v x h => cases hs
  | optF x => cases hs
  | iptr b off cs f h1 h2 => exact one _ _ (.iptr b off cs f h1 h2) rfl rfl rfl
  | sl k b off n len cap cs f hl hc hk h1 h2 => exact one _ _ (.sl k b off n len cap cs f hl hc hk h1 h2) rfl rfl rfl
  | iface t v a h => exact one _ _ (.iface t v a h) rfl rfl rfl
  | func fn fs cs as bs e1 e2 h1 h2 => exact one _ _ (.func fn fs cs as bs e1 e2 h1 h2) rfl rfl rfl
  | bool b => exact one _ _ (.bool b) rfl rfl rfl
  | int k n => exact one _ _ (.int k n) rfl rfl rfl
  | str s => exact one _ _ (.str s) rfl rfl rfl
  | pnil => exact one _ _ .pnil rfl rfl rfl
  | ptr id off h => exact one _ _ (.ptr id off h) rfl rfl rfl
  | snil => exact one _ _ .snil rfl rfl rfl
  | slnil n => exact one _ _ (.slnil n) rfl rfl rfl
  | slnilf n => exact one _ _ (.slnilf n) rfl rfl rfl
  | msl id off len cap h hc hk h63 => exact one _ _ (.msl id off len cap h hc hk h63) rfl rfl rfl
  | inil => exact one _ _ .inil rfl rfl rfl
  | fnil => exact one _ _ .fnil rfl rfl rfl

/-! ### A new variable -/
theorem a_alloc {t : TypeId} (ho : o.op = .alloc t) {z : Value} (hz : ∀ w, (zeroValue t).run P w = .ok z w) {K : V → Hp → Prop} (hs : (cv z).solid = true)
    (k : ∀ id, h.fresh id → K (.ptr id 0) (h.setBox id (cv z).cells)) : AStep P G o ρ h K := by
  intro mu nx w a _ r hr K' Q' hK
  obtain ⟨e1, e2, e3⟩ := rep_cells (rep_cv (env mu nx h w) z) hs
  obtain ⟨r', x⟩ := r.newBox (Grows.alloc w (.cells z.cells t)) (b := w.heap.size) (Nat.le_refl _) (heap_alloc_new w _) e1 e2 e3
  have hrun : (execOp a.eval o).run P w = .ok (.value (.pointer (some ⟨w.heap.size, 0, none⟩))) (w.alloc (.cells z.cells t)) := by
    simp [execOp, ho, Instr.alloc, hz, newVar, newRow]
  unfold Oper.wp
  rw [hrun]
  refine hK _ _ _ _ _ _ (k nx r.fresh) r' ?_ x
  have := Rep.ptr (E := env (muNew mu nx w.heap.size) (nx + 1) (h.setBox nx (cv z).cells) (w.alloc (.cells z.cells t))) nx 0 (Nat.lt_succ_self _)
  rwa [show (env (muNew mu nx w.heap.size) (nx + 1) (h.setBox nx (cv z).cells) (w.alloc (.cells z.cells t))).mu nx = w.heap.size from muNew_nx] at this
theorem a_box {t : TypeId} {y : Operand} (ho : o.op = .box t y) {K : V → Hp → Prop} (hs : (ρ y).solid = true) (k : ∀ id, h.fresh id → K (.ptr id 0) (h.setBox id (ρ y).cells)) : AStep P G o ρ h K := by
  intro mu nx w a _ r hr K' Q' hK
  obtain ⟨e1, e2, e3⟩ := rep_cells (hr y (by simp [ho, Op.operands])) hs
  obtain ⟨r', x⟩ := r.newBox (Grows.alloc w (.cells (a.eval y).cells t)) (b := w.heap.size) (Nat.le_refl _) (heap_alloc_new w _) e1 e2 e3
  have hrun : (execOp a.eval o).run P w = .ok (.value (.pointer (some ⟨w.heap.size, 0, none⟩))) (w.alloc (.cells (a.eval y).cells t)) := by
    simp [execOp, ho, Instr.box, newVar, newRow]
  unfold Oper.wp
  rw [hrun]
  refine hK _ _ _ _ _ _ (k nx r.fresh) r' ?_ x
  have := Rep.ptr (E := env (muNew mu nx w.heap.size) (nx + 1) (h.setBox nx (ρ y).cells) (w.alloc (.cells (a.eval y).cells t))) nx 0 (Nat.lt_succ_self _)
  rwa [show (env (muNew mu nx w.heap.size) (nx + 1) (h.setBox nx (ρ y).cells) (w.alloc (.cells (a.eval y).cells t))).mu nx = w.heap.size from muNew_nx] at this
/-- A new variable that is never written again. -/
theorem q_boxi {t : TypeId} {y : Operand} (ho : o.op = .box t y) (hs : (ρ y).solid = true) : QOp P G h o ρ (.iptr (ρ y).cells) := by
  intro h' _ mu nx w a _ r hr K' Q' hK
  obtain ⟨e1, e2, e3⟩ := rep_cells (hr y (by simp [ho, Op.operands])) hs
  have g := Grows.alloc w (.cells (a.eval y).cells t)
  obtain ⟨r', x⟩ := r.grows_same g
  have hrun : (execOp a.eval o).run P w = .ok (.value (.pointer (some ⟨w.heap.size, 0, none⟩))) (w.alloc (.cells (a.eval y).cells t)) := by
    simp [execOp, ho, Instr.box, newVar, newRow]
  unfold Oper.wp
  rw [hrun]
  refine hK _ _ _ _ _ _ ⟨rfl, rfl⟩ r' (.iptr _ _ _ (fun j => (a.eval y).cells.getD j undef) (fun j hj => ?_) (fun j hj => ?_)) x
  · have hj' : j < (a.eval y).cells.size := by omega
    have := imm_new r (w' := w.alloc (.cells (a.eval y).cells t)) (b := w.heap.size) (Nat.le_refl _) (heap_alloc_new w _) e2 hj'
    simpa [Array.getD, hj'] using this
  · have hj' : j < (a.eval y).cells.size := by omega
    have := (e3 j hj' hj).mono x.le
    simpa [Array.getD, hj'] using this

/-! ### Stores -/
def ovr : List V → List V → List V
  | cs, ds => match ds with
    | [] => cs
    | d :: ds => match cs with
      | [] => []
      | _ :: cs => d :: ovr cs ds
termination_by structural _ ds => ds
def splice : List V → Nat → List V → List V
  | cs, off, ds => match off with
    | 0 => ovr cs ds
    | off + 1 => match cs with
      | [] => []
      | c :: cs => c :: splice cs off ds
termination_by structural _ off => off
theorem ovr_eq : ∀ (cs ds : List V), ds.length ≤ cs.length → ovr cs ds = ds ++ cs.drop ds.length
  | cs, [], _ => by cases cs <;> rfl
  | [], _ :: _, h => by simp at h
  | _ :: cs, d :: ds, h => by
    have := ovr_eq cs ds (by simpa using h)
    rw [ovr, this]; simp
theorem splice_eq : ∀ (cs : List V) (off : Nat) (ds : List V), off + ds.length ≤ cs.length → splice cs off ds = cs.take off ++ ds ++ cs.drop (off + ds.length)
  | cs, 0, ds, h => by
    have := ovr_eq cs ds (by omega)
    rw [splice, this]; simp
  | [], off + 1, ds, h => by simp at h
  | c :: cs, off + 1, ds, h => by
    have := splice_eq cs off ds (by simp at h; omega)
    rw [splice, this, show off + 1 + ds.length = off + ds.length + 1 by omega]
    simp
theorem splice_length {cs ds : List V} {off : Nat} (h : off + ds.length ≤ cs.length) : (splice cs off ds).length = cs.length := by
  rw [splice_eq _ _ _ h]; simp; omega

/-- Writing into one box. -/
theorem Rel.setBox (r : Rel G mu nx h w) {id : Nat} {cs : List V} (hb : h.box id = some cs) {vs vs' : Array Value} {el : TypeId} (hh : w.heap[mu id]? = some (.cells vs el (0, 0))) {w' : World}
    (hw : w'.heap[mu id]? = some (.cells vs' el (0, 0))) (ho : ∀ b, b ≠ mu id → w'.heap[b]? = w.heap[b]?) (hsz : w'.heap.size = w.heap.size) (hvs : vs'.size = vs.size) (hos : w'.os = w.os) (htp : w'.tape = w.tape) (hout : w'.output = w.output) {cs' : List V} (hs : vs'.size = cs'.length)
    (h1 : ∀ j (_ : j < vs'.size), vs'[j].oneCell' = true) (h2 : ∀ j (_ : j < vs'.size) (_ : j < cs'.length), Rep (env mu nx h w) vs'[j] cs'[j]) :
    Rel G mu nx (h.setBox id cs') w' ∧ Ext mu nx h w mu nx (h.setBox id cs') w' := by
  have ali : ∀ i, (h.setBox id cs').alive i → h.alive i := fun i a => by
    by_cases hi : i = id
    · subst hi; exact .inl (by simp [hb])
    · rcases a with a | a
      · rw [Hp.box_setBox_ne h cs' hi] at a; exact .inl a
      · exact .inr a
  have box_of : ∀ i, (h.setBox id cs').box i ≠ none → h.box i ≠ none := fun i a => by
    by_cases hi : i = id
    · subst hi; simp [hb]
    · rwa [Hp.box_setBox_ne h cs' hi] at a
  have hidb : ∀ i, h.box i ≠ none → h.alive i := fun i a => .inl a
  have le : (env mu nx h w).le (env mu nx (h.setBox id cs') w') := by
    refine ⟨Nat.le_refl _, fun _ _ => rfl, fun b i v ⟨⟨p1, p2, p3⟩, q1, q2⟩ => ⟨⟨by omega, fun j hj => p2 j (box_of j hj), p3⟩, ?_, q2⟩, fun b n ⟨c, e, fr, q1, q2⟩ => ?_⟩
    · have hne : b ≠ mu id := fun e => p2 id (by simp [hb]) e.symm
      rw [World.cell?_of_block (ho b hne)]; exact q1
    · by_cases hb' : b = mu id
      · subst hb'
        rw [hh] at q1
        cases q1
        exact ⟨vs', _, _, hw, by omega⟩
      · exact ⟨c, e, fr, by rw [ho b hb']; exact q1, q2⟩
  refine ⟨⟨fun i c e => ?_, fun t n e => ?_, fun i j a a' e => r.inj i j (ali i a) (ali j a') e, fun i hi => r.excl i (box_of i hi), fun g' c e => (r.glob g' c e).mono le⟩,
    ⟨le, hos, htp, hout, by omega, fun b hb' hn => ho b fun e => hn id (.inl (by simp [hb])) e.symm, fun i a => .inr ⟨i, ali i a, rfl⟩⟩⟩
  · by_cases hi : i = id
    · subst hi
      simp at e; subst e
      exact ⟨(r.box i cs hb).1, vs', el, hw, hs, h1, fun j hj hj' => (h2 j hj hj').mono le⟩
    · rw [Hp.box_setBox_ne h cs' hi] at e
      obtain ⟨k1, vs1, el1, k2, k3, k4, k5⟩ := r.box i c e
      have hne : mu i ≠ mu id := fun e' => hi (r.inj i id (.inl (by simp [e])) (.inl (by simp [hb])) e')
      exact ⟨k1, vs1, el1, by rw [ho _ hne]; exact k2, k3, k4, fun j hj hj' => (k5 j hj hj').mono le⟩
  · obtain ⟨k1, vs1, el1, k2, k3⟩ := r.tok t n e
    have hne : mu t ≠ mu id := fun e' => by
      have := r.inj t id (.inr (by simp only [Hp.tok_setBox] at e; simp [e])) (.inl (by simp [hb])) e'
      subst this
      have := r.excl t (by simp [hb])
      simp only [Hp.tok_setBox] at e
      rw [this] at e; cases e
    exact ⟨k1, vs1, el1, by rw [ho _ hne]; exact k2, k3⟩

theorem a_store {t : TypeId} {x y : Operand} (ho : o.op = .store t x y) {n : Nat} (hs : ∀ w, (sizeOf t).run P w = .ok n w) {id off : Nat} (hx : ρ x = .ptr id off) {cs : List V} (hb : h.box id = some cs)
    {ds : List V} (hd : (ρ y).cells = ds) (hy : (ρ y).solid = true) (hn : ds.length = n) (hle : off + n ≤ cs.length) {K : V → Hp → Prop} (k : K .junk (h.setBox id (splice cs off ds))) : AStep P G o ρ h K := by
  intro mu nx w a _ r hr K' Q' hK
  have g1 := hr x (by simp [ho, Op.operands]); rw [hx] at g1
  have g2 := hr y (by simp [ho, Op.operands])
  obtain ⟨e1, e2, e3⟩ := rep_cells g2 hy
  rw [hd] at e1 e3
  obtain ⟨k1, vs, el, k2, k3, k4, k5⟩ := r.box id cs hb
  have hxe : a.eval x = .pointer (some ⟨mu id, off, none⟩) := (g1.ptr_inv).2
  have hst := run_storeCells_at P (mu id) off el (a.eval y).cells.toList 0 vs w k2 (by simp; omega) (fun v hv => by
    obtain ⟨j, hj, rfl⟩ := List.getElem_of_mem hv
    simpa using e2 j (by simpa using hj))
  simp only [Nat.add_zero] at hst
  have hrun : (execOp a.eval o).run P w = .ok .skip (w.setRow (mu id) (vs.toList.take off ++ (a.eval y).cells.toList ++ vs.toList.drop (off + (a.eval y).cells.toList.length)).toArray) := by
    have hne : ¬ (a.eval y).cells.size ≠ n := by omega
    simp only [execOp, ho, hxe, Instr.storeAt, Instr.sureAddr, Sem.run_bind, Sem.run_pure, Result.andThen_ok, storeVar, hs, hne, if_false, hst]
  unfold Oper.wp
  rw [hrun]
  have hlen : (vs.toList.take off ++ (a.eval y).cells.toList ++ vs.toList.drop (off + (a.eval y).cells.toList.length)).toArray.size = vs.size := by simp; omega
  have hsp : vs.size = (splice cs off ds).length := by rw [splice_length (by omega)]; exact k3
  obtain ⟨r', ex⟩ := r.setBox hb k2 (w' := w.setRow (mu id) (vs.toList.take off ++ (a.eval y).cells.toList ++ vs.toList.drop (off + (a.eval y).cells.toList.length)).toArray)
    (setRow_heap w _ _ _ _ _ k2) (fun b hb' => setRow_other w _ b _ hb') (by simp) hlen rfl rfl rfl (cs' := splice cs off ds) (by rw [hlen]; exact hsp) (fun j hj => by
      simp only [List.getElem_toArray, List.getElem_append, List.getElem_take, List.getElem_drop, List.length_append, List.length_take, Array.length_toList, Array.getElem_toList] at hj ⊢
      split
      · split
        · exact k4 _ _
        · exact e2 _ _
      · exact k4 _ _) (fun j hj hj' => by
      rw [hlen] at hj
      have hse := splice_eq cs off ds (by omega)
      simp only [hse, List.getElem_toArray, List.getElem_append, List.getElem_take, List.getElem_drop, List.length_append, List.length_take, Array.length_toList, Array.getElem_toList]
      by_cases c1 : j < off
      · have a1 : j < min off vs.size + (a.eval y).cells.size := by omega
        have a2 : j < min off vs.size := by omega
        have a3 : j < min off cs.length + ds.length := by omega
        have a4 : j < min off cs.length := by omega
        simp only [a1, a2, a3, a4, dif_pos]; exact k5 _ _ _
      · by_cases c2 : j < off + ds.length
        · have a1 : j < min off vs.size + (a.eval y).cells.size := by omega
          have a2 : ¬ j < min off vs.size := by omega
          have a3 : j < min off cs.length + ds.length := by omega
          have a4 : ¬ j < min off cs.length := by omega
          simp only [a1, a2, a3, a4, dif_pos, dif_neg, not_false_eq_true]
          have b1 : min off vs.size = off := by omega
          have b2 : min off cs.length = off := by omega
          simp only [b1, b2]
          exact e3 _ _ _
        · have a1 : ¬ j < min off vs.size + (a.eval y).cells.size := by omega
          have a3 : ¬ j < min off cs.length + ds.length := by omega
          simp only [a1, a3, dif_neg, not_false_eq_true]
          have b1 : off + (a.eval y).cells.size + (j - (min off vs.size + (a.eval y).cells.size)) = j := by omega
          have b2 : off + ds.length + (j - (min off cs.length + ds.length)) = j := by omega
          simp only [b1, b2]
          exact k5 _ _ _)
  exact hK undef .junk _ _ _ _ k r' (.junk _) ex
/-- The usual spellings: what is stored is one cell, or a whole structure. -/
theorem a_store1 {t : TypeId} {x y : Operand} {v : V} (ho : o.op = .store t x y) (hs : ∀ w, (sizeOf t).run P w = .ok 1 w) {id off : Nat} (hx : ρ x = .ptr id off) {cs : List V} (hb : h.box id = some cs)
    (hv : ρ y = v) (hc : v.cells = [v]) (hy : v.solid = true) (hle : off + 1 ≤ cs.length) {K : V → Hp → Prop} (k : K .junk (h.setBox id (splice cs off [v]))) : AStep P G o ρ h K := by
  subst hv; exact a_store ho hs hx hb hc hy rfl hle k
theorem a_storeA {t : TypeId} {x y : Operand} {ds : List V} {n : Nat} (ho : o.op = .store t x y) (hs : ∀ w, (sizeOf t).run P w = .ok n w) {id off : Nat} (hx : ρ x = .ptr id off) {cs : List V} (hb : h.box id = some cs)
    (hv : ρ y = .agg ds) (hn : ds.length = n) (hle : off + n ≤ cs.length) {K : V → Hp → Prop} (k : K .junk (h.setBox id (splice cs off ds))) : AStep P G o ρ h K :=
  a_store ho hs hx hb (by rw [hv]; rfl) (by rw [hv]; rfl) hn hle k

end
end Go.AV
