/- The abstract walk, fifth part: structures and slices that are made, appended to, cut. -/
import Derived.Test.YtnbmcbkokaoapaaGreatDoorAv4
namespace Go.AV
section
variable {P : Program} {G : Nat → Option (List V)} {h : Hp} {o : Oper} {ρ : Operand → V} {mu : Nat → Nat} {nx : Nat} {w : World}

/-! ### structures and arrays, built -/
def afill (place : Nat → Option (Nat × Nat)) (cells : List V) : List (Nat × V) → Option (List V)
  | [] => some cells
  | (i, v) :: rest =>
    match place i with
    | none => none
    | some (off, size) => if v.cells.length ≠ size || !v.solid || off + size > cells.length then none else afill place (splice cells off v.cells) rest

theorem foldl_set_get (us : List Value) (off : Nat) : ∀ (cs : Array Value), off + us.length ≤ cs.size →
    ((us.zipIdx.foldl (fun cs (c, j) => cs.setIfInBounds (off + j) c) cs).size = cs.size) ∧
    ∀ j, (us.zipIdx.foldl (fun cs (c, j) => cs.setIfInBounds (off + j) c) cs)[j]? = if off ≤ j ∧ j < off + us.length then us[j - off]? else cs[j]? := by
  intro cs hle
  have key : ∀ (us : List Value) (k : Nat) (cs : Array Value), off + k + us.length ≤ cs.size →
      ((us.zipIdx k).foldl (fun cs (c, j) => cs.setIfInBounds (off + j) c) cs).size = cs.size ∧
      ∀ j, ((us.zipIdx k).foldl (fun cs (c, j) => cs.setIfInBounds (off + j) c) cs)[j]? = if off + k ≤ j ∧ j < off + k + us.length then us[j - (off + k)]? else cs[j]? := by
    intro us
    induction us with
    | nil => intro k cs _; exact ⟨rfl, fun j => by rw [if_neg (by simp)]; rfl⟩
    | cons u us ih =>
      intro k cs hle
      simp only [List.zipIdx_cons, List.foldl_cons]
      obtain ⟨e1, e2⟩ := ih (k + 1) (cs.setIfInBounds (off + k) u) (by simp at hle ⊢; omega)
      refine ⟨by rw [e1]; simp, fun j => ?_⟩
      rw [e2]
      by_cases c1 : j = off + k
      · subst c1
        rw [if_neg (by omega), if_pos (by simp)]
        have hlt : off + k < cs.size := by simp at hle; omega
        simp [hlt]
      · by_cases c2 : off + (k + 1) ≤ j ∧ j < off + (k + 1) + us.length
        · rw [if_pos c2, if_pos (by simp; omega)]
          obtain ⟨m, rfl⟩ : ∃ m, j = off + (k + 1) + m := ⟨j - (off + (k + 1)), by omega⟩
          have a1 : off + (k + 1) + m - (off + (k + 1)) = m := by omega
          have a2 : off + (k + 1) + m - (off + k) = m + 1 := by omega
          rw [a1, a2]; simp
        · rw [if_neg c2, if_neg (by simp; omega), Array.getElem?_setIfInBounds_ne (by omega)]
  have := key us 0 cs (by simpa using hle)
  simpa using this

theorem splice_get (cs ds : List V) (off j : Nat) (h : off + ds.length ≤ cs.length) : (splice cs off ds)[j]? = if off ≤ j ∧ j < off + ds.length then ds[j - off]? else cs[j]? := by
  rw [splice_eq _ _ _ h, List.append_assoc, List.getElem?_append]
  have hl : (cs.take off).length = off := by simp; omega
  rw [hl]
  by_cases c1 : j < off
  · rw [if_pos c1, if_neg (by omega), List.getElem?_take, if_pos c1]
  · rw [if_neg c1, List.getElem?_append]
    by_cases c2 : j < off + ds.length
    · rw [if_pos (by omega), if_pos ⟨by omega, c2⟩]
    · rw [if_neg (by omega), if_neg (by omega), List.getElem?_drop]
      congr 1; omega

theorem fill_rep {E : Env} {place : Nat → Option (Nat × Nat)} : ∀ (ps : List (Nat × Value)) (qs : List (Nat × V)) (vs : Array Value) (cs ds : List V), ps.length = qs.length →
    (∀ j (h1 : j < ps.length) (h2 : j < qs.length), (ps[j]).1 = (qs[j]).1 ∧ Rep E (ps[j]).2 (qs[j]).2) → vs.size = cs.length → (∀ j (_ : j < vs.size), vs[j].oneCell' = true) → (∀ j (_ : j < vs.size) (_ : j < cs.length), Rep E vs[j] cs[j]) →
    afill place cs qs = some ds → ∃ us, Instr.fill place vs ps = some us ∧ us.size = ds.length ∧ (∀ j (_ : j < us.size), us[j].oneCell' = true) ∧ ∀ j (_ : j < us.size) (_ : j < ds.length), Rep E us[j] ds[j] := by
  intro ps
  induction ps with
  | nil =>
    intro qs vs cs ds hl _ e1 e2 e3 hf
    cases qs with
    | nil => simp only [afill] at hf; cases hf; exact ⟨vs, rfl, e1, e2, e3⟩
    | cons q qs => cases hl
  | cons p ps ih =>
    intro qs vs cs ds hl hp e1 e2 e3 hf
    cases qs with
    | nil => cases hl
    | cons q qs =>
      obtain ⟨i, v⟩ := p
      obtain ⟨i', x⟩ := q
      obtain ⟨hi, hr⟩ := hp 0 (by simp) (by simp)
      simp only [List.getElem_cons_zero] at hi hr
      subst hi
      simp only [afill] at hf
      split at hf
      · cases hf
      · rename_i off size hpl
        split at hf
        · cases hf
        · rename_i hc
          simp only [ne_eq, Bool.or_eq_true, decide_eq_true_eq, Bool.not_eq_true', not_or, Decidable.not_not, Bool.not_eq_false] at hc
          obtain ⟨⟨c1, c2⟩, c3⟩ := hc
          obtain ⟨k1, k2, k3⟩ := rep_cells hr c2
          obtain ⟨g1, g2⟩ := foldl_set_get v.cells.toList off vs (by simp; omega)
          have hsz : off + x.cells.length ≤ cs.length := by omega
          have hfold : v.cells.zipIdx.foldl (fun cs (c, j) => cs.setIfInBounds (off + j) c) vs = v.cells.toList.zipIdx.foldl (fun cs (c, j) => cs.setIfInBounds (off + j) c) vs := by
            rw [← Array.foldl_toList, Array.toList_zipIdx]
          obtain ⟨us, f1, f2, f3, f4⟩ := ih qs (v.cells.toList.zipIdx.foldl (fun cs (c, j) => cs.setIfInBounds (off + j) c) vs) (splice cs off x.cells) ds (by simpa using hl)
            (fun j h1 h2 => hp (j + 1) (by simpa using h1) (by simpa using h2)) (by rw [g1, splice_length hsz]; exact e1)
            (fun j hj => by
              have hg := g2 j
              rw [Array.getElem?_eq_getElem hj] at hg
              split at hg
              · rename_i c; simp only [Array.length_toList] at c
                rw [Array.getElem?_toList, Array.getElem?_eq_getElem (by omega)] at hg
                rw [Option.some.inj hg]; exact k2 _ _
              · rw [Array.getElem?_eq_getElem (by omega)] at hg; rw [Option.some.inj hg]; exact e2 _ _)
            (fun j hj hj' => by
              have hg := g2 j
              have hs := splice_get cs x.cells off j hsz
              rw [Array.getElem?_eq_getElem hj] at hg
              rw [List.getElem?_eq_getElem hj'] at hs
              split at hg
              · rename_i c; simp only [Array.length_toList] at c
                rw [if_pos (by omega)] at hs
                rw [Array.getElem?_toList, Array.getElem?_eq_getElem (by omega)] at hg
                rw [List.getElem?_eq_getElem (by omega)] at hs
                rw [Option.some.inj hg, Option.some.inj hs]; exact k3 _ _ _
              · rename_i c; simp only [Array.length_toList] at c
                rw [if_neg (by omega)] at hs
                rw [Array.getElem?_eq_getElem (by omega)] at hg
                rw [List.getElem?_eq_getElem (by omega)] at hs
                rw [Option.some.inj hg, Option.some.inj hs]; exact e3 _ _ _) hf
          refine ⟨us, ?_, f2, f3, f4⟩
          simp only [Instr.fill, hpl]
          rw [if_neg (by simp; omega), hfold]
          exact f1

def pv (f : Operand → Value) (p : Nat × Operand) : Nat × Value := (p.1, f p.2)
def pV (ρ : Operand → V) (p : Nat × Operand) : Nat × V := (p.1, ρ p.2)
theorem parts_rep {E : Env} {a : Act} {ps : Array (Nat × Operand)} (hr : ∀ y ∈ (ps.toList.map (·.2)).toArray, Rep E (a.eval y) (ρ y)) (j : Nat) (h1 : j < (ps.map (pv a.eval)).toList.length) (h2 : j < (ps.toList.map (pV ρ)).length) :
    ((ps.map (pv a.eval)).toList[j]).1 = ((ps.toList.map (pV ρ))[j]).1 ∧ Rep E ((ps.map (pv a.eval)).toList[j]).2 ((ps.toList.map (pV ρ))[j]).2 := by
  simp only [Array.getElem_toList, Array.getElem_map, List.getElem_map, pv, pV, true_and]
  exact hr _ (by simp; exact ⟨_, Array.getElem_mem _⟩)

/-- A structure, built. 'pl': where its fields lie. -/
theorem q_buildS {t : TypeId} {ps : Array (Nat × Operand)} (ho : o.op = .build t ps) {z : Value} (hz : ∀ w, (zeroValue t).run P w = .ok z w) {fs : Array Field} (hu : P.underlying t = some (.struct fs)) {pl : Array (Nat × Nat)}
    (hpl : ∀ w, (fs.mapM fun f => do pure (f.offset, ← sizeOf f.type) : Sem (Array (Nat × Nat))).run P w = .ok pl w) (hs : (cv z).solid = true) {ds : List V} (hf : afill (pl[·]?) (cv z).cells (ps.toList.map (pV ρ)) = some ds) : QOp P G h o ρ (.agg ds) :=
  .of_run fun _ _ mu nx w a _ hr => by
    obtain ⟨e1, e2, e3⟩ := rep_cells (rep_cv (env mu nx _ w) z) hs
    obtain ⟨us, f1, f2, f3, f4⟩ := fill_rep (place := (pl[·]?)) (ps.map (pv a.eval)).toList (ps.toList.map (pV ρ)) z.cells (cv z).cells ds (by simp)
      (fun j h1 h2 => parts_rep (fun y hy => hr y (by simpa [ho, Op.operands] using hy)) j h1 h2) e1 e2 e3 hf
    refine ⟨.agg us, ?_, .agg us ds f2 f3 f4⟩
    have hp : (ps.map fun (i, x) => (i, a.eval x)) = ps.map (pv a.eval) := rfl
    simp only [execOp, ho, hp, Instr.build, Sem.run_bind, hz, Result.andThen_ok, run_underlying hu, hpl, f1, Sem.run_pure]
/-- An array, built. -/
theorem q_buildA {t e : TypeId} {l : Nat} {ps : Array (Nat × Operand)} (ho : o.op = .build t ps) {z : Value} (hz : ∀ w, (zeroValue t).run P w = .ok z w) (hu : P.underlying t = some (.array l e)) {n : Nat}
    (hn : ∀ w, (sizeOf e).run P w = .ok n w) (hs : (cv z).solid = true) {ds : List V} (hf : afill (fun i => some (i * n, n)) (cv z).cells (ps.toList.map (pV ρ)) = some ds) : QOp P G h o ρ (.agg ds) :=
  .of_run fun _ _ mu nx w a _ hr => by
    obtain ⟨e1, e2, e3⟩ := rep_cells (rep_cv (env mu nx _ w) z) hs
    obtain ⟨us, f1, f2, f3, f4⟩ := fill_rep (place := (fun i => some (i * n, n))) (ps.map (pv a.eval)).toList (ps.toList.map (pV ρ)) z.cells (cv z).cells ds (by simp)
      (fun j h1 h2 => parts_rep (fun y hy => hr y (by simpa [ho, Op.operands] using hy)) j h1 h2) e1 e2 e3 hf
    refine ⟨.agg us, ?_, .agg us ds f2 f3 f4⟩
    have hp : (ps.map fun (i, x) => (i, a.eval x)) = ps.map (pv a.eval) := rfl
    simp only [execOp, ho, hp, Instr.build, Sem.run_bind, hz, Result.andThen_ok, run_underlying hu, hn, f1, Sem.run_pure]

/-! ### slices, built -/
/-- A slice, built: its parts in their places, the rest nought. What it is: a row that nobody writes to; an append takes new memory. -/
theorem q_buildSl {t e : TypeId} {len : Nat} {ps : Array (Nat × Operand)} (ho : o.op = .buildSlice t len ps) (hu : P.underlying t = some (.slice e)) {n : Nat} (hn : ∀ w, (sizeOf e).run P w = .ok n w) {z : Value} (hz : ∀ w, (zeroValue e).run P w = .ok z w)
    (hzn : z.cells.size = n) (hs : (cv z).solid = true) (hb : Nat.ble (len * n) 16777216 = true) {zs : List V} (hzs : (List.range (len * n)).map (fun j => (cv z).cells.getD (j % n) .junk) = zs) {ds : List V}
    (hf : afill (fun i => some (i * n, n)) zs (ps.toList.map (pV ρ)) = some ds) : QOp P G h o ρ (.sl .full n len ds) := by
  intro h' _ mu nx w a _ r hr K' Q' hK
  obtain ⟨e1, e2, e3⟩ := rep_cells (rep_cv (env mu nx h' w) z) hs
  let vs0 : Array Value := (Array.range (len * n)).map (z.cells[· % z.cells.size]!)
  have hv0 : ∀ j (hj : j < vs0.size), ∃ (h0 : j % n < z.cells.size), vs0[j] = z.cells[j % n] := fun j hj => by
    have hj' : j < len * n := by simpa [vs0] using hj
    have hn0 : 0 < n := by rcases Nat.eq_zero_or_pos n with e | e; · subst e; simp at hj'
                           exact e
    have : j % n < z.cells.size := by rw [hzn]; exact Nat.mod_lt _ hn0
    refine ⟨this, ?_⟩
    simp only [vs0, Array.getElem_map, Array.getElem_range, hzn]
    rw [getElem!_pos _ _ (by rw [hzn] at this ⊢; exact this)]
  have hsz0 : vs0.size = zs.length := by subst hzs; simp [vs0]
  obtain ⟨us, f1, f2, f3, f4⟩ := fill_rep (E := env mu nx h' w) (place := (fun i => some (i * n, n))) (ps.map (pv a.eval)).toList (ps.toList.map (pV ρ)) vs0 zs ds (by simp)
      (fun j h1 h2 => parts_rep (fun y hy => hr y (by simpa [ho, Op.operands] using hy)) j h1 h2) hsz0 (fun j hj => by
        obtain ⟨h0, e0⟩ := hv0 j hj
        rw [e0]; exact e2 _ _) (fun j hj hj' => by
        obtain ⟨h0, e0⟩ := hv0 j hj
        subst hzs
        rw [e0]
        have h0' : j % n < (cv z).cells.length := by omega
        simp only [List.getElem_map, List.getElem_range, List.getD_eq_getElem?_getD, List.getElem?_eq_getElem h0', Option.getD_some]
        exact e3 _ _ _) hf
  have hlen : ds.length = len * n := by
    have afl : ∀ (qs : List (Nat × V)) (cs ds : List V), afill (fun i => some (i * n, n)) cs qs = some ds → ds.length = cs.length := by
      intro qs
      induction qs with
      | nil => intro cs ds hf; simp only [afill] at hf; cases hf; rfl
      | cons q qs ih =>
        intro cs ds hf
        obtain ⟨i, x⟩ := q
        simp only [afill] at hf
        split at hf
        · cases hf
        · rename_i hc
          simp only [ne_eq, Bool.or_eq_true, decide_eq_true_eq, Bool.not_eq_true', not_or, Decidable.not_not, Bool.not_eq_false] at hc
          rw [ih _ _ hf, splice_length (by omega)]
    rw [afl _ _ _ hf, ← hzs]; simp
  have g := Grows.alloc w (.cells us e)
  obtain ⟨r', x⟩ := r.grows_same g
  have hble : len * n ≤ 16777216 := Nat.ble_eq.mp hb
  have hrun : (execOp a.eval o).run P w = .ok (.value (.slice (some ⟨w.heap.size, 0, none⟩) len len)) (w.alloc (.cells us e)) := by
    have hcond : ¬ len * n > 2 ^ 24 := by omega
    have hp : (ps.map fun (i, x) => (i, a.eval x)) = ps.map (pv a.eval) := rfl
    by_cases hl0 : len * n = 0
    · have : vs0 = #[] := by simp [vs0, hl0]
      rw [this] at f1
      simp only [execOp, ho, hp]
      rw [Array.toList_map] at f1
      simp [Instr.buildSlice, run_underlying hu, hn, hl0, f1, newRow, show Array.range 0 = #[] from rfl]
    · simp only [vs0] at f1
      simp only [execOp, ho, hp, Instr.buildSlice, Sem.run_bind, run_underlying hu, hn, Result.andThen_ok, hcond, hl0, if_false, hz, Sem.run_pure, f1, newRow, run_newObj, World.alloc_eq]
  unfold Oper.wp
  rw [hrun]
  refine hK _ _ _ _ _ _ ⟨rfl, rfl⟩ r' (.sl .full _ _ n len len ds (fun j => us.getD j undef) hlen (Nat.le_refl _) rfl (fun j hj => ?_) (fun j hj => ?_)) x
  · have hj' : j < us.size := by omega
    have := imm_new r (w' := w.alloc (.cells us e)) (b := w.heap.size) (Nat.le_refl _) (heap_alloc_new w _) f3 hj'
    simpa [Array.getD, hj'] using this
  · have hj' : j < us.size := by omega
    have := (f4 j hj' hj).mono x.le
    simpa [Array.getD, hj'] using this

/-! ### append -/
/-- What is gathered: nothing yet; or a slice that has no room; or the one owner of a row. 'h0': the memory beside it. -/
def Acc (h0 : Hp) (n : Nat) (len : Nat) (cs : List V) (v : V) (h : Hp) : Prop :=
  cs.length = len * n ∧ ((v = .snil ∧ cs = [] ∧ len = 0 ∧ h = h0) ∨ (v = .sl .full n len cs ∧ h = h0) ∨ ∃ t, h0.fresh t ∧ v = .sl (.own t) n len cs ∧ h = h0.setTok t cs.length)
theorem Acc.nil (h : Hp) (n : Nat) : Acc h n 0 [] .snil h := ⟨by simp, .inl ⟨rfl, rfl, rfl, rfl⟩⟩
theorem Acc.full {h : Hp} {n len : Nat} {cs : List V} (e : cs.length = len * n) : Acc h n len cs (.sl .full n len cs) h := ⟨e, .inr (.inl ⟨rfl, rfl⟩)⟩
theorem VLe.own {t n len : Nat} {cs : List V} : VLe (.sl (.own t) n len cs) (.sl .imm n len cs) := fun E v hr => by
  rcases hr.sl_inv with ⟨_, _, _, e⟩ | ⟨b, off, cap, f, rfl, hl, hc, hk, hm, h2⟩
  · rcases e with e | e <;> cases e
  · exact .sl .imm b off n len cap cs f hl hc trivial hm h2
theorem VLe.fullimm {n len : Nat} {cs : List V} : VLe (.sl .full n len cs) (.sl .imm n len cs) := fun E v hr => by
  rcases hr.sl_inv with ⟨rfl, rfl, rfl, e⟩ | ⟨b, off, cap, f, rfl, hl, hc, hk, hm, h2⟩
  · exact .slnil n
  · exact .sl .imm b off n len cap cs f hl hc trivial hm h2
theorem VLe.nilimm {n : Nat} : VLe .snil (.sl .imm n 0 []) := fun E v hr => by rw [hr.snil_inv]; exact .slnil n
theorem Acc.vle {h0 : Hp} {n len : Nat} {cs : List V} {v : V} {h : Hp} (a : Acc h0 n len cs v h) : VLe v (.sl .imm n len cs) := by
  rcases a.2 with ⟨rfl, rfl, rfl, _⟩ | ⟨rfl, _⟩ | ⟨t, _, rfl, _⟩
  · exact .nilimm
  · exact .fullimm
  · exact .own
theorem Acc.hle {h0 : Hp} {n len : Nat} {cs : List V} {v : V} {h : Hp} (a : Acc h0 n len cs v h) : HLe h h0 := by
  rcases a.2 with ⟨_, _, _, rfl⟩ | ⟨_, rfl⟩ | ⟨t, f, _, rfl⟩
  · exact .refl _
  · exact .refl _
  · exact .setTok f.2
theorem Acc.len? {h0 : Hp} {n len : Nat} {cs : List V} {v : V} {h : Hp} (a : Acc h0 n len cs v h) : v.len? = some len := by
  rcases a.2 with ⟨rfl, rfl, rfl, _⟩ | ⟨rfl, _⟩ | ⟨t, _, rfl, _⟩ <;> rfl
theorem Acc.solid {h0 : Hp} {n len : Nat} {cs : List V} {v : V} {h : Hp} (a : Acc h0 n len cs v h) : v.solid = true ∧ v.cells = [v] := by
  rcases a.2 with ⟨rfl, rfl, rfl, _⟩ | ⟨rfl, _⟩ | ⟨t, _, rfl, _⟩ <;> exact ⟨rfl, rfl⟩

/-- Appending in place. -/
theorem Rel.inPlace {h0 : Hp} {t n0 : Nat} (hf : h0.fresh t) (r : Rel G mu nx (h0.setTok t n0) w) {vs vs' : Array Value} {el : TypeId} (hh : w.heap[mu t]? = some (.cells vs el (0, 0))) {w' : World} (hw : w'.heap[mu t]? = some (.cells vs' el (0, 0)))
    (ho : ∀ b, b ≠ mu t → w'.heap[b]? = w.heap[b]?) (hsz : w'.heap.size = w.heap.size) (hvs : vs'.size = vs.size) (hos : w'.os = w.os) (htp : w'.tape = w.tape) (hout : w'.output = w.output) (hkeep : ∀ j, j < n0 → vs'[j]? = vs[j]?) {n1 : Nat} (h01 : n0 ≤ n1) (hn1 : n1 ≤ vs'.size) :
    Rel G (muNew mu nx (mu t)) (nx + 1) (h0.setTok nx n1) w' ∧ Ext mu nx (h0.setTok t n0) w (muNew mu nx (mu t)) (nx + 1) (h0.setTok nx n1) w' ∧ h0.fresh nx ∧
    ∀ j v, j < n1 → vs'[j]? = some v → v.oneCell' = true → (env (muNew mu nx (mu t)) (nx + 1) (h0.setTok nx n1) w').imm (mu t) j v := by
  have hta : (h0.setTok t n0).alive t := .inr (by simp)
  have htlt := (r.alive_lt hta).1
  have fr : h0.fresh nx := by
    have := r.fresh
    refine ⟨this.1, ?_⟩
    have h2 := this.2
    rwa [Hp.tok_setTok_ne h0 n0 (by omega)] at h2
  have old : ∀ i, h0.alive i → (h0.setTok t n0).alive i ∧ i ≠ t ∧ i < nx := fun i a => by
    have hne : i ≠ t := fun e => by subst e; rcases a with a | a; exact a hf.1; exact a hf.2
    have : (h0.setTok t n0).alive i := by
      rcases a with a | a
      · exact .inl a
      · exact .inr (by rwa [Hp.tok_setTok_ne h0 n0 hne])
    exact ⟨this, hne, (r.alive_lt this).1⟩
  have ali : ∀ i, (h0.setTok nx n1).alive i → h0.alive i ∨ i = nx := fun i a => by
    by_cases hi : i = nx
    · exact .inr hi
    · rcases a with a | a
      · exact .inl (.inl a)
      · rw [Hp.tok_setTok_ne h0 n1 hi] at a; exact .inl (.inr a)
  have mub : ∀ i, h0.alive i → mu i ≠ mu t := fun i a e => (old i a).2.1 (r.inj i t (old i a).1 hta e)
  have le : (env mu nx (h0.setTok t n0) w).le (env (muNew mu nx (mu t)) (nx + 1) (h0.setTok nx n1) w') := by
    refine ⟨Nat.le_succ _, fun i hi => muNew_lt hi, fun b i v ⟨⟨p1, p2, p3⟩, q1, q2⟩ => ⟨⟨by omega, fun id hid e => ?_, fun s m hs e => ?_⟩, ?_, q2⟩, fun b n ⟨c, e, f, q1, q2⟩ => ?_⟩
    · have hidlt := (old id (.inl hid)).2.2
      rw [muNew_lt hidlt] at e
      exact p2 id hid e
    · by_cases hsn : s = nx
      · subst hsn
        simp at hs; subst hs
        rw [muNew_nx] at e
        have := p3 t n0 (by simp) e
        omega
      · rw [Hp.tok_setTok_ne h0 n1 hsn] at hs
        have o := old s (.inr (by simp [hs]))
        rw [muNew_lt o.2.2] at e
        exact p3 s m (by rw [Hp.tok_setTok_ne h0 n0 o.2.1]; exact hs) e
    · by_cases hb : b = mu t
      · subst hb
        have hi := p3 t n0 (by simp) rfl
        rw [cell_of_row w' _ i vs' el (0, 0) hw, hkeep i hi]
        rw [cell_of_row w _ i vs el (0, 0) hh] at q1
        exact q1
      · rw [World.cell?_of_block (ho b hb)]; exact q1
    · by_cases hb : b = mu t
      · subst hb; rw [hh] at q1; cases q1; exact ⟨vs', _, _, hw, by omega⟩
      · exact ⟨c, e, f, by rw [ho b hb]; exact q1, q2⟩
  refine ⟨⟨fun i c e => ?_, fun s m e => ?_, fun i j a a' e => ?_, fun i hi => ?_, fun g c e => (r.glob g c e).mono le⟩,
    ⟨le, hos, htp, hout, by omega, fun b hb hn => ho b fun e => hn t hta e.symm, fun i a => ?_⟩, fr, fun j v hj hv h1 => ⟨⟨?_, fun id hid e => ?_, fun s m hs e => ?_⟩, ?_, h1⟩⟩
  · have o := old i (.inl (by simp only [Hp.box_setTok] at e; simp [e]))
    obtain ⟨k1, us, el', k2, k3, k4, k5⟩ := r.box i c e
    exact ⟨by omega, us, el', by rw [muNew_lt o.2.2, ho _ (mub i (.inl (by simp only [Hp.box_setTok] at e; simp [e])))]; exact k2, k3, k4, fun j hj hj' => (k5 j hj hj').mono le⟩
  · by_cases hs : s = nx
    · subst hs
      simp at e; subst e
      exact ⟨Nat.lt_succ_self _, vs', el, by rw [muNew_nx]; exact hw, hn1⟩
    · rw [Hp.tok_setTok_ne h0 n1 hs] at e
      have a : h0.alive s := .inr (by simp [e])
      have o := old s a
      obtain ⟨k1, us, el', k2, k3⟩ := r.tok s m (by rw [Hp.tok_setTok_ne h0 n0 o.2.1]; exact e)
      exact ⟨by omega, us, el', by rw [muNew_lt o.2.2, ho _ (mub s a)]; exact k2, k3⟩
  · rcases ali i a with b1 | hi <;> rcases ali j a' with b2 | hj
    · rw [muNew_lt (old i b1).2.2, muNew_lt (old j b2).2.2] at e; exact r.inj i j (old i b1).1 (old j b2).1 e
    · rw [muNew_lt (old i b1).2.2, hj, muNew_nx] at e; exact absurd e (mub i b1)
    · rw [muNew_lt (old j b2).2.2, hi, muNew_nx] at e; exact absurd e.symm (mub j b2)
    · rw [hi, hj]
  · have a : h0.alive i := .inl hi
    have o := old i a
    rw [Hp.tok_setTok_ne h0 n1 (by omega)]
    have := r.excl i hi
    rwa [Hp.tok_setTok_ne h0 n0 o.2.1] at this
  · rcases ali i a with b1 | hi
    · exact .inr ⟨i, (old i b1).1, (muNew_lt (old i b1).2.2).symm⟩
    · exact .inr ⟨t, hta, by rw [hi, muNew_nx]⟩
  · exact (Array.getElem?_eq_some_iff.1 hw).1
  · have a : h0.alive id := .inl hid
    rw [muNew_lt (old id a).2.2] at e; exact mub id a e
  · by_cases hsn : s = nx
    · subst hsn; simp at hs; omega
    · rw [Hp.tok_setTok_ne h0 n1 hsn] at hs
      have a : h0.alive s := .inr (by simp [hs])
      rw [muNew_lt (old s a).2.2] at e; exact absurd e (mub s a)
  · rw [cell_of_row w' _ j vs' el (0, 0) hw]; exact hv

theorem run_append_room' {w : World} (t ty e el : TypeId) (i : TypeInfo) (ht : P.underlying t = some (.slice e)) (hi : P.info? e = some i) (g sLen sCap : Nat) (cur : Array Value) (hg : w.heap[g]? = some (.cells cur el (0, 0)))
    (a : Addr) (m c : Nat) (news : List Value) (hl : news.length = m * i.size) (hnews : ∀ j u, news[j]? = some u → w.cell? (a.add j) = some u) (h1 : ∀ u ∈ news, u.oneCell' = true) (hroom : sLen + m ≤ sCap) (hfit : sLen * i.size + news.length ≤ cur.size) :
    (Builtin.append_ #[t, t] ty #[.slice (some ⟨g, 0, none⟩) sLen sCap, .slice (some a) m c]).run P w =
      .ok (.slice (some ⟨g, 0, none⟩) (sLen + m) sCap) (w.setRow g (cur.toList.take (sLen * i.size) ++ news ++ cur.toList.drop (sLen * i.size + news.length)).toArray) := by
  have hf := run_firstCells_some (P := P) w i.size m a m c news hl hnews
  have hst := run_storeCells_at P g (sLen * i.size) el news 0 cur w hg (by simpa using hfit) h1
  simp only [Nat.add_zero] at hst
  simp [Builtin.append_, run_underlying ht, sizeOf, typeInfo, hi, Builtin.lenOf, hroom, hf, Addr.add_lit, hst]

theorem a_append {s x : Operand} {t e : TypeId} {i : TypeInfo} {z : Value} {n by' : Nat} (ho : o.op = .call ⟨.builtin .append, #[s, x], #[t, t]⟩) (ht : P.underlying t = some (.slice e)) (hi : P.info? e = some i) (hz : i.zero = some z) (hsz : i.size = n) (hby : i.bytes = by') (hzs : z.cells.size = n)
    {h0 : Hp} {len m : Nat} {cs ds : List V} {v : V} {k : SK} (hv : ρ s = v) (hacc : Acc h0 n len cs v h) (hx : ρ x = .sl k n m ds) (hm : ds.length = m * n) (hn0 : 0 < n) (hb : (len + m) * by' ≤ 140737488355328) (h63 : len + m ≤ 9223372036854775807) (hone : (cv z).solid = true)
    {K : V → Hp → Prop} (kk : ∀ v' h', Acc h0 n (len + m) (cs ++ ds) v' h' → K v' h') : AStep P G o ρ h K := by
  intro mu nx w a _ r hr K' Q' hK
  have g1 := hr s (by simp [ho, Op.operands, Call.operands]); rw [hv] at g1
  have g2 := hr x (by simp [ho, Op.operands, Call.operands]); rw [hx] at g2
  subst hsz hby
  obtain ⟨hcl, hcase⟩ := hacc
  have hlen2 : (cs ++ ds).length = (len + m) * i.size := by simp [hcl, hm, Nat.add_mul]
  have wp_of : ∀ (u : Value) (w' : World), (Builtin.append_ #[t, t] o.type #[a.eval s, a.eval x]).run P w = .ok u w' → K' (a.put o.dst u) w' → o.wp P a w K' Q' := by
    intro u w' hrun hk
    unfold Oper.wp execOp
    simp only [ho, resolve, invoke, builtin, Sem.run_bind, Sem.run_pure, Result.andThen_ok, List.map_toArray, List.map_cons, List.map_nil, hrun]
    exact hk
  -- what is appended, as the model's cells
  have hdx : (ds = [] ∧ m = 0 ∧ a.eval x = .slice none 0 0) ∨ ∃ (b off cap : Nat) (f : Nat → Value), a.eval x = .slice (some ⟨b, off, none⟩) m cap ∧ (∀ j, j < ds.length → (env mu nx h w).imm b (off + j) (f j)) ∧ ∀ j (hj : j < ds.length), Rep (env mu nx h w) (f j) ds[j] := by
    rcases g2.sl_inv with ⟨e1, e2, e3, _⟩ | ⟨b, off, cap, f, e1, _, _, _, hm', h2'⟩
    · exact .inl ⟨e2, e3, e1⟩
    · exact .inr ⟨b, off, cap, f, e1, hm', h2'⟩
  by_cases hm0 : m = 0
  · -- nothing is appended: the slice as it was
    have hds : ds = [] := List.eq_nil_of_length_eq_zero (by rw [hm, hm0]; simp)
    subst hds
    have hsame : ∀ u, Rep (env mu nx h w) u v → ∃ b c, u = .slice b len c ∧ len ≤ c := by
      intro u hu
      rcases hcase with ⟨rfl, _, rfl, _⟩ | ⟨rfl, _⟩ | ⟨tk, _, rfl, _⟩
      · exact ⟨none, 0, hu.snil_inv, Nat.le_refl _⟩
      · rcases hu.sl_inv with ⟨e1, _, e3, _⟩ | ⟨b, off, cap, f, e1, _, hc, _⟩
        · exact ⟨none, 0, by rw [e3]; exact e1, by omega⟩
        · exact ⟨_, cap, e1, hc⟩
      · rcases hu.sl_inv with ⟨e1, _, e3, _⟩ | ⟨b, off, cap, f, e1, _, hc, _⟩
        · exact ⟨none, 0, by rw [e3]; exact e1, by omega⟩
        · exact ⟨_, cap, e1, hc⟩
    obtain ⟨b, c, e1, hc⟩ := hsame _ g1
    have hrun : (Builtin.append_ #[t, t] o.type #[a.eval s, a.eval x]).run P w = .ok (a.eval s) w := by
      have hx0 : ∃ b' c', a.eval x = .slice b' 0 c' := by
        rcases hdx with ⟨_, _, e⟩ | ⟨b', off, cap, f, e, _⟩
        · exact ⟨_, _, e⟩
        · exact ⟨_, _, by rw [e, hm0]⟩
      obtain ⟨b', c', e2⟩ := hx0
      rw [e1, e2]
      have hfc : (Builtin.firstCells i.size 0 (.slice b' 0 c')).run P w = .ok #[] w := by
        cases b' with
        | none => simp [Builtin.firstCells]
        | some b' => simp [Builtin.firstCells, loadCells, loadCellsFrom]
      cases b with
      | none => simp [Builtin.append_, run_underlying ht, sizeOf, typeInfo, hi, Builtin.lenOf, hc, hfc]
      | some b => simp [Builtin.append_, run_underlying ht, sizeOf, typeInfo, hi, Builtin.lenOf, hc, hfc, storeCells]
    refine wp_of _ _ hrun (hK _ v _ _ h _ (kk v h ?_) r g1 (.refl _ _ _ _))
    subst hm0
    simp only [List.append_nil, Nat.add_zero]
    exact ⟨hcl, hcase⟩
  -- something is appended
  obtain ⟨b, off, capx, f, ex, hxi, hxr⟩ : ∃ (b off cap : Nat) (f : Nat → Value), a.eval x = .slice (some ⟨b, off, none⟩) m cap ∧ (∀ j, j < ds.length → (env mu nx h w).imm b (off + j) (f j)) ∧ ∀ j (hj : j < ds.length), Rep (env mu nx h w) (f j) ds[j] := by
    rcases hdx with ⟨_, e, _⟩ | e
    · exact absurd e hm0
    · exact e
  let news : List Value := (List.range ds.length).map f
  have hnl : news.length = m * i.size := by simp [news, hm]
  have hnews : ∀ j u, news[j]? = some u → w.cell? ((⟨b, off, none⟩ : Addr).add j) = some u := fun j u hu => by
    obtain ⟨hj, rfl⟩ := List.getElem?_eq_some_iff.1 hu
    have hj' : j < ds.length := by simpa [news] using hj
    rw [add_mk]
    simpa [news] using (hxi j hj').2.1
  have hn1 : ∀ u ∈ news, u.oneCell' = true := fun u hu => by
    obtain ⟨j, hj, rfl⟩ := List.getElem_of_mem hu
    have hj' : j < ds.length := by simpa [news] using hj
    simpa [news] using (hxi j hj').2.2
  obtain ⟨z1, z2, z3⟩ := rep_cells (rep_cv (env mu nx h w) z) hone
  -- new memory
  have fresh : ∀ (olds : List Value), olds.length = len * i.size → (∀ u ∈ olds, u.oneCell' = true) → (∀ j (h1 : j < olds.length) (h2 : j < cs.length), Rep (env mu nx h w) olds[j] cs[j]) → ∀ oldCap, oldCap < len + m →
      HLe h h0 →
      (Builtin.append_ #[t, t] o.type #[a.eval s, a.eval x]).run P w = .ok (.slice (some ⟨w.heap.size, 0, none⟩) (len + m) (grownCap w (len + m) oldCap e)) (w.drew.alloc (.cells (olds.toArray ++ news.toArray ++ Builtin.zeroCells z.cells (grownCap w (len + m) oldCap e - (len + m))) e)) →
      o.wp P a w K' Q' := by
    intro olds hol ho1 hor oldCap hoc hle hrun
    have hC : len + m ≤ grownCap w (len + m) oldCap e := grownCap_ge w (len + m) oldCap e
    generalize grownCap w (len + m) oldCap e = C at hC hrun
    obtain ⟨vs, hvsd⟩ : ∃ vs : Array Value, olds.toArray ++ news.toArray ++ Builtin.zeroCells z.cells (C - (len + m)) = vs := ⟨_, rfl⟩
    rw [hvsd] at hrun
    have hvs : vs.size = C * i.size := by
      rw [← hvsd]
      simp only [Array.size_append, List.size_toArray, size_zeroCells, hzs, hol, hnl, ← Nat.add_mul]
      congr 1; omega
    have gr := Grows.drew_alloc w (.cells vs e)
    have hnew : (w.drew.alloc (.cells vs e)).heap[w.heap.size]? = some (.cells vs e (0, 0)) := heap_alloc_new w.drew _
    have hn : (cs ++ ds).length ≤ vs.size := by rw [hlen2, hvs]; exact Nat.mul_le_mul_right _ hC
    obtain ⟨r1, x1⟩ := r.newTok gr (b := w.heap.size) (Nat.le_refl _) hnew hn
    have hone' : ∀ j (_ : j < vs.size), vs[j].oneCell' = true := fun j hj => by
      subst hvsd
      simp only [Array.getElem_append] at hj ⊢
      split
      · split
        · simpa using ho1 _ (List.getElem_mem _)
        · simpa using hn1 _ (List.getElem_mem _)
      · simp only [Builtin.zeroCells, Array.getElem_map, Array.getElem_range]
        have hzp : 0 < z.cells.size := by omega
        rw [getElem!_pos z.cells _ (Nat.mod_lt _ hzp)]
        exact z2 _ _
    have fr := r.fresh
    have hh : HLe (h.setTok nx (cs ++ ds).length) (h0.setTok nx (cs ++ ds).length) := ⟨fun j c e => hle.box j c e, fun j c e => by
      by_cases hj : j = nx
      · subst hj; simpa using e
      · rw [Hp.tok_setTok_ne _ _ hj] at e ⊢; exact hle.tok j c e⟩
    refine wp_of _ _ hrun (hK _ (.sl (.own nx) i.size (len + m) (cs ++ ds)) _ _ (h0.setTok nx (cs ++ ds).length) _ (kk _ _ ⟨hlen2, .inr (.inr ⟨nx, ⟨?_, ?_⟩, rfl, rfl⟩)⟩) (hh.rel r1) ?_ (x1.trans hh.ext))
    · cases e1 : h0.box nx with
      | none => rfl
      | some c => have := hle.box nx c e1; rw [fr.1] at this; cases this
    · cases e1 : h0.tok nx with
      | none => rfl
      | some c => have := hle.tok nx c e1; rw [fr.2] at this; cases this
    · refine (Rep.sl (E := env (muNew mu nx w.heap.size) (nx + 1) (h.setTok nx (cs ++ ds).length) (w.drew.alloc (.cells vs e))) (.own nx) w.heap.size 0 i.size (len + m) C (cs ++ ds) (fun j => vs.getD j undef) hlen2 hC ⟨Nat.lt_succ_self _, muNew_nx.symm, rfl, vs, e, (0, 0), hnew, by rw [hvs]; exact Nat.le_refl _⟩ (fun j hj => ?_) (fun j hj => ?_)).mono (hh.env _ _ _)
      · have := imm_tok r (w' := w.drew.alloc (.cells vs e)) (b := w.heap.size) (Nat.le_refl _) hnew hone' hn hj
        have hj' : j < vs.size := by omega
        simpa [Array.getD, hj'] using this
      · have hj' : j < vs.size := by omega
        refine Rep.mono x1.le ?_
        rw [Array.getD_eq_getD_getElem?]
        by_cases hjc : j < cs.length
        · have hjo : j < olds.length := by omega
          have e1 : vs[j]? = some olds[j] := by
            rw [← hvsd, Array.getElem?_append_left (by simp; omega), Array.getElem?_append_left (by simp; omega)]
            simp [hjo]
          rw [e1, List.getElem_append_left hjc]
          exact hor _ _ _
        · have hjd : j - cs.length < ds.length := by simp at hj; omega
          have e1 : vs[j]? = some (f (j - cs.length)) := by
            rw [← hvsd, Array.getElem?_append_left (by simp [hnl, hol, ← Nat.add_mul]; omega), Array.getElem?_append_right (by simp; omega)]
            simp [news, hol, ← hcl, hjd]
          rw [e1, List.getElem_append_right (by omega)]
          exact hxr _ _
  rcases hcase with ⟨rfl, rfl, rfl, rfl⟩ | ⟨rfl, rfl⟩ | ⟨tk, hft, rfl, rfl⟩
  · -- nothing yet
    have hrun := run_append_nil (P := P) w t o.type e i z ht hi hz ⟨b, off, none⟩ m capx news hnl hnews (by omega) (by omega) (by have := hb; simp only [Nat.zero_add] at this; omega)
    refine fresh [] (by simp) (by simp) (fun j hj => by simp at hj) 0 (by omega) (.refl _) ?_
    rw [g1.snil_inv, ex, hrun]
    simp
  · -- no room
    rcases g1.sl_inv with ⟨e1, e2, e3, _⟩ | ⟨bs, offs, cap, fs, e1, _, _, hk, hsi, hsr⟩
    · subst e2 e3
      have hrun := run_append_nil (P := P) w t o.type e i z ht hi hz ⟨b, off, none⟩ m capx news hnl hnews (by omega) (by omega) (by have := hb; simp only [Nat.zero_add] at this; omega)
      refine fresh [] (by simp) (by simp) (fun j hj => by simp at hj) 0 (by omega) (.refl _) ?_
      rw [e1, ex, hrun]
      simp
    · have hk' : cap = len := hk
      subst hk'
      refine fresh ((List.range cs.length).map fs) (by simp [hcl]) (fun u hu => ?_) (fun j hj hj2 => ?_) cap (by omega) (.refl _) ?_
      · obtain ⟨j, hj, rfl⟩ := List.getElem_of_mem hu
        have hj' : j < cs.length := by simpa using hj
        simpa using (hsi j hj').2.2
      · simpa using hsr j hj2
      · rw [e1, ex]
        exact run_append_grow (P := P) w t o.type e i z ht hi hz ⟨bs, offs, none⟩ cap cap _ (by simp [hcl]) (fun j u hu => by
          obtain ⟨hj, rfl⟩ := List.getElem?_eq_some_iff.1 hu
          have hj' : j < cs.length := by simpa using hj
          rw [add_mk]; simpa using (hsi j hj').2.1) ⟨b, off, none⟩ m capx news hnl hnews (by omega) (by omega) (growslice_fits (by omega) hb)
  · -- the owner
    rcases g1.sl_inv with ⟨_, _, _, e4⟩ | ⟨bs, offs, cap, fs, e1, _, hlc, hk, hsi, hsr⟩
    · rcases e4 with e4 | e4 <;> cases e4
    · obtain ⟨k1, k2, k3, k4⟩ := hk
      subst k3
      have hbs : bs = mu tk := k2
      subst hbs
      by_cases hroom : len + m ≤ cap
      · obtain ⟨c1, cur, el, c2, c3⟩ := r.tok tk cs.length (by simp)
        have hcur : cap * i.size ≤ cur.size := by
          obtain ⟨cs', el', fr', q1, q2⟩ := k4
          rw [c2] at q1; cases q1; exact q2
        have hfit : len * i.size + news.length ≤ cur.size := by
          rw [hnl, ← Nat.add_mul]; exact Nat.le_trans (Nat.mul_le_mul_right _ hroom) hcur
        have hrun := run_append_room' (P := P) (w := w) t o.type e el i ht hi (mu tk) len cap cur c2 ⟨b, off, none⟩ m capx news hnl hnews hn1 hroom hfit
        let vs' : Array Value := (cur.toList.take (len * i.size) ++ news ++ cur.toList.drop (len * i.size + news.length)).toArray
        have hvs' : vs'.size = cur.size := by simp [vs']; omega
        have hget : ∀ j, vs'[j]? = if j < len * i.size then cur[j]? else if j < len * i.size + news.length then news[j - len * i.size]? else cur[j]? := by
          intro j
          simp only [vs', List.getElem?_toArray, List.append_assoc]
          rw [List.getElem?_append]
          have hlt : (cur.toList.take (len * i.size)).length = len * i.size := by simp; omega
          rw [hlt]
          by_cases d1 : j < len * i.size
          · rw [if_pos d1, if_pos d1, List.getElem?_take, if_pos d1, Array.getElem?_toList]
          · rw [if_neg d1, if_neg d1, List.getElem?_append]
            by_cases d2 : j < len * i.size + news.length
            · rw [if_pos (by omega), if_pos d2]
            · rw [if_neg (by omega), if_neg d2, List.getElem?_drop, Array.getElem?_toList]
              congr 1; omega
        obtain ⟨r1, x1, fr, im⟩ := Rel.inPlace hft r c2 (w' := w.setRow (mu tk) vs') (vs' := vs') (setRow_heap w _ _ _ _ _ c2) (fun b' hb' => setRow_other w _ b' _ hb') (by simp) hvs' rfl rfl rfl (n1 := (cs ++ ds).length)
          (fun j hj => by rw [hget, if_pos (by omega)]) (by simp) (by rw [hlen2, hvs']; exact Nat.le_trans (Nat.mul_le_mul_right _ hroom) hcur)
        refine wp_of _ _ (by rw [e1, ex]; exact hrun) (hK _ (.sl (.own nx) i.size (len + m) (cs ++ ds)) _ _ (h0.setTok nx (cs ++ ds).length) _ (kk _ _ ⟨hlen2, .inr (.inr ⟨nx, fr, rfl, rfl⟩)⟩) r1 ?_ x1)
        have hcell : ∀ j (hj : j < (cs ++ ds).length), ∃ u, vs'[j]? = some u ∧ u.oneCell' = true ∧ Rep (env mu nx (h0.setTok tk cs.length) w) u (cs ++ ds)[j] := fun j hj => by
          by_cases hjc : j < cs.length
          · have hc := (hsi j hjc).2.1
            rw [Nat.zero_add, cell_of_row w _ j cur el (0, 0) c2] at hc
            refine ⟨fs j, by rw [hget, if_pos (by omega)]; exact hc, (hsi j hjc).2.2, ?_⟩
            rw [List.getElem_append_left hjc]; exact hsr j hjc
          · have hjd : j - cs.length < ds.length := by simp at hj; omega
            refine ⟨f (j - cs.length), ?_, (hxi _ hjd).2.2, ?_⟩
            · rw [hget, if_neg (by omega), if_pos (by omega)]
              simp [news, ← hcl, hjd]
            · rw [List.getElem_append_right (by omega)]; exact hxr _ hjd
        have capok : (env (muNew mu nx (mu tk)) (nx + 1) (h0.setTok nx (cs ++ ds).length) (w.setRow (mu tk) vs')).cap (mu tk) (cap * i.size) := ⟨vs', el, (0, 0), setRow_heap w _ _ _ _ _ c2, by omega⟩
        refine Rep.sl (.own nx) (mu tk) 0 i.size (len + m) cap (cs ++ ds) (fun j => vs'.getD j undef) hlen2 hroom ⟨Nat.lt_succ_self _, muNew_nx.symm, rfl, capok⟩ (fun j hj => ?_) (fun j hj => ?_)
        · obtain ⟨u, hu, h1, _⟩ := hcell j hj
          rw [Nat.zero_add, Array.getD_eq_getD_getElem?, hu]
          exact im j u hj hu h1
        · obtain ⟨u, hu, _, hr'⟩ := hcell j hj
          rw [Array.getD_eq_getD_getElem?, hu]
          exact hr'.mono x1.le
      · refine fresh ((List.range cs.length).map fs) (by simp [hcl]) (fun u hu => ?_) (fun j hj hj2 => ?_) cap (by omega) (.setTok hft.2) ?_
        · obtain ⟨j, hj, rfl⟩ := List.getElem_of_mem hu
          have hj' : j < cs.length := by simpa using hj
          simpa using (hsi j hj').2.2
        · simpa using hsr j hj2
        · rw [e1, ex]
          exact run_append_grow (P := P) w t o.type e i z ht hi hz ⟨mu tk, 0, none⟩ len cap _ (by simp [hcl]) (fun j u hu => by
            obtain ⟨hj, rfl⟩ := List.getElem?_eq_some_iff.1 hu
            have hj' : j < cs.length := by simpa using hj
            rw [add_mk]; simpa using (hsi j hj').2.1) ⟨b, off, none⟩ m capx news hnl hnews (by omega) (by omega) (growslice_fits (by omega) hb)

end
end Go.AV
