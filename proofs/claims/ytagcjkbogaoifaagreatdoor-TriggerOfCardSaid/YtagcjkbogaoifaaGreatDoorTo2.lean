/- The abstract walk, fifth part: structures and slices that are made, appended to, cut. -/
import Derived.Test.YtagcjkbogaoifaaGreatDoorTo1
namespace Go.AV
section
variable {P : Program} {G : Nat → Option (List V)} {h : Hp} {o : Oper} {ρ : Operand → V} {mu : Nat → Nat} {nx : Nat} {w : World}

def afill (place : Nat → Option (Nat × Nat)) (cells : List V) : List (Nat × V) → Option (List V)
  | [] => some cells
  | (i, v) :: rest =>
    match place i with
    | none => none
    | some (off, size) => if v.cells.length ≠ size || !v.solid || off + size > cells.length then none else afill place (splice cells off v.cells) rest

theorem foldl_set_get (us : List Value) (off : Nat) : ∀ (cs : Array Value), off + us.length ≤ cs.size →
    ((us.zipIdx.foldl (fun cs (c, j) => cs.setIfInBounds (off + j) c) cs).size = cs.size) ∧
    ∀ j, (us.zipIdx.foldl (fun cs (c, j) => cs.setIfInBounds (off + j) c) cs)[j]? = if off ≤ j ∧ j < off + us.length then us[j - off]? else cs[j]? := by
  intro cs hle
  have key : ∀ (us : List Value) (k : Nat) (cs : Array Value), off + k + us.length ≤ cs.size →
      ((us.zipIdx k).foldl (fun cs (c, j) => cs.setIfInBounds (off + j) c) cs).size = cs.size ∧
      ∀ j, ((us.zipIdx k).foldl (fun cs (c, j) => cs.setIfInBounds (off + j) c) cs)[j]? = if off + k ≤ j ∧ j < off + k + us.length then us[j - (off + k)]? else cs[j]? := by
    intro us
    induction us with
    | nil => intro k cs _; exact ⟨rfl, fun j => by rw [if_neg (by simp)]; rfl⟩
    | cons u us ih =>
      intro k cs hle
      simp only [List.zipIdx_cons, List.foldl_cons]
      obtain ⟨e1, e2⟩ := ih (k + 1) (cs.setIfInBounds (off + k) u) (by simp at hle ⊢; omega)
      refine ⟨by rw [e1]; simp, fun j => ?_⟩
      rw [e2]
      by_cases c1 : j = off + k
      · subst c1
        rw [if_neg (by omega), if_pos (by simp)]
        have hlt : off + k < cs.size := by simp at hle; omega
        simp [hlt]
      · by_cases c2 : off + (k + 1) ≤ j ∧ j < off + (k + 1) + us.length
        · rw [if_pos c2, if_pos (by simp; omega)]
          obtain ⟨m, rfl⟩ : ∃ m, j = off + (k + 1) + m := ⟨j - (off + (k + 1)), by omega⟩
          have a1 : off + (k + 1) + m - (off + (k + 1)) = m := by omega
          have a2 : off + (k + 1) + m - (off + k) = m + 1 := by omega
          rw [a1, a2]; simp
        · rw [if_neg c2, if_neg (by simp; omega), Array.getElem?_setIfInBounds_ne (by omega)]
  have := key us 0 cs (by simpa using hle)
  simpa using this

theorem splice_get (cs ds : List V) (off j : Nat) (h : off + ds.length ≤ cs.length) : (splice cs off ds)[j]? = if off ≤ j ∧ j < off + ds.length then ds[j - off]? else cs[j]? := by
  rw [splice_eq _ _ _ h, List.append_assoc, List.getElem?_append]
  have hl : (cs.take off).length = off := by simp; omega
  rw [hl]
  by_cases c1 : j < off
  · rw [if_pos c1, if_neg (by omega), List.getElem?_take, if_pos c1]
  · rw [if_neg c1, List.getElem?_append]
    by_cases c2 : j < off + ds.length
    · rw [if_pos (by omega), if_pos ⟨by omega, c2⟩]
    · rw [if_neg (by omega), if_neg (by omega), List.getElem?_drop]
      congr 1; omega

theorem fill_rep {E : Env} {place : Nat → Option (Nat × Nat)} : ∀ (ps : List (Nat × Value)) (qs : List (Nat × V)) (vs : Array Value) (cs ds : List V), ps.length = qs.length →
    (∀ j (h1 : j < ps.length) (h2 : j < qs.length), (ps[j]).1 = (qs[j]).1 ∧ Rep E (ps[j]).2 (qs[j]).2) → vs.size = cs.length → (∀ j (_ : j < vs.size), vs[j].oneCell' = true) → (∀ j (_ : j < vs.size) (_ : j < cs.length), Rep E vs[j] cs[j]) →
    afill place cs qs = some ds → ∃ us, Instr.fill place vs ps = some us ∧ us.size = ds.length ∧ (∀ j (_ : j < us.size), us[j].oneCell' = true) ∧ ∀ j (_ : j < us.size) (_ : j < ds.length), Rep E us[j] ds[j] := by
  intro ps
  induction ps with
  | nil =>
    intro qs vs cs ds hl _ e1 e2 e3 hf
    cases qs with
    | nil => simp only [afill] at hf; cases hf; exact ⟨vs, rfl, e1, e2, e3⟩
    | cons q qs => cases hl
  | cons p ps ih =>
    intro qs vs cs ds hl hp e1 e2 e3 hf
    cases qs with
    | nil => cases hl
    | cons q qs =>
      obtain ⟨i, v⟩ := p
      obtain ⟨i', x⟩ := q
      obtain ⟨hi, hr⟩ := hp 0 (by simp) (by simp)
      simp only [List.getElem_cons_zero] at hi hr
      subst hi
      simp only [afill] at hf
      split at hf
      · cases hf
      · rename_i off size hpl
        split at hf
        · cases hf
        · rename_i hc
          simp only [ne_eq, Bool.or_eq_true, decide_eq_true_eq, Bool.not_eq_true', not_or, Decidable.not_not, Bool.not_eq_false] at hc
          obtain ⟨⟨c1, c2⟩, c3⟩ := hc
          obtain ⟨k1, k2, k3⟩ := rep_cells hr c2
          obtain ⟨g1, g2⟩ := foldl_set_get v.cells.toList off vs (by simp; omega)
          have hsz : off + x.cells.length ≤ cs.length := by omega
          have hfold : v.cells.zipIdx.foldl (fun cs (c, j) => cs.setIfInBounds (off + j) c) vs = v.cells.toList.zipIdx.foldl (fun cs (c, j) => cs.setIfInBounds (off + j) c) vs := by
            rw [← Array.foldl_toList, Array.toList_zipIdx]
          obtain ⟨us, f1, f2, f3, f4⟩ := ih qs (v.cells.toList.zipIdx.foldl (fun cs (c, j) => cs.setIfInBounds (off + j) c) vs) (splice cs off x.cells) ds (by simpa using hl)
            (fun j h1 h2 => hp (j + 1) (by simpa using h1) (by simpa using h2)) (by rw [g1, splice_length hsz]; exact e1)
            (fun j hj => by
              have hg := g2 j
              rw [Array.getElem?_eq_getElem hj] at hg
              split at hg
              · rename_i c; simp only [Array.length_toList] at c
                rw [Array.getElem?_toList, Array.getElem?_eq_getElem (by omega)] at hg
                rw [Option.some.inj hg]; exact k2 _ _
              · rw [Array.getElem?_eq_getElem (by omega)] at hg; rw [Option.some.inj hg]; exact e2 _ _)
            (fun j hj hj' => by
              have hg := g2 j
              have hs := splice_get cs x.cells off j hsz
              rw [Array.getElem?_eq_getElem hj] at hg
              rw [List.getElem?_eq_getElem hj'] at hs
              split at hg
              · rename_i c; simp only [Array.length_toList] at c
                rw [if_pos (by omega)] at hs
                rw [Array.getElem?_toList, Array.getElem?_eq_getElem (by omega)] at hg
                rw [List.getElem?_eq_getElem (by omega)] at hs
                rw [Option.some.inj hg, Option.some.inj hs]; exact k3 _ _ _
              · rename_i c; simp only [Array.length_toList] at c
                rw [if_neg (by omega)] at hs
                rw [Array.getElem?_eq_getElem (by omega)] at hg
                rw [List.getElem?_eq_getElem (by omega)] at hs
                rw [Option.some.inj hg, Option.some.inj hs]; exact e3 _ _ _) hf
          refine ⟨us, ?_, f2, f3, f4⟩
          simp only [Instr.fill, hpl]
          rw [if_neg (by simp; omega), hfold]
          exact f1

def pv (f : Operand → Value) (p : Nat × Operand) : Nat × Value := (p.1, f p.2)
def pV (ρ : Operand → V) (p : Nat × Operand) : Nat × V := (p.1, ρ p.2)
theorem parts_rep {E : Env} {a : Act} {ps : Array (Nat × Operand)} (hr : ∀ y ∈ (ps.toList.map (·.2)).toArray, Rep E (a.eval y) (ρ y)) (j : Nat) (h1 : j < (ps.map (pv a.eval)).toList.length) (h2 : j < (ps.toList.map (pV ρ)).length) :
    ((ps.map (pv a.eval)).toList[j]).1 = ((ps.toList.map (pV ρ))[j]).1 ∧ Rep E ((ps.map (pv a.eval)).toList[j]).2 ((ps.toList.map (pV ρ))[j]).2 := by
  simp only [Array.getElem_toList, Array.getElem_map, List.getElem_map, pv, pV, true_and]
  exact hr _ (by simp; exact ⟨_, Array.getElem_mem _⟩)

/-- A structure, built. 'pl': where its fields lie. -/
theorem q_buildS {t : TypeId} {ps : Array (Nat × Operand)} (ho : o.op = .build t ps) {z : Value} (hz : ∀ w, (zeroValue t).run P w = .ok z w) {fs : Array Field} (hu : P.underlying t = some (.struct fs)) {pl : Array (Nat × Nat)}
    (hpl : ∀ w, (fs.mapM fun f => do pure (f.offset, ← sizeOf f.type) : Sem (Array (Nat × Nat))).run P w = .ok pl w) (hs : (cv z).solid = true) {ds : List V} (hf : afill (pl[·]?) (cv z).cells (ps.toList.map (pV ρ)) = some ds) : QOp P G h o ρ (.agg ds) :=
  .of_run fun _ _ mu nx w a _ hr => by
    obtain ⟨e1, e2, e3⟩ := rep_cells (rep_cv (env mu nx _ w) z) hs
    obtain ⟨us, f1, f2, f3, f4⟩ := fill_rep (place := (pl[·]?)) (ps.map (pv a.eval)).toList (ps.toList.map (pV ρ)) z.cells (cv z).cells ds (by simp)
      (fun j h1 h2 => parts_rep (fun y hy => hr y (by simpa [ho, Op.operands] using hy)) j h1 h2) e1 e2 e3 hf
    refine ⟨.agg us, ?_, .agg us ds f2 f3 f4⟩
    have hp : (ps.map fun (i, x) => (i, a.eval x)) = ps.map (pv a.eval) := rfl
    simp only [execOp, ho, hp, Instr.build, Sem.run_bind, hz, Result.andThen_ok, run_underlying hu, hpl, f1, Sem.run_pure]
/-- An array, built. -/
theorem q_buildA {t e : TypeId} {l : Nat} {ps : Array (Nat × Operand)} (ho : o.op = .build t ps) {z : Value} (hz : ∀ w, (zeroValue t).run P w = .ok z w) (hu : P.underlying t = some (.array l e)) {n : Nat}
    (hn : ∀ w, (sizeOf e).run P w = .ok n w) (hs : (cv z).solid = true) {ds : List V} (hf : afill (fun i => some (i * n, n)) (cv z).cells (ps.toList.map (pV ρ)) = some ds) : QOp P G h o ρ (.agg ds) :=
  .of_run fun _ _ mu nx w a _ hr => by
    obtain ⟨e1, e2, e3⟩ := rep_cells (rep_cv (env mu nx _ w) z) hs
    obtain ⟨us, f1, f2, f3, f4⟩ := fill_rep (place := (fun i => some (i * n, n))) (ps.map (pv a.eval)).toList (ps.toList.map (pV ρ)) z.cells (cv z).cells ds (by simp)
      (fun j h1 h2 => parts_rep (fun y hy => hr y (by simpa [ho, Op.operands] using hy)) j h1 h2) e1 e2 e3 hf
    refine ⟨.agg us, ?_, .agg us ds f2 f3 f4⟩
    have hp : (ps.map fun (i, x) => (i, a.eval x)) = ps.map (pv a.eval) := rfl
    simp only [execOp, ho, hp, Instr.build, Sem.run_bind, hz, Result.andThen_ok, run_underlying hu, hn, f1, Sem.run_pure]

/-- A slice, built: its parts in their places, the rest nought. What it is: a row that nobody writes to; an append takes new memory. -/
theorem q_buildSl {t e : TypeId} {len : Nat} {ps : Array (Nat × Operand)} (ho : o.op = .buildSlice t len ps) (hu : P.underlying t = some (.slice e)) {n : Nat} (hn : ∀ w, (sizeOf e).run P w = .ok n w) {z : Value} (hz : ∀ w, (zeroValue e).run P w = .ok z w)
    (hzn : z.cells.size = n) (hs : (cv z).solid = true) (hb : Nat.ble (len * n) 16777216 = true) {zs : List V} (hzs : (List.range (len * n)).map (fun j => (cv z).cells.getD (j % n) .junk) = zs) {ds : List V}
    (hf : afill (fun i => some (i * n, n)) zs (ps.toList.map (pV ρ)) = some ds) : QOp P G h o ρ (.sl .full n len ds) := by
  intro h' _ mu nx w a _ r hr K' Q' hK
  obtain ⟨e1, e2, e3⟩ := rep_cells (rep_cv (env mu nx h' w) z) hs
  let vs0 : Array Value := (Array.range (len * n)).map (z.cells[· % z.cells.size]!)
  have hv0 : ∀ j (hj : j < vs0.size), ∃ (h0 : j % n < z.cells.size), vs0[j] = z.cells[j % n] := fun j hj => by
    have hj' : j < len * n := by simpa [vs0] using hj
    have hn0 : 0 < n := by rcases Nat.eq_zero_or_pos n with e | e; · subst e; simp at hj'
                           exact e
    have : j % n < z.cells.size := by rw [hzn]; exact Nat.mod_lt _ hn0
    refine ⟨this, ?_⟩
    simp only [vs0, Array.getElem_map, Array.getElem_range, hzn]
    rw [getElem!_pos _ _ (by rw [hzn] at this ⊢; exact this)]
  have hsz0 : vs0.size = zs.length := by subst hzs; simp [vs0]
  obtain ⟨us, f1, f2, f3, f4⟩ := fill_rep (E := env mu nx h' w) (place := (fun i => some (i * n, n))) (ps.map (pv a.eval)).toList (ps.toList.map (pV ρ)) vs0 zs ds (by simp)
      (fun j h1 h2 => parts_rep (fun y hy => hr y (by simpa [ho, Op.operands] using hy)) j h1 h2) hsz0 (fun j hj => by
        obtain ⟨h0, e0⟩ := hv0 j hj
        rw [e0]; exact e2 _ _) (fun j hj hj' => by
        obtain ⟨h0, e0⟩ := hv0 j hj
        subst hzs
        rw [e0]
        have h0' : j % n < (cv z).cells.length := by omega
        simp only [List.getElem_map, List.getElem_range, List.getD_eq_getElem?_getD, List.getElem?_eq_getElem h0', Option.getD_some]
        exact e3 _ _ _) hf
  have hlen : ds.length = len * n := by
    have afl : ∀ (qs : List (Nat × V)) (cs ds : List V), afill (fun i => some (i * n, n)) cs qs = some ds → ds.length = cs.length := by
      intro qs
      induction qs with
      | nil => intro cs ds hf; simp only [afill] at hf; cases hf; rfl
      | cons q qs ih =>
        intro cs ds hf
        obtain ⟨i, x⟩ := q
        simp only [afill] at hf
        split at hf
        · cases hf
        · rename_i hc
          simp only [ne_eq, Bool.or_eq_true, decide_eq_true_eq, Bool.not_eq_true', not_or, Decidable.not_not, Bool.not_eq_false] at hc
          rw [ih _ _ hf, splice_length (by omega)]
    rw [afl _ _ _ hf, ← hzs]; simp
  have g := Grows.alloc w (.cells us e)
  obtain ⟨r', x⟩ := r.grows_same g
  have hble : len * n ≤ 16777216 := Nat.ble_eq.mp hb
  have hrun : (execOp a.eval o).run P w = .ok (.value (.slice (some ⟨w.heap.size, 0, none⟩) len len)) (w.alloc (.cells us e)) := by
    have hcond : ¬ len * n > 2 ^ 24 := by omega
    have hp : (ps.map fun (i, x) => (i, a.eval x)) = ps.map (pv a.eval) := rfl
    by_cases hl0 : len * n = 0
    · have : vs0 = #[] := by simp [vs0, hl0]
      rw [this] at f1
      simp only [execOp, ho, hp]
      rw [Array.toList_map] at f1
      simp [Instr.buildSlice, run_underlying hu, hn, hl0, f1, newRow, show Array.range 0 = #[] from rfl]
    · simp only [vs0] at f1
      simp only [execOp, ho, hp, Instr.buildSlice, Sem.run_bind, run_underlying hu, hn, Result.andThen_ok, hcond, hl0, if_false, hz, Sem.run_pure, f1, newRow, run_newObj, World.alloc_eq]
  unfold Oper.wp
  rw [hrun]
  refine hK _ _ _ _ _ _ ⟨rfl, rfl⟩ r' (.sl .full _ _ n len len ds (fun j => us.getD j undef) hlen (Nat.le_refl _) rfl (fun j hj => ?_) (fun j hj => ?_)) x
  · have hj' : j < us.size := by omega
    have := imm_new r (w' := w.alloc (.cells us e)) (b := w.heap.size) (Nat.le_refl _) (heap_alloc_new w _) f3 hj'
    simpa [Array.getD, hj'] using this
  · have hj' : j < us.size := by omega
    have := (f4 j hj' hj).mono x.le
    simpa [Array.getD, hj'] using this

/-- What is gathered: nothing yet; or a slice that has no room; or the one owner of a row. 'h0': the memory beside it. -/
def Acc (h0 : Hp) (n : Nat) (len : Nat) (cs : List V) (v : V) (h : Hp) : Prop :=
  cs.length = len * n ∧ ((v = .snil ∧ cs = [] ∧ len = 0 ∧ h = h0) ∨ (v = .sl .full n len cs ∧ h = h0) ∨ ∃ t, h0.fresh t ∧ v = .sl (.own t) n len cs ∧ h = h0.setTok t cs.length)
theorem Acc.nil (h : Hp) (n : Nat) : Acc h n 0 [] .snil h := ⟨by simp, .inl ⟨rfl, rfl, rfl, rfl⟩⟩
theorem Acc.full {h : Hp} {n len : Nat} {cs : List V} (e : cs.length = len * n) : Acc h n len cs (.sl .full n len cs) h := ⟨e, .inr (.inl ⟨rfl, rfl⟩)⟩
theorem VLe.own {t n len : Nat} {cs : List V} : VLe (.sl (.own t) n len cs) (.sl .imm n len cs) := fun E v hr => by
  rcases hr.sl_inv with ⟨_, _, _, e⟩ | ⟨b, off, cap, f, rfl, hl, hc, hk, hm, h2⟩
  · rcases e with e | e <;> cases e
  · exact .sl .imm b off n len cap cs f hl hc trivial hm h2
theorem VLe.fullimm {n len : Nat} {cs : List V} : VLe (.sl .full n len cs) (.sl .imm n len cs) := fun E v hr => by
  rcases hr.sl_inv with ⟨rfl, rfl, rfl, e⟩ | ⟨b, off, cap, f, rfl, hl, hc, hk, hm, h2⟩
  · exact .slnil n
  · exact .sl .imm b off n len cap cs f hl hc trivial hm h2
theorem VLe.nilimm {n : Nat} : VLe .snil (.sl .imm n 0 []) := fun E v hr => by rw [hr.snil_inv]; exact .slnil n
theorem Acc.vle {h0 : Hp} {n len : Nat} {cs : List V} {v : V} {h : Hp} (a : Acc h0 n len cs v h) : VLe v (.sl .imm n len cs) := by
  rcases a.2 with ⟨rfl, rfl, rfl, _⟩ | ⟨rfl, _⟩ | ⟨t, _, rfl, _⟩
  · exact .nilimm
  · exact .fullimm
  · exact .own
theorem Acc.hle {h0 : Hp} {n len : Nat} {cs : List V} {v : V} {h : Hp} (a : Acc h0 n len cs v h) : HLe h h0 := by
  rcases a.2 with ⟨_, _, _, rfl⟩ | ⟨_, rfl⟩ | ⟨t, f, _, rfl⟩
  · exact .refl _
  · exact .refl _
  · exact .setTok f.2
theorem Acc.len? {h0 : Hp} {n len : Nat} {cs : List V} {v : V} {h : Hp} (a : Acc h0 n len cs v h) : v.len? = some len := by
  rcases a.2 with ⟨rfl, rfl, rfl, _⟩ | ⟨rfl, _⟩ | ⟨t, _, rfl, _⟩ <;> rfl
theorem Acc.solid {h0 : Hp} {n len : Nat} {cs : List V} {v : V} {h : Hp} (a : Acc h0 n len cs v h) : v.solid = true ∧ v.cells = [v] := by
  rcases a.2 with ⟨rfl, rfl, rfl, _⟩ | ⟨rfl, _⟩ | ⟨t, _, rfl, _⟩ <;> exact ⟨rfl, rfl⟩

/-- Appending in place. -/
theorem Rel.inPlace {h0 : Hp} {t n0 : Nat} (hf : h0.fresh t) (r : Rel G mu nx (h0.setTok t n0) w) {vs vs' : Array Value} {el : TypeId} (hh : w.heap[mu t]? = some (.cells vs el (0, 0))) {w' : World} (hw : w'.heap[mu t]? = some (.cells vs' el (0, 0)))
    (ho : ∀ b, b ≠ mu t → w'.heap[b]? = w.heap[b]?) (hsz : w'.heap.size = w.heap.size) (hvs : vs'.size = vs.size) (hos : w'.os = w.os) (htp : w'.tape = w.tape) (hout : w'.output = w.output) (hkeep : ∀ j, j < n0 → vs'[j]? = vs[j]?) {n1 : Nat} (h01 : n0 ≤ n1) (hn1 : n1 ≤ vs'.size) :
    Rel G (muNew mu nx (mu t)) (nx + 1) (h0.setTok nx n1) w' ∧ Ext mu nx (h0.setTok t n0) w (muNew mu nx (mu t)) (nx + 1) (h0.setTok nx n1) w' ∧ h0.fresh nx ∧
    ∀ j v, j < n1 → vs'[j]? = some v → v.oneCell' = true → (env (muNew mu nx (mu t)) (nx + 1) (h0.setTok nx n1) w').imm (mu t) j v := by
  have hta : (h0.setTok t n0).alive t := .inr (by simp)
  have htlt := (r.alive_lt hta).1
  have fr : h0.fresh nx := by
    have := r.fresh
    refine ⟨this.1, ?_⟩
    have h2 := this.2
    rwa [Hp.tok_setTok_ne h0 n0 (by omega)] at h2
  have old : ∀ i, h0.alive i → (h0.setTok t n0).alive i ∧ i ≠ t ∧ i < nx := fun i a => by
    have hne : i ≠ t := fun e => by subst e; rcases a with a | a; exact a hf.1; exact a hf.2
    have : (h0.setTok t n0).alive i := by
      rcases a with a | a
      · exact .inl a
      · exact .inr (by rwa [Hp.tok_setTok_ne h0 n0 hne])
    exact ⟨this, hne, (r.alive_lt this).1⟩
  have ali : ∀ i, (h0.setTok nx n1).alive i → h0.alive i ∨ i = nx := fun i a => by
    by_cases hi : i = nx
    · exact .inr hi
    · rcases a with a | a
      · exact .inl (.inl a)
      · rw [Hp.tok_setTok_ne h0 n1 hi] at a; exact .inl (.inr a)
  have mub : ∀ i, h0.alive i → mu i ≠ mu t := fun i a e => (old i a).2.1 (r.inj i t (old i a).1 hta e)
  have le : (env mu nx (h0.setTok t n0) w).le (env (muNew mu nx (mu t)) (nx + 1) (h0.setTok nx n1) w') := by
    refine ⟨Nat.le_succ _, fun i hi => muNew_lt hi, fun b i v ⟨⟨p1, p2, p3⟩, q1, q2⟩ => ⟨⟨by omega, fun id hid e => ?_, fun s m hs e => ?_⟩, ?_, q2⟩, fun b n ⟨c, e, f, q1, q2⟩ => ?_⟩
    · have hidlt := (old id (.inl hid)).2.2
      rw [muNew_lt hidlt] at e
      exact p2 id hid e
    · by_cases hsn : s = nx
      · subst hsn
        simp at hs; subst hs
        rw [muNew_nx] at e
        have := p3 t n0 (by simp) e
        omega
      · rw [Hp.tok_setTok_ne h0 n1 hsn] at hs
        have o := old s (.inr (by simp [hs]))
        rw [muNew_lt o.2.2] at e
        exact p3 s m (by rw [Hp.tok_setTok_ne h0 n0 o.2.1]; exact hs) e
    · by_cases hb : b = mu t
      · subst hb
        have hi := p3 t n0 (by simp) rfl
        rw [cell_of_row w' _ i vs' el (0, 0) hw, hkeep i hi]
        rw [cell_of_row w _ i vs el (0, 0) hh] at q1
        exact q1
      · rw [World.cell?_of_block (ho b hb)]; exact q1
    · by_cases hb : b = mu t
      · subst hb; rw [hh] at q1; cases q1; exact ⟨vs', _, _, hw, by omega⟩
      · exact ⟨c, e, f, by rw [ho b hb]; exact q1, q2⟩
  refine ⟨⟨fun i c e => ?_, fun s m e => ?_, fun i j a a' e => ?_, fun i hi => ?_, fun g c e => (r.glob g c e).mono le⟩,
    ⟨le, hos, htp, hout, by omega, fun b hb hn => ho b fun e => hn t hta e.symm, fun i a => ?_⟩, fr, fun j v hj hv h1 => ⟨⟨?_, fun id hid e => ?_, fun s m hs e => ?_⟩, ?_, h1⟩⟩
  · have o := old i (.inl (by simp only [Hp.box_setTok] at e; simp [e]))
    obtain ⟨k1, us, el', k2, k3, k4, k5⟩ := r.box i c e
    exact ⟨by omega, us, el', by rw [muNew_lt o.2.2, ho _ (mub i (.inl (by simp only [Hp.box_setTok] at e; simp [e])))]; exact k2, k3, k4, fun j hj hj' => (k5 j hj hj').mono le⟩
  · by_cases hs : s = nx
    · subst hs
      simp at e; subst e
      exact ⟨Nat.lt_succ_self _, vs', el, by rw [muNew_nx]; exact hw, hn1⟩
    · rw [Hp.tok_setTok_ne h0 n1 hs] at e
      have a : h0.alive s := .inr (by simp [e])
      have o := old s a
      obtain ⟨k1, us, el', k2, k3⟩ := r.tok s m (by rw [Hp.tok_setTok_ne h0 n0 o.2.1]; exact e)
      exact ⟨by omega, us, el', by rw [muNew_lt o.2.2, ho _ (mub s a)]; exact k2, k3⟩
  · rcases ali i a with b1 | hi <;> rcases ali j a' with b2 | hj
    · rw [muNew_lt (old i b1).2.2, muNew_lt (old j b2).2.2] at e; exact r.inj i j (old i b1).1 (old j b2).1 e
    · rw [muNew_lt (old i b1).2.2, hj, muNew_nx] at e; exact absurd e (mub i b1)
    · rw [muNew_lt (old j b2).2.2, hi, muNew_nx] at e; exact absurd e.symm (mub j b2)
    · rw [hi, hj]
  · have a : h0.alive i := .inl hi
    have o := old i a
    rw [Hp.tok_setTok_ne h0 n1 (by omega)]
    have := r.excl i hi
    rwa [Hp.tok_setTok_ne h0 n0 o.2.1] at this
  · rcases ali i a with b1 | hi
    · exact .inr ⟨i, (old i b1).1, (muNew_lt (old i b1).2.2).symm⟩
    · exact .inr ⟨t, hta, by rw [hi, muNew_nx]⟩
  · exact (Array.getElem?_eq_some_iff.1 hw).1
  · have a : h0.alive id := .inl hid
    rw [muNew_lt (old id a).2.2] at e; exact mub id a e
  · by_cases hsn : s = nx
    · subst hsn; simp at hs; omega
    · rw [Hp.tok_setTok_ne h0 n1 hsn] at hs
      have a : h0.alive s := .inr (by simp [hs])
      rw [muNew_lt (old s a).2.2] at e; exact absurd e (mub s a)
  · rw [cell_of_row w' _ j vs' el (0, 0) hw]; exact hv

theorem run_append_room' {w : World} (t ty e el : TypeId) (i : TypeInfo) (ht : P.underlying t = some (.slice e)) (hi : P.info? e = some i) (g sLen sCap : Nat) (cur : Array Value) (hg : w.heap[g]? = some (.cells cur el (0, 0)))
    (a : Addr) (m c : Nat) (news : List Value) (hl : news.length = m * i.size) (hnews : ∀ j u, news[j]? = some u → w.cell? (a.add j) = some u) (h1 : ∀ u ∈ news, u.oneCell' = true) (hroom : sLen + m ≤ sCap) (hfit : sLen * i.size + news.length ≤ cur.size) :
    (Builtin.append_ #[t, t] ty #[.slice (some ⟨g, 0, none⟩) sLen sCap, .slice (some a) m c]).run P w =
      .ok (.slice (some ⟨g, 0, none⟩) (sLen + m) sCap) (w.setRow g (cur.toList.take (sLen * i.size) ++ news ++ cur.toList.drop (sLen * i.size + news.length)).toArray) := by
  have hf := run_firstCells_some (P := P) w i.size m a m c news hl hnews
  have hst := run_storeCells_at P g (sLen * i.size) el news 0 cur w hg (by simpa using hfit) h1
  simp only [Nat.add_zero] at hst
  simp [Builtin.append_, run_underlying ht, sizeOf, typeInfo, hi, Builtin.lenOf, hroom, hf, Addr.add_lit, hst]

theorem a_append {s x : Operand} {t e : TypeId} {i : TypeInfo} {z : Value} {n by' : Nat} (ho : o.op = .call ⟨.builtin .append, #[s, x], #[t, t]⟩) (ht : P.underlying t = some (.slice e)) (hi : P.info? e = some i) (hz : i.zero = some z) (hsz : i.size = n) (hby : i.bytes = by') (hzs : z.cells.size = n)
    {h0 : Hp} {len m : Nat} {cs ds : List V} {v : V} {k : SK} (hv : ρ s = v) (hacc : Acc h0 n len cs v h) (hx : ρ x = .sl k n m ds) (hm : ds.length = m * n) (hn0 : 0 < n) (hb : (len + m) * by' ≤ 140737488355328) (h63 : len + m ≤ 9223372036854775807) (hone : (cv z).solid = true)
    {K : V → Hp → Prop} (kk : ∀ v' h', Acc h0 n (len + m) (cs ++ ds) v' h' → K v' h') : AStep P G o ρ h K := by
  intro mu nx w a _ r hr K' Q' hK
  have g1 := hr s (by simp [ho, Op.operands, Call.operands]); rw [hv] at g1
  have g2 := hr x (by simp [ho, Op.operands, Call.operands]); rw [hx] at g2
  subst hsz hby
  obtain ⟨hcl, hcase⟩ := hacc
  have hlen2 : (cs ++ ds).length = (len + m) * i.size := by simp [hcl, hm, Nat.add_mul]
  have wp_of : ∀ (u : Value) (w' : World), (Builtin.append_ #[t, t] o.type #[a.eval s, a.eval x]).run P w = .ok u w' → K' (a.put o.dst u) w' → o.wp P a w K' Q' := by
    intro u w' hrun hk
    unfold Oper.wp execOp
    simp only [ho, resolve, invoke, builtin, Sem.run_bind, Sem.run_pure, Result.andThen_ok, List.map_toArray, List.map_cons, List.map_nil, hrun]
    exact hk
  -- what is appended, as the model's cells
  have hdx : (ds = [] ∧ m = 0 ∧ a.eval x = .slice none 0 0) ∨ ∃ (b off cap : Nat) (f : Nat → Value), a.eval x = .slice (some ⟨b, off, none⟩) m cap ∧ (∀ j, j < ds.length → (env mu nx h w).imm b (off + j) (f j)) ∧ ∀ j (hj : j < ds.length), Rep (env mu nx h w) (f j) ds[j] := by
    rcases g2.sl_inv with ⟨e1, e2, e3, _⟩ | ⟨b, off, cap, f, e1, _, _, _, hm', h2'⟩
    · exact .inl ⟨e2, e3, e1⟩
    · exact .inr ⟨b, off, cap, f, e1, hm', h2'⟩
  by_cases hm0 : m = 0
  · -- nothing is appended: the slice as it was
    have hds : ds = [] := List.eq_nil_of_length_eq_zero (by rw [hm, hm0]; simp)
    subst hds
    have hsame : ∀ u, Rep (env mu nx h w) u v → ∃ b c, u = .slice b len c ∧ len ≤ c := by
      intro u hu
      rcases hcase with ⟨rfl, _, rfl, _⟩ | ⟨rfl, _⟩ | ⟨tk, _, rfl, _⟩
      · exact ⟨none, 0, hu.snil_inv, Nat.le_refl _⟩
      · rcases hu.sl_inv with ⟨e1, _, e3, _⟩ | ⟨b, off, cap, f, e1, _, hc, _⟩
        · exact ⟨none, 0, by rw [e3]; exact e1, by omega⟩
        · exact ⟨_, cap, e1, hc⟩
      · rcases hu.sl_inv with ⟨e1, _, e3, _⟩ | ⟨b, off, cap, f, e1, _, hc, _⟩
        · exact ⟨none, 0, by rw [e3]; exact e1, by omega⟩
        · exact ⟨_, cap, e1, hc⟩
    obtain ⟨b, c, e1, hc⟩ := hsame _ g1
    have hrun : (Builtin.append_ #[t, t] o.type #[a.eval s, a.eval x]).run P w = .ok (a.eval s) w := by
      have hx0 : ∃ b' c', a.eval x = .slice b' 0 c' := by
        rcases hdx with ⟨_, _, e⟩ | ⟨b', off, cap, f, e, _⟩
        · exact ⟨_, _, e⟩
        · exact ⟨_, _, by rw [e, hm0]⟩
      obtain ⟨b', c', e2⟩ := hx0
      rw [e1, e2]
      have hfc : (Builtin.firstCells i.size 0 (.slice b' 0 c')).run P w = .ok #[] w := by
        cases b' with
        | none => simp [Builtin.firstCells]
        | some b' => simp [Builtin.firstCells, loadCells, loadCellsFrom]
      cases b with
      | none => simp [Builtin.append_, run_underlying ht, sizeOf, typeInfo, hi, Builtin.lenOf, hc, hfc]
      | some b => simp [Builtin.append_, run_underlying ht, sizeOf, typeInfo, hi, Builtin.lenOf, hc, hfc, storeCells]
    refine wp_of _ _ hrun (hK _ v _ _ h _ (kk v h ?_) r g1 (.refl _ _ _ _))
    subst hm0
    simp only [List.append_nil, Nat.add_zero]
    exact ⟨hcl, hcase⟩
  -- something is appended
  obtain ⟨b, off, capx, f, ex, hxi, hxr⟩ : ∃ (b off cap : Nat) (f : Nat → Value), a.eval x = .slice (some ⟨b, off, none⟩) m cap ∧ (∀ j, j < ds.length → (env mu nx h w).imm b (off + j) (f j)) ∧ ∀ j (hj : j < ds.length), Rep (env mu nx h w) (f j) ds[j] := by
    rcases hdx with ⟨_, e, _⟩ | e
    · exact absurd e hm0
    · exact e
  let news : List Value := (List.range ds.length).map f
  have hnl : news.length = m * i.size := by simp [news, hm]
  have hnews : ∀ j u, news[j]? = some u → w.cell? ((⟨b, off, none⟩ : Addr).add j) = some u := fun j u hu => by
    obtain ⟨hj, rfl⟩ := List.getElem?_eq_some_iff.1 hu
    have hj' : j < ds.length := by simpa [news] using hj
    rw [add_mk]
    simpa [news] using (hxi j hj').2.1
  have hn1 : ∀ u ∈ news, u.oneCell' = true := fun u hu => by
    obtain ⟨j, hj, rfl⟩ := List.getElem_of_mem hu
    have hj' : j < ds.length := by simpa [news] using hj
    simpa [news] using (hxi j hj').2.2
  obtain ⟨z1, z2, z3⟩ := rep_cells (rep_cv (env mu nx h w) z) hone
  -- new memory
  have fresh : ∀ (olds : List Value), olds.length = len * i.size → (∀ u ∈ olds, u.oneCell' = true) → (∀ j (h1 : j < olds.length) (h2 : j < cs.length), Rep (env mu nx h w) olds[j] cs[j]) → ∀ oldCap, oldCap < len + m →
      HLe h h0 →
      (Builtin.append_ #[t, t] o.type #[a.eval s, a.eval x]).run P w = .ok (.slice (some ⟨w.heap.size, 0, none⟩) (len + m) (grownCap w (len + m) oldCap e)) (w.drew.alloc (.cells (olds.toArray ++ news.toArray ++ Builtin.zeroCells z.cells (grownCap w (len + m) oldCap e - (len + m))) e)) →
      o.wp P a w K' Q' := by
    intro olds hol ho1 hor oldCap hoc hle hrun
    have hC : len + m ≤ grownCap w (len + m) oldCap e := grownCap_ge w (len + m) oldCap e
    generalize grownCap w (len + m) oldCap e = C at hC hrun
    obtain ⟨vs, hvsd⟩ : ∃ vs : Array Value, olds.toArray ++ news.toArray ++ Builtin.zeroCells z.cells (C - (len + m)) = vs := ⟨_, rfl⟩
    rw [hvsd] at hrun
    have hvs : vs.size = C * i.size := by
      rw [← hvsd]
      simp only [Array.size_append, List.size_toArray, size_zeroCells, hzs, hol, hnl, ← Nat.add_mul]
      congr 1; omega
    have gr := Grows.drew_alloc w (.cells vs e)
    have hnew : (w.drew.alloc (.cells vs e)).heap[w.heap.size]? = some (.cells vs e (0, 0)) := heap_alloc_new w.drew _
    have hn : (cs ++ ds).length ≤ vs.size := by rw [hlen2, hvs]; exact Nat.mul_le_mul_right _ hC
    obtain ⟨r1, x1⟩ := r.newTok gr (b := w.heap.size) (Nat.le_refl _) hnew hn
    have hone' : ∀ j (_ : j < vs.size), vs[j].oneCell' = true := fun j hj => by
      subst hvsd
      simp only [Array.getElem_append] at hj ⊢
      split
      · split
        · simpa using ho1 _ (List.getElem_mem _)
        · simpa using hn1 _ (List.getElem_mem _)
      · simp only [Builtin.zeroCells, Array.getElem_map, Array.getElem_range]
        have hzp : 0 < z.cells.size := by omega
        rw [getElem!_pos z.cells _ (Nat.mod_lt _ hzp)]
        exact z2 _ _
    have fr := r.fresh
    have hh : HLe (h.setTok nx (cs ++ ds).length) (h0.setTok nx (cs ++ ds).length) := ⟨fun j c e => hle.box j c e, fun j c e => by
      by_cases hj : j = nx
      · subst hj; simpa using e
      · rw [Hp.tok_setTok_ne _ _ hj] at e ⊢; exact hle.tok j c e⟩
    refine wp_of _ _ hrun (hK _ (.sl (.own nx) i.size (len + m) (cs ++ ds)) _ _ (h0.setTok nx (cs ++ ds).length) _ (kk _ _ ⟨hlen2, .inr (.inr ⟨nx, ⟨?_, ?_⟩, rfl, rfl⟩)⟩) (hh.rel r1) ?_ (x1.trans hh.ext))
    · cases e1 : h0.box nx with
      | none => rfl
      | some c => have := hle.box nx c e1; rw [fr.1] at this; cases this
    · cases e1 : h0.tok nx with
      | none => rfl
      | some c => have := hle.tok nx c e1; rw [fr.2] at this; cases this
    · refine (Rep.sl (E := env (muNew mu nx w.heap.size) (nx + 1) (h.setTok nx (cs ++ ds).length) (w.drew.alloc (.cells vs e))) (.own nx) w.heap.size 0 i.size (len + m) C (cs ++ ds) (fun j => vs.getD j undef) hlen2 hC ⟨Nat.lt_succ_self _, muNew_nx.symm, rfl, vs, e, (0, 0), hnew, by rw [hvs]; exact Nat.le_refl _⟩ (fun j hj => ?_) (fun j hj => ?_)).mono (hh.env _ _ _)
      · have := imm_tok r (w' := w.drew.alloc (.cells vs e)) (b := w.heap.size) (Nat.le_refl _) hnew hone' hn hj
        have hj' : j < vs.size := by omega
        simpa [Array.getD, hj'] using this
      · have hj' : j < vs.size := by omega
        refine Rep.mono x1.le ?_
        rw [Array.getD_eq_getD_getElem?]
        by_cases hjc : j < cs.length
        · have hjo : j < olds.length := by omega
          have e1 : vs[j]? = some olds[j] := by
            rw [← hvsd, Array.getElem?_append_left (by simp; omega), Array.getElem?_append_left (by simp; omega)]
            simp [hjo]
          rw [e1, List.getElem_append_left hjc]
          exact hor _ _ _
        · have hjd : j - cs.length < ds.length := by simp at hj; omega
          have e1 : vs[j]? = some (f (j - cs.length)) := by
            rw [← hvsd, Array.getElem?_append_left (by simp [hnl, hol, ← Nat.add_mul]; omega), Array.getElem?_append_right (by simp; omega)]
            simp [news, hol, ← hcl, hjd]
          rw [e1, List.getElem_append_right (by omega)]
          exact hxr _ _
  rcases hcase with ⟨rfl, rfl, rfl, rfl⟩ | ⟨rfl, rfl⟩ | ⟨tk, hft, rfl, rfl⟩
  · -- nothing yet
    have hrun := run_append_nil (P := P) w t o.type e i z ht hi hz ⟨b, off, none⟩ m capx news hnl hnews (by omega) (by omega) (by have := hb; simp only [Nat.zero_add] at this; omega)
    refine fresh [] (by simp) (by simp) (fun j hj => by simp at hj) 0 (by omega) (.refl _) ?_
    rw [g1.snil_inv, ex, hrun]
    simp
  · -- no room
    rcases g1.sl_inv with ⟨e1, e2, e3, _⟩ | ⟨bs, offs, cap, fs, e1, _, _, hk, hsi, hsr⟩
    · subst e2 e3
      have hrun := run_append_nil (P := P) w t o.type e i z ht hi hz ⟨b, off, none⟩ m capx news hnl hnews (by omega) (by omega) (by have := hb; simp only [Nat.zero_add] at this; omega)
      refine fresh [] (by simp) (by simp) (fun j hj => by simp at hj) 0 (by omega) (.refl _) ?_
      rw [e1, ex, hrun]
      simp
    · have hk' : cap = len := hk
      subst hk'
      refine fresh ((List.range cs.length).map fs) (by simp [hcl]) (fun u hu => ?_) (fun j hj hj2 => ?_) cap (by omega) (.refl _) ?_
      · obtain ⟨j, hj, rfl⟩ := List.getElem_of_mem hu
        have hj' : j < cs.length := by simpa using hj
        simpa using (hsi j hj').2.2
      · simpa using hsr j hj2
      · rw [e1, ex]
        exact run_append_grow (P := P) w t o.type e i z ht hi hz ⟨bs, offs, none⟩ cap cap _ (by simp [hcl]) (fun j u hu => by
          obtain ⟨hj, rfl⟩ := List.getElem?_eq_some_iff.1 hu
          have hj' : j < cs.length := by simpa using hj
          rw [add_mk]; simpa using (hsi j hj').2.1) ⟨b, off, none⟩ m capx news hnl hnews (by omega) (by omega) (growslice_fits (by omega) hb)
  · -- the owner
    rcases g1.sl_inv with ⟨_, _, _, e4⟩ | ⟨bs, offs, cap, fs, e1, _, hlc, hk, hsi, hsr⟩
    · rcases e4 with e4 | e4 <;> cases e4
    · obtain ⟨k1, k2, k3, k4⟩ := hk
      subst k3
      have hbs : bs = mu tk := k2
      subst hbs
      by_cases hroom : len + m ≤ cap
      · obtain ⟨c1, cur, el, c2, c3⟩ := r.tok tk cs.length (by simp)
        have hcur : cap * i.size ≤ cur.size := by
          obtain ⟨cs', el', fr', q1, q2⟩ := k4
          rw [c2] at q1; cases q1; exact q2
        have hfit : len * i.size + news.length ≤ cur.size := by
          rw [hnl, ← Nat.add_mul]; exact Nat.le_trans (Nat.mul_le_mul_right _ hroom) hcur
        have hrun := run_append_room' (P := P) (w := w) t o.type e el i ht hi (mu tk) len cap cur c2 ⟨b, off, none⟩ m capx news hnl hnews hn1 hroom hfit
        let vs' : Array Value := (cur.toList.take (len * i.size) ++ news ++ cur.toList.drop (len * i.size + news.length)).toArray
        have hvs' : vs'.size = cur.size := by simp [vs']; omega
        have hget : ∀ j, vs'[j]? = if j < len * i.size then cur[j]? else if j < len * i.size + news.length then news[j - len * i.size]? else cur[j]? := by
          intro j
          simp only [vs', List.getElem?_toArray, List.append_assoc]
          rw [List.getElem?_append]
          have hlt : (cur.toList.take (len * i.size)).length = len * i.size := by simp; omega
          rw [hlt]
          by_cases d1 : j < len * i.size
          · rw [if_pos d1, if_pos d1, List.getElem?_take, if_pos d1, Array.getElem?_toList]
          · rw [if_neg d1, if_neg d1, List.getElem?_append]
            by_cases d2 : j < len * i.size + news.length
            · rw [if_pos (by omega), if_pos d2]
            · rw [if_neg (by omega), if_neg d2, List.getElem?_drop, Array.getElem?_toList]
              congr 1; omega
        obtain ⟨r1, x1, fr, im⟩ := Rel.inPlace hft r c2 (w' := w.setRow (mu tk) vs') (vs' := vs') (setRow_heap w _ _ _ _ _ c2) (fun b' hb' => setRow_other w _ b' _ hb') (by simp) hvs' rfl rfl rfl (n1 := (cs ++ ds).length)
          (fun j hj => by rw [hget, if_pos (by omega)]) (by simp) (by rw [hlen2, hvs']; exact Nat.le_trans (Nat.mul_le_mul_right _ hroom) hcur)
        refine wp_of _ _ (by rw [e1, ex]; exact hrun) (hK _ (.sl (.own nx) i.size (len + m) (cs ++ ds)) _ _ (h0.setTok nx (cs ++ ds).length) _ (kk _ _ ⟨hlen2, .inr (.inr ⟨nx, fr, rfl, rfl⟩)⟩) r1 ?_ x1)
        have hcell : ∀ j (hj : j < (cs ++ ds).length), ∃ u, vs'[j]? = some u ∧ u.oneCell' = true ∧ Rep (env mu nx (h0.setTok tk cs.length) w) u (cs ++ ds)[j] := fun j hj => by
          by_cases hjc : j < cs.length
          · have hc := (hsi j hjc).2.1
            rw [Nat.zero_add, cell_of_row w _ j cur el (0, 0) c2] at hc
            refine ⟨fs j, by rw [hget, if_pos (by omega)]; exact hc, (hsi j hjc).2.2, ?_⟩
            rw [List.getElem_append_left hjc]; exact hsr j hjc
          · have hjd : j - cs.length < ds.length := by simp at hj; omega
            refine ⟨f (j - cs.length), ?_, (hxi _ hjd).2.2, ?_⟩
            · rw [hget, if_neg (by omega), if_pos (by omega)]
              simp [news, ← hcl, hjd]
            · rw [List.getElem_append_right (by omega)]; exact hxr _ hjd
        have capok : (env (muNew mu nx (mu tk)) (nx + 1) (h0.setTok nx (cs ++ ds).length) (w.setRow (mu tk) vs')).cap (mu tk) (cap * i.size) := ⟨vs', el, (0, 0), setRow_heap w _ _ _ _ _ c2, by omega⟩
        refine Rep.sl (.own nx) (mu tk) 0 i.size (len + m) cap (cs ++ ds) (fun j => vs'.getD j undef) hlen2 hroom ⟨Nat.lt_succ_self _, muNew_nx.symm, rfl, capok⟩ (fun j hj => ?_) (fun j hj => ?_)
        · obtain ⟨u, hu, h1, _⟩ := hcell j hj
          rw [Nat.zero_add, Array.getD_eq_getD_getElem?, hu]
          exact im j u hj hu h1
        · obtain ⟨u, hu, _, hr'⟩ := hcell j hj
          rw [Array.getD_eq_getD_getElem?, hu]
          exact hr'.mono x1.le
      · refine fresh ((List.range cs.length).map fs) (by simp [hcl]) (fun u hu => ?_) (fun j hj hj2 => ?_) cap (by omega) (.setTok hft.2) ?_
        · obtain ⟨j, hj, rfl⟩ := List.getElem_of_mem hu
          have hj' : j < cs.length := by simpa using hj
          simpa using (hsi j hj').2.2
        · simpa using hsr j hj2
        · rw [e1, ex]
          exact run_append_grow (P := P) w t o.type e i z ht hi hz ⟨mu tk, 0, none⟩ len cap _ (by simp [hcl]) (fun j u hu => by
            obtain ⟨hj, rfl⟩ := List.getElem?_eq_some_iff.1 hu
            have hj' : j < cs.length := by simpa using hj
            rw [add_mk]; simpa using (hsi j hj').2.1) ⟨b, off, none⟩ m capx news hnl hnews (by omega) (by omega) (growslice_fits (by omega) hb)

end
end Go.AV
/- The abstract walk, sixth part: regions that draw their order. -/
namespace Go.AV
section
variable {P : Program} {G : Nat → Option (List V)} {N : Nat} {Q : Post} {T : Tm} {h : Hp} {ops : Array Oper}

def putD (T : Tm) (d : Option Nat) (v : V) : Tm := match d with | some d => put T d v | none => T

/-- What an operation does in a region. 'keep': it leaves all boxes and rows that are there. -/
def aOp (P : Program) (G : Nat → Option (List V)) (ops : Array Oper) (loose : List Nat) (i : Nat) (K : Tm → Hp → Prop) (T : Tm) (h : Hp) : Prop :=
  match ops[i]? with
  | none => K T h
  | some o =>
    match wantedA ops o T with
    | some c => (c = true → AStep P G o (ev G T) h fun x h' => K (putD T o.dst x) h' ∧ (loose.contains i = false → HLe h' h)) ∧ (c = false → ∃ y, (∀ E, Rep E undef y) ∧ K (putD T o.dst y) h)
    | none => False

def AAny (P : Program) (G : Nat → Option (List V)) (ops : Array Oper) (loose : List Nat) (Q : Tm → Hp → Prop) : Nat → Array Bool → Tm → Hp → Prop
  | 0, listed, T, h => Region.ready .any ops listed = [] ∧ Q T h
  | fuel + 1, listed, T, h => (Region.ready .any ops listed = [] → Q T h) ∧ ∀ i ∈ Region.ready .any ops listed, aOp P G ops loose i (AAny P G ops loose Q fuel (listed.setIfInBounds i true)) T h

def dstsOk (N : Nat) (ops : Array Oper) : Bool := ops.all fun o => match o.dst with | some d => Nat.blt d N | none => true
theorem dstsOk_spec (hd : dstsOk N ops = true) {i : Nat} {o : Oper} (hi : ops[i]? = some o) : ∀ t, o.dst = some t → t < N := fun t ht => by
  have := Array.all_eq_true_iff_forall_mem.1 hd o (Array.mem_of_getElem? hi)
  rw [ht] at this
  exact Nat.blt_eq.mp this

theorem St.putD {mu nx w a mu' nx' h' w'} (s : St G N mu nx h w a T) (he : Ext mu nx h w mu' nx' h' w') (r : Rel G mu' nx' h' w') {d : Option Nat} (hd : ∀ t, d = some t → t < N) {v : Value} {x : V} (hv : Rep (env mu' nx' h' w') v x) :
    St G N mu' nx' h' w' (a.put d v) (putD T d x) := by
  have := s.put he r hd hv
  cases d <;> exact this

theorem wpAny_of_AAny (hd : dstsOk N ops = true) {loose : List Nat} {Qn : Tm → Hp → Prop} : ∀ (fuel : Nat) (listed : Array Bool) (T : Tm) (h : Hp), AAny P G ops loose Qn fuel listed T h →
    ∀ mu nx w a, St G N mu nx h w a T → ∀ Q' : Exit → Act → World → Prop, (∀ a' w' mu' nx' h' T', Qn T' h' → St G N mu' nx' h' w' a' T' → Ext mu nx h w mu' nx' h' w' → Q' .normal a' w') → wpAny P .any ops Q' fuel listed a w
  | 0, _, T, h, k, mu, nx, w, a, s, Q', hQ => ⟨k.1, hQ a w mu nx h T k.2 s (.refl _ _ _ _)⟩
  | fuel + 1, listed, T, h, k, mu, nx, w, a, s, Q', hQ => ⟨fun h0 => hQ a w mu nx h T (k.1 h0) s (.refl _ _ _ _), fun i hi => by
      have hk := k.2 i hi
      unfold aOp at hk
      unfold wpOp
      cases ho : ops[i]? with
      | none =>
        simp only [ho] at hk ⊢
        exact wpAny_of_AAny hd fuel _ T h hk mu nx w a s Q' hQ
      | some o =>
        simp only [ho] at hk ⊢
        cases hw : wantedA ops o T with
        | none => rw [hw] at hk; exact hk.elim
        | some b =>
          rw [hw] at hk
          have hwc := wantedA_spec s hw
          cases b with
          | true =>
            rw [if_pos hwc]
            refine .inl (hk.1 rfl mu nx w a s.defers s.rel (fun y _ => s.ev y) _ _ fun v x mu' nx' h' w' ⟨kk, _⟩ r hv e => ?_)
            exact wpAny_of_AAny hd fuel _ _ h' kk mu' nx' w' _ (s.putD e r (dstsOk_spec hd ho) hv) Q' fun a2 w2 mu2 nx2 h2 T2 q s2 e2 => hQ a2 w2 mu2 nx2 h2 T2 q s2 (e.trans e2)
          | false =>
            rw [if_neg (by simp [hwc])]
            obtain ⟨y, hy, hk'⟩ := hk.2 rfl
            exact wpAny_of_AAny hd fuel _ _ h hk' mu nx w _ (s.putD (.refl _ _ _ _) s.rel (dstsOk_spec hd ho) (hy _)) Q' hQ⟩

theorem ev_put {d : Option Nat} {v : V} {x : Operand} (hx : ∀ t, d = some t → x ≠ .tmp t) : ev G (putD T d v) x = ev G T x := by
  cases d with
  | none => rfl
  | some d =>
    cases x with
    | tmp t =>
      have hne : t ≠ d := fun e => hx d rfl (by rw [e])
      exact put_ne _ _ hne
    | _ => rfl
theorem putD_comm (T : Tm) {x y : Option Nat} (v u : V) (hne : ∀ d, x = some d → y ≠ some d) : putD (putD T x v) y u = putD (putD T y u) x v := by
  cases x with
  | none => rfl
  | some d =>
    cases y with
    | none => rfl
    | some e =>
      have hde : d ≠ e := fun h => hne d rfl (by rw [h])
      funext i
      simp only [putD]
      by_cases h1 : i = d
      · subst h1; rw [put_ne _ _ hde, put_same, put_same]
      · by_cases h2 : i = e
        · subst h2; rw [put_same, put_ne _ _ h1, put_same]
        · rw [put_ne _ _ h2, put_ne _ _ h1, put_ne _ _ h1, put_ne _ _ h2]

theorem wantedA_put {o : Oper} {d : Option Nat} {v : V} (hx : ∀ t, d = some t → t ∉ o.looksAt ops) : wantedA ops o (putD T d v) = wantedA ops o T := by
  unfold wantedA
  cases hg : o.guard with
  | none => rfl
  | some g =>
    obtain ⟨j, want⟩ := g
    simp only
    cases e : (ops[j]?).bind (·.dst) with
    | none => rfl
    | some t =>
      cases d with
      | none => rfl
      | some d =>
        have hne : t ≠ d := fun h => hx d rfl (by subst h; simp [Oper.looksAt, hg, e])
        simp only [putD, put_ne _ _ hne]

theorem AStep_put {o : Oper} {d : Option Nat} {v : V} {K : V → Hp → Prop} (hx : ∀ t, d = some t → t ∉ o.looksAt ops) (k : AStep P G o (ev G (putD T d v)) h K) : AStep P G o (ev G T) h K :=
  k.congr fun y hy => (ev_put fun t ht e => hx t ht (by subst e; exact List.mem_append_left _ (List.mem_filterMap.2 ⟨.tmp t, by simpa using hy, rfl⟩))).symm
theorem AStep_put' {o : Oper} {d : Option Nat} {v : V} {K : V → Hp → Prop} (hx : ∀ t, d = some t → t ∉ o.looksAt ops) (k : AStep P G o (ev G T) h K) : AStep P G o (ev G (putD T d v)) h K :=
  k.congr fun y hy => ev_put fun t ht e => hx t ht (by subst e; exact List.mem_append_left _ (List.mem_filterMap.2 ⟨.tmp t, by simpa using hy, rfl⟩))

/-- What operation 'o' yields, quietly, here and in every larger memory: 'x' tells it, whether it is wanted or not. -/
def QYield (P : Program) (G : Nat → Option (List V)) (ops : Array Oper) (o : Oper) (x : V) (T : Tm) (h : Hp) : Prop :=
  ∃ c, wantedA ops o T = some c ∧ (c = true → QOp P G h o (ev G T) x) ∧ (c = false → ∀ E, Rep E undef x)

theorem QOp.up {o : Oper} {ρ : Operand → V} {x : V} {h' : Hp} (q : QOp P G h o ρ x) (hl : HLe h' h) : QOp P G h' o ρ x := fun h2 l2 => q h2 (l2.trans hl)

theorem QYield.put {o o2 : Oper} {x v : V} (y : QYield P G ops o x T h) (hx : ∀ t, o2.dst = some t → t ∉ o.looksAt ops) : QYield P G ops o x (putD T o2.dst v) h := by
  obtain ⟨c, y1, y2, y3⟩ := y
  exact ⟨c, by rw [wantedA_put hx]; exact y1, fun hc h' hl => AStep_put' hx (y2 hc h' hl), y3⟩
theorem QYield.up {o : Oper} {x : V} {h' : Hp} (y : QYield P G ops o x T h) (hl : HLe h' h) : QYield P G ops o x T h' := by
  obtain ⟨c, y1, y2, y3⟩ := y
  exact ⟨c, y1, fun hc => (y2 hc).up hl, y3⟩
/-- .. and whether it holds whatever the memory is. -/
def QY (P : Program) (G : Nat → Option (List V)) (ops : Array Oper) (p : Bool) (o : Oper) (x : V) (T : Tm) (h : Hp) : Prop := QYield P G ops o x T h ∧ (p = true → ∀ h', QYield P G ops o x T h')
theorem QYield.aOp {i : Nat} {o : Oper} {x : V} {loose : List Nat} {K : Tm → Hp → Prop} (hi : ops[i]? = some o) (y : QYield P G ops o x T h) (k : K (putD T o.dst x) h) : aOp P G ops loose i K T h := by
  unfold Go.AV.aOp
  simp only [hi]
  obtain ⟨c, y1, y2, y3⟩ := y
  rw [y1]
  refine ⟨fun hc => (y2 hc h (.refl _)).mono fun z h' ⟨e1, e2⟩ => ?_, fun hc => ⟨x, y3 hc, k⟩⟩
  subst e1; subst e2
  exact ⟨k, fun _ => .refl _⟩

theorem aOp_mono {i : Nat} {loose : List Nat} {K K' : Tm → Hp → Prop} (hk : ∀ T h, K T h → K' T h) (a : aOp P G ops loose i K T h) : aOp P G ops loose i K' T h := by
  unfold aOp at *
  split
  · rename_i e; simp only [e] at a; exact hk _ _ a
  · rename_i o e
    simp only [e] at a
    split
    · rename_i hw; rw [hw] at a
      exact ⟨fun hc => (a.1 hc).mono fun x h' ⟨k1, k2⟩ => ⟨hk _ _ k1, k2⟩, fun hc => let ⟨y, y1, y2⟩ := a.2 hc; ⟨y, y1, hk _ _ y2⟩⟩
    · rename_i hw; rw [hw] at a; exact a

theorem aOp_put {j : Nat} {oi oj : Oper} {x : V} {loose : List Nat} {p : Bool} (hj : ops[j]? = some oj) (hap : oi.apart ops oj = true) (hlo : loose.contains j = false ∨ p = true) {K : Tm → Hp → Prop} (y : QY P G ops p oi x T h)
    (k : aOp P G ops loose j K (putD T oi.dst x) h) : aOp P G ops loose j (fun T' h' => QY P G ops p oi x T' h' ∧ K (putD T' oi.dst x) h') T h := by
  obtain ⟨h1, h2, h3⟩ := Oper.apart_spec hap
  unfold aOp at *
  simp only [hj] at *
  rw [wantedA_put h1] at k
  split
  · rename_i hw
    rw [hw] at k
    have hy : ∀ z h', (loose.contains j = false → HLe h' h) → QY P G ops p oi x (putD T oj.dst z) h' := fun z h' k2 =>
      ⟨by
        rcases hlo with e | e
        · exact (y.1.up (k2 e)).put h3
        · exact (y.2 e h').put h3, fun e h'' => (y.2 e h'').put h3⟩
    refine ⟨fun hc => (AStep_put h1 (k.1 hc)).mono fun z h' ⟨k1, k2⟩ => ⟨⟨hy z h' k2, ?_⟩, k2⟩, fun hc => ?_⟩
    · rw [← putD_comm T x z h2]; exact k1
    · obtain ⟨z, z1, z2⟩ := k.2 hc
      refine ⟨z, z1, hy z h (fun _ => .refl _), ?_⟩
      rw [← putD_comm T x z h2]; exact z2
  · rename_i hw; rw [hw] at k; exact k

theorem AAny.first {loose : List Nat} {p : Bool} {Qn : Tm → Hp → Prop} {i : Nat} {oi : Oper} {x : V} (hi : ops[i]? = some oi) : ∀ (fuel : Nat) (listed : Array Bool) (T : Tm) (h : Hp),
    (∀ j oj, ops[j]? = some oj → j ≠ i → listed.getD j true = false → (∀ e ∈ oj.after, Region.binds .any e = true → e.on ≠ i) → oi.apart ops oj = true ∧ (loose.contains j = false ∨ p = true)) →
    i ∈ Region.ready .any ops listed → QY P G ops p oi x T h → AAny P G ops loose Qn fuel (listed.setIfInBounds i true) (putD T oi.dst x) h → AAny P G ops loose Qn (fuel + 1) listed T h := by
  intro fuel
  induction fuel with
  | zero =>
    intro listed T h _ hr hy H
    refine ⟨fun h0 => (by rw [h0] at hr; cases hr), fun j hj => ?_⟩
    by_cases hji : j = i
    · subst hji; exact hy.1.aOp hi H
    · have := ready_mono hj hji
      rw [H.1] at this
      cases this
  | succ fuel ih =>
    intro listed T h hfree hr hy H
    refine ⟨fun h0 => (by rw [h0] at hr; cases hr), fun j hj => ?_⟩
    by_cases hji : j = i
    · subst hji; exact hy.1.aOp hi H
    · have h1 := H.2 j (ready_mono hj hji)
      obtain ⟨hjun, oj, hoj, hall⟩ := mem_ready.1 hj
      have hnot : ∀ e ∈ oj.after, Region.binds .any e = true → e.on ≠ i := fun e he hb heq => by
        have h1 := hall e he hb
        have h0 := (mem_ready.1 hr).1
        rw [heq] at h1
        rcases Nat.lt_or_ge i listed.size with h' | h'
        · simp [h'] at h0 h1; rw [h0] at h1; cases h1
        · simp [Array.getElem?_eq_none h'] at h1
      obtain ⟨hap, hlo⟩ := hfree j oj hoj hji hjun hnot
      have h2 := aOp_put hoj hap hlo hy h1
      have hfree' : ∀ k ok, ops[k]? = some ok → k ≠ i → (listed.setIfInBounds j true).getD k true = false →
          (∀ e ∈ ok.after, Region.binds .any e = true → e.on ≠ i) → oi.apart ops ok = true ∧ (loose.contains k = false ∨ p = true) := fun k ok hk hki hun hno => by
        refine hfree k ok hk hki ?_ hno
        by_cases hjk : j = k
        · subst hjk; exact hjun
        · rw [getD_set_ne true hjk] at hun; exact hun
      refine aOp_mono (fun T' h' ⟨y', k'⟩ => ih (listed.setIfInBounds j true) T' h' hfree' (ready_mono hr (Ne.symm hji)) y' ?_) h2
      rw [Array.setIfInBounds_comm _ _ hji]
      exact k'

/-- Each entry: an operation, and whether it is taken first (else it is the only one that may come up). -/
def freeA (ops : Array Oper) (loose pures : List Nat) (listed : Array Bool) (i : Nat) : Bool :=
  match ops[i]? with
  | none => false
  | some oi => (List.range ops.size).all fun j => j == i || listed.getD j true || match ops[j]? with
      | some oj => oj.after.any (fun e => Region.binds .any e && e.on == i) || (oi.apart ops oj && (!loose.contains j || pures.contains i))
      | none => true
def ordOk (ops : Array Oper) (loose pures : List Nat) : List (Nat × Bool) → Array Bool → Bool
  | [], listed => (Region.ready .any ops listed).isEmpty
  | (i, true) :: rest, listed => (Region.ready .any ops listed).contains i && freeA ops loose pures listed i && ordOk ops loose pures rest (listed.setIfInBounds i true)
  | (i, false) :: rest, listed => (Region.ready .any ops listed == [i]) && ordOk ops loose pures rest (listed.setIfInBounds i true)

def AOrd (P : Program) (G : Nat → Option (List V)) (ops : Array Oper) (loose pures : List Nat) (Q : Tm → Hp → Prop) : List (Nat × Bool) → Tm → Hp → Prop
  | [], T, h => Q T h
  | (i, true) :: rest, T, h => ∃ o x, ops[i]? = some o ∧ QY P G ops (pures.contains i) o x T h ∧ AOrd P G ops loose pures Q rest (putD T o.dst x) h
  | (i, false) :: rest, T, h => aOp P G ops loose i (AOrd P G ops loose pures Q rest) T h

theorem AAny_of_AOrd {loose pures : List Nat} {Qn : Tm → Hp → Prop} : ∀ (l : List (Nat × Bool)) (listed : Array Bool) (T : Tm) (h : Hp), ordOk ops loose pures l listed = true → AOrd P G ops loose pures Qn l T h → AAny P G ops loose Qn l.length listed T h
  | [], listed, T, h, hk, k => ⟨by simpa [ordOk] using hk, k⟩
  | (i, true) :: l, listed, T, h, hk, k => by
    simp only [ordOk, Bool.and_eq_true] at hk
    obtain ⟨⟨hr, hf⟩, hk'⟩ := hk
    obtain ⟨o, x, hi, hy, k'⟩ := k
    refine AAny.first hi l.length listed T h (fun j oj hj hne hun hno => ?_) (by simpa using hr) hy (AAny_of_AOrd l _ _ h hk' k')
    simp only [freeA, hi, List.all_eq_true, List.mem_range] at hf
    have h1 := hf j (Array.getElem?_eq_some_iff.1 hj).1
    simp only [hj, Bool.or_eq_true, beq_iff_eq, hne, false_or, hun, Bool.false_eq_true] at h1
    rcases h1 with h1 | h1
    · obtain ⟨e, he, hb⟩ := Array.any_eq_true'.1 h1
      simp only [Bool.and_eq_true, beq_iff_eq] at hb
      exact absurd hb.2 (hno e he hb.1)
    · simpa using h1
  | (i, false) :: l, listed, T, h, hk, k => by
    simp only [ordOk, Bool.and_eq_true, beq_iff_eq] at hk
    obtain ⟨hr, hk'⟩ := hk
    refine ⟨fun h0 => absurd (hr ▸ h0) (by simp), fun j hj => ?_⟩
    rw [hr] at hj
    have : j = i := by simpa using hj
    subst this
    exact aOp_mono (fun T' h' k' => AAny_of_AOrd l _ T' h' hk' k') k

/-- A REGION THAT DRAWS ITS ORDER: one walk in the order 'ord' serves every order. -/
theorem AW.draw {id : Nat} (loose pures : List Nat) (ord : List (Nat × Bool)) (hm : P.follows .mixedOrders = true) (hd : dstsOk N ops = true) (hl : ord.length = ops.size) (hk : ordOk ops loose pures ord (Array.replicate ops.size false) = true)
    (k : AOrd P G ops loose pures (Q .normal) ord T h) : AW P G N (.region id ops true) Q T h := by
  intro mu nx w a s
  refine wp_region_any hm ?_
  have g : Grows w { w with drawn := w.drawn + 1 } := ⟨rfl, rfl, rfl, Nat.le_refl _, fun _ _ => rfl⟩
  obtain ⟨r1, x1⟩ := s.rel.grows_same g
  have s1 : St G N mu nx h { w with drawn := w.drawn + 1 } a T := ⟨r1, s.defers, s.size, fun i => (s.tmps i).mono x1.le⟩
  have k2 := AAny_of_AOrd (P := P) (G := G) ord _ T h hk k
  rw [hl] at k2
  exact wpAny_of_AAny hd ops.size _ T h k2 mu nx _ a s1 _ fun a' w' mu' nx' h' T' q s' e => ⟨mu', nx', h', T', q, s', x1.trans e⟩

theorem AOrd.nil {loose pures : List Nat} {Qn : Tm → Hp → Prop} (k : Qn T h) : AOrd P G ops loose pures Qn [] T h := k
theorem AOrd.q {loose pures : List Nat} {Qn : Tm → Hp → Prop} {i : Nat} {o : Oper} {rest : List (Nat × Bool)} {x : V} {d : Nat} (hp : pures.contains i = false) (hi : ops[i]? = some o) (hg : o.guard = none) (hdst : o.dst = some d) (hq : QOp P G h o (ev G T) x)
    (k : AOrd P G ops loose pures Qn rest (put T d x) h) : AOrd P G ops loose pures Qn ((i, true) :: rest) T h :=
  ⟨o, x, hi, ⟨⟨true, by simp [wantedA, hg], fun _ => hq, (fun e => by cases e)⟩, fun e => by rw [hp] at e; cases e⟩, by rw [hdst]; exact k⟩
/-- .. whatever the memory is. -/
theorem AOrd.p {loose pures : List Nat} {Qn : Tm → Hp → Prop} {i : Nat} {o : Oper} {rest : List (Nat × Bool)} {x : V} {d : Nat} (hi : ops[i]? = some o) (hg : o.guard = none) (hdst : o.dst = some d) (hq : ∀ h, QOp P G h o (ev G T) x)
    (k : AOrd P G ops loose pures Qn rest (put T d x) h) : AOrd P G ops loose pures Qn ((i, true) :: rest) T h :=
  have y : ∀ h, QYield P G ops o x T h := fun h => ⟨true, by simp [wantedA, hg], fun _ => hq h, (fun e => by cases e)⟩
  ⟨o, x, hi, ⟨y h, fun _ => y⟩, by rw [hdst]; exact k⟩
theorem AOrd.g {loose pures : List Nat} {Qn : Tm → Hp → Prop} {i : Nat} {o : Oper} {rest : List (Nat × Bool)} {x : V} {d : Nat} {c : Bool} {Tr : Tm} (hp : pures.contains i = false) (hi : ops[i]? = some o) (hw : wantedA ops o T = some c) (hdst : o.dst = some d) (hTr : c = true → TLe T Tr) (hq : c = true → QOp P G h o (ev G Tr) x)
    (k : AOrd P G ops loose pures Qn rest (put T d (.opt c x)) h) : AOrd P G ops loose pures Qn ((i, true) :: rest) T h :=
  ⟨o, .opt c x, hi, ⟨⟨c, hw, fun hc h' hl mu nx w a hd r hr K Q' hK => ((hq hc).le (ev_le (hTr hc))) h' hl mu nx w a hd r hr K Q' fun v y mu' nx' h2 w' ⟨e1, e2⟩ r' hv e => by
      subst e1; subst hc
      exact hK v _ mu' nx' h2 w' ⟨rfl, e2⟩ r' (.optT _ _ hv) e, fun hc E => by subst hc; exact .optF _⟩, fun e => by rw [hp] at e; cases e⟩, by rw [hdst]; exact k⟩
theorem AOrd.s {loose pures : List Nat} {Qn : Tm → Hp → Prop} {i : Nat} {o : Oper} {rest : List (Nat × Bool)} {d : Nat} (hi : ops[i]? = some o) (hw : wantedA ops o T = some true) (hlo : loose.contains i = true) (hdst : o.dst = some d)
    (k : AStep P G o (ev G T) h fun x h' => AOrd P G ops loose pures Qn rest (put T d x) h') : AOrd P G ops loose pures Qn ((i, false) :: rest) T h := by
  show aOp P G ops loose i (AOrd P G ops loose pures Qn rest) T h
  unfold aOp
  simp only [hi, hw]
  refine ⟨fun _ => k.mono fun x h' k => ⟨by rw [hdst]; exact k, fun e => by rw [hlo] at e; cases e⟩, fun e => by cases e⟩
theorem AOrd.s0 {loose pures : List Nat} {Qn : Tm → Hp → Prop} {i : Nat} {o : Oper} {rest : List (Nat × Bool)} (hi : ops[i]? = some o) (hw : wantedA ops o T = some true) (hlo : loose.contains i = true) (hdst : o.dst = none)
    (k : AStep P G o (ev G T) h fun _ h' => AOrd P G ops loose pures Qn rest T h') : AOrd P G ops loose pures Qn ((i, false) :: rest) T h := by
  show aOp P G ops loose i (AOrd P G ops loose pures Qn rest) T h
  unfold aOp
  simp only [hi, hw]
  refine ⟨fun _ => k.mono fun x h' k => ⟨by rw [hdst]; exact k, fun e => by rw [hlo] at e; cases e⟩, fun e => by cases e⟩
/-- One that leaves what is there (a new variable). -/
theorem AOrd.s' {loose pures : List Nat} {Qn : Tm → Hp → Prop} {i : Nat} {o : Oper} {rest : List (Nat × Bool)} {d : Nat} (hi : ops[i]? = some o) (hw : wantedA ops o T = some true) (hdst : o.dst = some d)
    (k : AStep P G o (ev G T) h fun x h' => AOrd P G ops loose pures Qn rest (put T d x) h' ∧ HLe h' h) : AOrd P G ops loose pures Qn ((i, false) :: rest) T h := by
  show aOp P G ops loose i (AOrd P G ops loose pures Qn rest) T h
  unfold aOp
  simp only [hi, hw]
  refine ⟨fun _ => k.mono fun x h' k => ⟨by rw [hdst]; exact k.1, fun _ => k.2⟩, fun e => by cases e⟩

/-- A quiet one that is the only one that may come up. -/
theorem AOrd.qf {loose pures : List Nat} {Qn : Tm → Hp → Prop} {i : Nat} {o : Oper} {rest : List (Nat × Bool)} {x : V} {d : Nat} (hi : ops[i]? = some o) (hg : o.guard = none) (hdst : o.dst = some d) (hq : QOp P G h o (ev G T) x)
    (k : AOrd P G ops loose pures Qn rest (put T d x) h) : AOrd P G ops loose pures Qn ((i, false) :: rest) T h :=
  AOrd.s' hi (by simp [wantedA, hg]) hdst ((hq h (.refl _)).mono fun y h' ⟨e1, e2⟩ => by subst e1; subst e2; exact ⟨k, .refl _⟩)

def listedAfter : List (Nat × Bool) → Array Bool → Array Bool
  | [], l => l
  | (i, _) :: r, l => listedAfter r (l.setIfInBounds i true)
def ordOk2 (ops : Array Oper) (loose pures : List Nat) : List (Nat × Bool) → Array Bool → Bool
  | [], _ => true
  | (i, true) :: rest, listed => (Region.ready .any ops listed).contains i && freeA ops loose pures listed i && ordOk2 ops loose pures rest (listed.setIfInBounds i true)
  | (i, false) :: rest, listed => (Region.ready .any ops listed == [i]) && ordOk2 ops loose pures rest (listed.setIfInBounds i true)
theorem AAny_of_AOrd2 {loose pures : List Nat} {Qn : Tm → Hp → Prop} {m : Nat} : ∀ (l : List (Nat × Bool)) (listed : Array Bool) (T : Tm) (h : Hp), ordOk2 ops loose pures l listed = true → AOrd P G ops loose pures (AAny P G ops loose Qn m (listedAfter l listed)) l T h → AAny P G ops loose Qn (m + l.length) listed T h
  | [], listed, T, h, _, k => k
  | (i, true) :: l, listed, T, h, hk, k => by
    simp only [ordOk2, Bool.and_eq_true] at hk
    obtain ⟨⟨hr, hf⟩, hk'⟩ := hk
    obtain ⟨o, x, hi, hy, k'⟩ := k
    refine AAny.first hi (m + l.length) listed T h (fun j oj hj hne hun hno => ?_) (by simpa using hr) hy (AAny_of_AOrd2 l _ _ h hk' k')
    simp only [freeA, hi, List.all_eq_true, List.mem_range] at hf
    have h1 := hf j (Array.getElem?_eq_some_iff.1 hj).1
    simp only [hj, Bool.or_eq_true, beq_iff_eq, hne, false_or, hun, Bool.false_eq_true] at h1
    rcases h1 with h1 | h1
    · obtain ⟨e, he, hb⟩ := Array.any_eq_true'.1 h1
      simp only [Bool.and_eq_true, beq_iff_eq] at hb
      exact absurd hb.2 (hno e he hb.1)
    · simpa using h1
  | (i, false) :: l, listed, T, h, hk, k => by
    simp only [ordOk2, Bool.and_eq_true, beq_iff_eq] at hk
    obtain ⟨hr, hk'⟩ := hk
    refine ⟨fun h0 => absurd (hr ▸ h0) (by simp), fun j hj => ?_⟩
    rw [hr] at hj
    have : j = i := by simpa using hj
    subst this
    exact aOp_mono (fun T' h' k' => AAny_of_AOrd2 l _ T' h' hk' k') k
theorem AW.draw2 {id : Nat} (loose pures : List Nat) (ord : List (Nat × Bool)) (m : Nat) (hm : P.follows .mixedOrders = true) (hd : dstsOk N ops = true) (hl : m + ord.length = ops.size) (hk : ordOk2 ops loose pures ord (Array.replicate ops.size false) = true)
    (k : AOrd P G ops loose pures (AAny P G ops loose (Q .normal) m (listedAfter ord (Array.replicate ops.size false))) ord T h) : AW P G N (.region id ops true) Q T h := by
  intro mu nx w a s
  refine wp_region_any hm ?_
  have g : Grows w { w with drawn := w.drawn + 1 } := ⟨rfl, rfl, rfl, Nat.le_refl _, fun _ _ => rfl⟩
  obtain ⟨r1, x1⟩ := s.rel.grows_same g
  have s1 : St G N mu nx h { w with drawn := w.drawn + 1 } a T := ⟨r1, s.defers, s.size, fun i => (s.tmps i).mono x1.le⟩
  have k2 := AAny_of_AOrd2 (P := P) (G := G) ord _ T h hk k
  rw [hl] at k2
  exact wpAny_of_AAny hd ops.size _ T h k2 mu nx _ a s1 _ fun a' w' mu' nx' h' T' q s' e => ⟨mu', nx', h', T', q, s', x1.trans e⟩
/-- The steps of such an end. -/
theorem AAny.one {loose : List Nat} {Qn : Tm → Hp → Prop} {m : Nat} {listed : Array Bool} (i : Nat) (hr : (Region.ready .any ops listed == [i]) = true) (k : aOp P G ops loose i (AAny P G ops loose Qn m (listed.setIfInBounds i true)) T h) : AAny P G ops loose Qn (m + 1) listed T h := by
  have hr : Region.ready .any ops listed = [i] := by simpa using hr
  refine ⟨fun e => (by rw [hr] at e; cases e), fun j hj => ?_⟩
  rw [hr] at hj
  have : j = i := by simpa using hj
  subst this; exact k
theorem AAny.two {loose : List Nat} {Qn : Tm → Hp → Prop} {m : Nat} {listed : Array Bool} (i j : Nat) (hr : (Region.ready .any ops listed == [i, j]) = true) (k : aOp P G ops loose i (AAny P G ops loose Qn m (listed.setIfInBounds i true)) T h)
    (k2 : aOp P G ops loose j (AAny P G ops loose Qn m (listed.setIfInBounds j true)) T h) : AAny P G ops loose Qn (m + 1) listed T h := by
  have hr : Region.ready .any ops listed = [i, j] := by simpa using hr
  refine ⟨fun e => (by rw [hr] at e; cases e), fun q hq => ?_⟩
  rw [hr] at hq
  rcases List.mem_cons.1 hq with e | e
  · subst e; exact k
  · have : q = j := by simpa using e
    subst this; exact k2
theorem AAny.fin {loose : List Nat} {Qn : Tm → Hp → Prop} {listed : Array Bool} (hr : (Region.ready .any ops listed).isEmpty = true) (k : Qn T h) : AAny P G ops loose Qn 0 listed T h := ⟨by simpa using hr, k⟩
theorem aOp.new {loose : List Nat} {K : Tm → Hp → Prop} {i : Nat} {o : Oper} {d : Nat} (hi : ops[i]? = some o) (hw : wantedA ops o T = some true) (hdst : o.dst = some d) (k : AStep P G o (ev G T) h fun x h' => K (put T d x) h' ∧ HLe h' h) : aOp P G ops loose i K T h := by
  unfold aOp; simp only [hi, hw]
  exact ⟨fun _ => k.mono fun x h' k => ⟨by rw [hdst]; exact k.1, fun _ => k.2⟩, fun e => by cases e⟩
theorem aOp.st {loose : List Nat} {K : Tm → Hp → Prop} {i : Nat} {o : Oper} (hi : ops[i]? = some o) (hw : wantedA ops o T = some true) (hlo : loose.contains i = true) (hdst : o.dst = none) (k : AStep P G o (ev G T) h fun _ h' => K T h') : aOp P G ops loose i K T h := by
  unfold aOp; simp only [hi, hw]
  exact ⟨fun _ => k.mono fun x h' k => ⟨by rw [hdst]; exact k, fun e => by rw [hlo] at e; cases e⟩, fun e => by cases e⟩

end
end Go.AV
/- The abstract walk, seventh part: the spellings that walks use. -/
namespace Go.AV
section
variable {P : Program} {G : Nat → Option (List V)} {h : Hp} {o : Oper} {ρ : Operand → V}

theorem AW.condT {N : Nat} {Q : Post} {T : Tm} {c : Operand} {x y : Code} {b : Bool} (hc : ev G T c = .bool b) (hb : b = true) (k : AW P G N x Q T h) : AW P G N (.cond c x y) Q T h :=
  .cond hc (fun _ => k) fun e => by rw [hb] at e; cases e
/-- An error by its number; 0: none. -/
def eErr (t : TypeId) (e : Int) : V := if e = 0 then .inil else .iface t (.int .i64 e)
attribute [irreducible] eErr
theorem eErr_zero (t : TypeId) : eErr t 0 = .inil := by unfold eErr; simp
theorem eErr_ne {t : TypeId} {e : Int} (h : e ≠ 0) : eErr t e = .iface t (.int .i64 e) := by unfold eErr; simp [h]
theorem eErr_solid (t : TypeId) (e : Int) : (eErr t e).solid = true ∧ (eErr t e).cells = [eErr t e] := by
  unfold eErr; split <;> exact ⟨rfl, rfl⟩
theorem q_eqerr {t t2 et : TypeId} {ms} (ht : P.underlying t = some (.interface ms)) {x : Operand} (ho : o.op = .binOp .eql t x (.const .nilIface) t2) {e : Int} (hx : ρ x = eErr et e) : QOp P G h o ρ (.bool (e == 0)) := by
  by_cases he : e = 0
  · subst he
    rw [eErr_zero] at hx
    exact q_eqnil ht ho (by rw [hx]; rfl) (by rw [hx]; rfl)
  · rw [eErr_ne he] at hx
    have : (e == 0) = false := by simpa using he
    rw [this]
    exact q_eqnil ht ho (by rw [hx]; rfl) (by rw [hx]; rfl)
theorem q_neerr {t t2 et : TypeId} {ms} (ht : P.underlying t = some (.interface ms)) {x : Operand} (ho : o.op = .binOp .neq t x (.const .nilIface) t2) {e : Int} (hx : ρ x = eErr et e) : QOp P G h o ρ (.bool (e != 0)) := by
  by_cases he : e = 0
  · subst he
    rw [eErr_zero] at hx
    exact q_nenil ht ho (by rw [hx]; rfl) (by rw [hx]; rfl)
  · rw [eErr_ne he] at hx
    have : (e != 0) = true := by simpa using he
    rw [this]
    exact q_nenil ht ho (b := false) (by rw [hx]; rfl) (by rw [hx]; rfl)
/-- An error made of a number that isn't 0. -/
theorem q_mkerr {t : TypeId} {x : Operand} (ho : o.op = .makeInterface t x) {d : TypeDesc} (ht : P.underlying t = some d) (hd : notIface d = true) {e : Int} (hx : ρ x = .int .i64 e) (he : e ≠ 0) : QOp P G h o ρ (eErr t e) := by
  have := q_iface (P := P) (G := G) (h := h) (ρ := ρ) ho ht hd
  rwa [hx, ← eErr_ne he] at this

theorem q_nc {x : Operand} {v : V} (ho : o.op = .nilCheck x) (hv : ρ x = v) (hx : v.pointy = true) : QOp P G h o ρ v := by
  subst hv; exact q_nilCheck ho hx

/-- A structure that is boxed. -/
theorem q_boxa {t : TypeId} {y : Operand} {cs : List V} (ho : o.op = .box t y) (hy : ρ y = .agg cs) : QOp P G h o ρ (.iptr cs) := by
  have := q_boxi (P := P) (G := G) (h := h) (ρ := ρ) ho (by rw [hy]; rfl)
  rwa [hy] at this
theorem a_boxa {t : TypeId} {y : Operand} {cs : List V} (ho : o.op = .box t y) (hy : ρ y = .agg cs) {K : V → Hp → Prop} (k : ∀ id, h.fresh id → K (.ptr id 0) (h.setBox id cs)) : AStep P G o ρ h K :=
  a_box ho (by rw [hy]; rfl) fun id f => by rw [hy]; exact k id f

/-- The whole of what a pointer tells. -/
theorem q_load_iW {t : TypeId} {x : Operand} (ho : o.op = .load t x) (ha : ∀ w, (isAgg t).run P w = .ok true w) {n : Nat} (hs : ∀ w, (sizeOf t).run P w = .ok n w) {cs : List V} (hx : ρ x = .iptr cs) (hl : cs.length = n) : QOp P G h o ρ (.agg cs) :=
  q_load_iN ho ha hs hx hl (List.take_of_length_le (by omega))
theorem q_load_bW {t : TypeId} {x : Operand} (ho : o.op = .load t x) (ha : ∀ w, (isAgg t).run P w = .ok true w) {n : Nat} (hs : ∀ w, (sizeOf t).run P w = .ok n w) (hn0 : 0 < n) {id : Nat} (hx : ρ x = .ptr id 0) {cs : List V} (hb : h.box id = some cs) (hl : cs.length = n) : QOp P G h o ρ (.agg cs) :=
  q_load_bN ho ha hs hn0 hx hb hl (by rw [List.drop_zero]; exact List.take_of_length_le (by omega))
/-- A variable that has just been made is filled. -/
theorem a_storeW {t : TypeId} {x y : Operand} (ho : o.op = .store t x y) {n : Nat} (hs : ∀ w, (sizeOf t).run P w = .ok n w) {id : Nat} (hx : ρ x = .ptr id 0) {h0 : Hp} {cs : List V} (hh : h = h0.setBox id cs)
    {ds : List V} (hd : (ρ y).cells = ds) (hy : (ρ y).solid = true) (hn : ds.length = n) (hc : cs.length = n) {K : V → Hp → Prop} (k : K .junk (h0.setBox id ds)) : AStep P G o ρ h K := by
  subst hh
  refine a_store ho hs hx (Hp.box_setBox _ _ _) hd hy hn (by omega) ?_
  have : splice cs 0 ds = ds := by rw [splice_eq _ _ _ (by omega)]; simp [hn, ← hc]
  rw [this, Hp.setBox_setBox]
  exact k

theorem a_storeWA {t : TypeId} {x y : Operand} (ho : o.op = .store t x y) {n : Nat} (hs : ∀ w, (sizeOf t).run P w = .ok n w) {id : Nat} (hx : ρ x = .ptr id 0) {h0 : Hp} {cs : List V} (hh : h = h0.setBox id cs)
    {ds : List V} (hv : ρ y = .agg ds) (hn : ds.length = n) (hc : cs.length = n) {K : V → Hp → Prop} (k : K .junk (h0.setBox id ds)) : AStep P G o ρ h K :=
  a_storeW ho hs hx hh (by rw [hv]; rfl) (by rw [hv]; rfl) hn hc k
theorem a_storeW1 {t : TypeId} {x y : Operand} {v : V} (ho : o.op = .store t x y) (hs : ∀ w, (sizeOf t).run P w = .ok 1 w) {id : Nat} (hx : ρ x = .ptr id 0) {h0 : Hp} {cs : List V} (hh : h = h0.setBox id cs)
    (hv : ρ y = v) (hd : v.cells = [v]) (hy : v.solid = true) (hc : cs.length = 1) {K : V → Hp → Prop} (k : K .junk (h0.setBox id [v])) : AStep P G o ρ h K := by
  subst hv; exact a_storeW ho hs hx hh hd hy rfl hc k

/-- 'a[:]' of an array that lies there. -/
theorem q_sliceA {t e : TypeId} {l : Nat} {x : Operand} (ho : o.op = .slice t x none none none) (hu : P.underlying t = some (.array l e)) {n : Nat} (hs : ∀ w, (sizeOf e).run P w = .ok n w) {cs : List V} (hx : ρ x = .iptr cs) (hl : cs.length = l * n) : QOp P G h o ρ (.sl .full n l cs) :=
  .of_run fun _ _ _ _ w a _ hr => by
    have h1 := hr x (by simp [ho, Op.operands]); rw [hx] at h1
    obtain ⟨b, off, f, e1, hi, h2⟩ := h1.iptr_inv
    refine ⟨.slice (some ⟨b, off, none⟩) l l, ?_, .sl .full b off n l l cs f hl (Nat.le_refl _) rfl hi h2⟩
    simp [execOp, ho, e1, Instr.sliceAt, run_underlying hu, Instr.sureAddr, Instr.sliceBounds, hs, add_mk]

end
end Go.AV
/- The abstract walk, eighth part: variables that are written once; results that lie in variables; slices that are made; equality of numbers side by side. -/
namespace Go.AV
section
variable {P : Program} {G : Nat → Option (List V)} {N : Nat} {Q : Post} {T : Tm} {h : Hp} {o : Oper} {ρ : Operand → V} {mu : Nat → Nat} {nx : Nat} {w : World}

theorem q_quo' {t t2 : TypeId} {x y : Operand} (ho : o.op = .binOp .quo t x y t2) {m n : Int} (hx : ρ x = .int .i64 m) (hy : ρ y = .int .i64 n) (hm : 0 ≤ m ∧ m ≤ 9223372036854775807) (hn : 0 < n) : QOp P G h o ρ (.int .i64 (m / n)) := by
  have := q_quo (P := P) (G := G) (h := h) ho hx hy (by omega)
  have h1 : m / n ≤ m := Int.ediv_le_self n hm.1
  have h2 : 0 ≤ m / n := Int.ediv_nonneg hm.1 (by omega)
  rwa [Int.tdiv_eq_ediv_of_nonneg hm.1, IntWalk.i64_in _ (by omega)] at this
theorem q_rem' {t t2 : TypeId} {x y : Operand} (ho : o.op = .binOp .rem t x y t2) {m n : Int} (hx : ρ x = .int .i64 m) (hy : ρ y = .int .i64 n) (hm : 0 ≤ m ∧ m ≤ 9223372036854775807) (hn : 0 < n) : QOp P G h o ρ (.int .i64 (m % n)) := by
  have := q_rem (P := P) (G := G) (h := h) ho hx hy (by omega)
  rwa [Int.tmod_eq_emod_of_nonneg hm.1] at this

/-- A variable's pointer, or a slice over it, as one to something that stays. -/
def Sealed (id : Nat) (cs : List V) (x y : V) : Prop :=
  (∃ off, x = .ptr id off ∧ y = .iptr (cs.drop off)) ∨ ∃ off n len, x = .msl id off len ∧ y = .sl .imm n len ((cs.drop off).take (len * n)) ∧ off + len * n ≤ cs.length
theorem Sealed.ptr {id : Nat} {cs : List V} : Sealed id cs (.ptr id 0) (.iptr cs) := .inl ⟨0, rfl, rfl⟩
theorem Sealed.msl {id n len : Nat} {cs : List V} (h : cs.length = len * n) : Sealed id cs (.msl id 0 len) (.sl .imm n len cs) := .inr ⟨0, n, len, rfl, by rw [List.drop_zero, ← h, List.take_length], by omega⟩

theorem Rel.stay (r : Rel G mu nx h w) {id : Nat} {cs : List V} (hb : h.box id = some cs) {h0 : Hp} (hl : HLe h h0) (hn : h0.box id = none) {v : Value} {x y : V} (hv : Rep (env mu nx h w) v x) (hs : Sealed id cs x y) : Rep (env mu nx h0 w) v y := by
  obtain ⟨k1, vs, el, k2, k3, k4, k5⟩ := r.box id cs hb
  have im : ∀ j (hj : j < vs.size), (env mu nx h0 w).imm (mu id) j (vs.getD j undef) := fun j hj => by
    refine ⟨⟨(Array.getElem?_eq_some_iff.1 k2).1, fun i hi e => ?_, fun t n ht e => ?_⟩, ?_, ?_⟩
    · have hne : i ≠ id := fun e' => by subst e'; exact hi hn
      exact hne (r.inj i id (hl.alive (.inl hi)) (.inl (by simp [hb])) e)
    · have he := r.inj t id (.inr (by rw [hl.tok t n ht]; simp)) (.inl (by simp [hb])) e
      subst he
      have := r.excl t (by simp [hb])
      rw [hl.tok t n ht] at this; cases this
    · rw [cell_of_row w _ j vs el (0, 0) k2]; simp [Array.getD, hj]
    · simpa [Array.getD, hj] using k4 j hj
  have rp : ∀ j (hj : j < vs.size) (hj' : j < cs.length), Rep (env mu nx h0 w) (vs.getD j undef) cs[j] := fun j hj hj' => by
    have := (k5 j hj hj').mono (hl.env mu nx w)
    simpa [Array.getD, hj] using this
  rcases hs with ⟨off, rfl, rfl⟩ | ⟨off, n, len, rfl, rfl, hle⟩
  · rw [hv.ptr_inv.2]
    refine .iptr _ _ _ (fun j => vs.getD (off + j) undef) (fun j hj => im _ ?_) (fun j hj => ?_)
    · simp at hj; omega
    · simp at hj
      have := rp (off + j) (by omega) (by omega)
      simpa using this
  · cases hv with
    | msl _ _ _ cap hid hc _ _ =>
      have hlen : ((cs.drop off).take (len * n)).length = len * n := by simp; omega
      refine .sl .imm _ _ n len cap _ (fun j => vs.getD (off + j) undef) hlen hc trivial (fun j hj => im _ ?_) (fun j hj => ?_)
      · rw [hlen] at hj; omega
      · have hj' := hj; rw [hlen] at hj'
        have := rp (off + j) (by omega) (by omega)
        simpa using this
theorem St.stay {mu nx w a} (s : St G N mu nx h w a T) {d id : Nat} {cs : List V} {y : V} {h0 : Hp} (hb : h.box id = some cs) (hl : HLe h h0) (hn : h0.box id = none) (hs : Sealed id cs (T d) y) : St G N mu nx h0 w a (Go.AV.put T d y) :=
  ⟨hl.rel s.rel, s.defers, s.size, fun i => by
    by_cases hi : i = d
    · subst hi; rw [put_same]; exact s.rel.stay hb hl hn (s.tmps i) hs
    · rw [put_ne _ _ hi]; exact (s.tmps i).mono (hl.env mu nx w)⟩
theorem AW.stay {c : Code} {d id : Nat} {cs : List V} {y : V} {h0 : Hp} (hb : h.box id = some cs) (hl : HLe h h0) (hn : h0.box id = none) (hs : Sealed id cs (T d) y) (k : AW P G N c Q (put T d y) h0) : AW P G N c Q T h :=
  fun mu nx w a s => wp_mono (k mu nx w a (s.stay hb hl hn hs)) fun _ _ _ q => lift_trans hl.ext q
theorem AOps.stay {ops : Array Oper} {l : List Oper} {d id : Nat} {cs : List V} {y : V} {h0 : Hp} (hb : h.box id = some cs) (hl : HLe h h0) (hn : h0.box id = none) (hs : Sealed id cs (T d) y) (k : AOps P G N ops Q l (put T d y) h0) : AOps P G N ops Q l T h :=
  fun mu nx w a s Q' hQ => k mu nx w a (s.stay hb hl hn hs) Q' fun _ _ _ q => hQ _ _ _ (lift_trans hl.ext q)
/-- The usual spelling: a variable that has just been made and filled. -/
theorem AOps.done {ops : Array Oper} {l : List Oper} {id : Nat} {cs : List V} (d : Nat) (hT : T d = .ptr id 0) (hf : h.fresh id) (k : AOps P G N ops Q l (put T d (.iptr cs)) h) : AOps P G N ops Q l T (h.setBox id cs) :=
  .stay (h0 := h) (Hp.box_setBox _ _ _) (.setBox hf.1) hf.1 (by rw [hT]; exact .ptr) k
theorem AW.done {c : Code} {id : Nat} {cs : List V} (d : Nat) (hT : T d = .ptr id 0) (hf : h.fresh id) (k : AW P G N c Q (put T d (.iptr cs)) h) : AW P G N c Q T (h.setBox id cs) :=
  .stay (h0 := h) (Hp.box_setBox _ _ _) (.setBox hf.1) hf.1 (by rw [hT]; exact .ptr) k

theorem run_results_cell {fn : Func} {t : Nat} {ty : TypeId} {b off n : Nat} {tmps : Array Value} {f : Nat → Value} (hf : fn.results = #[.cell t ty]) (hp : tmps.getD t undef = .pointer (some ⟨b, off, none⟩)) (ha : ∀ w, (isAgg ty).run P w = .ok true w) (hs : ∀ w, (sizeOf ty).run P w = .ok n w)
    (hc : ∀ j, j < n → w.cell? ⟨b, off + j, none⟩ = some (f j)) : (results fn tmps).run P w = .ok (.agg ((List.range n).map f).toArray) w := by
  have := run_loadN (P := P) ha hs hc
  simp only [Instr.loadAt, Instr.sureAddr, Sem.run_bind, Sem.run_pure, Result.andThen_ok] at this
  have hp' : tmps[t]?.getD undef = .pointer (some ⟨b, off, none⟩) := by simpa using hp
  simp [results, hf, asAddr, hp', this]
theorem run_results_cell1 {fn : Func} {t u : Nat} {ty : TypeId} {b off n : Nat} {tmps : Array Value} {f : Nat → Value} (hf : fn.results = #[.cell t ty, .tmp u]) (hp : tmps.getD t undef = .pointer (some ⟨b, off, none⟩)) (ha : ∀ w, (isAgg ty).run P w = .ok true w) (hs : ∀ w, (sizeOf ty).run P w = .ok n w)
    (hc : ∀ j, j < n → w.cell? ⟨b, off + j, none⟩ = some (f j)) : (results fn tmps).run P w = .ok (.tuple #[.agg ((List.range n).map f).toArray, tmps.getD u undef]) w := by
  have := run_loadN (P := P) ha hs hc
  simp only [Instr.loadAt, Instr.sureAddr, Sem.run_bind, Sem.run_pure, Result.andThen_ok] at this
  have hp' : tmps[t]?.getD undef = .pointer (some ⟨b, off, none⟩) := by simpa using hp
  simp [results, hf, asAddr, hp', this]
theorem St.cells_b {mu nx w a} (s : St G N mu nx h w a T) {t n id : Nat} {cs : List V} (hT : T t = .ptr id 0) (hb : h.box id = some cs) (hl : cs.length = n) : ∃ b off f, a.tmps.getD t undef = .pointer (some ⟨b, off, none⟩) ∧ (∀ j, j < n → w.cell? ⟨b, off + j, none⟩ = some (f j)) ∧ Rep (env mu nx h w) (.agg ((List.range n).map f).toArray) (.agg cs) := by
  have h1 := s.tmps t; rw [hT] at h1
  obtain ⟨_, vs, el, hh, hsz, hone, hrep⟩ := s.rel.box id cs hb
  refine ⟨mu id, 0, fun j => vs.getD j undef, (h1.ptr_inv).2, fun j hj => ?_, rep_agg_range hl (fun j hj => ?_) fun j hj hj' => ?_⟩
  · rw [Nat.zero_add, cell_of_row w _ j vs el (0, 0) hh]; simp [Array.getD, show j < vs.size by omega]
  · have := hone j (by omega); simpa [Array.getD, show j < vs.size by omega] using this
  · have := hrep j (by omega) hj'; simpa [Array.getD, show j < vs.size by omega] using this
theorem Res.cellB {t n id : Nat} {ty : TypeId} (ha : ∀ w, (isAgg ty).run P w = .ok true w) (hs : ∀ w, (sizeOf ty).run P w = .ok n w) {cs : List V} (hT : T t = .ptr id 0) (hb : h.box id = some cs) (hl : cs.length = n) : Res P T h #[.cell t ty] (.agg cs) :=
  .gen fun fn G N mu nx w a s hf => by
    obtain ⟨b, off, f, e, hc, hr⟩ := s.cells_b hT hb hl
    exact ⟨_, run_results_cell hf e ha hs hc, hr⟩
theorem rep_two {E : Env} {u v : Value} {x y : V} (h1 : Rep E u x) (h2 : Rep E v y) : Rep E (.tuple #[u, v]) (.tup [x, y]) :=
  .tup _ _ rfl fun j hj hj' => by
    match j with
    | 0 => exact h1
    | 1 => exact h2
    | j + 2 => exact absurd hj (by simp)
theorem Res.cellB1 {t u n id : Nat} {ty : TypeId} (ha : ∀ w, (isAgg ty).run P w = .ok true w) (hs : ∀ w, (sizeOf ty).run P w = .ok n w) {cs : List V} (hT : T t = .ptr id 0) (hb : h.box id = some cs) (hl : cs.length = n) : Res P T h #[.cell t ty, .tmp u] (.tup [.agg cs, T u]) :=
  .gen fun fn G N mu nx w a s hf => by
    obtain ⟨b, off, f, e, hc, hr⟩ := s.cells_b hT hb hl
    exact ⟨_, run_results_cell1 hf e ha hs hc, rep_two hr (s.tmps u)⟩

theorem VLe.agg {cs ds : List V} (hl : cs.length = ds.length) (hv : ∀ j, VLe (cs.getD j .junk) (ds.getD j .junk)) : VLe (.agg cs) (.agg ds) := fun E v hr => by
  cases hr with
  | agg vs _ e h1 h2 =>
    refine .agg vs ds (e.trans hl) h1 fun j hj hj' => ?_
    · have := hv j E vs[j]
      rw [List.getD_eq_getElem?_getD, List.getD_eq_getElem?_getD, List.getElem?_eq_getElem (by omega), List.getElem?_eq_getElem hj'] at this
      exact this (h2 j hj (by omega))
theorem VLe.tup {cs ds : List V} (hl : cs.length = ds.length) (hv : ∀ j, VLe (cs.getD j .junk) (ds.getD j .junk)) : VLe (.tup cs) (.tup ds) := fun E v hr => by
  cases hr with
  | tup vs _ e h2 =>
    refine .tup vs ds (e.trans hl) fun j hj hj' => ?_
    · have := hv j E vs[j]
      rw [List.getD_eq_getElem?_getD, List.getD_eq_getElem?_getD, List.getElem?_eq_getElem (by omega), List.getElem?_eq_getElem hj'] at this
      exact this (h2 j hj (by omega))
theorem VLe.sl {k : SK} {n len : Nat} {cs ds : List V} (hl : cs.length = ds.length) (hv : ∀ j, VLe (cs.getD j .junk) (ds.getD j .junk)) : VLe (.sl k n len cs) (.sl .imm n len ds) := fun E v hr => by
  rcases hr.sl_inv with ⟨rfl, e2, e3, _⟩ | ⟨b, off, cap, f, rfl, hl', hc, hk, hm, h2⟩
  · subst e2 e3
    have : ds = [] := List.eq_nil_of_length_eq_zero (by simpa using hl.symm)
    subst this; exact .slnil n
  · exact .sl .imm b off n len cap ds f (by omega) hc trivial (fun j hj => hm j (by omega)) fun j hj => by
      have := hv j E (f j)
      rw [List.getD_eq_getElem?_getD, List.getD_eq_getElem?_getD, List.getElem?_eq_getElem (by omega), List.getElem?_eq_getElem hj] at this
      exact this (h2 j (by omega))
/-- Two lists of values, place by place. -/
inductive LLe : List V → List V → Prop
  | nil : LLe [] []
  | cons {x y : V} {xs ys : List V} (h : VLe x y) (t : LLe xs ys) : LLe (x :: xs) (y :: ys)
theorem LLe.refl : ∀ (l : List V), LLe l l
  | [] => .nil
  | x :: l => .cons (.refl x) (.refl l)
theorem LLe.length {a b : List V} (h : LLe a b) : a.length = b.length := by induction h with
  | nil => rfl
  | cons _ _ ih => simp [ih]
theorem LLe.get {a b : List V} (h : LLe a b) : ∀ j, VLe (a.getD j .junk) (b.getD j .junk) := by
  induction h with
  | nil => exact fun j => .refl _
  | cons h t ih => intro j; cases j with
    | zero => exact h
    | succ j => exact ih j
theorem LLe.append {a b c d : List V} (h : LLe a b) (k : LLe c d) : LLe (a ++ c) (b ++ d) := by
  induction h with
  | nil => exact k
  | cons h t ih => exact .cons h ih
theorem LLe.agg {a b : List V} (h : LLe a b) : VLe (.agg a) (.agg b) := .agg h.length h.get
theorem LLe.tup {a b : List V} (h : LLe a b) : VLe (.tup a) (.tup b) := .tup h.length h.get
theorem LLe.sl {k : SK} {n len : Nat} {a b : List V} (h : LLe a b) : VLe (.sl k n len a) (.sl .imm n len b) := .sl h.length h.get

theorem QOp.callv {g : Operand} {f : FuncId} {first captured : List V} {xs : List Operand} {ts : Array TypeId} {x : V} (ho : o.op = .call ⟨.value g, xs.toArray, ts⟩) (hg : ρ g = .func (.func f) first captured)
    (hf : ∀ args w, (callFunc f args).run P w = .ok (.enter f args) w) (k : ∀ h', HLe h' h → ACalls P G f (first ++ xs.map ρ ++ captured) h' fun y h'' => y = x ∧ h'' = h') : QOp P G h o ρ x :=
  fun h' hl => .callv ho hg hf (k h' hl)

/-- A slice that is held by value, against nil: either answer, if it is empty. -/
theorem a_eqnil_sl {t t2 e : TypeId} (ht : P.underlying t = some (.slice e)) {x : Operand} (ho : o.op = .binOp .eql t x (.const (.slice none 0 0)) t2) {n len : Nat} {cs : List V} {k : SK} (hx : ρ x = .sl k n len cs) {K : V → Hp → Prop}
    (kk : ∀ b : Bool, (b = true → cs = [] ∧ len = 0) → K (.bool b) h) : AStep P G o ρ h K := by
  intro mu nx w a _ r hr K' Q' hK
  have h1 := hr x (by simp [ho, Op.operands]); rw [hx] at h1
  have hu : ∀ w, (underlying t).run P w = .ok (.slice e) w := fun w => run_underlying ht w
  obtain ⟨b, hb, hrun⟩ : ∃ b : Bool, (b = true → cs = [] ∧ len = 0) ∧ (execOp a.eval o).run P w = .ok (.value (.bool b)) w := by
    rcases h1.sl_inv with ⟨e1, e2, e3, _⟩ | ⟨bs, off, cap, f, e1, _⟩
    · refine ⟨true, fun _ => ⟨e2, e3⟩, ?_⟩
      simp only [execOp, ho, Act.eval] at e1 ⊢
      rw [e1]
      have key : ∀ n w, (Op.equalIn (n + 1) t (.slice none 0 0) (.slice none 0 0)).run P w = .ok true w := fun n w => by simp only [Op.equalIn, Sem.run_bind, hu, Result.andThen_ok]; rfl
      exact run_eq2 (fun _ => rfl) (b := true) (key 9999) rfl rfl w
    · refine ⟨false, (fun e => by cases e), ?_⟩
      simp only [execOp, ho, Act.eval] at e1 ⊢
      rw [e1]
      have key : ∀ n w, (Op.equalIn (n + 1) t (.slice (some ⟨bs, off, none⟩) len cap) (.slice none 0 0)).run P w = .ok false w := fun n w => by simp only [Op.equalIn, Sem.run_bind, hu, Result.andThen_ok]; rfl
      exact run_eq2 (fun _ => rfl) (b := false) (key 9999) rfl rfl w
  unfold Oper.wp
  rw [hrun]
  exact hK _ (.bool b) mu nx h w (kk b hb) r (.bool b) (.refl _ _ _ _)

theorem a_makeSl {t e : TypeId} {x y : Operand} (ho : o.op = .makeSlice t x y) (ht : P.underlying t = some (.slice e)) {i : TypeInfo} (hi : P.info? e = some i) {z : Value} (hz : i.zero = some z) (hs : i.size = 1) (hzc : z.cells = #[z]) (hb : i.bytes ≤ 1024)
    {k k2 : IntKind} {n : Int} (hx : ρ x = .int k n) (hy : ρ y = .int k2 n) (h0 : 0 ≤ n) (h1 : n ≤ 1000000) (hsol : (cv z).solid = true) {K : V → Hp → Prop}
    (kk : ∀ id, h.fresh id → K (.msl id 0 n.toNat) (h.setBox id (List.replicate n.toNat (cv z)))) : AStep P G o ρ h K := by
  intro mu nx w a _ r hr K' Q' hK
  have g1 := hr x (by simp [ho, Op.operands]); rw [hx] at g1
  have g2 := hr y (by simp [ho, Op.operands]); rw [hy] at g2
  have hbytes : (i.bytes : Int) * n ≤ 281474976710656 := by
    have : (i.bytes : Int) * n ≤ 1024 * 1000000 := Int.mul_le_mul (by omega) h1 h0 (by omega)
    omega
  have hrun : (execOp a.eval o).run P w = .ok (.value (.slice (some ⟨w.heap.size, 0, none⟩) n.toNat n.toNat)) (w.alloc (.cells (madeCells z.cells (n.toNat * i.size)) e)) := by
    simp only [execOp, ho, g1.int_inv, g2.int_inv, Sem.run_bind, run_make (P := P) w t e i z ht hi hz k k2 n n h0 (Int.le_refl _) hbytes (by omega), Result.andThen_ok]; rfl
  obtain ⟨e1, e2, e3⟩ := rep_cells (rep_cv (env mu nx h w) z) hsol
  have hm : ∀ j (hj : j < (madeCells z.cells (n.toNat * i.size)).size), (madeCells z.cells (n.toNat * i.size))[j] = z := fun j hj => by
    simp only [madeCells, Array.getElem_map, Array.getElem_range, hzc]
    simp [Nat.mod_one]
  have hsz : (madeCells z.cells (n.toNat * i.size)).size = (List.replicate n.toNat (cv z)).length := by rw [size_madeCells, hs]; simp
  have hz1 : z.oneCell' = true ∧ Rep (env mu nx h w) z (cv z) := by
    have a1 := e2 0 (by rw [hzc]; exact Nat.zero_lt_one)
    exact ⟨by simpa [hzc] using a1, rep_cv _ z⟩
  obtain ⟨r', x'⟩ := r.newBox (Grows.alloc w (.cells (madeCells z.cells (n.toNat * i.size)) e)) (b := w.heap.size) (Nat.le_refl _) (heap_alloc_new w _) hsz (fun j hj => by rw [hm j hj]; exact hz1.1) (fun j hj hj' => by rw [hm j hj]; simpa using hz1.2)
  unfold Oper.wp
  rw [hrun]
  refine hK _ _ _ _ _ _ (kk nx r.fresh) r' ?_ x'
  have hcap : (env (muNew mu nx w.heap.size) (nx + 1) (h.setBox nx (List.replicate n.toNat (cv z))) (w.alloc (.cells (madeCells z.cells (n.toNat * i.size)) e))).cap w.heap.size (0 + n.toNat) := ⟨_, _, _, heap_alloc_new w _, by rw [size_madeCells, hs]; omega⟩
  have := Rep.msl (E := env (muNew mu nx w.heap.size) (nx + 1) (h.setBox nx (List.replicate n.toNat (cv z))) (w.alloc (.cells (madeCells z.cells (n.toNat * i.size)) e))) nx 0 n.toNat n.toNat (Nat.lt_succ_self _) (Nat.le_refl _) (by rw [show (env (muNew mu nx w.heap.size) (nx + 1) (h.setBox nx (List.replicate n.toNat (cv z))) (w.alloc (.cells (madeCells z.cells (n.toNat * i.size)) e))).mu nx = w.heap.size from muNew_nx]; exact hcap) (by omega)
  rwa [show (env (muNew mu nx w.heap.size) (nx + 1) (h.setBox nx (List.replicate n.toNat (cv z))) (w.alloc (.cells (madeCells z.cells (n.toNat * i.size)) e))).mu nx = w.heap.size from muNew_nx] at this

def nums (l : List Int) : List V := l.map (V.int .i64)
/-- Two lists of numbers, as parts of two values. -/
def EqI (P : Program) (t : TypeId) (n d : Nat) : Prop := ∀ (xs ys : Array Value) (off : Nat) (a b : Nat → Int), (∀ j, j < n → xs[off + j]? = some (.int .i64 (a j))) → (∀ j, j < n → ys[off + j]? = some (.int .i64 (b j))) → ∀ w,
  ∃ u v c, (part t xs off).run P w = .ok u w ∧ (part t ys off).run P w = .ok v w ∧ (Op.equalIn d t u v).run P w = .ok c w ∧ (c = true ↔ ∀ j, j < n → a j = b j)
theorem EqI.int {t : TypeId} {d : Nat} (ha : ∀ w, (isAgg t).run P w = .ok false w) (ht : P.underlying t = some (.int .i64)) : EqI P t 1 (d + 1) := fun xs ys off a b hx hy w => by
  refine ⟨_, _, a 0 == b 0, run_part1 ha (by simpa using hx 0 (by omega)), run_part1 ha (by simpa using hy 0 (by omega)), run_equalIn_int w d t .i64 .i64 (a 0) (b 0) ht, ?_⟩
  simp only [beq_iff_eq]
  exact ⟨fun e j hj => by obtain rfl : j = 0 := by omega
                          exact e, fun e => e 0 (by omega)⟩
def eqElems (e : TypeId) (d n : Nat) (xs ys : Array Value) : List Nat → Sem Bool
  | [] => pure true
  | i :: l => do
    let r ← Op.equalIn d e (← part e xs (i * n)) (← part e ys (i * n))
    if (!r) = true then pure false else eqElems e d n xs ys l
theorem run_equalIn_array {t e : TypeId} {l n : Nat} (ht : P.underlying t = some (.array l e)) (hs : ∀ w, (sizeOf e).run P w = .ok n w) (d : Nat) (xs ys : Array Value) (w : World) :
    (Op.equalIn (d + 1) t (.agg xs) (.agg ys)).run P w = (eqElems e d n xs ys (List.range l)).run P w := by
  simp only [Op.equalIn, Sem.run_bind, run_underlying ht, Result.andThen_ok, hs]
  rw [Std.Legacy.Range.forIn_eq_forIn_range']
  have : List.range' [0:l].start [0:l].size [0:l].step = List.range l := by simp [Std.Legacy.Range.size, List.range_eq_range']
  rw [this]
  generalize List.range l = fs
  induction fs generalizing w with
  | nil => simp [eqElems]
  | cons f fs ih =>
    simp only [List.forIn_cons, eqElems, Sem.run_bind, Sem.run_ite]
    generalize (part e xs (f * n)).run P w = r1
    cases r1 with
    | ok a w1 =>
      simp only [Result.andThen_ok]
      generalize (part e ys (f * n)).run P w1 = r2
      cases r2 with
      | ok b w2 =>
        simp only [Result.andThen_ok]
        generalize (Op.equalIn d e a b).run P w2 = r3
        cases r3 with
        | ok r w3 =>
          cases r
          · simp only [Result.andThen_ok, Bool.not_false, if_true, Sem.run_pure]
          · simp only [Result.andThen_ok, Bool.not_true, Bool.false_eq_true, if_false, Sem.run_pure]
            exact ih w3
        | halt x w3 => simp [Result.andThen]
      | halt x w2 => simp [Result.andThen]
    | halt x w1 => simp [Result.andThen]
theorem EqI.array {t e : TypeId} {l m n d : Nat} (he : EqI P e m d) (ha : ∀ w, (isAgg t).run P w = .ok true w) (ht : P.underlying t = some (.array l e)) (hs : ∀ w, (sizeOf e).run P w = .ok m w) (hn : ∀ w, (sizeOf t).run P w = .ok n w) (hln : l * m = n) : EqI P t n (d + 1) := by
  intro xs ys off a b hx hy w
  subst hln
  suffices H : ∃ c, (Op.equalIn (d + 1) t (.agg (xs.extract off (off + l * m))) (.agg (ys.extract off (off + l * m)))).run P w = .ok c w ∧ (c = true ↔ ∀ j, j < l * m → a j = b j) by
    obtain ⟨c, c1, c2⟩ := H
    exact ⟨_, _, c, run_partN ha hn, run_partN ha hn, c1, c2⟩
  rw [run_equalIn_array ht hs]
  have hget : ∀ (zs : Array Value) (c : Nat → Int), (∀ j, j < l * m → zs[off + j]? = some (.int .i64 (c j))) → ∀ j, j < l * m → (zs.extract off (off + l * m))[j]? = some (.int .i64 (c j)) := fun zs c hz j hj => by
    rw [Array.getElem?_extract]
    have h1 := hz j hj
    have := (Array.getElem?_eq_some_iff.1 (hz (l * m - 1) (by omega))).1
    have h2 : j < min (off + l * m) zs.size - off := by omega
    rw [if_pos h2]; exact h1
  have gx := hget xs a hx
  have gy := hget ys b hy
  generalize xs.extract off (off + l * m) = us at gx
  generalize ys.extract off (off + l * m) = vs at gy
  have key : ∀ (is : List Nat), (∀ i ∈ is, i < l) → ∃ c, (eqElems e d m us vs is).run P w = .ok c w ∧ (c = true ↔ ∀ i ∈ is, ∀ j, j < m → a (i * m + j) = b (i * m + j)) := by
    intro is
    induction is with
    | nil => intro _; exact ⟨true, by simp [eqElems], by simp⟩
    | cons i is ih =>
      intro hi
      have hil : i < l := hi i (by simp)
      have hb : ∀ j, j < m → i * m + j < l * m := fun j hj => by
        have := Nat.mul_le_mul_right m (show i + 1 ≤ l from hil); rw [Nat.add_mul] at this; omega
      obtain ⟨u, v, c, h1, h2, h3, h4⟩ := he us vs (i * m) (fun j => a (i * m + j)) (fun j => b (i * m + j)) (fun j hj => gx _ (hb j hj)) (fun j hj => gy _ (hb j hj)) w
      obtain ⟨c', h5, h6⟩ := ih fun k hk => hi k (by simp [hk])
      simp only [eqElems, Sem.run_bind, h1, h2, h3, Result.andThen_ok]
      cases c with
      | true => exact ⟨c', by simpa using h5, by rw [h6]; simp only [List.mem_cons, forall_eq_or_imp]; exact ⟨fun hh => ⟨h4.1 rfl, hh⟩, fun hh => hh.2⟩⟩
      | false => exact ⟨false, by simp, by
          constructor
          · intro e; cases e
          · intro hh; exact absurd (h4.2 (hh i (by simp))) (by simp)⟩
  obtain ⟨c, c1, c2⟩ := key _ (fun i hi => List.mem_range.1 hi)
  refine ⟨c, c1, c2.trans ?_⟩
  simp only [List.mem_range]
  refine ⟨fun hh j hj => ?_, fun hh i hi j hj => hh _ ?_⟩
  · have hm0 : 0 < m := Nat.pos_of_ne_zero fun e => by subst e; simp at hj
    have h1 := hh (j / m) (Nat.div_lt_of_lt_mul (by rwa [Nat.mul_comm] at hj)) (j % m) (Nat.mod_lt _ hm0)
    have h2 : j / m * m + j % m = j := by rw [Nat.mul_comm]; exact Nat.div_add_mod j m
    rw [h2] at h1; exact h1
  · have := Nat.mul_le_mul_right m (show i + 1 ≤ l from hi); rw [Nat.add_mul] at this; omega
/-- A structure of numbers alone. -/
theorem EqI.struct {t e : TypeId} {fs : Array Field} {n d : Nat} (ha : ∀ w, (isAgg t).run P w = .ok true w) (ht : P.underlying t = some (.struct fs)) (hn : ∀ w, (sizeOf t).run P w = .ok n w) (hp : P.stoodInHeld t = false)
    (hea : ∀ w, (isAgg e).run P w = .ok false w) (he : P.underlying e = some (.int .i64)) (hl : fs.size = n) (hf : ∀ j (hj : j < fs.size), (fs[j]).offset = j ∧ (fs[j]).type = e ∧ (fs[j]).name ≠ "_") : EqI P t n (d + 2) := by
  intro xs ys off a b hx hy w
  suffices H : ∃ c, (Op.equalIn (d + 2) t (.agg (xs.extract off (off + n))) (.agg (ys.extract off (off + n)))).run P w = .ok c w ∧ (c = true ↔ ∀ j, j < n → a j = b j) by
    obtain ⟨c, c1, c2⟩ := H
    exact ⟨_, _, c, run_partN ha hn, run_partN ha hn, c1, c2⟩
  have hfo : P.fieldsOf t = fs := by simp [Program.fieldsOf, ht]
  rw [run_equalIn_struct w (d + 1) t _ _ (by rw [hfo]; exact ht) hp, hfo]
  have hget : ∀ (zs : Array Value) (c : Nat → Int), (∀ j, j < n → zs[off + j]? = some (.int .i64 (c j))) → ∀ j, j < n → (zs.extract off (off + n))[j]? = some (.int .i64 (c j)) := fun zs c hz j hj => by
    rw [Array.getElem?_extract]
    have h1 := hz j hj
    have := (Array.getElem?_eq_some_iff.1 (hz (n - 1) (by omega))).1
    have h2 : j < min (off + n) zs.size - off := by omega
    rw [if_pos h2]; exact h1
  have gx := hget xs a hx
  have gy := hget ys b hy
  generalize xs.extract off (off + n) = us at gx
  generalize ys.extract off (off + n) = vs at gy
  have key : ∀ (l : List Field) (k : Nat), (∀ i (hi : i < l.length), (l[i]).offset = k + i ∧ (l[i]).type = e ∧ (l[i]).name ≠ "_") → k + l.length ≤ n →
      ∃ c, (Op.eqFields (d + 1) us vs l).run P w = .ok c w ∧ (c = true ↔ ∀ j, k ≤ j → j < k + l.length → a j = b j) := by
    intro l
    induction l with
    | nil => exact fun k _ _ => ⟨true, by simp [Op.eqFields], by simp; intro j h1 h2; omega⟩
    | cons f l ih =>
      intro k hk hkn
      obtain ⟨f1, f2, f3⟩ := hk 0 (by simp)
      simp only [List.getElem_cons_zero, Nat.add_zero] at f1 f2 f3
      obtain ⟨c', h5, h6⟩ := ih (k + 1) (fun i hi => by have := hk (i + 1) (by simpa using hi); simp only [List.getElem_cons_succ] at this; rw [show k + 1 + i = k + (i + 1) by omega]; exact this) (by simp at hkn; omega)
      have hkl : k < n := by simp at hkn; omega
      have p1 : (part f.type us f.offset).run P w = .ok (.int .i64 (a k)) w := by rw [f1, f2]; exact run_part1 hea (gx k hkl)
      have p2 : (part f.type vs f.offset).run P w = .ok (.int .i64 (b k)) w := by rw [f1, f2]; exact run_part1 hea (gy k hkl)
      have p3 : (Op.equalIn (d + 1) f.type (.int .i64 (a k)) (.int .i64 (b k))).run P w = .ok (a k == b k) w := by rw [f2]; exact run_equalIn_int w d e .i64 .i64 _ _ he
      simp only [Op.eqFields, f3, ne_eq, not_false_eq_true, if_true, Sem.run_bind, p1, p2, p3, Result.andThen_ok]
      by_cases hq : a k = b k
      · refine ⟨c', by simpa [hq] using h5, h6.trans ⟨fun hh j h1 h2 => ?_, fun hh j h1 h2 => hh j (by omega) (by simp; omega)⟩⟩
        by_cases hjk : j = k
        · subst hjk; exact hq
        · exact hh j (by omega) (by simp at h2; omega)
      · refine ⟨false, by simp [hq], ⟨(fun e => by cases e), fun hh => absurd (hh k (by omega) (by simp)) hq⟩⟩
  obtain ⟨c, c1, c2⟩ := key fs.toList 0 (fun i hi => by simpa using hf i (by simpa using hi)) (by simp [hl])
  refine ⟨c, c1, c2.trans ?_⟩
  simp only [Array.length_toList, hl, Nat.zero_add]
  exact ⟨fun hh j hj => hh j (by omega) hj, fun hh j _ hj => hh j hj⟩

theorem nums_rep {E : Env} {v : Value} {l : List Int} (hr : Rep E v (.agg (nums l))) : ∃ vs, v = .agg vs ∧ vs.size = l.length ∧ ∀ j, j < l.length → vs[j]? = some (.int .i64 (l.getD j 0)) := by
  cases hr with
  | agg vs _ e h1 h2 =>
    refine ⟨vs, rfl, by simpa [nums] using e, fun j hj => ?_⟩
    have hj' : j < vs.size := by rw [e]; simpa [nums] using hj
    have := h2 j hj' (by simpa [nums] using hj)
    simp only [nums, List.getElem_map] at this
    rw [Array.getElem?_eq_getElem hj', this.int_inv]
    simp [List.getD, hj]
theorem ext_getD {a b : List Int} (hl : a.length = b.length) : (∀ j, j < a.length → a.getD j 0 = b.getD j 0) ↔ a = b := by
  refine ⟨fun hh => List.ext_getElem hl fun i h1 h2 => ?_, fun e => by subst e; exact fun _ _ => rfl⟩
  have := hh i h1
  simpa [List.getD, h1, h2] using this
theorem run_eqI {t : TypeId} {n d : Nat} (he : EqI P t n (d + 1)) (ha : ∀ w, (isAgg t).run P w = .ok true w) (hn : ∀ w, (sizeOf t).run P w = .ok n w) {xs ys : Array Value} {a b : List Int} (hla : a.length = n) (hlb : b.length = n) (hxs : xs.size = n) (hys : ys.size = n)
    (hx : ∀ j, j < n → xs[j]? = some (.int .i64 (a.getD j 0))) (hy : ∀ j, j < n → ys[j]? = some (.int .i64 (b.getD j 0))) (w : World) : (Op.equalIn (d + 1) t (.agg xs) (.agg ys)).run P w = .ok (decide (a = b)) w := by
  obtain ⟨u, v, c, h1, h2, h3, h4⟩ := he xs ys 0 (fun j => a.getD j 0) (fun j => b.getD j 0) (by simpa using hx) (by simpa using hy) w
  rw [run_partN ha hn] at h1 h2
  have e1 : xs.extract 0 (0 + n) = xs := by rw [Nat.zero_add, ← hxs]; exact Array.extract_size
  have e2 : ys.extract 0 (0 + n) = ys := by rw [Nat.zero_add, ← hys]; exact Array.extract_size
  rw [e1] at h1; rw [e2] at h2
  cases h1; cases h2
  rw [h3]
  congr 1
  rw [Bool.eq_iff_iff, h4]; simp only [decide_eq_true_eq]
  rw [← ext_getD (by omega), hla]
theorem q_neI {t t2 : TypeId} {n : Nat} (he : EqI P t n 10000) (ha : ∀ w, (isAgg t).run P w = .ok true w) (hn : ∀ w, (sizeOf t).run P w = .ok n w) (hm : P.eqGuardType P.depth t = false) {x y : Operand} (ho : o.op = .binOp .neq t x y t2) {a b : List Int}
    (hx : ρ x = .agg (nums a)) (hy : ρ y = .agg (nums b)) (hla : a.length = n) (hlb : b.length = n) : QOp P G h o ρ (.bool !(decide (a = b))) :=
  .of_run fun _ _ _ _ w e _ hr => by
    have h1 := hr x (by simp [ho, Op.operands]); rw [hx] at h1
    have h2 := hr y (by simp [ho, Op.operands]); rw [hy] at h2
    obtain ⟨xs, e1, s1, g1⟩ := nums_rep h1
    obtain ⟨ys, e2, s2, g2⟩ := nums_rep h2
    refine ⟨.bool !(decide (a = b)), ?_, .bool _⟩
    have hq : (Op.equalIn 10000 t (.agg xs) (.agg ys)).run P w = .ok (decide (a = b)) w := run_eqI (d := 9999) he ha hn hla hlb (by omega) (by omega) (by simpa [hla] using g1) (by simpa [hlb] using g2) w
    simp only [execOp, ho, e1, e2, Sem.run_bind, run_eqGuard_agg w .neq t x y xs ys hm, Result.andThen_ok, run_neq_struct, hq, Sem.run_pure]
end
end Go.AV
