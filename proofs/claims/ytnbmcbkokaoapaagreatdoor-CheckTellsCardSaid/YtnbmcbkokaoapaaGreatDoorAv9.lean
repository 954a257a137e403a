/- The abstract walk, ninth part: a copy that is written to; the library's Delete and Insert on such a copy. -/
import Derived.Test.YtnbmcbkokaoapaaGreatDoorAv8
import Derived.Shelf.Spec.SlicesInsertGrow
import Derived.Shelf.Spec.SlicesInsert
import Derived.Shelf.Slices.Delete
namespace Go.AV
section
variable {P : Program} {G : Nat → Option (List V)} {N : Nat} {Q : Post} {T : Tm} {h : Hp} {o : Oper} {ρ : Operand → V} {mu : Nat → Nat} {nx : Nat} {w : World}

/-! ### A variable that is written no more, told of within other variables too -/
structure HSub (h h' : Hp) : Prop where
  box : ∀ i, h'.box i ≠ none → h.box i ≠ none
  tok : ∀ t n, h'.tok t = some n → h.tok t = some n
theorem HSub.alive {h h' : Hp} (k : HSub h h') {i : Nat} (a : h'.alive i) : h.alive i := by
  rcases a with a | a
  · exact .inl (k.box i a)
  · cases e : h'.tok i with
    | none => exact absurd e a
    | some n => exact .inr (by rw [k.tok i n e]; simp)
theorem HSub.env {h h' : Hp} (k : HSub h h') (mu : Nat → Nat) (nx : Nat) (w : World) : (env mu nx h w).le (env mu nx h' w) where
  nx := Nat.le_refl _
  mu := fun _ _ => rfl
  imm := fun b i v ⟨⟨p1, p2, p3⟩, q⟩ => ⟨⟨p1, fun id hid => p2 id (k.box id hid), fun t n e => p3 t n (k.tok t n e)⟩, q⟩
  cap := fun _ _ h => h
theorem Rel.stay' (r : Rel G mu nx h w) {id : Nat} {cs : List V} (hb : h.box id = some cs) {h0 : Hp} (hl : HSub h h0) (hn : h0.box id = none) {v : Value} {x y : V} (hv : Rep (env mu nx h w) v x) (hs : Sealed id cs x y) : Rep (env mu nx h0 w) v y := by
  have hle : HLe h { h with box := fun i => if i = id then none else h.box i } := ⟨fun i c e => by
    by_cases hi : i = id
    · subst hi; simp at e
    · simpa [hi] using e, fun _ _ e => e⟩
  have h1 : Rep (env mu nx { h with box := fun i => if i = id then none else h.box i } w) v y := r.stay hb hle (by simp) hv hs
  have h2 : HSub { h with box := fun i => if i = id then none else h.box i } h0 := ⟨fun i hi => by
    have hne : i ≠ id := fun e => by subst e; exact hi hn
    simpa [hne] using hl.box i hi, hl.tok⟩
  exact h1.mono (h2.env mu nx w)
def LeS (id : Nat) (cs : List V) (x y : V) : Prop := VLe x y ∨ Sealed id cs x y
theorem Rel.sealIn (r : Rel G mu nx h w) {id : Nat} {cs : List V} (hb : h.box id = some cs) {h' : Hp} (hn : h'.box id = none) (ht : ∀ t n, h'.tok t = some n → h.tok t = some n)
    (hx : ∀ i ds', h'.box i = some ds' → ∃ ds, h.box i = some ds ∧ ds.length = ds'.length ∧ ∀ j, LeS id cs (ds.getD j .junk) (ds'.getD j .junk)) :
    Rel G mu nx h' w ∧ Ext mu nx h w mu nx h' w ∧ ∀ v x y, Rep (env mu nx h w) v x → LeS id cs x y → Rep (env mu nx h' w) v y := by
  have sub : HSub h h' := ⟨fun i hi => by
    cases e : h'.box i with
    | none => exact absurd e hi
    | some ds' => obtain ⟨ds, e1, _⟩ := hx i ds' e; rw [e1]; simp, ht⟩
  have le := sub.env mu nx w
  have rep : ∀ v x y, Rep (env mu nx h w) v x → LeS id cs x y → Rep (env mu nx h' w) v y := fun v x y hv hs => by
    rcases hs with hs | hs
    · exact (hs _ _ hv).mono le
    · exact r.stay' hb sub hn hv hs
  refine ⟨⟨fun i ds' e => ?_, fun t n e => r.tok t n (ht t n e), fun i j a b => r.inj i j (sub.alive a) (sub.alive b), fun i hi => ?_, fun g c e => (r.glob g c e).mono le⟩, ⟨le, rfl, rfl, rfl, Nat.le_refl _, fun _ _ _ => rfl, fun i a => .inr ⟨i, sub.alive a, rfl⟩⟩, rep⟩
  · obtain ⟨ds, e1, e2, e3⟩ := hx i ds' e
    obtain ⟨k1, vs, el, k2, k3, k4, k5⟩ := r.box i ds e1
    refine ⟨k1, vs, el, k2, k3.trans e2, k4, fun j hj hj' => ?_⟩
    have hj2 : j < ds.length := by omega
    have := e3 j
    rw [List.getD_eq_getElem?_getD, List.getD_eq_getElem?_getD, List.getElem?_eq_getElem hj2, List.getElem?_eq_getElem hj'] at this
    exact rep _ _ _ (k5 j hj hj2) this
  · cases e : h'.tok i with
    | none => rfl
    | some n =>
      have := r.excl i (sub.box i hi)
      rw [ht i n e] at this; cases this
theorem AW.sealIn {c : Code} {id : Nat} {cs : List V} {T' : Tm} {h' : Hp} (hb : h.box id = some cs) (hn : h'.box id = none) (ht : ∀ t n, h'.tok t = some n → h.tok t = some n)
    (hx : ∀ i ds', h'.box i = some ds' → ∃ ds, h.box i = some ds ∧ ds.length = ds'.length ∧ ∀ j, LeS id cs (ds.getD j .junk) (ds'.getD j .junk)) (hT : ∀ i, LeS id cs (T i) (T' i)) (k : AW P G N c Q T' h') : AW P G N c Q T h :=
  fun mu nx w a s => by
    obtain ⟨r', x', rep⟩ := s.rel.sealIn hb hn ht hx
    exact wp_mono (k mu nx w a ⟨r', s.defers, s.size, fun i => rep _ _ _ (s.tmps i) (hT i)⟩) fun _ _ _ q => lift_trans x' q
/-- The usual case: one other variable tells of it. -/
theorem AW.sealIn2 {c : Code} {id id2 : Nat} {cs c2 cs' : List V} {T' : Tm} (hf : h.fresh id) (hf2 : (h.setBox id cs).fresh id2) (hl : cs.length = cs'.length) (hx : ∀ j, LeS id2 c2 (cs.getD j .junk) (cs'.getD j .junk)) (hT : ∀ i, LeS id2 c2 (T i) (T' i))
    (k : AW P G N c Q T' (h.setBox id cs')) : AW P G N c Q T ((h.setBox id cs).setBox id2 c2) := by
  have hne : id ≠ id2 := Hp.ne_of_box (Hp.box_setBox _ _ _) hf2.1
  have hn2 : h.box id2 = none := by have := hf2.1; rwa [Hp.box_setBox_ne _ _ hne.symm] at this
  refine AW.sealIn (h := (h.setBox id cs).setBox id2 c2) (h' := h.setBox id cs') (id := id2) (cs := c2) (Hp.box_setBox _ _ _) (by rw [Hp.box_setBox_ne _ _ hne.symm]; exact hn2) (fun _ _ e => e) (fun i ds' e => ?_) hT k
  by_cases hi : i = id
  · subst hi
    rw [Hp.box_setBox] at e; cases e
    exact ⟨cs, by rw [Hp.box_setBox_ne _ _ hne, Hp.box_setBox], hl, hx⟩
  · rw [Hp.box_setBox_ne _ _ hi] at e
    have hi2 : i ≠ id2 := fun e' => by subst e'; rw [hn2] at e; cases e
    exact ⟨ds', by rw [Hp.box_setBox_ne _ _ hi2, Hp.box_setBox_ne _ _ hi]; exact e, rfl, fun j => .inl (.refl _)⟩

theorem AW.hp {c : Code} {h' : Hp} (e : h = h') (k : AW P G N c Q T h') : AW P G N c Q T h := e ▸ k
theorem AOps.hp {ops : Array Oper} {l : List Oper} {h' : Hp} (e : h = h') (k : AOps P G N ops Q l T h') : AOps P G N ops Q l T h := e ▸ k

theorem AOps.wkn {ops : Array Oper} {l : List Oper} {T' : Tm} {h' : Hp} (ht : TLe T T') (hh : HLe h h') (k : AOps P G N ops Q l T' h') : AOps P G N ops Q l T h :=
  fun mu nx w a s Q' hQ => k mu nx w a (s.weaken ht hh) Q' fun _ _ _ q => hQ _ _ _ (lift_trans hh.ext q)
theorem HLe.over {h h0 : Hp} {id : Nat} {cs : List V} (l : HLe h h0) (n : h0.box id = none) : HLe (h.setBox id cs) h0 :=
  ⟨fun i c e => by
    have hne : i ≠ id := fun e' => by subst e'; rw [n] at e; cases e
    rw [Hp.box_setBox_ne h cs hne]; exact l.box i c e, l.tok⟩

/-- What is appended to nothing lies in a row of its own, and may be written to. -/
theorem a_append_box {s x : Operand} {t e : TypeId} {i : TypeInfo} {z : Value} {n by' : Nat} (ho : o.op = .call ⟨.builtin .append, #[s, x], #[t, t]⟩) (ht : P.underlying t = some (.slice e)) (hi : P.info? e = some i) (hz : i.zero = some z) (hsz : i.size = n) (hby : i.bytes = by') (hzs : z.cells.size = n)
    {m : Nat} {ds : List V} {k : SK} (hv : ρ s = .sl .full n 0 []) (hx : ρ x = .sl k n m ds) (hm : ds.length = m * n) (hm0 : 0 < m) (hn0 : 0 < n) (hb : m * by' ≤ 140737488355328) (h63 : m ≤ 9223372036854775807) (hone : (cv z).solid = true)
    {K : V → Hp → Prop} (kk : ∀ id, h.fresh id → ∀ slack, K (.msl id 0 m) (h.setBox id (ds ++ slack))) : AStep P G o ρ h K := by
  intro mu nx w a _ r hr K' Q' hK
  have g1 := hr s (by simp [ho, Op.operands, Call.operands]); rw [hv] at g1
  have g2 := hr x (by simp [ho, Op.operands, Call.operands]); rw [hx] at g2
  subst hsz hby
  obtain ⟨b, off, capx, f, ex, hxi, hxr⟩ : ∃ (b off cap : Nat) (f : Nat → Value), a.eval x = .slice (some ⟨b, off, none⟩) m cap ∧ (∀ j, j < ds.length → (env mu nx h w).imm b (off + j) (f j)) ∧ ∀ j (hj : j < ds.length), Rep (env mu nx h w) (f j) ds[j] := by
    rcases g2.sl_inv with ⟨_, _, e3, _⟩ | ⟨b, off, cap, f, e1, _, _, _, hm', h2'⟩
    · omega
    · exact ⟨b, off, cap, f, e1, hm', h2'⟩
  let news : List Value := (List.range ds.length).map f
  have hnl : news.length = m * i.size := by simp [news, hm]
  have hnews : ∀ j u, news[j]? = some u → w.cell? ((⟨b, off, none⟩ : Addr).add j) = some u := fun j u hu => by
    obtain ⟨hj, rfl⟩ := List.getElem?_eq_some_iff.1 hu
    have hj' : j < ds.length := by simpa [news] using hj
    rw [add_mk]
    simpa [news] using (hxi j hj').2.1
  have hn1 : ∀ u ∈ news, u.oneCell' = true := fun u hu => by
    obtain ⟨j, hj, rfl⟩ := List.getElem_of_mem hu
    have hj' : j < ds.length := by simpa [news] using hj
    simpa [news] using (hxi j hj').2.2
  obtain ⟨z1, z2, z3⟩ := rep_cells (rep_cv (env mu nx h w) z) hone
  obtain ⟨C, vs, hC, hC63, hvsd, hrun⟩ : ∃ (C : Nat) (vs : Array Value), m ≤ C ∧ C ≤ 9223372036854775807 ∧ news.toArray ++ Builtin.zeroCells z.cells (C - m) = vs ∧
      (Builtin.append_ #[t, t] o.type #[a.eval s, a.eval x]).run P w = .ok (.slice (some ⟨w.heap.size, 0, none⟩) m C) (w.drew.alloc (.cells vs e)) := by
    refine ⟨grownCap w m 0 e, _, grownCap_ge w m 0 e, grownCap_le_maxLen w m 0 e (by unfold maxLen; omega), rfl, ?_⟩
    rcases g1.sl_inv with ⟨e1, _, _, _⟩ | ⟨bs, offs, cap, fs, e1, _, _, hk, hsi, hsr⟩
    · rw [e1, ex]
      exact run_append_nil (P := P) w t o.type e i z ht hi hz ⟨b, off, none⟩ m capx news hnl hnews hm0 (by omega) (by omega)
    · have hk' : cap = 0 := hk
      subst hk'
      have := run_append_grow (P := P) w t o.type e i z ht hi hz ⟨bs, offs, none⟩ 0 0 [] (by simp) (by simp) ⟨b, off, none⟩ m capx news hnl hnews (by omega) (by omega) (growslice_fits (by omega) (by simpa using hb))
      rw [e1, ex, this]
      simp
  have hvs : vs.size = C * i.size := by
    rw [← hvsd]
    simp only [Array.size_append, List.size_toArray, size_zeroCells, hzs, hnl, ← Nat.add_mul]
    congr 1; omega
  have hlt : ds.length ≤ vs.size := by rw [hvs, hm]; exact Nat.mul_le_mul_right _ hC
  have hone' : ∀ j (_ : j < vs.size), vs[j].oneCell' = true := fun j hj => by
    subst hvsd
    simp only [Array.getElem_append] at hj ⊢
    split
    · simpa using hn1 _ (List.getElem_mem _)
    · simp only [Builtin.zeroCells, Array.getElem_map, Array.getElem_range]
      have hzp : 0 < z.cells.size := by omega
      rw [getElem!_pos z.cells _ (Nat.mod_lt _ hzp)]
      exact z2 _ _
  have hlen : vs.size = (ds ++ List.replicate (vs.size - ds.length) V.junk).length := by simp; omega
  obtain ⟨r1, x1⟩ := r.newBox (Grows.drew_alloc w (.cells vs e)) (b := w.heap.size) (Nat.le_refl _) (heap_alloc_new w.drew _) (cs := ds ++ List.replicate (vs.size - ds.length) V.junk) hlen hone' (fun j hj hj' => by
    by_cases hjd : j < ds.length
    · rw [List.getElem_append_left hjd]
      have : vs[j]? = some (f j) := by
        rw [← hvsd, Array.getElem?_append_left (by simp [hnl, ← hm]; omega)]
        simp [news, hjd]
      rw [Array.getElem?_eq_getElem hj] at this
      rw [Option.some.inj this]; exact hxr j hjd
    · rw [List.getElem_append_right (by omega), List.getElem_replicate]; exact .junk _)
  unfold Oper.wp execOp
  simp only [ho, resolve, invoke, builtin, Sem.run_bind, Sem.run_pure, Result.andThen_ok, List.map_toArray, List.map_cons, List.map_nil, hrun]
  refine hK _ _ _ _ _ _ (kk nx r.fresh _) r1 ?_ x1
  have hcap : (env (muNew mu nx w.heap.size) (nx + 1) (h.setBox nx (ds ++ List.replicate (vs.size - ds.length) V.junk)) (w.drew.alloc (.cells vs e))).cap w.heap.size (0 + C) :=
    ⟨_, _, _, heap_alloc_new w.drew _, by rw [hvs, Nat.zero_add]; exact Nat.le_mul_of_pos_right _ hn0⟩
  have := Rep.msl (E := env (muNew mu nx w.heap.size) (nx + 1) (h.setBox nx (ds ++ List.replicate (vs.size - ds.length) V.junk)) (w.drew.alloc (.cells vs e))) nx 0 m C (Nat.lt_succ_self _) hC
    (by rw [show (env (muNew mu nx w.heap.size) (nx + 1) (h.setBox nx (ds ++ List.replicate (vs.size - ds.length) V.junk)) (w.drew.alloc (.cells vs e))).mu nx = w.heap.size from muNew_nx]; exact hcap) hC63
  rwa [show (env (muNew mu nx w.heap.size) (nx + 1) (h.setBox nx (ds ++ List.replicate (vs.size - ds.length) V.junk)) (w.drew.alloc (.cells vs e))).mu nx = w.heap.size from muNew_nx] at this

theorem VLe.nilfull {n : Nat} : VLe .snil (.sl .full n 0 []) := fun E v hr => by rw [hr.snil_inv]; exact .slnilf n
/-- Nothing appended to nothing. -/
theorem a_append_nil {s x : Operand} {t e : TypeId} {i : TypeInfo} {n : Nat} (ho : o.op = .call ⟨.builtin .append, #[s, x], #[t, t]⟩) (ht : P.underlying t = some (.slice e)) (hi : P.info? e = some i) {k : SK} (hv : ρ s = .sl .full n 0 []) (hx : ρ x = .sl k n 0 [])
    {K : V → Hp → Prop} (kk : K (.sl .full n 0 []) h) : AStep P G o ρ h K := by
  intro mu nx w a _ r hr K' Q' hK
  have g1 := hr s (by simp [ho, Op.operands, Call.operands]); rw [hv] at g1
  have g2 := hr x (by simp [ho, Op.operands, Call.operands]); rw [hx] at g2
  obtain ⟨b, e1⟩ : ∃ b, a.eval s = .slice b 0 0 := by
    rcases g1.sl_inv with ⟨e1, _, _, _⟩ | ⟨bs, offs, cap, fs, e1, _, _, hk, _, _⟩
    · exact ⟨none, e1⟩
    · have hk' : cap = 0 := hk
      subst hk'; exact ⟨_, e1⟩
  obtain ⟨b', c', e2⟩ : ∃ b' c', a.eval x = .slice b' 0 c' := by
    rcases g2.sl_inv with ⟨e1, _, _, _⟩ | ⟨bs, offs, cap, fs, e1, _⟩
    · exact ⟨none, 0, e1⟩
    · exact ⟨_, _, e1⟩
  have hrun : (Builtin.append_ #[t, t] o.type #[a.eval s, a.eval x]).run P w = .ok (a.eval s) w := by
    rw [e1, e2]
    have hfc : (Builtin.firstCells i.size 0 (.slice b' 0 c')).run P w = .ok #[] w := by
      cases b' with
      | none => simp [Builtin.firstCells]
      | some b' => simp [Builtin.firstCells, loadCells, loadCellsFrom]
    cases b with
    | none => simp [Builtin.append_, run_underlying ht, sizeOf, typeInfo, hi, Builtin.lenOf, hfc]
    | some b => simp [Builtin.append_, run_underlying ht, sizeOf, typeInfo, hi, Builtin.lenOf, hfc, storeCells]
  unfold Oper.wp execOp
  simp only [ho, resolve, invoke, builtin, Sem.run_bind, Sem.run_pure, Result.andThen_ok, List.map_toArray, List.map_cons, List.map_nil, hrun]
  exact hK _ _ mu nx h w kk r g1 (.refl _ _ _ _)
/-- A slice of one number, in a row of its own. -/
theorem a_build1 {t e : TypeId} {x : Operand} (ho : o.op = .buildSlice t 1 #[(0, x)]) (hu : P.underlying t = some (.slice e)) (hn : ∀ w, (sizeOf e).run P w = .ok 1 w) (hz : ∀ w, (zeroValue e).run P w = .ok (.int .i64 0) w) {n : Int} (hx : ρ x = .int .i64 n)
    {K : V → Hp → Prop} (kk : ∀ id, h.fresh id → K (.msl id 0 1) (h.setBox id [.int .i64 n])) : AStep P G o ρ h K := by
  intro mu nx w a _ r hr K' Q' hK
  have g1 := hr x (by simp [ho, Op.operands]); rw [hx] at g1
  have hrun : (execOp a.eval o).run P w = .ok (.value (.slice (some ⟨w.heap.size, 0, none⟩) 1 1)) (w.alloc (.cells #[.int .i64 n] e)) := by
    simp [execOp, ho, Instr.buildSlice, run_underlying hu, hn, hz, g1.int_inv, Instr.fill, Value.cells, newRow, show Array.range 1 = #[0] from rfl]
  obtain ⟨r1, x1⟩ := r.newBox (Grows.alloc w (.cells #[.int .i64 n] e)) (b := w.heap.size) (Nat.le_refl _) (heap_alloc_new w _) (cs := [.int .i64 n]) rfl (fun j hj => by
    have : j = 0 := by simp at hj; omega
    subst this; rfl) (fun j hj hj' => by
    have : j = 0 := by simp at hj; omega
    subst this; exact .int _ _)
  unfold Oper.wp
  rw [hrun]
  refine hK _ _ _ _ _ _ (kk nx r.fresh) r1 ?_ x1
  have hcap : (env (muNew mu nx w.heap.size) (nx + 1) (h.setBox nx [.int .i64 n]) (w.alloc (.cells #[.int .i64 n] e))).cap w.heap.size (0 + 1) := ⟨_, _, _, heap_alloc_new w _, by simp⟩
  have := Rep.msl (E := env (muNew mu nx w.heap.size) (nx + 1) (h.setBox nx [.int .i64 n]) (w.alloc (.cells #[.int .i64 n] e))) nx 0 1 1 (Nat.lt_succ_self _) (Nat.le_refl _) (by rw [show (env (muNew mu nx w.heap.size) (nx + 1) (h.setBox nx [.int .i64 n]) (w.alloc (.cells #[.int .i64 n] e))).mu nx = w.heap.size from muNew_nx]; exact hcap) (by omega)
  rwa [show (env (muNew mu nx w.heap.size) (nx + 1) (h.setBox nx [.int .i64 n]) (w.alloc (.cells #[.int .i64 n] e))).mu nx = w.heap.size from muNew_nx] at this

/-- What a world has kept beside one block. -/
structure Kept (b : Nat) (w w' : World) : Prop where
  os : w'.os = w.os
  tape : w'.tape = w.tape
  output : w'.output = w.output
  size : w'.heap.size = w.heap.size
  block : ∀ k, k ≠ b → w'.heap[k]? = w.heap[k]?
theorem Kept.trans {b : Nat} {w1 w2 w3 : World} (x : Kept b w1 w2) (y : Kept b w2 w3) : Kept b w1 w3 :=
  ⟨y.os.trans x.os, y.tape.trans x.tape, y.output.trans x.output, y.size.trans x.size, fun k hk => (y.block k hk).trans (x.block k hk)⟩
theorem setCells_row (b : Nat) {el : TypeId} : ∀ (vs : List Value) (o : Nat) (w : World) (us : Array Value), w.heap[b]? = some (.cells us el (0, 0)) → o + vs.length ≤ us.size →
    ∃ us', (w.setCells b o vs).heap[b]? = some (.cells us' el (0, 0)) ∧ us'.size = us.size ∧ (∀ j, us'[j]? = if o ≤ j ∧ j < o + vs.length then vs[j - o]? else us[j]?) ∧ Kept b w (w.setCells b o vs)
  | [], o, w, us, h, _ => ⟨us, h, rfl, fun j => by rw [if_neg (by simp)], ⟨rfl, rfl, rfl, rfl, fun _ _ => rfl⟩⟩
  | v :: r, o, w, us, h, hle => by
    have e1 := setCell_eq_setRow w b o us el (0, 0) v h
    have h1 : (w.setCell ⟨b, o, none⟩ v).heap[b]? = some (.cells (us.setIfInBounds o v) el (0, 0)) := by rw [e1]; exact setRow_heap w b us _ el _ h
    obtain ⟨us', k1, k2, k3, k4⟩ := setCells_row b r (o + 1) (w.setCell ⟨b, o, none⟩ v) (us.setIfInBounds o v) h1 (by simp at hle ⊢; omega)
    refine ⟨us', k1, by simpa using k2, fun j => ?_, Kept.trans ?_ k4⟩
    · rw [k3]
      by_cases c1 : j = o
      · subst c1
        rw [if_neg (by omega), if_pos (by simp)]
        have : j < us.size := by simp at hle; omega
        simp [this]
      · by_cases c2 : o + 1 ≤ j ∧ j < o + 1 + r.length
        · rw [if_pos c2, if_pos (by simp; omega)]
          obtain ⟨m, rfl⟩ : ∃ m, j = o + 1 + m := ⟨j - (o + 1), by omega⟩
          have a1 : o + 1 + m - (o + 1) = m := by omega
          have a2 : o + 1 + m - o = m + 1 := by omega
          rw [a1, a2]; simp
        · rw [if_neg c2, if_neg (by simp; omega), Array.getElem?_setIfInBounds_ne (by omega)]
    · rw [e1]; exact ⟨rfl, rfl, rfl, by simp [World.setRow], fun k hk => setRow_other w b k _ hk⟩

theorem Rel.keptBox (r : Rel G mu nx h w) {id : Nat} {cs : List V} (hb : h.box id = some cs) {us us' : Array Value} {el : TypeId} (hh : w.heap[mu id]? = some (.cells us el (0, 0))) {w' : World} (hw : w'.heap[mu id]? = some (.cells us' el (0, 0))) (hk : Kept (mu id) w w') (hsz : us'.size = us.size)
    {cs' : List V} (hs : us'.size = cs'.length) (h1 : ∀ j (_ : j < us'.size), us'[j].oneCell' = true) (h2 : ∀ j (_ : j < us'.size) (_ : j < cs'.length), Rep (env mu nx h w) us'[j] cs'[j]) :
    Rel G mu nx (h.setBox id cs') w' ∧ Ext mu nx h w mu nx (h.setBox id cs') w' :=
  r.setBox hb hh hw hk.block hk.size hsz hk.os hk.tape hk.output hs h1 h2

theorem three {vs : Array Value} (h : vs.size = 3) : ∃ a b c, vs = #[a, b, c] := by
  obtain ⟨l⟩ := vs
  match l, h with
  | [a, b, c], _ => exact ⟨a, b, c, rfl⟩
theorem nums_len (l : List Int) : (nums l).length = l.length := by simp [nums]
theorem nums_get (l : List Int) {j : Nat} (hj : j < l.length) : (nums l)[j]'(by rw [nums_len]; exact hj) = .int .i64 l[j] := by simp [nums]

open Go.Sort Go.Shelf Go.Lib Go.RowKit Go.Proofs in
/-- slices.Delete at numbers, on a copy of one's own. -/
theorem delete_lift {ρ : Go.Shelf.Ren} (L : Lays2.n23 P ρ) {id : Nat} {l : List Int} {slack : List V} {h0 : Hp} (hf : h0.fresh id) {i j : Nat} (hij : i ≤ j) (hj : j ≤ l.length) :
    ACalls P G (ρ.f 23) [.msl id 0 l.length, .int .i64 i, .int .i64 j] (h0.setBox id (nums l ++ slack)) fun r h' => r = .sl .imm 1 (l.length - (j - i)) (nums (l.take i ++ l.drop j)) ∧ h' = h0 := by
  intro mu nx w vs r ha hs
  obtain ⟨v0, v1, v2, rfl⟩ := three (by simpa using hs)
  have a0 : Rep _ v0 (.msl id 0 l.length) := ha 0
  have a1 : Rep _ v1 (.int .i64 i) := ha 1
  have a2 : Rep _ v2 (.int .i64 j) := ha 2
  rw [a1.int_inv, a2.int_inv]
  obtain ⟨_, us, el, hh, hsz, hone, hrep⟩ := r.box id _ (Hp.box_setBox _ _ _)
  cases a0 with
  | msl _ _ _ cap hid hc hk h63 =>
    have hcell : ∀ t (ht : t < l.length), us[t]? = some (.int .i64 l[t]) := fun t ht => by
      have htu : t < us.size := by rw [hsz]; simp [nums_len]; omega
      have := hrep t htu (by simp [nums_len]; omega)
      rw [List.getElem_append_left (by rw [nums_len]; exact ht), nums_get l ht] at this
      rw [Array.getElem?_eq_getElem htu, this.int_inv]
    have H : Holds encI w (mu id) 0 l.toArray := fun t ht => by
      have ht' : t < l.length := by simpa using ht
      refine ⟨?_, by simp [World.frozen?, hh]⟩
      rw [Nat.zero_add, cell_of_row w _ t us el (0, 0) hh, hcell t ht', getElem!_pos _ t (by simpa using ht')]
      rfl
    have C := Any.slices_Delete_int_arr L (mu id) 0 cap i j l.toArray w H (by simpa using hc) h63 hij (by simpa using hj)
    refine C.mono ?_
    rintro e w' ⟨rfl, q, rfl⟩
    let d : Array Int := (l.take i ++ l.drop j ++ List.replicate (j - i) 0).toArray
    have hds : d.size = l.length := by simp [d]; omega
    obtain ⟨r1, x1⟩ := r.grows_same (w' := Go.Sort.ahead w q) ⟨rfl, rfl, rfl, Nat.le_refl _, fun _ _ => rfl⟩
    have hw : (putRow encI (Go.Sort.ahead w q) (mu id) 0 d).heap[mu id]? = some (.cells (putCells encI 0 d us) el (0, 0)) := by
      have : (Go.Sort.ahead w q).heap[mu id]? = some (.cells us el (0, 0)) := hh
      simp only [putRow, mapBlock, Array.getElem?_modify, if_true, this]; rfl
    have hkept : Kept (mu id) (Go.Sort.ahead w q) (putRow encI (Go.Sort.ahead w q) (mu id) 0 d) := ⟨rfl, rfl, rfl, by simp [putRow, mapBlock], fun k hk => by simp [putRow, mapBlock, Array.getElem?_modify, Ne.symm hk]⟩
    have hput : ∀ t (ht : t < us.size), (putCells encI 0 d us)[t]'(by simpa [putCells] using ht) = if t < l.length then .int .i64 d[t]! else us[t] := fun t ht => by
      simp only [putCells, Array.getElem_mapIdx, hds, Nat.zero_add, Nat.zero_le, true_and, Nat.sub_zero]
    have hpsz : (putCells encI 0 d us).size = us.size := by simp [putCells]
    have hus : l.length ≤ us.size := by rw [hsz]; simp [nums_len]
    obtain ⟨r2, x2⟩ := r1.keptBox (cs := nums l ++ slack) (Hp.box_setBox _ _ _) (us := us) hh hw hkept hpsz (cs' := nums d.toList ++ slack) (by rw [hpsz, hsz]; simp [nums_len, hds]) (fun t ht => by
        rw [hpsz] at ht
        rw [hput t ht]; split
        · rfl
        · exact hone _ _) (fun t ht ht' => by
        rw [hpsz] at ht
        rw [hput t ht]
        split
        · rename_i c
          have htd : t < d.toList.length := by simpa [hds] using c
          rw [List.getElem_append_left (by rw [nums_len]; exact htd), nums_get _ htd, getElem!_pos d t (by simpa using htd)]
          simp only [Array.getElem_toList]
          exact .int _ _
        · rename_i c
          rw [List.getElem_append_right (by simp [nums_len, hds]; omega)]
          have := hrep t ht (by rw [← hsz]; exact ht)
          rw [List.getElem_append_right (by simp [nums_len]; omega)] at this
          simp only [nums_len, Array.length_toList, hds] at this ⊢
          exact this.mono x1.le)
    rw [Hp.setBox_setBox] at r2 x2
    have hle : HLe (h0.setBox id (nums d.toList ++ slack)) h0 := .setBox hf.1
    refine ⟨_, _, mu, nx, h0, rfl, ⟨rfl, rfl⟩, hle.rel r2, ?_, (x1.trans x2).trans hle.ext⟩
    have hcap2 := Rep.msl (E := env mu nx (h0.setBox id (nums d.toList ++ slack)) (putRow encI (Go.Sort.ahead w q) (mu id) 0 d)) id 0 (l.length - (j - i)) cap hid (by omega) (by
      obtain ⟨c1, c2, c3, c4, c5⟩ := hk
      change w.heap[mu id]? = _ at c4
      rw [hh] at c4; cases c4
      exact ⟨_, _, _, hw, by rw [hpsz]; exact c5⟩) h63
    have := r2.stay (Hp.box_setBox _ _ _) hle hf.1 hcap2 (.inr ⟨0, 1, l.length - (j - i), rfl, rfl, by simp [nums_len, hds]; omega⟩)
    have e1 : ((nums d.toList ++ slack).drop 0).take ((l.length - (j - i)) * 1) = nums (l.take i ++ l.drop j) := by
      rw [List.drop_zero, Nat.mul_one, List.take_append_of_le_length (by rw [nums_len]; simp [hds])]
      simp only [nums, d, List.map_append]
      rw [List.take_append_of_le_length (by simp; omega), List.take_of_length_le (by simp; omega)]
    rw [e1] at this
    have hd : (l.length - (j - i)) = d.size - (j - i) := by rw [hds]
    have e2 : l.toArray.size - (j - i) = l.length - (j - i) := by simp
    rw [e2]; exact this

theorem ins_get (l : List Int) (x : Int) {i : Nat} (hi : i ≤ l.length) (j : Nat) : ((l.take i ++ x :: l.drop i).map (Value.int .i64))[j]? = if j < i then (l.map (Value.int .i64))[j]? else if j = i then some (.int .i64 x) else (l.map (Value.int .i64))[j - 1]? := by
  have hl : (l.take i).length = i := by simp; omega
  rw [List.getElem?_map, List.getElem?_append, hl]
  by_cases c1 : j < i
  · simp only [c1, if_true, List.getElem?_take, List.getElem?_map]
  · simp only [c1, if_false]
    by_cases c2 : j = i
    · subst c2; simp
    · simp only [c2, if_false]
      obtain ⟨m, rfl⟩ : ∃ m, j = i + 1 + m := ⟨j - (i + 1), by omega⟩
      have a1 : i + 1 + m - i = m + 1 := by omega
      have a2 : i + 1 + m - 1 = i + m := by omega
      rw [a1, a2, List.getElem?_cons_succ, List.getElem?_drop, List.getElem?_map]
theorem ins_len (l : List Int) (x : Int) {i : Nat} (hi : i ≤ l.length) : (l.take i ++ x :: l.drop i).length = l.length + 1 := by simp; omega

/-- The end of an insertion: what the new slice's row holds. -/
theorem insert_end {w1 : World} {h0 h1 : Hp} (r : Rel G mu nx h1 w1) (hl0 : HLe h1 h0) {b : Nat} {us : Array Value} {el : TypeId} (hh : w1.heap[b]? = some (.cells us el (0, 0))) (hb : ∀ i, h0.alive i → mu i ≠ b) {res : List Int} {n cap : Nat} (hn : res.length = n) (hc : n ≤ cap)
    (hus : ∀ j, j < n → us[j]? = some (.int .i64 (res.getD j 0))) : Rep (env mu nx h0 w1) (.slice (some ⟨b, 0, none⟩) n cap) (.sl .imm 1 n (nums res)) := by
  refine .sl .imm b 0 1 n cap (nums res) (fun j => .int .i64 (res.getD j 0)) (by rw [nums_len]; omega) hc trivial (fun j hj => ?_) (fun j hj => ?_)
  · rw [nums_len, hn] at hj
    refine ⟨⟨(Array.getElem?_eq_some_iff.1 hh).1, fun i hi e => hb i (.inl hi) e, fun t m ht e => absurd e (hb t (.inr (by simp [ht])))⟩, ?_, rfl⟩
    rw [Nat.zero_add, cell_of_row w1 b j us el (0, 0) hh]; exact hus j hj
  · have hj' := hj; rw [nums_len] at hj'
    rw [nums_get res hj']
    have : res.getD j 0 = res[j] := by simp [List.getD, hj']
    rw [this]; exact .int _ _

open Go.Sort Go.Shelf Go.Lib Go.RowKit Go.Proofs in
/-- slices.Insert of one number, into a copy of one's own. -/
theorem insert_lift {ρ : Go.Shelf.Ren} (L : Lays2.n21 P ρ) {id idv : Nat} {l : List Int} {x : Int} {slack : List V} {h0 : Hp} (hf : h0.fresh id) (hfv : (h0.setBox id (nums l ++ slack)).fresh idv) {i : Nat} (hi : i ≤ l.length) (hlen : l.length ≤ 1000000) :
    ACalls P G (ρ.f 21) [.msl id 0 l.length, .int .i64 i, .msl idv 0 1] ((h0.setBox id (nums l ++ slack)).setBox idv [.int .i64 x]) fun r h' => r = .sl .imm 1 (l.length + 1) (nums (l.take i ++ x :: l.drop i)) ∧ h' = h0 := by
  intro mu nx w vs r ha hs
  obtain ⟨v0, v1, v2, rfl⟩ := three (by simpa using hs)
  have a0 : Rep _ v0 (.msl id 0 l.length) := ha 0
  have a1 : Rep _ v1 (.int .i64 i) := ha 1
  have a2 : Rep _ v2 (.msl idv 0 1) := ha 2
  rw [a1.int_inv]
  have hne : id ≠ idv := Hp.ne_of_box (Hp.box_setBox _ _ _) hfv.1
  have hb1 : ((h0.setBox id (nums l ++ slack)).setBox idv [.int .i64 x]).box id = some (nums l ++ slack) := by rw [Hp.box_setBox_ne _ _ hne, Hp.box_setBox]
  obtain ⟨_, us, el, hh, hsz, hone, hrep⟩ := r.box id _ hb1
  obtain ⟨_, uv, elv, hhv, hszv, honev, hrepv⟩ := r.box idv _ (Hp.box_setBox _ _ _)
  have hvb : mu idv ≠ mu id := fun e => hne (r.inj id idv (.inl (by rw [hb1]; simp)) (.inl (by simp)) e.symm)
  have huv : uv[0]? = some (.int .i64 x) := by
    have h0' : 0 < uv.size := by rw [hszv]; simp
    have := hrepv 0 h0' (by simp)
    rw [Array.getElem?_eq_getElem h0', Rep.int_inv this]
  have hle : HLe ((h0.setBox id (nums l ++ slack)).setBox idv [.int .i64 x]) h0 := (HLe.setBox hfv.1).trans (.setBox hf.1)
  have hle1 : HLe ((h0.setBox id (nums l ++ slack)).setBox idv [.int .i64 x]) (h0.setBox id (nums l ++ slack)) := .setBox hfv.1
  cases a0 with
  | msl _ _ _ cap hid hc hk h63 =>
  cases a2 with
  | msl _ _ _ capv hidv hcv hkv h63v =>
    obtain ⟨kc, ke, kf, k4, k5⟩ := hk
    change w.heap[mu id]? = _ at k4
    rw [hh] at k4; cases k4
    have hcap : cap ≤ us.size := by omega
    have hcell : ∀ t (ht : t < l.length), us[t]? = some (.int .i64 l[t]) := fun t ht => by
      have htu : t < us.size := by omega
      have := hrep t htu (by simp [nums_len]; omega)
      rw [List.getElem_append_left (by rw [nums_len]; exact ht), nums_get l ht] at this
      rw [Array.getElem?_eq_getElem htu, this.int_inv]
    let cs : List Value := l.map (Value.int .i64)
    have hcl : cs.length = l.length := by simp [cs]
    have hcs : ∀ j v, cs[j]? = some v → us[j]? = some v := fun j v hv => by
      obtain ⟨hj, rfl⟩ := List.getElem?_eq_some_iff.1 hv
      have hj' : j < l.length := by simpa [cs] using hj
      rw [hcell j hj']; simp [cs]
    have hcsw : ∀ j v, cs[j]? = some v → w.cell? ⟨mu id, 0 + j, none⟩ = some v := fun j v hv => by
      rw [Nat.zero_add, cell_of_row w _ j us el (0, 0) hh]; exact hcs j v hv
    have hvs : ∀ j v, [Value.int .i64 x][j]? = some v → w.cell? ⟨mu idv, 0 + j, none⟩ = some v := fun j v hv => by
      match j, hv with
      | 0, hv => rw [cell_of_row w _ _ uv elv (0, 0) hhv]; exact huv.trans hv
      | j + 1, hv => simp at hv
    have h1c : ∀ v ∈ cs, v.oneCell' = true := fun v hv => by
      obtain ⟨y, _, rfl⟩ := List.mem_map.1 hv; rfl
    have h1v : ∀ v ∈ [Value.int .i64 x], v.oneCell' = true := fun v hv => by
      rw [List.mem_singleton] at hv; subst hv; rfl
    have alive0 : ∀ k, h0.alive k → mu k ≠ mu id := fun k hk e => by
      have := r.inj k id (hle.alive hk) (.inl (by rw [hb1]; simp)) e
      subst this
      rcases hk with hk | hk
      · exact hk hf.1
      · exact hk hf.2
    have hrl := ins_len l x hi
    have hres : ∀ (us' : Array Value), (∀ j, j < l.length + 1 → us'[j]? = if j < i then cs[j]? else if j = i then some (.int .i64 x) else cs[j - 1]?) → ∀ j, j < l.length + 1 → us'[j]? = some (.int .i64 ((l.take i ++ x :: l.drop i).getD j 0)) := fun us' hu j hj => by
      rw [hu j hj, ← ins_get l x hi j, List.getElem?_map, List.getD_eq_getElem?_getD]
      rw [List.getElem?_eq_getElem (by omega)]; rfl
    -- in place
    have inPlace : ∀ (w1 w' : World) (us' : Array Value), Rel G mu nx ((h0.setBox id (nums l ++ slack)).setBox idv [.int .i64 x]) w1 → Ext mu nx ((h0.setBox id (nums l ++ slack)).setBox idv [.int .i64 x]) w mu nx ((h0.setBox id (nums l ++ slack)).setBox idv [.int .i64 x]) w1 →
        w1.heap[mu id]? = some (.cells us el (0, 0)) → w'.heap[mu id]? = some (.cells us' el (0, 0)) → us'.size = us.size → l.length + 1 ≤ cap → Kept (mu id) w1 w' →
        (∀ j, j < l.length + 1 → us'[j]? = if j < i then cs[j]? else if j = i then some (.int .i64 x) else cs[j - 1]?) → (∀ j, ¬ j < l.length + 1 → us'[j]? = us[j]?) →
        ∃ v z mu' nx' h', Ending.returned (.slice (some ⟨mu id, 0, none⟩) (l.length + 1) cap) = .returned v ∧ (z = .sl .imm 1 (l.length + 1) (nums (l.take i ++ x :: l.drop i)) ∧ h' = h0) ∧ Rel G mu' nx' h' w' ∧ Rep (env mu' nx' h' w') v z ∧
          Ext mu nx ((h0.setBox id (nums l ++ slack)).setBox idv [.int .i64 x]) w mu' nx' h' w' := by
      intro w1 w' us' r1 x1 e1 e2 e3 hroom hkept e4 e5
      have e6 := hres us' e4
      have hsl : slack.length = us.size - l.length := by rw [hsz]; simp [nums_len]
      obtain ⟨r2, x2⟩ := r1.keptBox hb1 e1 e2 hkept e3 (cs' := nums (l.take i ++ x :: l.drop i) ++ slack.drop 1) (by rw [e3]; simp only [List.length_append, nums_len, hrl, List.length_drop]; omega) (fun j hj => by
          rw [e3] at hj
          by_cases c : j < l.length + 1
          · have := e6 j c
            rw [Array.getElem?_eq_getElem (by omega)] at this
            rw [Option.some.inj this]; rfl
          · have := e5 j c
            rw [Array.getElem?_eq_getElem (by omega), Array.getElem?_eq_getElem (by omega)] at this
            rw [Option.some.inj this]; exact hone _ _) (fun j hj hj' => by
          rw [e3] at hj
          by_cases c : j < l.length + 1
          · have := e6 j c
            rw [Array.getElem?_eq_getElem (by omega)] at this
            rw [Option.some.inj this, List.getElem_append_left (by rw [nums_len]; omega), nums_get _ (by omega)]
            have hg : (l.take i ++ x :: l.drop i).getD j 0 = (l.take i ++ x :: l.drop i)[j]'(by omega) := by simp [List.getD_eq_getElem?_getD, List.getElem?_eq_getElem (show j < (l.take i ++ x :: l.drop i).length by omega)]
            rw [hg]; exact .int _ _
          · have := e5 j c
            rw [Array.getElem?_eq_getElem (by omega), Array.getElem?_eq_getElem (by omega)] at this
            rw [Option.some.inj this, List.getElem_append_right (by rw [nums_len]; omega)]
            have q := hrep j hj (by rw [← hsz]; exact hj)
            rw [List.getElem_append_right (by rw [nums_len]; omega)] at q
            simp only [nums_len, hrl, List.getElem_drop] at q ⊢
            have e7 : 1 + (j - (l.length + 1)) = j - l.length := by omega
            simp only [e7]
            exact q.mono x1.le)
      have hl2 : HLe (((h0.setBox id (nums l ++ slack)).setBox idv [.int .i64 x]).setBox id (nums (l.take i ++ x :: l.drop i) ++ slack.drop 1)) h0 := by
        rw [Hp.setBox_comm _ _ _ hne, Hp.setBox_setBox]
        refine (HLe.setBox (cs := _) ?_).trans (.setBox ?_)
        · rw [Hp.box_setBox_ne _ _ hne]; exact hf.1
        · have := hfv.1; rwa [Hp.box_setBox_ne _ _ hne.symm] at this
      refine ⟨_, _, mu, nx, h0, rfl, ⟨rfl, rfl⟩, hl2.rel r2, ?_, (x1.trans x2).trans hl2.ext⟩
      exact insert_end r2 hl2 e2 alive0 hrl hroom e6
    -- a new row
    have newRow : ∀ (w' : World) (us' : Array Value) (el' : TypeId) (C : Nat), Grows w w' → w'.heap[w.heap.size]? = some (.cells us' el' (0, 0)) → l.length + 1 ≤ C →
        (∀ j, j < l.length + 1 → us'[j]? = if j < i then cs[j]? else if j = i then some (.int .i64 x) else cs[j - 1]?) →
        ∃ v z mu' nx' h', Ending.returned (.slice (some ⟨w.heap.size, 0, none⟩) (l.length + 1) C) = .returned v ∧ (z = .sl .imm 1 (l.length + 1) (nums (l.take i ++ x :: l.drop i)) ∧ h' = h0) ∧ Rel G mu' nx' h' w' ∧ Rep (env mu' nx' h' w') v z ∧
          Ext mu nx ((h0.setBox id (nums l ++ slack)).setBox idv [.int .i64 x]) w mu' nx' h' w' := by
      intro w' us' el' C g e1 e2 e3
      obtain ⟨r1, x1⟩ := r.grows_same g
      refine ⟨_, _, mu, nx, h0, rfl, ⟨rfl, rfl⟩, hle.rel r1, ?_, x1.trans hle.ext⟩
      exact insert_end r1 hle e1 (fun k hk e => by have := (r.alive_lt (hle.alive hk)).2; omega) hrl e2 (hres us' e3)
    by_cases hroom : l.length + 1 ≤ cap
    · by_cases hin : i < l.length
      · have C := Any2.slices_Insert_int_shift L (mu id) 0 l.length cap i (mu idv) 0 1 capv cs [.int .i64 x] w hin (by omega) hroom h63 hvb hcl rfl hcsw (fun j hj => by rw [Nat.zero_add, cell_of_row w _ j us el (0, 0) hh]; simp; omega) (fun j _ => by simp [World.frozen?, hh]) hvs h1c h1v elv el uv.size us.size
          (by simp [World.shape?, hhv]) (by simp [World.shape?, hh]) (by omega) (by simp [World.frozen?, hhv]) (by simp [World.frozen?, hhv])
        refine C.mono ?_
        rintro e w' ⟨rfl, rfl⟩
        have hd : w.drew.heap[mu id]? = some (.cells us el (0, 0)) := hh
        obtain ⟨u1, k1, k2, k3, k4⟩ := setCells_row (mu id) (cs.drop i) (0 + (i + 1)) w.drew us hd (by simp [hcl]; omega)
        obtain ⟨u2, m1, m2, m3, m4⟩ := setCells_row (mu id) [.int .i64 x] (0 + i) _ u1 k1 (by simp; omega)
        obtain ⟨r1, x1⟩ := r.grows_same (w' := w.drew) ⟨rfl, rfl, rfl, Nat.le_refl _, fun _ _ => rfl⟩
        refine inPlace w.drew _ u2 r1 x1 hd m1 (by omega) hroom (k4.trans m4) (fun j hj => ?_) (fun j hj => ?_)
        · rw [m3, k3]
          by_cases c1 : j < i
          · rw [if_neg (by simp; omega), if_neg (by simp; omega), if_pos c1]
            obtain hj' : j < l.length := by omega
            rw [hcell j hj']; simp [cs, hj']
          · by_cases c2 : j = i
            · subst c2; rw [if_pos (by simp), if_neg c1, if_pos rfl]; simp
            · rw [if_neg (by simp; omega), if_pos (by simp [hcl]; omega), if_neg c1, if_neg c2, List.getElem?_drop]
              congr 1; omega
        · rw [m3, k3, if_neg (by simp; omega), if_neg (by simp [hcl]; omega)]
      · obtain rfl : i = l.length := by omega
        have C := Any2.slices_Insert_int_end_room L (mu id) 0 l.length cap (mu idv) 0 1 capv [.int .i64 x] w (by omega) hroom h63 rfl (fun j hj => by rw [cell_of_row w _ _ us el (0, 0) hh]; simp; omega) (fun j _ => by simp [World.frozen?, hh]) hvs h1v
        refine C.mono ?_
        rintro e w' ⟨rfl, rfl⟩
        obtain ⟨u2, m1, m2, m3, m4⟩ := setCells_row (mu id) [.int .i64 x] (0 + l.length) w us hh (by simp; omega)
        refine inPlace w _ u2 r (.refl _ _ _ _) hh m1 (by omega) hroom m4 (fun j hj => ?_) (fun j hj => ?_)
        · rw [m3]
          by_cases c1 : j < l.length
          · rw [if_neg (by simp; omega), if_pos c1, hcell j c1]; simp [cs, c1]
          · obtain rfl : j = l.length := by omega
            rw [if_pos (by simp), if_neg c1, if_pos rfl]; simp
        · rw [m3, if_neg (by simp; omega)]
    · by_cases hin : i < l.length
      · have C := Any2.slices_Insert_int_grow L (mu id) 0 l.length cap i (mu idv) 0 1 capv cs [.int .i64 x] w hin (by omega) hc (by omega) (by omega) hcl rfl hcsw hvs h1c h1v
        refine C.mono ?_
        rintro e w' ⟨rfl, rfl⟩
        have hC : l.length + 1 ≤ grownCap w (l.length + 1) cap (ρ.t 3) := grownCap_ge _ _ _ _
        generalize grownCap w (l.length + 1) cap (ρ.t 3) = C at hC
        generalize hus0 : ((cs.take i).toArray ++ Builtin.zeroCells (Value.int .i64 0).cells (l.length + 1 - i) ++ Builtin.zeroCells (Value.int .i64 0).cells (C - (l.length + 1))) = us0
        have hsz0 : us0.size = C := by rw [← hus0]; simp [size_zeroCells, cs, Value.cells]; omega
        have hn0 : (w.alloc (.cells us0 (ρ.t 3))).drew.heap[w.heap.size]? = some (.cells us0 (ρ.t 3) (0, 0)) := heap_alloc_new w _
        obtain ⟨u1, k1, k2, k3, k4⟩ := setCells_row w.heap.size [.int .i64 x] i (w.alloc (.cells us0 (ρ.t 3))).drew us0 hn0 (by simp; omega)
        obtain ⟨u2, m1, m2, m3, m4⟩ := setCells_row w.heap.size (cs.drop i) (i + 1) ((w.alloc (.cells us0 (ρ.t 3))).drew.setCells w.heap.size i [.int .i64 x]).drew u1 k1 (by simp [hcl]; omega)
        have gr : Grows w (((w.alloc (.cells us0 (ρ.t 3))).drew.setCells w.heap.size i [.int .i64 x]).drew.setCells w.heap.size (i + 1) (cs.drop i)) :=
          ⟨m4.os.trans k4.os, m4.tape.trans k4.tape, m4.output.trans k4.output, by rw [m4.size]; show _ ≤ (World.setCells _ _ _ _).heap.size; rw [k4.size]; show _ ≤ (w.alloc _).heap.size; simp, fun k hk => by
            rw [m4.block k (by omega)]; show (World.setCells _ _ _ _).heap[k]? = _; rw [k4.block k (by omega)]; exact heap_alloc_old w _ hk⟩
        refine newRow _ u2 _ C gr m1 hC (fun j hj => ?_)
        rw [m3, k3]
        by_cases c1 : j < i
        · rw [if_neg (by simp; omega), if_neg (by simp; omega), if_pos c1, ← hus0, Array.getElem?_append_left (by simp [size_zeroCells, cs, Value.cells]; omega), Array.getElem?_append_left (by simp [cs]; omega)]
          simp [List.getElem?_take, c1]
        · by_cases c2 : j = i
          · subst c2; rw [if_neg (by simp; omega), if_pos (by simp), if_neg c1, if_pos rfl]; simp
          · rw [if_pos (by simp [hcl]; omega), if_neg c1, if_neg c2, List.getElem?_drop]
            congr 1; omega
      · obtain rfl : i = l.length := by omega
        have C := Any2.slices_Insert_int_end_grow L (some ⟨mu id, 0, none⟩) l.length cap (mu idv) 0 1 capv cs [.int .i64 x] w (by omega) hc (by omega) (by omega) hcl rfl (fun e => by cases e) (fun a ha j v hv => by cases ha; rw [add_mk]; exact hcsw j v hv) hvs h1v
        refine C.mono ?_
        rintro e w' ⟨rfl, rfl⟩
        have hC : l.length + 1 ≤ grownCap w (l.length + 1) cap (ρ.t 3) := grownCap_ge _ _ _ _
        generalize grownCap w (l.length + 1) cap (ρ.t 3) = C at hC
        refine newRow _ _ _ C (Grows.drew_alloc w _) (heap_alloc_new w.drew _) hC (fun j hj => ?_)
        rw [Array.getElem?_append_left (by simp [cs]; omega), List.getElem?_toArray, List.getElem?_append, hcl]
        by_cases c1 : j < l.length
        · rw [if_pos c1, if_pos c1]
        · obtain rfl : j = l.length := by omega
          rw [if_neg c1, if_neg c1, if_pos rfl]; simp
open Go.Sort Go.Shelf Go.Lib Go.RowKit Go.Proofs in
/-- .. into nothing. -/
theorem insert_lift0 {ρ : Go.Shelf.Ren} (L : Lays2.n21 P ρ) {idv : Nat} {x : Int} {h0 : Hp} (hfv : h0.fresh idv) {k : SK} (hk0 : k = .full) :
    ACalls P G (ρ.f 21) [.sl k 1 0 [], .int .i64 (0 : Nat), .msl idv 0 1] (h0.setBox idv [.int .i64 x]) fun r h' => r = .sl .imm 1 1 (nums [x]) ∧ h' = h0 := by
  intro mu nx w vs r ha hs
  subst hk0
  obtain ⟨v0, v1, v2, rfl⟩ := three (by simpa using hs)
  have a0 : Rep _ v0 (.sl .full 1 0 []) := ha 0
  have a1 : Rep _ v1 (.int .i64 (0 : Nat)) := ha 1
  have a2 : Rep _ v2 (.msl idv 0 1) := ha 2
  rw [a1.int_inv]
  obtain ⟨_, uv, elv, hhv, hszv, honev, hrepv⟩ := r.box idv _ (Hp.box_setBox _ _ _)
  have huv : uv[0]? = some (.int .i64 x) := by
    have h0' : 0 < uv.size := by rw [hszv]; simp
    have := hrepv 0 h0' (by simp)
    rw [Array.getElem?_eq_getElem h0', Rep.int_inv this]
  have hle : HLe (h0.setBox idv [.int .i64 x]) h0 := .setBox hfv.1
  have hvs : ∀ j v, [Value.int .i64 x][j]? = some v → w.cell? ⟨mu idv, 0 + j, none⟩ = some v := fun j v hv => by
    match j, hv with
    | 0, hv => rw [cell_of_row w _ _ uv elv (0, 0) hhv]; exact huv.trans hv
    | j + 1, hv => simp at hv
  have h1v : ∀ v ∈ [Value.int .i64 x], v.oneCell' = true := fun v hv => by
    rw [List.mem_singleton] at hv; subst hv; rfl
  obtain ⟨base, e0⟩ : ∃ base, v0 = .slice base 0 0 := by
    rcases a0.sl_inv with ⟨e1, _, _, _⟩ | ⟨bs, offs, cap, fs, e1, _, _, hk, _, _⟩
    · exact ⟨none, e1⟩
    · have hk' : cap = 0 := hk
      subst hk'; exact ⟨_, e1⟩
  subst e0
  cases a2 with
  | msl _ _ _ capv hidv hcv hkv h63v =>
    have C := Any2.slices_Insert_int_end_grow L base 0 0 (mu idv) 0 1 capv [] [.int .i64 x] w (by omega) (by omega) (by omega) (by omega) rfl rfl (fun _ => rfl) (fun a ha j v hv => by simp at hv) hvs h1v
    refine C.mono ?_
    rintro e w' ⟨rfl, rfl⟩
    have hC : 0 + 1 ≤ grownCap w (0 + 1) 0 (ρ.t 3) := grownCap_ge _ _ _ _
    generalize grownCap w (0 + 1) 0 (ρ.t 3) = C at hC
    obtain ⟨r1, x1⟩ := r.grows_same (Grows.drew_alloc w (.cells (([] ++ [Value.int .i64 x]).toArray ++ Builtin.zeroCells (Value.int .i64 0).cells (C - (0 + 1))) (ρ.t 3)))
    refine ⟨_, _, mu, nx, h0, rfl, ⟨rfl, rfl⟩, hle.rel r1, ?_, x1.trans hle.ext⟩
    refine insert_end r1 hle (heap_alloc_new w.drew _) (fun k hk e => by have := (r.alive_lt (hle.alive hk)).2; have e' : mu k = w.heap.size := e; omega) rfl hC (fun j hj => ?_)
    obtain rfl : j = 0 := by omega
    rw [Array.getElem?_append_left (by simp)]; simp
end
end Go.AV
