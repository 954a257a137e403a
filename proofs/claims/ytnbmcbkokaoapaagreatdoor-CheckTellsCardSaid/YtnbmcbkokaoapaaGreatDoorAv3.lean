/- The abstract walk, third part: operations that read memory, and parts of values. -/
import Derived.Test.YtnbmcbkokaoapaaGreatDoorAv2
namespace Go.AV
section
variable {P : Program} {G : Nat → Option (List V)} {h : Hp} {o : Oper} {ρ : Operand → V}

theorem add_mk (b off j : Nat) : (⟨b, off, none⟩ : Addr).add j = ⟨b, off + j, none⟩ := by
  unfold Addr.add
  split
  · subst_vars; rfl
  · rfl

theorem run_load1 {w : World} {b off : Nat} {t : TypeId} {v : Value} (ha : ∀ w, (isAgg t).run P w = .ok false w) (hc : w.cell? ⟨b, off, none⟩ = some v) :
    (Instr.loadAt t (.pointer (some ⟨b, off, none⟩))).run P w = .ok v w := by
  simp [Instr.loadAt, Instr.sureAddr, loadVar, ha, hc]
theorem run_loadN {w : World} {b off n : Nat} {t : TypeId} {f : Nat → Value} (ha : ∀ w, (isAgg t).run P w = .ok true w) (hs : ∀ w, (sizeOf t).run P w = .ok n w) (hc : ∀ j, j < n → w.cell? ⟨b, off + j, none⟩ = some (f j)) :
    (Instr.loadAt t (.pointer (some ⟨b, off, none⟩))).run P w = .ok (.agg ((List.range n).map f).toArray) w := by
  have := run_loadCells (P := P) w ⟨b, off, none⟩ n f (fun j hj => by rw [add_mk]; exact hc j hj)
  simp [Instr.loadAt, Instr.sureAddr, loadVar, ha, hs, this]

theorem rep_agg_range {E : Env} {n : Nat} {f : Nat → Value} {ds : List V} (hl : ds.length = n) (h1 : ∀ j, j < n → (f j).oneCell' = true) (h2 : ∀ j (_ : j < n) (hj : j < ds.length), Rep E (f j) ds[j]) :
    Rep E (.agg ((List.range n).map f).toArray) (.agg ds) := by
  refine .agg _ _ (by simp [hl]) (fun j hj => ?_) (fun j hj hj' => ?_)
  · simp at hj ⊢; exact h1 j hj
  · simp at hj ⊢; exact h2 j hj hj'

/-! ### loads -/
theorem q_load_i1 {t : TypeId} {x : Operand} (ho : o.op = .load t x) (ha : ∀ w, (isAgg t).run P w = .ok false w) {cs : List V} (hx : ρ x = .iptr cs) {v : V} (hv : cs[0]? = some v) : QOp P G h o ρ v :=
  .of_run fun _ _ _ _ w a _ hr => by
    have h1 := hr x (by simp [ho, Op.operands]); rw [hx] at h1
    obtain ⟨b, off, f, e, hi, h2⟩ := h1.iptr_inv
    obtain ⟨hlt, rfl⟩ := List.getElem?_eq_some_iff.1 hv
    obtain ⟨_, hc, _⟩ := hi 0 hlt
    rw [Nat.add_zero] at hc
    exact ⟨f 0, by simp only [execOp, ho, e, Sem.run_bind, run_load1 (P := P) ha hc, Result.andThen_ok]; rfl, h2 0 hlt⟩
theorem q_load_iN {t : TypeId} {x : Operand} (ho : o.op = .load t x) (ha : ∀ w, (isAgg t).run P w = .ok true w) {n : Nat} (hs : ∀ w, (sizeOf t).run P w = .ok n w) {cs : List V} (hx : ρ x = .iptr cs)
    {ds : List V} (hl : ds.length = n) (hd : cs.take n = ds) : QOp P G h o ρ (.agg ds) :=
  .of_run fun _ _ _ _ w a _ hr => by
    have h1 := hr x (by simp [ho, Op.operands]); rw [hx] at h1
    obtain ⟨b, off, f, e, hi, h2⟩ := h1.iptr_inv
    have hn : n ≤ cs.length := by rw [← hd] at hl; simp at hl; omega
    refine ⟨.agg ((List.range n).map f).toArray, ?_, rep_agg_range hl (fun j hj => (hi j (by omega)).2.2) fun j hj hj' => ?_⟩
    · simp only [execOp, ho, e, Sem.run_bind, run_loadN (P := P) ha hs (fun j hj => (hi j (by omega)).2.1), Result.andThen_ok]; rfl
    · have := h2 j (by omega)
      subst hd; simpa using this
theorem q_load_b1 {t : TypeId} {x : Operand} (ho : o.op = .load t x) (ha : ∀ w, (isAgg t).run P w = .ok false w) {id off : Nat} (hx : ρ x = .ptr id off) {cs : List V} (hb : h.box id = some cs) {v : V} (hv : cs[off]? = some v) : QOp P G h o ρ v :=
  .of_run fun _ hle mu _ w a r hr => by
    have h1 := hr x (by simp [ho, Op.operands]); rw [hx] at h1
    obtain ⟨hlt, rfl⟩ := List.getElem?_eq_some_iff.1 hv
    obtain ⟨_, vs, el, hh, hsz, hone, hrep⟩ := r.box id cs (hle.box id cs hb)
    have hc : w.cell? ⟨mu id, off, none⟩ = some (vs[off]'(by omega)) := by
      rw [cell_of_row w _ off vs el (0, 0) hh]; simp [hsz, hlt]
    exact ⟨vs[off]'(by omega), by simp only [execOp, ho, show a.eval x = .pointer (some ⟨mu id, off, none⟩) from (h1.ptr_inv).2, Sem.run_bind, run_load1 (P := P) ha hc, Result.andThen_ok]; rfl, hrep off (by omega) hlt⟩
theorem q_load_bN {t : TypeId} {x : Operand} (ho : o.op = .load t x) (ha : ∀ w, (isAgg t).run P w = .ok true w) {n : Nat} (hs : ∀ w, (sizeOf t).run P w = .ok n w) (hn0 : 0 < n) {id off : Nat} (hx : ρ x = .ptr id off)
    {cs : List V} (hb : h.box id = some cs) {ds : List V} (hl : ds.length = n) (hd : (cs.drop off).take n = ds) : QOp P G h o ρ (.agg ds) :=
  .of_run fun _ hle mu _ w a r hr => by
    have h1 := hr x (by simp [ho, Op.operands]); rw [hx] at h1
    obtain ⟨_, vs, el, hh, hsz, hone, hrep⟩ := r.box id cs (hle.box id cs hb)
    have hn : off + n ≤ cs.length := by rw [← hd] at hl; simp at hl; omega
    let f : Nat → Value := fun j => vs.getD (off + j) undef
    have hf : ∀ j (_ : j < n), f j = vs[off + j]'(by omega) := fun j hj => by
      have : off + j < vs.size := by omega
      simp [f, Array.getD, this]
    have hc : ∀ j, j < n → w.cell? ⟨mu id, off + j, none⟩ = some (f j) := fun j hj => by
      rw [cell_of_row w _ (off + j) vs el (0, 0) hh, hf j hj]; simp
    refine ⟨.agg ((List.range n).map f).toArray, ?_, rep_agg_range hl (fun j hj => by rw [hf j hj]; exact hone _ _) fun j hj hj' => ?_⟩
    · simp only [execOp, ho, show a.eval x = .pointer (some ⟨mu id, off, none⟩) from (h1.ptr_inv).2, Sem.run_bind, run_loadN (P := P) ha hs hc, Result.andThen_ok]; rfl
    · have := hrep (off + j) (by omega) (by omega)
      rw [hf j hj]
      subst hd; simpa using this

/-! ### addresses -/
theorem run_fieldAt {w : World} {s : TypeId} {fs : Array Field} (hu : P.underlying s = some (.struct fs)) {i : Nat} {fld : Field} (hf : fs[i]? = some fld) {m : Nat} (hs : ∀ w, (sizeOf fld.type).run P w = .ok m w) (hm : m ≠ 0) (b off : Nat) :
    (Instr.fieldAt s (.pointer (some ⟨b, off, none⟩)) i).run P w = .ok (.pointer (some ⟨b, off + fld.offset, none⟩)) w := by
  simp [Instr.fieldAt, run_underlying hu, hf, Instr.sureAddr, fieldPlace, hs, hm, add_mk]
theorem q_fa_i {s : TypeId} {x : Operand} {i : Nat} (ho : o.op = .fieldAddr s x i) {fs : Array Field} (hu : P.underlying s = some (.struct fs)) {fld : Field} (hf : fs[i]? = some fld) {m : Nat} (hs : ∀ w, (sizeOf fld.type).run P w = .ok m w) (hm : m ≠ 0)
    {cs : List V} (hx : ρ x = .iptr cs) {ds : List V} (hd : cs.drop fld.offset = ds) : QOp P G h o ρ (.iptr ds) :=
  .of_run fun _ _ _ _ w a _ hr => by
    have h1 := hr x (by simp [ho, Op.operands]); rw [hx] at h1
    obtain ⟨b, off, f, e, hi, h2⟩ := h1.iptr_inv
    refine ⟨.pointer (some ⟨b, off + fld.offset, none⟩), ?_, .iptr b _ _ (fun j => f (fld.offset + j)) (fun j hj => ?_) (fun j hj => ?_)⟩
    · simp only [execOp, ho, e, Sem.run_bind, run_fieldAt (P := P) hu hf hs hm, Result.andThen_ok]; rfl
    · subst hd; simp at hj; have := hi (fld.offset + j) (by omega); rwa [← Nat.add_assoc] at this
    · subst hd; simp at hj; have := h2 (fld.offset + j) (by omega); simpa using this
theorem q_fa_b {s : TypeId} {x : Operand} {i : Nat} (ho : o.op = .fieldAddr s x i) {fs : Array Field} (hu : P.underlying s = some (.struct fs)) {fld : Field} (hf : fs[i]? = some fld) {m : Nat} (hs : ∀ w, (sizeOf fld.type).run P w = .ok m w) (hm : m ≠ 0)
    {id off : Nat} (hx : ρ x = .ptr id off) {k : Nat} (hk : off + fld.offset = k) : QOp P G h o ρ (.ptr id k) :=
  hk ▸ .of_run fun _ _ _ _ w a _ hr => by
    have h1 := hr x (by simp [ho, Op.operands]); rw [hx] at h1
    obtain ⟨hlt, e⟩ := h1.ptr_inv
    exact ⟨_, by simp only [execOp, ho, e, Sem.run_bind, run_fieldAt (P := P) hu hf hs hm, Result.andThen_ok]; rfl, .ptr id _ hlt⟩

theorem run_indexAt_slice {w : World} {t e : TypeId} (hu : P.underlying t = some (.slice e)) {n : Nat} (hs : ∀ w, (sizeOf e).run P w = .ok n w) (b off len cap : Nat) (k : IntKind) (i : Int) (h0 : 0 ≤ i) (h1 : i < len) :
    (Instr.indexAt t (.slice (some ⟨b, off, none⟩) len cap) (.int k i)).run P w = .ok (.pointer (some ⟨b, off + i.toNat * n, none⟩)) w := by
  simp [Instr.indexAt, asIntOf, run_underlying hu, h0, h1, hs, add_mk]
theorem run_indexAt_array {w : World} {t e : TypeId} {l : Nat} (hu : P.underlying t = some (.array l e)) {n : Nat} (hs : ∀ w, (sizeOf e).run P w = .ok n w) (b off : Nat) (k : IntKind) (i : Int) (h0 : 0 ≤ i) (h1 : i < l) :
    (Instr.indexAt t (.pointer (some ⟨b, off, none⟩)) (.int k i)).run P w = .ok (.pointer (some ⟨b, off + i.toNat * n, none⟩)) w := by
  simp [Instr.indexAt, asIntOf, run_underlying hu, h0, h1, hs, add_mk, Instr.sureAddr]
theorem q_ia_s {t e : TypeId} {x ix : Operand} (ho : o.op = .indexAddr t x ix) (hu : P.underlying t = some (.slice e)) {n : Nat} (hs : ∀ w, (sizeOf e).run P w = .ok n w) {k : SK} {len : Nat} {cs : List V} (hx : ρ x = .sl k n len cs)
    {ik : IntKind} {i : Int} (hi : ρ ix = .int ik i) (h0 : 0 ≤ i) (h1 : i < len) {ds : List V} (hd : (cs.drop (i.toNat * n)).take n = ds) : QOp P G h o ρ (.iptr ds) :=
  .of_run fun _ _ _ _ w a _ hr => by
    have g1 := hr x (by simp [ho, Op.operands]); rw [hx] at g1
    have g2 := hr ix (by simp [ho, Op.operands]); rw [hi] at g2
    rcases g1.sl_inv with ⟨_, _, rfl, _⟩ | ⟨b, off, cap, f, e1, hl, hc, hk, hm, h2⟩
    · omega
    refine ⟨.pointer (some ⟨b, off + i.toNat * n, none⟩), ?_, .iptr b _ _ (fun j => f (i.toNat * n + j)) (fun j hj => ?_) (fun j hj => ?_)⟩
    · simp only [execOp, ho, e1, g2.int_inv, Sem.run_bind, run_indexAt_slice (P := P) hu hs b off len cap ik i h0 h1, Result.andThen_ok]; rfl
    · subst hd; simp at hj; have := hm (i.toNat * n + j) (by omega); rwa [← Nat.add_assoc] at this
    · subst hd; simp at hj; have := h2 (i.toNat * n + j) (by omega); simpa using this
theorem q_ia_m {t e : TypeId} {x ix : Operand} (ho : o.op = .indexAddr t x ix) (hu : P.underlying t = some (.slice e)) {n : Nat} (hs : ∀ w, (sizeOf e).run P w = .ok n w) {id off len : Nat} (hx : ρ x = .msl id off len)
    {ik : IntKind} {i : Int} (hi : ρ ix = .int ik i) (h0 : 0 ≤ i) (h1 : i < len) : QOp P G h o ρ (.ptr id (off + i.toNat * n)) :=
  .of_run fun _ _ _ _ w a _ hr => by
    have g1 := hr x (by simp [ho, Op.operands]); rw [hx] at g1
    have g2 := hr ix (by simp [ho, Op.operands]); rw [hi] at g2
    obtain ⟨hlt, cap, hc, e1⟩ := g1.msl_inv
    exact ⟨_, by simp only [execOp, ho, e1, g2.int_inv, Sem.run_bind, run_indexAt_slice (P := P) hu hs _ off len cap ik i h0 h1, Result.andThen_ok]; rfl, .ptr id _ hlt⟩
theorem q_ia_ai {t e : TypeId} {l : Nat} {x ix : Operand} (ho : o.op = .indexAddr t x ix) (hu : P.underlying t = some (.array l e)) {n : Nat} (hs : ∀ w, (sizeOf e).run P w = .ok n w) {cs : List V} (hx : ρ x = .iptr cs)
    {ik : IntKind} {i : Int} (hi : ρ ix = .int ik i) (h0 : 0 ≤ i) (h1 : i < l) {ds : List V} (hd : cs.drop (i.toNat * n) = ds) : QOp P G h o ρ (.iptr ds) :=
  .of_run fun _ _ _ _ w a _ hr => by
    have g1 := hr x (by simp [ho, Op.operands]); rw [hx] at g1
    have g2 := hr ix (by simp [ho, Op.operands]); rw [hi] at g2
    obtain ⟨b, off, f, e1, hm, h2⟩ := g1.iptr_inv
    refine ⟨.pointer (some ⟨b, off + i.toNat * n, none⟩), ?_, .iptr b _ _ (fun j => f (i.toNat * n + j)) (fun j hj => ?_) (fun j hj => ?_)⟩
    · simp only [execOp, ho, e1, g2.int_inv, Sem.run_bind, run_indexAt_array (P := P) hu hs b off ik i h0 h1, Result.andThen_ok]; rfl
    · subst hd; simp at hj; have := hm (i.toNat * n + j) (by omega); rwa [← Nat.add_assoc] at this
    · subst hd; simp at hj; have := h2 (i.toNat * n + j) (by omega); simpa using this
theorem q_ia_ab {t e : TypeId} {l : Nat} {x ix : Operand} (ho : o.op = .indexAddr t x ix) (hu : P.underlying t = some (.array l e)) {n : Nat} (hs : ∀ w, (sizeOf e).run P w = .ok n w) {id off : Nat} (hx : ρ x = .ptr id off)
    {ik : IntKind} {i : Int} (hi : ρ ix = .int ik i) (h0 : 0 ≤ i) (h1 : i < l) : QOp P G h o ρ (.ptr id (off + i.toNat * n)) :=
  .of_run fun _ _ _ _ w a _ hr => by
    have g1 := hr x (by simp [ho, Op.operands]); rw [hx] at g1
    have g2 := hr ix (by simp [ho, Op.operands]); rw [hi] at g2
    obtain ⟨hlt, e1⟩ := g1.ptr_inv
    exact ⟨_, by simp only [execOp, ho, e1, g2.int_inv, Sem.run_bind, run_indexAt_array (P := P) hu hs _ off ik i h0 h1, Result.andThen_ok]; rfl, .ptr id _ hlt⟩

/-! ### parts of values -/
theorem run_part1 {w : World} {t : TypeId} (ha : ∀ w, (isAgg t).run P w = .ok false w) {vs : Array Value} {off : Nat} {v : Value} (hv : vs[off]? = some v) : (part t vs off).run P w = .ok v w := by
  simp [part, ha, hv]
theorem run_partN {w : World} {t : TypeId} (ha : ∀ w, (isAgg t).run P w = .ok true w) {n : Nat} (hs : ∀ w, (sizeOf t).run P w = .ok n w) {vs : Array Value} {off : Nat} : (part t vs off).run P w = .ok (.agg (vs.extract off (off + n))) w := by
  simp [part, ha, hs]
theorem rep_extract {E : Env} {vs : Array Value} {cs : List V} (hsz : vs.size = cs.length) (h1 : ∀ j (h : j < vs.size), vs[j].oneCell' = true) (h2 : ∀ j (_ : j < vs.size) (_ : j < cs.length), Rep E vs[j] cs[j]) (off n : Nat) :
    Rep E (.agg (vs.extract off (off + n))) (.agg ((cs.drop off).take n)) := by
  refine .agg _ _ (by simp [hsz]; omega) (fun j hj => ?_) (fun j hj hj' => ?_)
  · simp at hj ⊢; exact h1 _ _
  · simp at hj hj' ⊢; exact h2 _ _ _
theorem q_f1 {s : TypeId} {x : Operand} {i : Nat} (ho : o.op = .field s x i) {fs : Array Field} (hu : P.underlying s = some (.struct fs)) {fld : Field} (hf : fs[i]? = some fld) (ha : ∀ w, (isAgg fld.type).run P w = .ok false w)
    {cs : List V} (hx : ρ x = .agg cs) {v : V} (hv : cs[fld.offset]? = some v) : QOp P G h o ρ v :=
  .of_run fun _ _ _ _ w a _ hr => by
    have h1 := hr x (by simp [ho, Op.operands]); rw [hx] at h1
    obtain ⟨vs, e, hsz, _, h2⟩ := h1.agg_inv
    obtain ⟨hlt, rfl⟩ := List.getElem?_eq_some_iff.1 hv
    refine ⟨vs[fld.offset]'(by omega), ?_, h2 _ (by omega) hlt⟩
    simp only [execOp, ho, e, Instr.field, Sem.run_bind, run_underlying hu, Result.andThen_ok, hf, asAgg, Sem.run_pure, run_part1 (P := P) ha (vs := vs) (off := fld.offset) (v := vs[fld.offset]'(by omega)) (by simp [hsz, hlt])]
theorem q_fN {s : TypeId} {x : Operand} {i : Nat} (ho : o.op = .field s x i) {fs : Array Field} (hu : P.underlying s = some (.struct fs)) {fld : Field} (hf : fs[i]? = some fld) (ha : ∀ w, (isAgg fld.type).run P w = .ok true w) {n : Nat} (hs : ∀ w, (sizeOf fld.type).run P w = .ok n w)
    {cs : List V} (hx : ρ x = .agg cs) {ds : List V} (hd : (cs.drop fld.offset).take n = ds) : QOp P G h o ρ (.agg ds) :=
  .of_run fun _ _ _ _ w a _ hr => by
    have h1 := hr x (by simp [ho, Op.operands]); rw [hx] at h1
    obtain ⟨vs, e, hsz, h3, h2⟩ := h1.agg_inv
    subst hd
    exact ⟨.agg (vs.extract fld.offset (fld.offset + n)), by simp only [execOp, ho, e, Instr.field, Sem.run_bind, run_underlying hu, Result.andThen_ok, hf, asAgg, Sem.run_pure, run_partN (P := P) ha hs], rep_extract hsz h3 h2 _ _⟩
theorem q_ix1 {t e : TypeId} {l : Nat} {x ix : Operand} (ho : o.op = .index t x ix) (hu : P.underlying t = some (.array l e)) {n : Nat} (hs : ∀ w, (sizeOf e).run P w = .ok n w) (ha : ∀ w, (isAgg e).run P w = .ok false w)
    {cs : List V} (hx : ρ x = .agg cs) {ik : IntKind} {i : Int} (hi : ρ ix = .int ik i) (h0 : 0 ≤ i) (h1 : i < l) {v : V} (hv : cs[i.toNat * n]? = some v) : QOp P G h o ρ v :=
  .of_run fun _ _ _ _ w a _ hr => by
    have g1 := hr x (by simp [ho, Op.operands]); rw [hx] at g1
    have g2 := hr ix (by simp [ho, Op.operands]); rw [hi] at g2
    obtain ⟨vs, e, hsz, _, h2⟩ := g1.agg_inv
    obtain ⟨hlt, rfl⟩ := List.getElem?_eq_some_iff.1 hv
    refine ⟨vs[i.toNat * n]'(by omega), ?_, h2 _ (by omega) hlt⟩
    simp only [execOp, ho, e, g2.int_inv, Instr.index, asIntOf, Sem.run_bind, Sem.run_pure, run_underlying hu, Result.andThen_ok, h0, h1, and_self, if_true, hs, run_part1 (P := P) ha (vs := vs) (off := i.toNat * n) (v := vs[i.toNat * n]'(by omega)) (by simp [hsz, hlt])]
theorem q_ixN {t e : TypeId} {l : Nat} {x ix : Operand} (ho : o.op = .index t x ix) (hu : P.underlying t = some (.array l e)) {n : Nat} (hs : ∀ w, (sizeOf e).run P w = .ok n w) (ha : ∀ w, (isAgg e).run P w = .ok true w)
    {cs : List V} (hx : ρ x = .agg cs) {ik : IntKind} {i : Int} (hi : ρ ix = .int ik i) (h0 : 0 ≤ i) (h1 : i < l) {ds : List V} (hd : (cs.drop (i.toNat * n)).take n = ds) : QOp P G h o ρ (.agg ds) :=
  .of_run fun _ _ _ _ w a _ hr => by
    have g1 := hr x (by simp [ho, Op.operands]); rw [hx] at g1
    have g2 := hr ix (by simp [ho, Op.operands]); rw [hi] at g2
    obtain ⟨vs, e, hsz, h3, h2⟩ := g1.agg_inv
    subst hd
    refine ⟨.agg (vs.extract (i.toNat * n) (i.toNat * n + n)), ?_, rep_extract hsz h3 h2 _ _⟩
    simp only [execOp, ho, e, g2.int_inv, Instr.index, asIntOf, Sem.run_bind, Sem.run_pure, run_underlying hu, Result.andThen_ok, h0, h1, and_self, if_true, hs, run_partN (P := P) ha hs]

/-! ### len, min, max, assertions -/
def V.len? : V → Option Nat
  | .snil => some 0
  | .sl _ _ len _ => some len
  | .msl _ _ len => some len
  | _ => none
theorem rep_len {E : Env} {v : Value} {z : V} {n : Nat} (h : Rep E v z) (hz : z.len? = some n) : ∃ a c, v = .slice a n c := by
  cases z <;> simp [V.len?] at hz
  case snil => subst hz; exact ⟨_, _, h.snil_inv⟩
  case sl k m len cs =>
    subst hz
    rcases h.sl_inv with ⟨e, _, e2, _⟩ | ⟨b, off, cap, f, e, _⟩
    · exact ⟨_, _, by rw [e2]; exact e⟩
    · exact ⟨_, _, e⟩
  case msl id off len => subst hz; obtain ⟨_, cap, _, e⟩ := h.msl_inv; exact ⟨_, _, e⟩
theorem q_len {x : Operand} {t e : TypeId} (ho : o.op = .call ⟨.builtin .len, #[x], #[t]⟩) (hu : P.underlying t = some (.slice e)) {n : Nat} (hx : (ρ x).len? = some n) : QOp P G h o ρ (.int .i64 n) :=
  .of_run fun _ _ _ _ w a _ hr => by
    have h1 := hr x (by simp [ho, Op.operands, Call.operands])
    obtain ⟨a', c, e⟩ := rep_len h1 hx
    exact ⟨.int .i64 n, by simp [execOp, ho, resolve, invoke, builtin, Builtin.len_, e, run_underlying hu, goInt], .int _ _⟩
theorem q_lens {x : Operand} {t : TypeId} (ho : o.op = .call ⟨.builtin .len, #[x], #[t]⟩) (hu : P.underlying t = some .string) {s : ByteArray} (hx : ρ x = .str s) : QOp P G h o ρ (.int .i64 s.size) :=
  .of_run fun _ _ _ _ w a _ hr => by
    have h1 := hr x (by simp [ho, Op.operands, Call.operands]); rw [hx] at h1
    exact ⟨.int .i64 s.size, by simp [execOp, ho, resolve, invoke, builtin, Builtin.len_, h1.str_inv, run_underlying hu, goInt], .int _ _⟩
theorem q_min {x y : Operand} {ts : Array TypeId} (ho : o.op = .call ⟨.builtin .min, #[x, y], ts⟩) {k : IntKind} {m n : Int} (hx : ρ x = .int k m) (hy : ρ y = .int k n) : QOp P G h o ρ (.int k (min m n)) :=
  .of_run fun _ _ _ _ w a _ hr => by
    have h1 := hr x (by simp [ho, Op.operands, Call.operands]); rw [hx] at h1
    have h2 := hr y (by simp [ho, Op.operands, Call.operands]); rw [hy] at h2
    refine ⟨.int k (min m n), ?_, .int _ _⟩
    have : (if n < m then n else m) = min m n := by split <;> omega
    simp [execOp, ho, resolve, invoke, builtin, Builtin.min_, Builtin.min2, h1.int_inv, h2.int_inv, this]
theorem q_max {x y : Operand} {ts : Array TypeId} (ho : o.op = .call ⟨.builtin .max, #[x, y], ts⟩) {k : IntKind} {m n : Int} (hx : ρ x = .int k m) (hy : ρ y = .int k n) : QOp P G h o ρ (.int k (max m n)) :=
  .of_run fun _ _ _ _ w a _ hr => by
    have h1 := hr x (by simp [ho, Op.operands, Call.operands]); rw [hx] at h1
    have h2 := hr y (by simp [ho, Op.operands, Call.operands]); rw [hy] at h2
    refine ⟨.int k (max m n), ?_, .int _ _⟩
    have : (if n > m then n else m) = max m n := by split <;> omega
    simp [execOp, ho, resolve, invoke, builtin, Builtin.max_, Builtin.max2, h1.int_inv, h2.int_inv, this]
theorem q_ta_yes {x : Operand} {xt t : TypeId} (ho : o.op = .typeAssert x xt t true) {k : IntKind} (hu : P.underlying t = some (.int k)) {v : V} (hx : ρ x = .iface t v) : QOp P G h o ρ (.tup [v, .bool true]) :=
  .of_run fun _ _ _ _ w a _ hr => by
    have h1 := hr x (by simp [ho, Op.operands]); rw [hx] at h1
    obtain ⟨u, e, h2⟩ := h1.iface_inv
    refine ⟨.tuple #[u, .bool true], by simp [execOp, ho, e, Instr.typeAssert, run_underlying hu], .tup _ _ rfl fun j hj hj' => ?_⟩
    match j with
    | 0 => exact h2
    | 1 => exact .bool true
    | j + 2 => exact absurd hj (by simp)
theorem q_ta_nil {x : Operand} {xt t : TypeId} (ho : o.op = .typeAssert x xt t true) {k : IntKind} (hu : P.underlying t = some (.int k)) {z : Value} (hz : ∀ w, (zeroValue t).run P w = .ok z w) (hx : ρ x = .inil) : QOp P G h o ρ (.tup [cv z, .bool false]) :=
  .of_run fun _ _ _ _ w a _ hr => by
    have h1 := hr x (by simp [ho, Op.operands]); rw [hx] at h1
    refine ⟨.tuple #[z, .bool false], by simp [execOp, ho, h1.inil_inv, Instr.typeAssert, run_underlying hu, hz], .tup _ _ rfl fun j hj hj' => ?_⟩
    match j with
    | 0 => exact rep_cv _ z
    | 1 => exact .bool false
    | j + 2 => exact absurd hj (by simp)
theorem q_func {fn : Fn} {first captured : Array Operand} (ho : o.op = .makeFunc fn first captured) : QOp P G h o ρ (.func fn (first.toList.map ρ) (captured.toList.map ρ)) :=
  .of_run fun _ _ _ _ w a _ hr => by
    refine ⟨.func fn (first.map a.eval) (captured.map a.eval), by simp [execOp, ho, Instr.makeFunc], .func _ _ _ _ _ (by simp) (by simp) (fun j hj hj' => ?_) (fun j hj hj' => ?_)⟩
    · simp at hj ⊢; exact hr _ (by simp [ho, Op.operands])
    · simp at hj ⊢; exact hr _ (by simp [ho, Op.operands])

end
end Go.AV
