/- The abstract walk, second part: operations that compute. -/
import Derived.Test.YtnbmcbkokaoapaaGreatDoorAv1
namespace Go.AV
section
variable {P : Program} {G : Nat → Option (List V)} {h : Hp} {o : Oper} {ρ : Operand → V}

theorem Rep.iptr_inv {E : Env} {v : Value} {cs : List V} (h : Rep E v (.iptr cs)) :
    ∃ (b off : Nat) (f : Nat → Value), v = .pointer (some ⟨b, off, none⟩) ∧ (∀ j, j < cs.length → E.imm b (off + j) (f j)) ∧ ∀ j (hj : j < cs.length), Rep E (f j) cs[j] := by
  cases h with | iptr b off cs f h1 h2 => exact ⟨b, off, f, rfl, h1, h2⟩
theorem Rep.agg_inv {E : Env} {v : Value} {cs : List V} (h : Rep E v (.agg cs)) :
    ∃ vs, v = .agg vs ∧ vs.size = cs.length ∧ (∀ j (h : j < vs.size), vs[j].oneCell' = true) ∧ ∀ j (_ : j < vs.size) (_ : j < cs.length), Rep E vs[j] cs[j] := by
  cases h with | agg vs cs e h1 h2 => exact ⟨vs, rfl, e, h1, h2⟩
theorem Rep.ptr_inv {E : Env} {v : Value} {id off : Nat} (h : Rep E v (.ptr id off)) : id < E.nx ∧ v = .pointer (some ⟨E.mu id, off, none⟩) := by
  cases h with | ptr id off h => exact ⟨h, rfl⟩
theorem Rep.sl_inv {E : Env} {v : Value} {k : SK} {n len : Nat} {cs : List V} (h : Rep E v (.sl k n len cs)) :
    (v = .slice none 0 0 ∧ cs = [] ∧ len = 0 ∧ (k = .imm ∨ k = .full)) ∨ ∃ (b off cap : Nat) (f : Nat → Value), v = .slice (some ⟨b, off, none⟩) len cap ∧ cs.length = len * n ∧ len ≤ cap ∧ k.ok E b off n len cap ∧
      (∀ j, j < cs.length → E.imm b (off + j) (f j)) ∧ ∀ j (hj : j < cs.length), Rep E (f j) cs[j] := by
  cases h with
  | slnil n => exact .inl ⟨rfl, rfl, rfl, .inl rfl⟩
  | slnilf n => exact .inl ⟨rfl, rfl, rfl, .inr rfl⟩
  | sl k b off n len cap cs f hl hc hk h1 h2 => exact .inr ⟨b, off, cap, f, rfl, hl, hc, hk, h1, h2⟩
theorem Rep.msl_inv {E : Env} {v : Value} {id off len : Nat} (h : Rep E v (.msl id off len)) : id < E.nx ∧ ∃ cap, len ≤ cap ∧ v = .slice (some ⟨E.mu id, off, none⟩) len cap := by
  cases h with | msl id off len cap h hc hk h63 => exact ⟨h, cap, hc, rfl⟩
theorem Rep.iface_inv {E : Env} {v : Value} {t : TypeId} {x : V} (h : Rep E v (.iface t x)) : ∃ u, v = .iface t u ∧ Rep E u x := by
  cases h with | iface t u x h => exact ⟨u, rfl, h⟩
theorem Rep.inil_inv {E : Env} {v : Value} (h : Rep E v .inil) : v = .nilIface := by cases h; rfl
theorem Rep.snil_inv {E : Env} {v : Value} (h : Rep E v .snil) : v = .slice none 0 0 := by cases h; rfl
theorem Rep.pnil_inv {E : Env} {v : Value} (h : Rep E v .pnil) : v = .pointer none := by cases h; rfl
theorem Rep.str_inv {E : Env} {v : Value} {s : ByteArray} (h : Rep E v (.str s)) : v = .string s := by cases h; rfl
theorem Rep.tup_inv {E : Env} {v : Value} {cs : List V} (h : Rep E v (.tup cs)) :
    ∃ vs, v = .tuple vs ∧ vs.size = cs.length ∧ ∀ j (_ : j < vs.size) (_ : j < cs.length), Rep E vs[j] cs[j] := by
  cases h with | tup vs cs e h2 => exact ⟨vs, rfl, e, h2⟩
theorem q_move {x : Operand} (ho : o.op = .move x) : QOp P G h o ρ (ρ x) :=
  .of_run fun _ _ _ _ _ a _ hr => ⟨a.eval x, by simp [execOp, ho], hr x (by simp [ho, Op.operands])⟩
/-- The same, the value spelt as it is wanted. -/
theorem q_mv {x : Operand} {v : V} (ho : o.op = .move x) (hv : ρ x = v) : QOp P G h o ρ v := hv ▸ q_move ho
theorem q_as {x : Operand} {v : V} (ho : o.op = .assign x) (hv : ρ x = v) : QOp P G h o ρ v :=
  .of_run fun _ _ _ _ _ a _ hr => ⟨a.eval x, by simp [execOp, ho], hv ▸ hr x (by simp [ho, Op.operands])⟩
theorem q_assign {x : Operand} (ho : o.op = .assign x) : QOp P G h o ρ (ρ x) :=
  .of_run fun _ _ _ _ _ a _ hr => ⟨a.eval x, by simp [execOp, ho], hr x (by simp [ho, Op.operands])⟩
theorem q_pick {c x y : Operand} (ho : o.op = .pick c x y) {b : Bool} (hc : ρ c = .bool b) : QOp P G h o ρ (bif b then ρ x else ρ y) :=
  .of_run fun _ _ _ _ _ a _ hr => by
    have h1 := hr c (by simp [ho, Op.operands])
    rw [hc] at h1
    have e := h1.bool_inv
    refine ⟨if b then a.eval x else a.eval y, by simp [execOp, ho, e, asBool], ?_⟩
    cases b
    · exact hr y (by simp [ho, Op.operands])
    · exact hr x (by simp [ho, Op.operands])
theorem q_pick_bool {c x y : Operand} (ho : o.op = .pick c x y) {b u v : Bool} (hc : ρ c = .bool b) (hx : ρ x = .bool u) (hy : ρ y = .bool v) :
    QOp P G h o ρ (.bool (bif b then u else v)) := by
  have := q_pick (P := P) (G := G) (h := h) ho hc
  rw [hx, hy] at this
  cases b <;> exact this
/-- The two arms, each where its guard has let it be. -/
theorem q_pickg {c x y : Operand} (ho : o.op = .pick c x y) {b u v : Bool} (hc : ρ c = .bool b) (hx : b = true → VLe (ρ x) (.bool u)) (hy : b = false → VLe (ρ y) (.bool v)) :
    QOp P G h o ρ (.bool (bif b then u else v)) := by
  intro h' hl
  have := q_pick (P := P) (G := G) (h := h) ho hc h' hl
  intro mu nx w a hd r hr K Q' hK
  refine this mu nx w a hd r hr K Q' fun z zz mu' nx' h2 w' e0 r' hv e => ?_
  obtain ⟨e1, e2⟩ := e0
  subst e1
  refine hK z (.bool (bif b then u else v)) mu' nx' h2 w' ⟨rfl, e2⟩ r' ?_ e
  cases b
  · exact hy rfl _ _ hv
  · exact hx rfl _ _ hv
theorem q_pick_int {c x y : Operand} (ho : o.op = .pick c x y) {b : Bool} {k : IntKind} {u v : Int} (hc : ρ c = .bool b) (hx : ρ x = .int k u) (hy : ρ y = .int k v) :
    QOp P G h o ρ (.int k (bif b then u else v)) := by
  have := q_pick (P := P) (G := G) (h := h) ho hc
  rw [hx, hy] at this
  cases b <;> exact this

/-! ### numbers -/
theorem q_int2 {op : BinOp} {t t2 : TypeId} {x y : Operand} (ho : o.op = .binOp op t x y t2) {k : IntKind} {m n : Int} (hx : ρ x = .int k m) (hy : ρ y = .int k n) {v : Value} {z : V}
    (hrun : ∀ w, (binOp op t (.int k m) (.int k n)).run P w = .ok v w) (hz : ∀ E, Rep E v z) : QOp P G h o ρ z :=
  .of_run fun _ _ _ _ w a _ hr => by
    have h1 := hr x (by simp [ho, Op.operands]); rw [hx] at h1
    have h2 := hr y (by simp [ho, Op.operands]); rw [hy] at h2
    refine ⟨v, ?_, hz _⟩
    have hg : (eqGuard op t x y (.int k m) (.int k n)).run P w = .ok () w := by unfold eqGuard; split <;> rfl
    simp [execOp, ho, h1.int_inv, h2.int_inv, hg, hrun]
theorem q_add {t t2 : TypeId} {x y : Operand} (ho : o.op = .binOp .add t x y t2) {k : IntKind} {m n : Int} (hx : ρ x = .int k m) (hy : ρ y = .int k n) : QOp P G h o ρ (.int k (k.wrap (m + n))) :=
  q_int2 ho hx hy (fun w => by simp [binOp, Op.intArith]) fun _ => .int _ _
theorem q_sub {t t2 : TypeId} {x y : Operand} (ho : o.op = .binOp .sub t x y t2) {k : IntKind} {m n : Int} (hx : ρ x = .int k m) (hy : ρ y = .int k n) : QOp P G h o ρ (.int k (k.wrap (m - n))) :=
  q_int2 ho hx hy (fun w => by simp [binOp, Op.intArith]) fun _ => .int _ _
theorem q_mul {t t2 : TypeId} {x y : Operand} (ho : o.op = .binOp .mul t x y t2) {k : IntKind} {m n : Int} (hx : ρ x = .int k m) (hy : ρ y = .int k n) : QOp P G h o ρ (.int k (k.wrap (m * n))) :=
  q_int2 ho hx hy (fun w => by simp [binOp, Op.intArith]) fun _ => .int _ _
theorem q_add' {t t2 : TypeId} {x y : Operand} (ho : o.op = .binOp .add t x y t2) {m n : Int} (hx : ρ x = .int .i64 m) (hy : ρ y = .int .i64 n)
    (hb : -9223372036854775808 ≤ m + n ∧ m + n ≤ 9223372036854775807) : QOp P G h o ρ (.int .i64 (m + n)) := by
  have := q_add (P := P) (G := G) (h := h) ho hx hy
  rwa [IntWalk.i64_in _ hb] at this
theorem q_sub' {t t2 : TypeId} {x y : Operand} (ho : o.op = .binOp .sub t x y t2) {m n : Int} (hx : ρ x = .int .i64 m) (hy : ρ y = .int .i64 n)
    (hb : -9223372036854775808 ≤ m - n ∧ m - n ≤ 9223372036854775807) : QOp P G h o ρ (.int .i64 (m - n)) := by
  have := q_sub (P := P) (G := G) (h := h) ho hx hy
  rwa [IntWalk.i64_in _ hb] at this
theorem q_mul' {t t2 : TypeId} {x y : Operand} (ho : o.op = .binOp .mul t x y t2) {m n : Int} (hx : ρ x = .int .i64 m) (hy : ρ y = .int .i64 n)
    (hb : -9223372036854775808 ≤ m * n ∧ m * n ≤ 9223372036854775807) : QOp P G h o ρ (.int .i64 (m * n)) := by
  have := q_mul (P := P) (G := G) (h := h) ho hx hy
  rwa [IntWalk.i64_in _ hb] at this
theorem q_quo {t t2 : TypeId} {x y : Operand} (ho : o.op = .binOp .quo t x y t2) {k : IntKind} {m n : Int} (hx : ρ x = .int k m) (hy : ρ y = .int k n) (hn : n ≠ 0) : QOp P G h o ρ (.int k (k.wrap (m.tdiv n))) :=
  q_int2 ho hx hy (fun w => by simp [binOp, Op.intDiv, hn]) fun _ => .int _ _
theorem q_rem {t t2 : TypeId} {x y : Operand} (ho : o.op = .binOp .rem t x y t2) {k : IntKind} {m n : Int} (hx : ρ x = .int k m) (hy : ρ y = .int k n) (hn : n ≠ 0) : QOp P G h o ρ (.int k (m.tmod n)) :=
  q_int2 ho hx hy (fun w => by simp [binOp, Op.intDiv, hn]) fun _ => .int _ _
def bitop (op : BinOp) (k : IntKind) (x y : Int) : Int :=
  match op with
  | .and => k.wrap (BitVec.ofInt k.bits x &&& BitVec.ofInt k.bits y).toNat
  | .or => k.wrap (BitVec.ofInt k.bits x ||| BitVec.ofInt k.bits y).toNat
  | .xor => k.wrap (BitVec.ofInt k.bits x ^^^ BitVec.ofInt k.bits y).toNat
  | .andNot => k.wrap (BitVec.ofInt k.bits x &&& ~~~ BitVec.ofInt k.bits y).toNat
  | _ => 0
def BinOp.isBit : BinOp → Bool | .and | .or | .xor | .andNot => true | _ => false
theorem q_bit {op : BinOp} {t t2 : TypeId} {x y : Operand} (ho : o.op = .binOp op t x y t2) (hb : BinOp.isBit op = true) {k : IntKind} {m n : Int} (hx : ρ x = .int k m) (hy : ρ y = .int k n) :
    QOp P G h o ρ (.int k (bitop op k m n)) :=
  q_int2 ho hx hy (v := .int k (bitop op k m n)) (fun w => by cases op <;> simp [BinOp.isBit] at hb <;> simp [binOp, Op.intBits, bitop]) fun _ => .int _ _
theorem q_eq {t t2 : TypeId} {x y : Operand} (ho : o.op = .binOp .eql t x y t2) {k : IntKind} {m n : Int} (hx : ρ x = .int k m) (hy : ρ y = .int k n) : QOp P G h o ρ (.bool (m == n)) :=
  q_int2 ho hx hy (fun w => by simp [binOp, Op.intCmp]) fun _ => .bool _
theorem q_ne {t t2 : TypeId} {x y : Operand} (ho : o.op = .binOp .neq t x y t2) {k : IntKind} {m n : Int} (hx : ρ x = .int k m) (hy : ρ y = .int k n) : QOp P G h o ρ (.bool (m != n)) :=
  q_int2 ho hx hy (fun w => by simp [binOp, Op.intCmp]) fun _ => .bool _
theorem q_lt {t t2 : TypeId} {x y : Operand} (ho : o.op = .binOp .lss t x y t2) {k : IntKind} {m n : Int} (hx : ρ x = .int k m) (hy : ρ y = .int k n) : QOp P G h o ρ (.bool (decide (m < n))) :=
  q_int2 ho hx hy (fun w => by simp [binOp, Op.intCmp]) fun _ => .bool _
theorem q_le {t t2 : TypeId} {x y : Operand} (ho : o.op = .binOp .leq t x y t2) {k : IntKind} {m n : Int} (hx : ρ x = .int k m) (hy : ρ y = .int k n) : QOp P G h o ρ (.bool (decide (m ≤ n))) :=
  q_int2 ho hx hy (fun w => by simp [binOp, Op.intCmp]) fun _ => .bool _
theorem q_gt {t t2 : TypeId} {x y : Operand} (ho : o.op = .binOp .gtr t x y t2) {k : IntKind} {m n : Int} (hx : ρ x = .int k m) (hy : ρ y = .int k n) : QOp P G h o ρ (.bool (decide (n < m))) :=
  q_int2 ho hx hy (fun w => by simp [binOp, Op.intCmp]) fun _ => .bool _
theorem q_ge {t t2 : TypeId} {x y : Operand} (ho : o.op = .binOp .geq t x y t2) {k : IntKind} {m n : Int} (hx : ρ x = .int k m) (hy : ρ y = .int k n) : QOp P G h o ρ (.bool (decide (n ≤ m))) :=
  q_int2 ho hx hy (fun w => by simp [binOp, Op.intCmp]) fun _ => .bool _
/-- Shifts: the two kinds may differ. -/
theorem q_shl {t t2 : TypeId} {x y : Operand} (ho : o.op = .binOp .shl t x y t2) {k k2 : IntKind} {m n : Int} (hx : ρ x = .int k m) (hy : ρ y = .int k2 n) (hn : 0 ≤ n) :
    QOp P G h o ρ (.int k (k.wrap (m * 2 ^ (min n.toNat k.bits)))) :=
  .of_run fun _ _ _ _ w a _ hr => by
    have h1 := hr x (by simp [ho, Op.operands]); rw [hx] at h1
    have h2 := hr y (by simp [ho, Op.operands]); rw [hy] at h2
    have hn' : ¬ n < 0 := by omega
    exact ⟨.int k (k.wrap (m * 2 ^ (min n.toNat k.bits))), by simp [execOp, ho, h1.int_inv, h2.int_inv, eqGuard, binOp, Op.shift, hn'], .int _ _⟩
theorem q_shr {t t2 : TypeId} {x y : Operand} (ho : o.op = .binOp .shr t x y t2) {k k2 : IntKind} {m n : Int} (hx : ρ x = .int k m) (hy : ρ y = .int k2 n) (hn : 0 ≤ n) :
    QOp P G h o ρ (.int k (m.fdiv (2 ^ (min n.toNat k.bits)))) :=
  .of_run fun _ _ _ _ w a _ hr => by
    have h1 := hr x (by simp [ho, Op.operands]); rw [hx] at h1
    have h2 := hr y (by simp [ho, Op.operands]); rw [hy] at h2
    have hn' : ¬ n < 0 := by omega
    exact ⟨.int k (m.fdiv (2 ^ (min n.toNat k.bits))), by simp [execOp, ho, h1.int_inv, h2.int_inv, eqGuard, binOp, Op.shift, hn'], .int _ _⟩

/-! ### one operand -/
theorem q_not {t : TypeId} {x : Operand} (ho : o.op = .unOp .not t x) {b : Bool} (hx : ρ x = .bool b) : QOp P G h o ρ (.bool !b) :=
  .of_run fun _ _ _ _ w a _ hr => by
    have h1 := hr x (by simp [ho, Op.operands]); rw [hx] at h1
    exact ⟨.bool !b, by simp [execOp, ho, h1.bool_inv, Op.unary], .bool _⟩
theorem q_neg {t : TypeId} {x : Operand} (ho : o.op = .unOp .neg t x) {k : IntKind} {n : Int} (hx : ρ x = .int k n) : QOp P G h o ρ (.int k (k.wrap (0 - n))) :=
  .of_run fun _ _ _ _ w a _ hr => by
    have h1 := hr x (by simp [ho, Op.operands]); rw [hx] at h1
    exact ⟨.int k (k.wrap (0 - n)), by simp [execOp, ho, h1.int_inv, Op.unary, Op.intArith], .int _ _⟩
theorem q_neg' {t : TypeId} {x : Operand} (ho : o.op = .unOp .neg t x) {n : Int} (hx : ρ x = .int .i64 n) (hb : -9223372036854775807 ≤ n ∧ n ≤ 9223372036854775807) : QOp P G h o ρ (.int .i64 (-n)) := by
  have := q_neg (P := P) (G := G) (h := h) ho hx
  rwa [IntWalk.i64_in _ (by omega), Int.zero_sub] at this
theorem q_conv {s t : TypeId} {x : Operand} (ho : o.op = .convert s t x) {d : TypeDesc} (hs : P.underlying s = some d) {k k2 : IntKind} (ht : P.underlying t = some (.int k)) {n : Int} (hx : ρ x = .int k2 n) :
    QOp P G h o ρ (.int k (k.wrap n)) :=
  .of_run fun _ _ _ _ w a _ hr => by
    have h1 := hr x (by simp [ho, Op.operands]); rw [hx] at h1
    exact ⟨.int k (k.wrap n), by simp [execOp, ho, h1.int_inv, convert, run_underlying hs, run_underlying ht, Conv.intToInt], .int _ _⟩
def notIface : TypeDesc → Bool
  | .interface _ => false
  | _ => true
def V.pointy : V → Bool
  | .ptr .. | .iptr _ | .iface .. => true
  | .func (.func _) .. => true
  | _ => false
theorem q_iface {t : TypeId} {x : Operand} (ho : o.op = .makeInterface t x) {d : TypeDesc} (ht : P.underlying t = some d) (hd : notIface d = true) : QOp P G h o ρ (.iface t (ρ x)) :=
  .of_run fun _ _ _ _ w a _ hr => by
    have h1 := hr x (by simp [ho, Op.operands])
    refine ⟨.iface t (a.eval x), ?_, .iface _ _ _ h1⟩
    simp only [execOp, ho, Instr.makeInterface, Sem.run_bind, run_underlying ht, Result.andThen_ok]
    cases d <;> first | rfl | cases hd
theorem q_extract {x : Operand} {i : Nat} (ho : o.op = .extract x i) {cs : List V} (hx : ρ x = .tup cs) {v : V} (hv : cs[i]? = some v) : QOp P G h o ρ v :=
  .of_run fun _ _ _ _ w a _ hr => by
    have h1 := hr x (by simp [ho, Op.operands]); rw [hx] at h1
    obtain ⟨vs, e, hs, h2⟩ := h1.tup_inv
    obtain ⟨hi, rfl⟩ := List.getElem?_eq_some_iff.1 hv
    exact ⟨vs[i]'(by omega), by simp [execOp, ho, e, Instr.extract, hs, hi], h2 i (by omega) hi⟩
theorem q_nilCheck {x : Operand} (ho : o.op = .nilCheck x) (hx : (ρ x).pointy = true) : QOp P G h o ρ (ρ x) :=
  .of_run fun _ _ _ _ w a _ hr => by
    have h1 := hr x (by simp [ho, Op.operands])
    refine ⟨a.eval x, ?_, h1⟩
    generalize ρ x = z at *
    cases z <;> first | (cases hx; done) | skip
    case ptr id off => simp [execOp, ho, (h1.ptr_inv).2]
    case iptr cs => obtain ⟨b, off, f, e, _⟩ := h1.iptr_inv; simp [execOp, ho, e]
    case iface t v => obtain ⟨u, e, _⟩ := h1.iface_inv; simp [execOp, ho, e]
    case func fn as bs =>
      obtain ⟨fs, cs, e, _⟩ := h1.func_inv
      cases fn <;> first | (simp [execOp, ho, e]; done) | (cases hx; done)

/-! ### bools and nil -/
theorem run_eq2 {t : TypeId} {x y : Operand} {u v : Value} {b : Bool} {c : Bool} (hg : ∀ w, (eqGuard .eql t x y u v).run P w = .ok () w) (hq : ∀ w, (Op.equalIn 10000 t u v).run P w = .ok b w)
    (hb : binOp .eql t u v = (do pure (.bool (← Op.equal t u v)))) (hc : c = b) (w : World) :
    (do pure (Next.value (← (do eqGuard .eql t x y u v; binOp .eql t u v))) : Sem Next).run P w = .ok (.value (.bool c)) w := by
  have hq' : (Op.equal t u v).run P w = .ok b w := hq w
  subst hc
  rw [hb]
  simp only [Sem.run_bind, hg, Result.andThen_ok, hq', Sem.run_pure]
theorem run_neq2 {t : TypeId} {x y : Operand} {u v : Value} {b : Bool} {c : Bool} (hg : ∀ w, (eqGuard .neq t x y u v).run P w = .ok () w) (hq : ∀ w, (Op.equalIn 10000 t u v).run P w = .ok b w)
    (hb : binOp .neq t u v = (do pure (.bool (!(← Op.equal t u v))))) (hc : c = !b) (w : World) :
    (do pure (Next.value (← (do eqGuard .neq t x y u v; binOp .neq t u v))) : Sem Next).run P w = .ok (.value (.bool c)) w := by
  have hq' : (Op.equal t u v).run P w = .ok b w := hq w
  subst hc
  rw [hb]
  simp only [Sem.run_bind, hg, Result.andThen_ok, hq', Sem.run_pure]
theorem q_eqb {t t2 : TypeId} (ht : P.underlying t = some .bool) {x y : Operand} (ho : o.op = .binOp .eql t x y t2) {m n : Bool} (hx : ρ x = .bool m) (hy : ρ y = .bool n) : QOp P G h o ρ (.bool (m == n)) :=
  .of_run fun _ _ _ _ w a _ hr => by
    have h1 := hr x (by simp [ho, Op.operands]); rw [hx] at h1
    have h2 := hr y (by simp [ho, Op.operands]); rw [hy] at h2
    refine ⟨.bool (m == n), ?_, .bool _⟩
    simp only [execOp, ho, h1.bool_inv, h2.bool_inv]
    exact run_eq2 (fun _ => rfl) (fun w => run_equalIn_bool' w 9999 t m n ht) rfl rfl w
theorem q_neb {t t2 : TypeId} (ht : P.underlying t = some .bool) {x y : Operand} (ho : o.op = .binOp .neq t x y t2) {m n : Bool} (hx : ρ x = .bool m) (hy : ρ y = .bool n) : QOp P G h o ρ (.bool (m != n)) :=
  .of_run fun _ _ _ _ w a _ hr => by
    have h1 := hr x (by simp [ho, Op.operands]); rw [hx] at h1
    have h2 := hr y (by simp [ho, Op.operands]); rw [hy] at h2
    refine ⟨.bool (m != n), ?_, .bool _⟩
    simp only [execOp, ho, h1.bool_inv, h2.bool_inv]
    exact run_neq2 (fun _ => rfl) (fun w => run_equalIn_bool' w 9999 t m n ht) rfl rfl w

def V.nil? : V → Option Bool
  | .inil => some true
  | .iface .. => some false
  | .pnil => some true
  | .ptr .. => some false
  | .iptr _ => some false
  | .snil => some true
  | _ => none

def nilFits : TypeDesc → Value → V → Bool
  | .interface _, .nilIface, .inil => true
  | .interface _, .nilIface, .iface .. => true
  | .pointer _, .pointer none, .pnil => true
  | .pointer _, .pointer none, .ptr .. => true
  | .pointer _, .pointer none, .iptr _ => true
  | .slice _, .slice none 0 0, .snil => true
  | _, _, _ => false

/-- A value against the literal nil: an error, a pointer, a slice. -/
theorem run_eq_nil {E : Env} {t : TypeId} {d : TypeDesc} (ht : P.underlying t = some d) {z : V} {v c : Value} (hv : Rep E v z) {b : Bool} (hz : z.nil? = some b) (hc : nilFits d c z = true) :
    (∀ n w, (Op.equalIn (n + 1) t v c).run P w = .ok b w) ∧ (binOp .eql t v c = (do pure (.bool (← Op.equal t v c)))) ∧ (binOp .neq t v c = (do pure (.bool (!(← Op.equal t v c))))) ∧
    (∀ x w, (eqGuard .eql t x (.const c) v c).run P w = .ok () w) ∧ (∀ x w, (eqGuard .neq t x (.const c) v c).run P w = .ok () w) := by
  have hu : ∀ w, (underlying t).run P w = .ok d w := fun w => run_underlying ht w
  unfold nilFits at hc
  split at hc
  · cases hz; rw [hv.inil_inv]
    exact ⟨fun n w => by simp only [Op.equalIn, Sem.run_bind, hu, Result.andThen_ok]; rfl, rfl, rfl, fun x w => by simp [eqGuard], fun x w => by simp [eqGuard]⟩
  · cases hz; obtain ⟨u, e, _⟩ := hv.iface_inv; rw [e]
    exact ⟨fun n w => by simp only [Op.equalIn, Sem.run_bind, hu, Result.andThen_ok]; rfl, rfl, rfl, fun x w => rfl, fun x w => rfl⟩
  · cases hz; rw [hv.pnil_inv]
    exact ⟨fun n w => by simp only [Op.equalIn, Sem.run_bind, hu, Result.andThen_ok]; rfl, rfl, rfl, fun x w => rfl, fun x w => rfl⟩
  · cases hz; rw [hv.ptr_inv.2]
    exact ⟨fun n w => by simp only [Op.equalIn, Sem.run_bind, hu, Result.andThen_ok]; rfl, rfl, rfl, fun x w => rfl, fun x w => rfl⟩
  · cases hz; obtain ⟨b, off, f, e, _⟩ := hv.iptr_inv; rw [e]
    exact ⟨fun n w => by simp only [Op.equalIn, Sem.run_bind, hu, Result.andThen_ok]; rfl, rfl, rfl, fun x w => rfl, fun x w => rfl⟩
  · cases hz; rw [hv.snil_inv]
    exact ⟨fun n w => by simp only [Op.equalIn, Sem.run_bind, hu, Result.andThen_ok]; rfl, rfl, rfl, fun x w => rfl, fun x w => rfl⟩
  · simp at hc

theorem q_eqnil {t t2 : TypeId} {d : TypeDesc} (ht : P.underlying t = some d) {x : Operand} {c : Value} (ho : o.op = .binOp .eql t x (.const c) t2) {b : Bool} (hx : (ρ x).nil? = some b) (hc : nilFits d c (ρ x) = true) :
    QOp P G h o ρ (.bool b) :=
  .of_run fun _ _ _ _ w a _ hr => by
    have h1 := hr x (by simp [ho, Op.operands])
    obtain ⟨q1, q2, q3, q4, q5⟩ := run_eq_nil (P := P) ht h1 hx hc
    refine ⟨.bool b, ?_, .bool _⟩
    simp only [execOp, ho]
    exact run_eq2 (q4 x) (q1 9999) q2 rfl w
theorem q_nenil {t t2 : TypeId} {d : TypeDesc} (ht : P.underlying t = some d) {x : Operand} {c : Value} (ho : o.op = .binOp .neq t x (.const c) t2) {b : Bool} (hx : (ρ x).nil? = some b) (hc : nilFits d c (ρ x) = true) :
    QOp P G h o ρ (.bool !b) :=
  .of_run fun _ _ _ _ w a _ hr => by
    have h1 := hr x (by simp [ho, Op.operands])
    obtain ⟨q1, q2, q3, q4, q5⟩ := run_eq_nil (P := P) ht h1 hx hc
    refine ⟨.bool !b, ?_, .bool _⟩
    simp only [execOp, ho]
    exact run_neq2 (q5 x) (q1 9999) q3 rfl w

end
end Go.AV
