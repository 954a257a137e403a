/- The abstract walk, first part: abstract values, how they stand for the model's, and the rules of code. -/
import Derived.WalkKit
namespace Go.AV

/-- How a slice that is held by value may be appended to: not at all; only by taking new memory; or as the one owner of its row. -/
inductive SK where
  | imm
  | full
  | own (t : Nat)

/-- Abstract values. -/
inductive V where
  | bool (b : Bool)
  | int (k : IntKind) (n : Int)
  | str (s : ByteArray)
  | pnil
  | ptr (id off : Nat)
  | iptr (cs : List V)
  | snil
  | sl (k : SK) (n len : Nat) (cs : List V)
  | msl (id off len : Nat)
  | bsl (n id len : Nat)
  | inil
  | iface (t : TypeId) (v : V)
  | fnil
  | func (fn : Fn) (first captured : List V)
  | agg (cs : List V)
  | tup (cs : List V)
  | opt (b : Bool) (v : V)      -- what a guarded operation leaves: v, if b; else nothing
  | junk

structure Env where
  mu : Nat → Nat
  nx : Nat
  imm : Nat → Nat → Value → Prop
  cap : Nat → Nat → Prop

def SK.ok (E : Env) (k : SK) (b off n len cap : Nat) : Prop :=
  match k with
  | .imm => True
  | .full => cap = len
  | .own t => t < E.nx ∧ b = E.mu t ∧ off = 0 ∧ E.cap b (cap * n)

/-- A model's value stands for an abstract one. -/
inductive Rep (E : Env) : Value → V → Prop
  | bool (b : Bool) : Rep E (.bool b) (.bool b)
  | int (k : IntKind) (n : Int) : Rep E (.int k n) (.int k n)
  | str (s : ByteArray) : Rep E (.string s) (.str s)
  | pnil : Rep E (.pointer none) .pnil
  | ptr (id off : Nat) (h : id < E.nx) : Rep E (.pointer (some ⟨E.mu id, off, none⟩)) (.ptr id off)
  | iptr (b off : Nat) (cs : List V) (f : Nat → Value) (h1 : ∀ j, j < cs.length → E.imm b (off + j) (f j))
      (h2 : ∀ j (hj : j < cs.length), Rep E (f j) cs[j]) : Rep E (.pointer (some ⟨b, off, none⟩)) (.iptr cs)
  | snil : Rep E (.slice none 0 0) .snil
  | slnil (n : Nat) : Rep E (.slice none 0 0) (.sl .imm n 0 [])
  | slnilf (n : Nat) : Rep E (.slice none 0 0) (.sl .full n 0 [])
  | sl (k : SK) (b off n len cap : Nat) (cs : List V) (f : Nat → Value) (hl : cs.length = len * n) (hc : len ≤ cap)
      (hk : k.ok E b off n len cap) (h1 : ∀ j, j < cs.length → E.imm b (off + j) (f j))
      (h2 : ∀ j (hj : j < cs.length), Rep E (f j) cs[j]) : Rep E (.slice (some ⟨b, off, none⟩) len cap) (.sl k n len cs)
  | msl (id off len cap : Nat) (h : id < E.nx) (hc : len ≤ cap) (hk : E.cap (E.mu id) (off + cap)) (h63 : cap ≤ 9223372036854775807) : Rep E (.slice (some ⟨E.mu id, off, none⟩) len cap) (.msl id off len)
  | bsl (n id len cap : Nat) (h : id < E.nx) (hc : len ≤ cap) (hk : E.cap (E.mu id) (cap * n)) (h63 : cap ≤ 9223372036854775807) : Rep E (.slice (some ⟨E.mu id, 0, none⟩) len cap) (.bsl n id len)
  | inil : Rep E .nilIface .inil
  | iface (t : TypeId) (v : Value) (a : V) (h : Rep E v a) : Rep E (.iface t v) (.iface t a)
  | fnil : Rep E .nilFunc .fnil
  | func (fn : Fn) (fs cs : Array Value) (as bs : List V) (e1 : fs.size = as.length) (e2 : cs.size = bs.length)
      (h1 : ∀ j (h : j < fs.size) (h' : j < as.length), Rep E fs[j] as[j])
      (h2 : ∀ j (h : j < cs.size) (h' : j < bs.length), Rep E cs[j] bs[j]) : Rep E (.func fn fs cs) (.func fn as bs)
  | agg (vs : Array Value) (cs : List V) (e : vs.size = cs.length) (h1 : ∀ j (h : j < vs.size), vs[j].oneCell' = true)
      (h2 : ∀ j (h : j < vs.size) (h' : j < cs.length), Rep E vs[j] cs[j]) : Rep E (.agg vs) (.agg cs)
  | tup (vs : Array Value) (cs : List V) (e : vs.size = cs.length)
      (h2 : ∀ j (h : j < vs.size) (h' : j < cs.length), Rep E vs[j] cs[j]) : Rep E (.tuple vs) (.tup cs)
  | optT (v : Value) (x : V) (h : Rep E v x) : Rep E v (.opt true x)
  | optF (x : V) : Rep E undef (.opt false x)
  | junk (v : Value) : Rep E v .junk

structure Env.le (E E' : Env) : Prop where
  nx : E.nx ≤ E'.nx
  mu : ∀ i, i < E.nx → E'.mu i = E.mu i
  imm : ∀ b i v, E.imm b i v → E'.imm b i v
  cap : ∀ b n, E.cap b n → E'.cap b n

theorem Env.le.refl (E : Env) : E.le E := ⟨Nat.le_refl _, fun _ _ => rfl, fun _ _ _ h => h, fun _ _ h => h⟩
theorem Env.le.trans {a b c : Env} (h : a.le b) (k : b.le c) : a.le c :=
  ⟨Nat.le_trans h.nx k.nx, fun i hi => (k.mu i (Nat.lt_of_lt_of_le hi h.nx)).trans (h.mu i hi), fun x y z g => k.imm x y z (h.imm x y z g), fun x y g => k.cap x y (h.cap x y g)⟩

theorem SK.ok.mono {E E' : Env} (he : E.le E') {k : SK} {b off n len cap : Nat} (h : k.ok E b off n len cap) : k.ok E' b off n len cap := by
  cases k with
  | imm => trivial
  | full => exact h
  | own t =>
    obtain ⟨h1, h2, h3, h4⟩ := h
    exact ⟨Nat.lt_of_lt_of_le h1 he.nx, by rw [he.mu t h1]; exact h2, h3, he.cap _ _ h4⟩

theorem Rep.mono {E E' : Env} (he : E.le E') {v : Value} {a : V} (h : Rep E v a) : Rep E' v a := by
  induction h with
  | bool b => exact .bool b
  | int k n => exact .int k n
  | str s => exact .str s
  | pnil => exact .pnil
  | ptr id off h => rw [← he.mu id h]; exact .ptr id off (Nat.lt_of_lt_of_le h he.nx)
  | iptr b off cs f h1 h2 ih => exact .iptr b off cs f (fun j hj => he.imm _ _ _ (h1 j hj)) ih
  | snil => exact .snil
  | slnil n => exact .slnil n
  | slnilf n => exact .slnilf n
  | sl k b off n len cap cs f hl hc hk h1 h2 ih => exact .sl k b off n len cap cs f hl hc (hk.mono he) (fun j hj => he.imm _ _ _ (h1 j hj)) ih
  | msl id off len cap h hc hk h63 => rw [← he.mu id h]; exact .msl id off len cap (Nat.lt_of_lt_of_le h he.nx) hc (by rw [he.mu id h]; exact he.cap _ _ hk) h63
  | bsl n id len cap h hc hk h63 => rw [← he.mu id h]; exact .bsl n id len cap (Nat.lt_of_lt_of_le h he.nx) hc (by rw [he.mu id h]; exact he.cap _ _ hk) h63
  | inil => exact .inil
  | iface t v a h ih => exact .iface t v a ih
  | fnil => exact .fnil
  | func fn fs cs as bs e1 e2 h1 h2 ih1 ih2 => exact .func fn fs cs as bs e1 e2 ih1 ih2
  | agg vs cs e h1 h2 ih => exact .agg vs cs e h1 ih
  | tup vs cs e h2 ih => exact .tup vs cs e ih
  | optT v x h ih => exact .optT v x ih
  | optF x => exact .optF x
  | junk v => exact .junk v

/-- The abstract memory: boxes (cells that may be written) and the rows that are appended to. -/
structure Hp where
  box : Nat → Option (List V)
  tok : Nat → Option Nat

def Hp.alive (h : Hp) (i : Nat) : Prop := h.box i ≠ none ∨ h.tok i ≠ none

structure Prot (mu : Nat → Nat) (h : Hp) (w : World) (b i : Nat) : Prop where
  lt : b < w.heap.size
  box : ∀ id, h.box id ≠ none → mu id ≠ b
  tok : ∀ t n, h.tok t = some n → mu t = b → i < n

def env (mu : Nat → Nat) (nx : Nat) (h : Hp) (w : World) : Env where
  mu := mu
  nx := nx
  imm := fun b i v => Prot mu h w b i ∧ w.cell? ⟨b, i, none⟩ = some v ∧ v.oneCell' = true
  cap := fun b n => ∃ cs el fr, w.heap[b]? = some (.cells cs el fr) ∧ n ≤ cs.size

/-- The world is as the abstract memory says. 'G': what the named package-level variables hold. -/
structure Rel (G : Nat → Option (List V)) (mu : Nat → Nat) (nx : Nat) (h : Hp) (w : World) : Prop where
  box : ∀ id cs, h.box id = some cs → id < nx ∧ ∃ vs el, w.heap[mu id]? = some (.cells vs el (0, 0)) ∧ vs.size = cs.length ∧
    (∀ j (_ : j < vs.size), vs[j].oneCell' = true) ∧ ∀ j (_ : j < vs.size) (_ : j < cs.length), Rep (env mu nx h w) vs[j] cs[j]
  tok : ∀ t n, h.tok t = some n → t < nx ∧ ∃ vs el, w.heap[mu t]? = some (.cells vs el (0, 0)) ∧ n ≤ vs.size
  inj : ∀ i j, h.alive i → h.alive j → mu i = mu j → i = j
  excl : ∀ i, h.box i ≠ none → h.tok i = none
  glob : ∀ g cs, G g = some cs → Rep (env mu nx h w) (.pointer (some ⟨g, 0, none⟩)) (.iptr cs)

/-- What a step may have done to the world. -/
structure Ext (mu : Nat → Nat) (nx : Nat) (h : Hp) (w : World) (mu' : Nat → Nat) (nx' : Nat) (h' : Hp) (w' : World) : Prop where
  le : (env mu nx h w).le (env mu' nx' h' w')
  os : w'.os = w.os
  tape : w'.tape = w.tape
  output : w'.output = w.output
  size : w.heap.size ≤ w'.heap.size
  block : ∀ b, b < w.heap.size → (∀ id, h.alive id → mu id ≠ b) → w'.heap[b]? = w.heap[b]?
  src : ∀ id, h'.alive id → w.heap.size ≤ mu' id ∨ ∃ i, h.alive i ∧ mu i = mu' id

theorem Ext.refl (mu : Nat → Nat) (nx : Nat) (h : Hp) (w : World) : Ext mu nx h w mu nx h w :=
  ⟨.refl _, rfl, rfl, rfl, Nat.le_refl _, fun _ _ _ => rfl, fun id hid => .inr ⟨id, hid, rfl⟩⟩

theorem Ext.trans {mu nx h w mu1 nx1 h1 w1 mu2 nx2 h2 w2} (a : Ext mu nx h w mu1 nx1 h1 w1) (b : Ext mu1 nx1 h1 w1 mu2 nx2 h2 w2) : Ext mu nx h w mu2 nx2 h2 w2 where
  le := a.le.trans b.le
  os := b.os.trans a.os
  tape := b.tape.trans a.tape
  output := b.output.trans a.output
  size := Nat.le_trans a.size b.size
  block := fun k hk hn => by
    refine (b.block k (Nat.lt_of_lt_of_le hk a.size) fun id hid he => ?_).trans (a.block k hk hn)
    rcases a.src id hid with h1 | ⟨i, hi, h1⟩
    · omega
    · exact hn i hi (h1.trans he)
  src := fun id hid => by
    rcases b.src id hid with h1 | ⟨i, hi, h1⟩
    · exact .inl (Nat.le_trans a.size h1)
    · rcases a.src i hi with h2 | ⟨j, hj, h2⟩
      · exact .inl (by omega)
      · exact .inr ⟨j, hj, h2.trans h1⟩

/-- Temporaries. -/
abbrev Tm := Nat → V
def put (T : Tm) (d : Nat) (v : V) : Tm := fun i => bif Nat.beq i d then v else T i
def T0 : Tm := fun _ => .junk
def putO (T : Tm) (d : Option Nat) (v : V) : Tm := match d with | some d => put T d v | none => T
def putL (T : Tm) : Nat → List V → Tm
  | _, [] => T
  | k, v :: vs => putL (put T k v) (k + 1) vs

theorem put_same (T : Tm) (d : Nat) (v : V) : put T d v d = v := by simp [put]
theorem put_ne (T : Tm) {d i : Nat} (v : V) (h : i ≠ d) : put T d v i = T i := by
  have : Nat.beq i d = false := by
    cases e : Nat.beq i d with
    | false => rfl
    | true => exact absurd (Nat.eq_of_beq_eq_true e) h
  simp [put, this]

def cv1 : Value → V
  | .bool b => .bool b
  | .int k n => .int k n
  | .string s => .str s
  | .pointer none => .pnil
  | .slice none 0 0 => .snil
  | .nilIface => .inil
  | .nilFunc => .fnil
  | .func fn fs cs => if fs.size = 0 ∧ cs.size = 0 then .func fn [] [] else .junk
  | _ => .junk
def cv : Value → V
  | .agg cs => bif cs.toList.all Value.oneCell' then .agg (cs.toList.map cv1) else .junk
  | v => cv1 v

def ev (G : Nat → Option (List V)) (T : Tm) : Operand → V
  | .tmp t => T t
  | .const v => cv v
  | .global g => match G g with | some cs => .iptr cs | none => .junk
  | .func f => .func (.func f) [] []

theorem rep_cv1 (E : Env) (v : Value) : Rep E v (cv1 v) := by
  unfold cv1
  split
  · exact .bool _
  · exact .int _ _
  · exact .str _
  · exact .pnil
  · exact .snil
  · exact .inil
  · exact .fnil
  · split
    · rename_i fn fs cs h
      exact .func fn fs cs [] [] (by simp [h.1]) (by simp [h.2]) (fun j hj => by omega) (fun j hj => by omega)
    · exact .junk _
  · exact .junk _

theorem rep_cv (E : Env) (v : Value) : Rep E v (cv v) := by
  unfold cv
  split
  · rename_i cs
    cases hq : cs.toList.all Value.oneCell' with
    | false => exact .junk _
    | true =>
      refine .agg _ _ (by simp) (fun j hj => ?_) (fun j hj hj' => ?_)
      · exact (List.all_eq_true.1 hq) _ (by simp)
      · simpa using rep_cv1 E _
  · exact rep_cv1 E v

structure St (G : Nat → Option (List V)) (N : Nat) (mu : Nat → Nat) (nx : Nat) (h : Hp) (w : World) (a : Act) (T : Tm) : Prop where
  rel : Rel G mu nx h w
  defers : a.defers = []
  size : a.tmps.size = N
  tmps : ∀ i, Rep (env mu nx h w) (a.tmps.getD i undef) (T i)

theorem St.ev {G N mu nx h w a T} (s : St G N mu nx h w a T) (x : Operand) : Rep (env mu nx h w) (a.eval x) (ev G T x) := by
  cases x with
  | tmp t => exact s.tmps t
  | const v => exact rep_cv _ v
  | global g =>
    simp only [AV.ev, Act.eval]
    cases hg : G g with
    | none => exact .junk _
    | some cs => exact s.rel.glob g cs hg
  | func f => exact .func _ _ _ [] [] rfl rfl (fun j hj => by simp at hj) (fun j hj => by simp at hj)

theorem St.put {G N mu nx h w a T mu' nx' h' w'} (s : St G N mu nx h w a T) (he : Ext mu nx h w mu' nx' h' w') (r : Rel G mu' nx' h' w')
    {d : Option Nat} (hd : ∀ t, d = some t → t < N) {v : Value} {x : V} (hv : Rep (env mu' nx' h' w') v x) : St G N mu' nx' h' w' (a.put d v) (putO T d x) := by
  cases d with
  | none => exact ⟨r, s.defers, s.size, fun i => (s.tmps i).mono he.le⟩
  | some d =>
    have hlt := hd d rfl
    refine ⟨r, s.defers, by simp [Act.put, s.size], fun i => ?_⟩
    simp only [Act.put, putO]
    by_cases hi : i = d
    · subst hi
      rw [put_same]
      have : (a.tmps.setIfInBounds i v).getD i undef = v := by simp [Array.getD_eq_getD_getElem?, s.size, hlt]
      rw [this]; exact hv
    · rw [put_ne _ _ hi]
      have : (a.tmps.setIfInBounds d v).getD i undef = a.tmps.getD i undef := by
        simp only [Array.getD_eq_getD_getElem?, Array.getElem?_setIfInBounds_ne (Ne.symm hi)]
      rw [this]; exact (s.tmps i).mono he.le

abbrev Post := Exit → Tm → Hp → Prop
def lift (G : Nat → Option (List V)) (N : Nat) (Q : Post) (mu : Nat → Nat) (nx : Nat) (h : Hp) (w : World) : Exit → Act → World → Prop :=
  fun e a' w' => ∃ mu' nx' h' T', Q e T' h' ∧ St G N mu' nx' h' w' a' T' ∧ Ext mu nx h w mu' nx' h' w'

/-- THE ABSTRACT WALK OF A CODE. -/
def AW (P : Program) (G : Nat → Option (List V)) (N : Nat) (c : Code) (Q : Post) (T : Tm) (h : Hp) : Prop :=
  ∀ mu nx w a, St G N mu nx h w a T → c.wp P (lift G N Q mu nx h w) a w

def AOps (P : Program) (G : Nat → Option (List V)) (N : Nat) (ops : Array Oper) (Q : Post) (l : List Oper) (T : Tm) (h : Hp) : Prop :=
  ∀ mu nx w a, St G N mu nx h w a T → ∀ Q' : Exit → Act → World → Prop, (∀ e a' w', lift G N Q mu nx h w e a' w' → Q' e a' w') → wpList P ops Q' l a w

/-- A call, abstractly. -/
def ACalls (P : Program) (G : Nat → Option (List V)) (f : FuncId) (args : List V) (h : Hp) (R : V → Hp → Prop) : Prop :=
  ∀ mu nx w (vs : Array Value), Rel G mu nx h w → (∀ j, Rep (env mu nx h w) (vs.getD j undef) (args.getD j .junk)) → vs.size = args.length →
    Calls P f vs w fun e w' => ∃ v r mu' nx' h', e = .returned v ∧ R r h' ∧ Rel G mu' nx' h' w' ∧ Rep (env mu' nx' h' w') v r ∧ Ext mu nx h w mu' nx' h' w'

section rules
variable {P : Program} {G : Nat → Option (List V)} {N : Nat} {Q : Post} {T : Tm} {h : Hp}

theorem AW.mono {c : Code} {Q' : Post} (k : AW P G N c Q T h) (hq : ∀ e T h, Q e T h → Q' e T h) : AW P G N c Q' T h :=
  fun mu nx w a s => wp_mono (k mu nx w a s) fun _ _ _ ⟨mu', nx', h', T', q, s', e⟩ => ⟨mu', nx', h', T', hq _ _ _ q, s', e⟩

theorem ACalls.mono {f : FuncId} {args : List V} {R R' : V → Hp → Prop} (k : ACalls P G f args h R) (hr : ∀ r h, R r h → R' r h) : ACalls P G f args h R' :=
  fun mu nx w vs r ha hs => (k mu nx w vs r ha hs).mono fun _ _ ⟨v, x, mu', nx', h', e1, e2, e3⟩ => ⟨v, x, mu', nx', h', e1, hr _ _ e2, e3⟩

def thenQ (P : Program) (G : Nat → Option (List V)) (N : Nat) (c : Code) (Q : Post) : Post
  | .normal, T, h => AW P G N c Q T h
  | e, T, h => Q e T h
def blockQ (id : Nat) (Q : Post) : Post
  | .exit j, T, h => if j = id then Q .normal T h else Q (.exit j) T h
  | e, T, h => Q e T h

theorem lift_trans {Q : Post} {mu nx h w mu1 nx1 h1 w1 e a' w'} (x : Ext mu nx h w mu1 nx1 h1 w1) (q : lift G N Q mu1 nx1 h1 w1 e a' w') : lift G N Q mu nx h w e a' w' :=
  let ⟨mu', nx', h', T', q', s', e'⟩ := q; ⟨mu', nx', h', T', q', s', x.trans e'⟩

theorem AW.seq {x y : Code} (k : AW P G N x (thenQ P G N y Q) T h) : AW P G N (.seq x y) Q T h := fun mu nx w a s =>
  wp_seq (wp_mono (k mu nx w a s) fun e a' w' ⟨mu', nx', h', T', q, s', x⟩ => by
    cases e with
    | normal => exact wp_mono (q mu' nx' w' a' s') fun _ _ _ q => lift_trans x q
    | _ => exact ⟨mu', nx', h', T', q, s', x⟩)

theorem AW.skip (k : Q .normal T h) : AW P G N .skip Q T h := fun mu nx _ _ s => wp_skip ⟨mu, nx, h, T, k, s, .refl _ _ _ _⟩
theorem AW.exit {id : Nat} (k : Q (.exit id) T h) : AW P G N (.exit id) Q T h := fun mu nx _ _ s => wp_exit ⟨mu, nx, h, T, k, s, .refl _ _ _ _⟩
theorem AW.ret (k : Q .ret T h) : AW P G N .ret Q T h := fun mu nx _ _ s => wp_ret ⟨mu, nx, h, T, k, s, .refl _ _ _ _⟩

theorem AW.block {id : Nat} {c : Code} (k : AW P G N c (blockQ id Q) T h) : AW P G N (.block id c) Q T h := fun mu nx w a s =>
  wp_block (wp_mono (k mu nx w a s) fun e a' w' ⟨mu', nx', h', T', q, s', x⟩ => by
    cases e with
    | exit j =>
      simp only [Exit.inBlock, blockQ] at *
      by_cases hj : j = id
      · rw [if_pos hj] at q ⊢; exact ⟨mu', nx', h', T', q, s', x⟩
      · rw [if_neg hj] at q ⊢; exact ⟨mu', nx', h', T', q, s', x⟩
    | _ => exact ⟨mu', nx', h', T', q, s', x⟩)

theorem Rep.bool_inv {E : Env} {v : Value} {b : Bool} (h : Rep E v (.bool b)) : v = .bool b := by cases h; rfl
theorem Rep.func_inv {E : Env} {v : Value} {fn : Fn} {as bs : List V} (h : Rep E v (.func fn as bs)) :
    ∃ fs cs, v = .func fn fs cs ∧ fs.size = as.length ∧ cs.size = bs.length ∧ (∀ j (_ : j < fs.size) (_ : j < as.length), Rep E fs[j] as[j]) ∧ ∀ j (_ : j < cs.size) (_ : j < bs.length), Rep E cs[j] bs[j] := by
  cases h with | func fn fs cs as bs e1 e2 h1 h2 => exact ⟨fs, cs, rfl, e1, e2, h1, h2⟩
theorem Rep.int_inv {E : Env} {v : Value} {k : IntKind} {n : Int} (h : Rep E v (.int k n)) : v = .int k n := by cases h; rfl

theorem AW.cond {c : Operand} {x y : Code} {b : Bool} (hc : ev G T c = .bool b) (ht : b = true → AW P G N x Q T h) (hf : b = false → AW P G N y Q T h) : AW P G N (.cond c x y) Q T h :=
  fun mu nx w a s => wp_cond_split (Rep.bool_inv (hc ▸ s.ev c)) (fun hb => ht hb mu nx w a s) (fun hb => hf hb mu nx w a s)

/-- WHAT IS KNOWN MAY BE FORGOTTEN: abstract values that say less. -/
def VLe (x y : V) : Prop := ∀ E v, Rep E v x → Rep E v y
theorem VLe.refl (x : V) : VLe x x := fun _ _ h => h
theorem VLe.of_eq {x y : V} (h : x = y) : VLe x y := h ▸ VLe.refl _
theorem VLe.trans {x y z : V} (a : VLe x y) (b : VLe y z) : VLe x z := fun E v h => b E v (a E v h)
theorem VLe.junk (x : V) : VLe x .junk := fun _ v _ => .junk v
def TLe (T T' : Tm) : Prop := ∀ i, VLe (T i) (T' i)
theorem TLe.refl (T : Tm) : TLe T T := fun _ => .refl _
theorem TLe.zero (T : Tm) : TLe T T0 := fun _ => .junk _
theorem TLe.put {T T' : Tm} {d : Nat} {v : V} (h : VLe (T d) v) (k : TLe T T') : TLe T (put T' d v) := fun i => by
  by_cases hi : i = d
  · subst hi; rw [put_same]; exact h
  · rw [put_ne _ _ hi]; exact k i

/-- An abstract memory that says less. -/
structure HLe (h h' : Hp) : Prop where
  box : ∀ i cs, h'.box i = some cs → h.box i = some cs
  tok : ∀ i n, h'.tok i = some n → h.tok i = some n
theorem HLe.refl (h : Hp) : HLe h h := ⟨fun _ _ h => h, fun _ _ h => h⟩
theorem HLe.trans {a b c : Hp} (x : HLe a b) (y : HLe b c) : HLe a c := ⟨fun i cs h => x.box i cs (y.box i cs h), fun i n h => x.tok i n (y.tok i n h)⟩
theorem HLe.alive {h h' : Hp} (k : HLe h h') {i : Nat} (a : h'.alive i) : h.alive i := by
  rcases a with a | a
  · cases e : h'.box i with
    | none => exact absurd e a
    | some cs => exact .inl (by rw [k.box i cs e]; simp)
  · cases e : h'.tok i with
    | none => exact absurd e a
    | some cs => exact .inr (by rw [k.tok i cs e]; simp)
theorem HLe.env {h h' : Hp} (k : HLe h h') (mu : Nat → Nat) (nx : Nat) (w : World) : (env mu nx h w).le (env mu nx h' w) where
  nx := Nat.le_refl _
  mu := fun _ _ => rfl
  imm := fun b i v ⟨⟨p1, p2, p3⟩, q⟩ => ⟨⟨p1, fun id hid => p2 id (by
      cases e : h'.box id with
      | none => exact absurd e hid
      | some cs => rw [k.box id cs e]; simp), fun t n e => p3 t n (k.tok t n e)⟩, q⟩
  cap := fun _ _ h => h
theorem HLe.rel {h h' : Hp} (k : HLe h h') {G : Nat → Option (List V)} {mu : Nat → Nat} {nx : Nat} {w : World} (r : Rel G mu nx h w) : Rel G mu nx h' w where
  box := fun id cs e => by
    obtain ⟨h1, vs, el, h2, h3, h4, h5⟩ := r.box id cs (k.box id cs e)
    exact ⟨h1, vs, el, h2, h3, h4, fun j hj hj' => (h5 j hj hj').mono (k.env mu nx w)⟩
  tok := fun t n e => r.tok t n (k.tok t n e)
  inj := fun i j a b => r.inj i j (k.alive a) (k.alive b)
  excl := fun i hi => by
    cases e : h'.box i with
    | none => exact absurd e hi
    | some cs =>
      cases e2 : h'.tok i with
      | none => rfl
      | some n =>
        have := r.excl i (by rw [k.box i cs e]; simp)
        rw [k.tok i n e2] at this; cases this
  glob := fun g cs e => (r.glob g cs e).mono (k.env mu nx w)
theorem HLe.ext {h h' : Hp} (k : HLe h h') {mu : Nat → Nat} {nx : Nat} {w : World} : Ext mu nx h w mu nx h' w where
  le := k.env mu nx w
  os := rfl
  tape := rfl
  output := rfl
  size := Nat.le_refl _
  block := fun _ _ _ => rfl
  src := fun id hid => .inr ⟨id, k.alive hid, rfl⟩

theorem St.weaken {mu nx w a T' h'} (s : St G N mu nx h w a T) (ht : TLe T T') (hh : HLe h h') : St G N mu nx h' w a T' :=
  ⟨hh.rel s.rel, s.defers, s.size, fun i => ((ht i) _ _ (s.tmps i)).mono (hh.env mu nx w)⟩

/-- A post that may be met by what says more. -/
def Wk (I : Tm → Hp → Prop) : Tm → Hp → Prop := fun T h => ∃ T' h', TLe T T' ∧ HLe h h' ∧ I T' h'
theorem Wk.mk {I : Tm → Hp → Prop} {T T' : Tm} {h h' : Hp} (a : TLe T T') (b : HLe h h') (c : I T' h') : Wk I T h := ⟨T', h', a, b, c⟩

theorem AW.weaken {c : Code} {T' : Tm} {h' : Hp} (k : AW P G N c Q T' h') (ht : TLe T T') (hh : HLe h h') : AW P G N c Q T h :=
  fun mu nx w a s => wp_mono (k mu nx w a (s.weaken ht hh)) fun _ _ _ q => lift_trans hh.ext q

def loopQ (I : Nat → Tm → Hp → Prop) (n : Nat) (Q : Post) : Post
  | .normal, T, h => Wk (fun T h => ∃ m, m < n ∧ I m T h) T h
  | e, T, h => Q e T h

/-- A LOOP. 'I n': what holds at its head, n the measure. -/
theorem AW.loop {c : Code} (I : Nat → Tm → Hp → Prop) (n : Nat) (h0 : Wk (I n) T h) (round : ∀ n T h, I n T h → AW P G N c (loopQ I n Q) T h) : AW P G N (.loop c) Q T h := by
  intro mu nx w a s
  obtain ⟨T', h', ht, hh, hI⟩ := h0
  have s0 := s.weaken ht hh
  refine wp_mono (Q := lift G N Q mu nx h' w) ?_ fun _ _ _ q => lift_trans hh.ext q
  clear ht hh s
  -- by induction on the measure, over all states
  suffices H : ∀ n mu1 nx1 h1 w1 a1 T1, I n T1 h1 → St G N mu1 nx1 h1 w1 a1 T1 → Ext mu nx h' w mu1 nx1 h1 w1 → (Code.loop c).wp P (lift G N Q mu nx h' w) a1 w1 from
    H n mu nx h' w a T' hI s0 (.refl _ _ _ _)
  intro n0 mu0 nx0 h0 w0 a0 T0 hI0 s0' x0
  -- the loop rule of the kit, its measure found by choice
  let J : Act → World → Nat → Prop := fun a' w' m => ∃ mu1 nx1 h1 T1, I m T1 h1 ∧ St G N mu1 nx1 h1 w' a' T1 ∧ Ext mu nx h' w mu1 nx1 h1 w'
  have key : ∀ m a' w', J a' w' m → ∀ (b : Frame) (k : List Item) (cs : List Frame),
      ∃ e a2 w2, lift G N Q mu nx h' w e a2 w2 ∧ Arrives P (lone (b.at a' (.code c :: .inLoop c :: k)) cs w') b k cs e a2 w2 := by
    intro m
    induction m using Nat.strongRecOn with
    | _ m ih =>
      rintro a' w' ⟨mu1, nx1, h1, T1, hi, s1, x1⟩ b k cs
      obtain ⟨e, a₁, w₁, hq, harr⟩ := round m T1 h1 hi mu1 nx1 w' a' s1 b (.inLoop c :: k) cs
      obtain ⟨mu2, nx2, h2, T2, q, s2, x2⟩ := hq
      cases e with
      | normal =>
        obtain ⟨T3, h3, ht, hh, m', hlt, hi'⟩ := q
        obtain ⟨e₂, a₂, w₂, hq₂, harr₂⟩ := ih m' hlt a₁ w₁ ⟨mu2, nx2, h3, T3, hi', s2.weaken ht hh, (x1.trans x2).trans hh.ext⟩ b k cs
        exact ⟨e₂, a₂, w₂, hq₂, .of_steps (Steps.trans harr (.one step_inLoop)) harr₂⟩
      | exit id => exact ⟨_, a₁, w₁, ⟨mu2, nx2, h2, T2, q, s2, x1.trans x2⟩, .pass (x := .inLoop c) rfl (fun _ _ => .inl (by simp)) harr⟩
      | goto l => exact ⟨_, a₁, w₁, ⟨mu2, nx2, h2, T2, q, s2, x1.trans x2⟩, .pass (x := .inLoop c) rfl (fun _ _ => .inl (by simp)) harr⟩
      | ret => exact ⟨_, a₁, w₁, ⟨mu2, nx2, h2, T2, q, s2, x1.trans x2⟩, .pass (x := .inLoop c) rfl (fun _ _ => .inl (by simp)) harr⟩
      | panic ch => exact ⟨_, a₁, w₁, ⟨mu2, nx2, h2, T2, q, s2, x1.trans x2⟩, .pass (x := .inLoop c) rfl (fun _ _ => .inl (by simp)) harr⟩
      | outgrown => exact ⟨_, a₁, w₁, ⟨mu2, nx2, h2, T2, q, s2, x1.trans x2⟩, .pass (x := .inLoop c) rfl (fun _ _ => .inl (by simp)) harr⟩
  intro b k cs
  obtain ⟨e, a', w', hq, harr⟩ := key n0 a0 w0 ⟨mu0, nx0, h0, T0, hI0, s0', x0⟩ b k cs
  exact ⟨e, a', w', hq, .of_steps (.one step_loop) harr⟩

/-- A cut: two codes, one behind the other, with what is known between them. -/
theorem AW.cut {x y : Code} (M : Tm → Hp → Prop) (k : AW P G N x (fun e T h => match e with | .normal => Wk M T h | e => Q e T h) T h)
    (k2 : ∀ T h, M T h → AW P G N y Q T h) : AW P G N (.seq x y) Q T h :=
  .seq (k.mono fun e T h q => by
    cases e with
    | normal => obtain ⟨T', h', ht, hh, m⟩ := q; exact (k2 T' h' m).weaken ht hh
    | _ => exact q)

theorem AW.region {id : Nat} {l : List Oper} (k : AOps P G N l.toArray Q l T h) : AW P G N (.region id l.toArray false) Q T h :=
  fun mu nx w a s => wp_region_lit (k mu nx w a s _ fun _ _ _ q => q)
theorem AOps.nil {ops : Array Oper} (k : Q .normal T h) : AOps P G N ops Q [] T h := fun mu nx _ _ s _ hQ => wpList_nil (hQ _ _ _ ⟨mu, nx, h, T, k, s, .refl _ _ _ _⟩)

/-- What an operation does, told by what follows: from whatever stands for its operands it comes to something of which 'K' is known. It looks at its operands, and at the memory, and at nothing else. -/
def AStep (P : Program) (G : Nat → Option (List V)) (o : Oper) (ρ : Operand → V) (h : Hp) (K : V → Hp → Prop) : Prop :=
  ∀ mu nx w (a : Act), a.defers = [] → Rel G mu nx h w → (∀ y ∈ o.op.operands, Rep (env mu nx h w) (a.eval y) (ρ y)) → ∀ (K' : Act → World → Prop) (Q' : Exit → Act → World → Prop),
    (∀ v x mu' nx' h' w', K x h' → Rel G mu' nx' h' w' → Rep (env mu' nx' h' w') v x → Ext mu nx h w mu' nx' h' w' → K' (a.put o.dst v) w') → o.wp P a w K' Q'

/-- A quiet operation: it yields what stands for 'x', and leaves the abstract memory alone; in every larger memory, too. -/
def QOp (P : Program) (G : Nat → Option (List V)) (h : Hp) (o : Oper) (ρ : Operand → V) (x : V) : Prop :=
  ∀ h', HLe h' h → AStep P G o ρ h' fun y h'' => y = x ∧ h'' = h'

/-- The usual kind: one value, the world as it was. -/
theorem QOp.of_run {o : Oper} {ρ : Operand → V} {x : V}
    (k : ∀ h', HLe h' h → ∀ mu nx w (a : Act), Rel G mu nx h' w → (∀ y ∈ o.op.operands, Rep (env mu nx h' w) (a.eval y) (ρ y)) → ∃ v, (execOp a.eval o).run P w = .ok (.value v) w ∧ Rep (env mu nx h' w) v x) :
    QOp P G h o ρ x := fun h' hl mu nx w a _ r hr K Q' hK => by
  obtain ⟨v, h1, h2⟩ := k h' hl mu nx w a r hr
  unfold Oper.wp
  rw [h1]
  exact hK v x mu nx h' w ⟨rfl, rfl⟩ r h2 (.refl _ _ _ _)

theorem AStep.mono {o : Oper} {ρ : Operand → V} {K K' : V → Hp → Prop} (k : AStep P G o ρ h K) (hk : ∀ x h, K x h → K' x h) : AStep P G o ρ h K' :=
  fun mu nx w a hd r hr K1 Q' hK => k mu nx w a hd r hr K1 Q' fun v x mu' nx' h' w' q => hK v x mu' nx' h' w' (hk _ _ q)
theorem AStep.congr {o : Oper} {ρ ρ' : Operand → V} {K : V → Hp → Prop} (k : AStep P G o ρ h K) (he : ∀ y ∈ o.op.operands, ρ' y = ρ y) : AStep P G o ρ' h K :=
  fun mu nx w a hd r hr => k mu nx w a hd r fun y hy => he y hy ▸ hr y hy

theorem dst_spec {N d : Nat} (h : Nat.blt d N = true) : ∀ t, some d = some t → t < N := fun t ht => by
  cases ht
  exact Nat.blt_eq.mp h

theorem AOps.s {ops : Array Oper} {o : Oper} {rest : List Oper} {d : Nat} (hg : o.guard = none) (hdst : o.dst = some d) (hd : Nat.blt d N = true)
    (k : AStep P G o (ev G T) h fun x h' => AOps P G N ops Q rest (put T d x) h') : AOps P G N ops Q (o :: rest) T h := fun mu nx w a s Q' hQ =>
  wpList_plain hg fun K hK => k mu nx w a s.defers s.rel (fun y _ => s.ev y) K _ fun v x mu' nx' h' w' kk r hv e => by
    have st := s.put e r (d := o.dst) (by rw [hdst]; exact dst_spec hd) hv
    rw [hdst] at st ⊢
    exact hK _ _ (kk mu' nx' w' _ st Q' fun _ _ _ q => hQ _ _ _ (lift_trans e q))
theorem AOps.s0 {ops : Array Oper} {o : Oper} {rest : List Oper} (hg : o.guard = none) (hdst : o.dst = none)
    (k : AStep P G o (ev G T) h fun _ h' => AOps P G N ops Q rest T h') : AOps P G N ops Q (o :: rest) T h := fun mu nx w a s Q' hQ =>
  wpList_plain hg fun K hK => k mu nx w a s.defers s.rel (fun y _ => s.ev y) K _ fun v x mu' nx' h' w' kk r hv e => by
    have st := s.put e r (d := o.dst) (by rw [hdst]; exact fun t ht => by cases ht) hv
    rw [hdst] at st ⊢
    exact hK _ _ (kk mu' nx' w' _ st Q' fun _ _ _ q => hQ _ _ _ (lift_trans e q))
theorem AOps.q {ops : Array Oper} {o : Oper} {rest : List Oper} {x : V} {d : Nat} (hg : o.guard = none) (hdst : o.dst = some d) (hd : Nat.blt d N = true) (hq : QOp P G h o (ev G T) x)
    (k : AOps P G N ops Q rest (put T d x) h) : AOps P G N ops Q (o :: rest) T h :=
  .s hg hdst hd ((hq h (.refl h)).mono fun y h' ⟨e1, e2⟩ => by subst e1; subst e2; exact k)

theorem VLe.opt {b : Bool} {v : V} (h : b = true) : VLe (.opt b v) v := fun E u hu => by
  subst h
  cases hu with
  | optT v x h => exact h
theorem ev_le {T T' : Tm} (ht : TLe T T') (y : Operand) : VLe (ev G T y) (ev G T' y) := by
  cases y with
  | tmp t => exact ht t
  | _ => exact .refl _
theorem AStep.le {o : Oper} {ρ ρ' : Operand → V} {K : V → Hp → Prop} (hl : ∀ y, VLe (ρ y) (ρ' y)) (k : AStep P G o ρ' h K) : AStep P G o ρ h K :=
  fun mu nx w a hd r hr => k mu nx w a hd r fun y hy => hl y _ _ (hr y hy)
theorem QOp.le {o : Oper} {ρ ρ' : Operand → V} {x : V} (hl : ∀ y, VLe (ρ y) (ρ' y)) (k : QOp P G h o ρ' x) : QOp P G h o ρ x := fun h' l => (k h' l).le hl

/-- What a guard says, by the value that it looks at. -/
def gcond (v : V) (want : Bool) : Option Bool :=
  match v with
  | .bool b => some (b == want)
  | .opt p (.bool b) => some (p && (b == want))
  | .tup [] => some false
  | _ => none
def wantedA (ops : Array Oper) (o : Oper) (T : Tm) : Option Bool :=
  match o.guard with
  | none => some true
  | some (j, want) => match (ops[j]?).bind (·.dst) with | some t => gcond (T t) want | none => none

theorem yielded_of {T : Tm} {mu nx w a} (s : St G N mu nx h w a T) {ops : Array Oper} {j t : Nat} (ht : (ops[j]?).bind (·.dst) = some t) {want c : Bool} (hc : gcond (T t) want = some c) : (yielded ops a.tmps j == some want) = c := by
  have hr := s.tmps t
  have hsome : ∀ b, a.tmps.getD t undef = .bool b → yielded ops a.tmps j = some b := fun b hb => by
    unfold yielded
    rw [ht]
    simp only [Option.bind_some]
    rw [Array.getD_eq_getD_getElem?] at hb
    cases e : a.tmps[t]? with
    | none => rw [e] at hb; cases hb
    | some v => rw [e] at hb; simp at hb; subst hb; rfl
  have hnone : a.tmps.getD t undef = undef → yielded ops a.tmps j = none := fun hb => by
    unfold yielded
    rw [ht]
    simp only [Option.bind_some]
    rw [Array.getD_eq_getD_getElem?] at hb
    cases e : a.tmps[t]? with
    | none => rfl
    | some v => rw [e] at hb; simp at hb; subst hb; rfl
  unfold gcond at hc
  generalize T t = x at *
  split at hc
  · rename_i b
    rw [hsome b hr.bool_inv]
    cases hc
    cases b <;> cases want <;> rfl
  · rename_i p b
    cases hc
    generalize hv : a.tmps.getD t undef = v at *
    cases p with
    | true =>
      have := VLe.opt rfl _ _ hr
      rw [hsome b this.bool_inv]
      cases b <;> cases want <;> rfl
    | false =>
      have : v = undef := by cases hr; rfl
      rw [hnone this]; rfl
  · cases hc
    have : a.tmps.getD t undef = undef := by
      generalize a.tmps.getD t undef = v at *
      cases hr with
      | tup vs cs e h2 => have : vs = #[] := by simpa using e
                          subst this; rfl
    rw [hnone this]; rfl
  · cases hc

theorem wantedA_spec {T : Tm} {mu nx w a} (s : St G N mu nx h w a T) {ops : Array Oper} {o : Oper} {b : Bool} (hw : wantedA ops o T = some b) : Region.wanted o (yielded ops a.tmps) = b := by
  unfold wantedA at hw
  unfold Region.wanted
  cases hg : o.guard with
  | none => rw [hg] at hw; simpa using hw
  | some g =>
    obtain ⟨j, want⟩ := g
    rw [hg] at hw
    simp only at hw ⊢
    cases e : (ops[j]?).bind (·.dst) with
    | none => rw [e] at hw; cases hw
    | some t =>
      rw [e] at hw
      exact yielded_of s e hw

/-- A guarded operation: its value if the guard says so. 'Tr': the temporaries, where what the guard opens is open. -/
theorem AOps.g {ops : Array Oper} {o : Oper} {rest : List Oper} {d : Nat} {c : Bool} {x : V} {Tr : Tm} (hw : wantedA ops o T = some c) (hdst : o.dst = some d) (hd : Nat.blt d N = true) (hTr : c = true → TLe T Tr) (hq : c = true → QOp P G h o (ev G Tr) x)
    (k : AOps P G N ops Q rest (put T d (.opt c x)) h) : AOps P G N ops Q (o :: rest) T h := fun mu nx w a s Q' hQ =>
  wpList_step fun K hK => by
    have hwc := wantedA_spec s hw
    cases c with
    | true =>
      rw [if_pos hwc]
      refine ((hq rfl).le (ev_le (hTr rfl))) h (.refl _) mu nx w a s.defers s.rel (fun y _ => s.ev y) K _ fun v y mu' nx' h' w' e0 r hv e => ?_
      obtain ⟨e1, e2⟩ := e0
      subst e1; subst e2
      have st := s.put e r (d := o.dst) (by rw [hdst]; exact dst_spec hd) (.optT _ _ hv)
      rw [hdst] at st ⊢
      exact hK _ _ (k mu' nx' w' _ st Q' fun _ _ _ q => hQ _ _ _ (lift_trans e q))
    | false =>
      rw [if_neg (by simp [hwc])]
      have st := s.put (.refl mu nx h w) s.rel (d := o.dst) (v := undef) (x := .opt false x) (by rw [hdst]; exact dst_spec hd) (.optF _)
      rw [hdst] at st ⊢
      exact hK _ _ (k mu nx w _ st Q' hQ)
def guardTmp (ops : Array Oper) (o : Oper) : Option (Nat × Bool) :=
  match o.guard with
  | none => none
  | some (j, want) => match (ops[j]?).bind (·.dst) with | some t => some (t, want) | none => none
theorem wantedA_tmp {ops : Array Oper} {o : Oper} {t : Nat} {want : Bool} (hg : guardTmp ops o = some (t, want)) : wantedA ops o T = gcond (T t) want := by
  unfold guardTmp at hg
  unfold wantedA
  split at hg
  · cases hg
  · rename_i j want' hgd
    cases e : (ops[j]?).bind (·.dst) with
    | none => rw [e] at hg; cases hg
    | some t' => rw [e] at hg; cases hg; rfl
theorem wanted_t {ops : Array Oper} {o : Oper} {t : Nat} {b : Bool} (hg : guardTmp ops o = some (t, true)) (hT : T t = .bool b) : wantedA ops o T = some b := by
  rw [wantedA_tmp hg, hT]; cases b <;> rfl
theorem wanted_f {ops : Array Oper} {o : Oper} {t : Nat} {b : Bool} (hg : guardTmp ops o = some (t, false)) (hT : T t = .bool b) : wantedA ops o T = some !b := by
  rw [wantedA_tmp hg, hT]; cases b <;> rfl
theorem wanted_to {ops : Array Oper} {o : Oper} {t : Nat} {p b : Bool} (hg : guardTmp ops o = some (t, true)) (hT : T t = .opt p (.bool b)) : wantedA ops o T = some (p && b) := by
  rw [wantedA_tmp hg, hT]; cases b <;> rfl
theorem wanted_fo {ops : Array Oper} {o : Oper} {t : Nat} {p b : Bool} (hg : guardTmp ops o = some (t, false)) (hT : T t = .opt p (.bool b)) : wantedA ops o T = some (p && !b) := by
  rw [wantedA_tmp hg, hT]; cases b <;> rfl
theorem wanted_yes {ops : Array Oper} {o : Oper} {b : Bool} (hw : wantedA ops o T = some b) (hb : b = true) : wantedA ops o T = some true := hb ▸ hw
/-- A guarded operation of any kind whose guard is known to say yes. -/
theorem AOps.gy {ops : Array Oper} {o : Oper} {rest : List Oper} {d : Nat} (hw : wantedA ops o T = some true) (hdst : o.dst = some d) (hd : Nat.blt d N = true)
    (k : AStep P G o (ev G T) h fun x h' => AOps P G N ops Q rest (put T d x) h') : AOps P G N ops Q (o :: rest) T h := fun mu nx w a s Q' hQ =>
  wpList_step fun K hK => by
    rw [if_pos (wantedA_spec s hw)]
    refine k mu nx w a s.defers s.rel (fun y _ => s.ev y) K _ fun v x mu' nx' h' w' kk r hv e => ?_
    have st := s.put e r (d := o.dst) (by rw [hdst]; exact dst_spec hd) hv
    rw [hdst] at st ⊢
    exact hK _ _ (kk mu' nx' w' _ st Q' fun _ _ _ q => hQ _ _ _ (lift_trans e q))
theorem args_rep {E : Env} {ρ : Operand → V} {a : Act} {xs : List Operand} (hr : ∀ y ∈ xs, Rep E (a.eval y) (ρ y)) (j : Nat) : Rep E ((xs.map a.eval).getD j undef) ((xs.map ρ).getD j .junk) := by
  simp only [List.getD_eq_getElem?_getD, List.getElem?_map]
  cases e : xs[j]? with
  | none => exact .junk _
  | some y => exact hr y (List.mem_of_getElem? e)

/-- A call of a named function. -/
theorem AStep.call {o : Oper} {ρ : Operand → V} {f : FuncId} {xs : List Operand} {ts : Array TypeId} {K : V → Hp → Prop} (ho : o.op = .call ⟨.value (.func f), xs.toArray, ts⟩)
    (hf : ∀ args w, (callFunc f args).run P w = .ok (.enter f args) w) (k : ACalls P G f (xs.map ρ) h K) : AStep P G o ρ h K := by
  intro mu nx w a hd r hr K' Q' hK
  have he : (execOp a.eval o).run P w = .ok (.enter f (xs.map a.eval).toArray) w := by
    have : a.eval (.func f) = .func (.func f) #[] #[] := rfl
    simp [execOp, ho, resolve, this, Deferred.ofValue, invoke, hf]
  unfold Oper.wp
  rw [he]
  have hr' : ∀ y ∈ xs, Rep (env mu nx h w) (a.eval y) (ρ y) := fun y hy => hr y (by simp [ho, Op.operands, Call.operands, hy])
  refine (k mu nx w (xs.map a.eval).toArray r (fun j => ?_) (by simp)).mono ?_
  · have := args_rep hr' j
    simpa [Array.getD_eq_getD_getElem?, List.getD_eq_getElem?_getD] using this
  · rintro e w' ⟨v, x, mu', nx', h', rfl, q, r', hv, ex⟩
    exact hK v x mu' nx' h' w' q r' hv ex

/-- A quiet call. -/
theorem QOp.call {o : Oper} {ρ : Operand → V} {f : FuncId} {xs : List Operand} {ts : Array TypeId} {x : V} (ho : o.op = .call ⟨.value (.func f), xs.toArray, ts⟩)
    (hf : ∀ args w, (callFunc f args).run P w = .ok (.enter f args) w) (k : ∀ h', HLe h' h → ACalls P G f (xs.map ρ) h' fun y h'' => y = x ∧ h'' = h') : QOp P G h o ρ x :=
  fun h' hl => .call ho hf (k h' hl)

theorem Rep.getD_args {E : Env} {vs : Array Value} {cs : List V} (e : vs.size = cs.length) (h2 : ∀ j (_ : j < vs.size) (_ : j < cs.length), Rep E vs[j] cs[j]) (j : Nat) : Rep E (vs.getD j undef) (cs.getD j .junk) := by
  by_cases hj : j < cs.length
  · have hj' : j < vs.size := by omega
    have := h2 j hj' hj
    simpa [Array.getD, hj', List.getD_eq_getElem?_getD, hj] using this
  · have : cs.getD j .junk = .junk := by simp [List.getD_eq_getElem?_getD, List.getElem?_eq_none (Nat.le_of_not_lt hj)]
    rw [this]; exact .junk _

theorem rep_append {E : Env} {us vs : Array Value} {bs cs : List V} (e1 : us.size = bs.length) (e2 : vs.size = cs.length) (h1 : ∀ j (_ : j < us.size) (_ : j < bs.length), Rep E us[j] bs[j])
    (h2 : ∀ j (_ : j < vs.size) (_ : j < cs.length), Rep E vs[j] cs[j]) : (us ++ vs).size = (bs ++ cs).length ∧ ∀ j (_ : j < (us ++ vs).size) (_ : j < (bs ++ cs).length), Rep E (us ++ vs)[j] (bs ++ cs)[j] := by
  refine ⟨by simp [e1, e2], fun j hj hj' => ?_⟩
  rw [Array.getElem_append, List.getElem_append]
  by_cases hlt : j < us.size
  · have : j < bs.length := by omega
    simp only [hlt, this, dif_pos]; exact h1 _ _ _
  · have : ¬ j < bs.length := by omega
    simp only [hlt, this, dif_neg, not_false_eq_true]
    have e : j - us.size = j - bs.length := by omega
    have := h2 (j - us.size) (by simp at hj; omega) (by simp at hj'; omega)
    simpa only [e1] using this

/-- A call of a function value. -/
theorem AStep.callv {o : Oper} {ρ : Operand → V} {g : Operand} {f : FuncId} {first captured : List V} {xs : List Operand} {ts : Array TypeId} {K : V → Hp → Prop} (ho : o.op = .call ⟨.value g, xs.toArray, ts⟩) (hg : ρ g = .func (.func f) first captured)
    (hf : ∀ args w, (callFunc f args).run P w = .ok (.enter f args) w) (k : ACalls P G f (first ++ xs.map ρ ++ captured) h K) : AStep P G o ρ h K := by
  intro mu nx w a hd r hr K' Q' hK
  have hrg := hr g (by simp [ho, Op.operands, Call.operands])
  rw [hg] at hrg
  obtain ⟨fs, cs, hga, e1, e2, h1, h2⟩ := hrg.func_inv
  have he : (execOp a.eval o).run P w = .ok (.enter f (fs ++ (xs.map a.eval).toArray ++ cs)) w := by
    simp [execOp, ho, resolve, hga, Deferred.ofValue, invoke, hf]
  unfold Oper.wp
  rw [he]
  have hr' : ∀ y ∈ xs, Rep (env mu nx h w) (a.eval y) (ρ y) := fun y hy => hr y (by simp [ho, Op.operands, Call.operands, hy])
  obtain ⟨z1, z2⟩ := rep_append (E := env mu nx h w) (vs := (xs.map a.eval).toArray) (cs := xs.map ρ) e1 (by simp) h1 (fun j hj hj' => by simpa using hr' _ (List.getElem_mem _))
  obtain ⟨z3, z4⟩ := rep_append z1 e2 z2 h2
  refine (k mu nx w _ r (Rep.getD_args z3 z4) z3).mono ?_
  · rintro e w' ⟨v, x, mu', nx', h', rfl, q, r', hv, ex⟩
    exact hK v x mu' nx' h' w' q r' hv ex

def tmArgs : List V → Tm := fun as => putL T0 0 as
theorem putL_spec : ∀ (vs : List V) (T : Tm) (k i : Nat), putL T k vs i = if k ≤ i ∧ i < k + vs.length then vs.getD (i - k) .junk else T i
  | [], T, k, i => by simp [putL]; omega
  | v :: vs, T, k, i => by
    simp only [putL]
    rw [putL_spec vs (put T k v) (k + 1) i]
    by_cases hi : i = k
    · subst hi
      rw [if_neg (by omega), if_pos (by simp), put_same]
      simp
    · rw [put_ne _ _ hi]
      by_cases hr : k + 1 ≤ i ∧ i < k + 1 + vs.length
      · rw [if_pos hr, if_pos (by simp; omega)]
        obtain ⟨j, rfl⟩ : ∃ j, i = k + 1 + j := ⟨i - (k + 1), by omega⟩
        have e1 : k + 1 + j - (k + 1) = j := by omega
        have e2 : k + 1 + j - k = j + 1 := by omega
        rw [e1, e2]; simp
      · rw [if_neg hr, if_neg (by simp; omega)]

/-- What a function hands back. -/
inductive Res (P : Program) (T : Tm) (h : Hp) : Array ResultVar → V → Prop
  | none : Res P T h #[] (.tup [])
  | one (t : Nat) : Res P T h #[.tmp t] (T t)
  | two (t u : Nat) : Res P T h #[.tmp t, .tmp u] (.tup [T t, T u])
  | three (t u v : Nat) : Res P T h #[.tmp t, .tmp u, .tmp v] (.tup [T t, T u, T v])
  | gen {rs : Array ResultVar} {x : V} (k : ∀ (fn : Func) G N mu nx w a, St G N mu nx h w a T → fn.results = rs → ∃ v, (results fn a.tmps).run P w = .ok v w ∧ Rep (env mu nx h w) v x) : Res P T h rs x

theorem Res.run {mu nx w a} {T : Tm} (s : St G N mu nx h w a T) {rs : Array ResultVar} {x : V} (hr : Res P T h rs x) {fn : Func} (hf : fn.results = rs) :
    ∃ v, (results fn a.tmps).run P w = .ok v w ∧ Rep (env mu nx h w) v x := by
  cases hr with
  | none => exact ⟨.tuple #[], results_none hf _ _ _, .tup _ _ rfl fun j hj => by simp at hj⟩
  | one t => exact ⟨_, results_tmp hf _ _ _, s.tmps t⟩
  | two t u =>
    refine ⟨_, results_tmp2 hf _ _ _, .tup _ _ rfl fun j hj hj' => ?_⟩
    match j with
    | 0 => exact s.tmps t
    | 1 => exact s.tmps u
    | j + 2 => exact absurd hj (by simp)
  | three t u v =>
    refine ⟨.tuple #[a.tmps.getD t undef, a.tmps.getD u undef, a.tmps.getD v undef], by simp [results, hf], .tup _ _ rfl fun j hj hj' => ?_⟩
    match j with
    | 0 => exact s.tmps t
    | 1 => exact s.tmps u
    | 2 => exact s.tmps v
    | j + 3 => exact absurd hj (by simp)
  | gen k => exact k fn G N mu nx w a s hf

/-- The post of a body: what it hands back, perhaps told by less. -/
def retQ (P : Program) (rs : Array ResultVar) (R : V → Hp → Prop) : Post
  | .normal, T, h | .ret, T, h => ∃ x y h', Res P T h rs x ∧ VLe x y ∧ HLe h h' ∧ R y h'
  | _, _, _ => False
theorem retQ.mk {rs : Array ResultVar} {R : V → Hp → Prop} {x : V} (hr : Res P T h rs x) (k : R x h) : retQ P rs R .ret T h := ⟨x, x, h, hr, .refl _, .refl _, k⟩
theorem retQ.mk' {rs : Array ResultVar} {R : V → Hp → Prop} {x y : V} {h' : Hp} (hr : Res P T h rs x) (hv : VLe x y) (hh : HLe h h') (k : R y h') : retQ P rs R .ret T h := ⟨x, y, h', hr, hv, hh, k⟩

theorem ACalls.enter {f : FuncId} {fn : Func} {c : Code} {as : List V} {R : V → Hp → Prop} {rs : Array ResultVar} (hf : P.funcs[f]? = some fn) (hb : fn.body = some c) (hN : fn.ntmps = N) (hrs : fn.results = rs) (hl : Nat.ble as.length N = true)
    (k : AW P G N c (retQ P rs R) (tmArgs as) h) : ACalls P G f as h R := by
  intro mu nx w vs r ha hs
  have hle : as.length ≤ N := Nat.ble_eq.mp hl
  refine calls_of_wp hf hb ?_
  have s0 : St G N mu nx h w { tmps := vs ++ Array.replicate (fn.ntmps - vs.size) undef, defers := [] } (tmArgs as) := by
    refine ⟨r, rfl, by simp [hN]; omega, fun i => ?_⟩
    unfold tmArgs
    rw [putL_spec]
    by_cases hi : 0 ≤ i ∧ i < 0 + as.length
    · rw [if_pos hi]
      have := ha i
      have e : (vs ++ Array.replicate (fn.ntmps - vs.size) undef).getD i undef = vs.getD i undef := by
        simp only [Array.getD_eq_getD_getElem?]
        rw [Array.getElem?_append_left (by omega)]
      rw [e]; simpa using this
    · rw [if_neg hi]; exact .junk _
  refine wp_mono (k mu nx w _ s0) fun e a' w' ⟨mu', nx', h', T', q, s', x⟩ => ?_
  have fin : ∀ x y h'', Res P T' h' rs x → VLe x y → HLe h' h'' → R y h'' →
      a'.defers = [] ∧ ∃ v, (results fn a'.tmps).run P w' = .ok v w' ∧ ∃ v_1 r mu' nx' h', Ending.returned v = Ending.returned v_1 ∧ R r h' ∧ Rel G mu' nx' h' w' ∧ Rep (env mu' nx' h' w') v_1 r ∧ Ext mu nx h w mu' nx' h' w' := by
    intro x1 y h'' hr hv hh hR
    obtain ⟨v, hrun, hrep⟩ := hr.run s' hrs
    exact ⟨s'.defers, v, hrun, v, y, mu', nx', h'', rfl, hR, hh.rel s'.rel, (hv _ _ hrep).mono (hh.env _ _ _), x.trans hh.ext⟩
  cases e with
  | normal => obtain ⟨x1, y, h'', hr, hv, hh, hR⟩ := q; exact fin x1 y h'' hr hv hh hR
  | ret => obtain ⟨x1, y, h'', hr, hv, hh, hR⟩ := q; exact fin x1 y h'' hr hv hh hR
  | _ => exact q.elim

/-- Arguments that say more serve too. -/
theorem ACalls.args {f : FuncId} {as bs : List V} {R : V → Hp → Prop} (hl : as.length = bs.length) (hv : ∀ j, VLe (as.getD j .junk) (bs.getD j .junk)) (k : ACalls P G f bs h R) : ACalls P G f as h R :=
  fun mu nx w vs r ha hs => k mu nx w vs r (fun j => hv j _ _ (ha j)) (hs.trans hl)
/-- A memory that says more serves too; what was forgotten is as it was, if the call keeps to what it is told of. -/
theorem ACalls.weaken {f : FuncId} {as : List V} {R : V → Hp → Prop} {x y : V} {h' : Hp} (k : ACalls P G f as h fun r h1 => r = x ∧ h1 = h') (hv : VLe x y) (hR : R y h') : ACalls P G f as h R :=
  fun mu nx w vs r ha hs => (k mu nx w vs r ha hs).mono fun _ _ ⟨v, z, mu', nx', h1, e1, ⟨e2, e3⟩, e4, e5, e6⟩ => by
    subst e2; subst e3
    exact ⟨v, y, mu', nx', h1, e1, hR, e4, hv _ _ e5, e6⟩

end rules
end Go.AV
/- The abstract walk, second part: operations that compute. -/
namespace Go.AV
section
variable {P : Program} {G : Nat → Option (List V)} {h : Hp} {o : Oper} {ρ : Operand → V}

theorem Rep.iptr_inv {E : Env} {v : Value} {cs : List V} (h : Rep E v (.iptr cs)) :
    ∃ (b off : Nat) (f : Nat → Value), v = .pointer (some ⟨b, off, none⟩) ∧ (∀ j, j < cs.length → E.imm b (off + j) (f j)) ∧ ∀ j (hj : j < cs.length), Rep E (f j) cs[j] := by
  cases h with | iptr b off cs f h1 h2 => exact ⟨b, off, f, rfl, h1, h2⟩
theorem Rep.agg_inv {E : Env} {v : Value} {cs : List V} (h : Rep E v (.agg cs)) :
    ∃ vs, v = .agg vs ∧ vs.size = cs.length ∧ (∀ j (h : j < vs.size), vs[j].oneCell' = true) ∧ ∀ j (_ : j < vs.size) (_ : j < cs.length), Rep E vs[j] cs[j] := by
  cases h with | agg vs cs e h1 h2 => exact ⟨vs, rfl, e, h1, h2⟩
theorem Rep.ptr_inv {E : Env} {v : Value} {id off : Nat} (h : Rep E v (.ptr id off)) : id < E.nx ∧ v = .pointer (some ⟨E.mu id, off, none⟩) := by
  cases h with | ptr id off h => exact ⟨h, rfl⟩
theorem Rep.sl_inv {E : Env} {v : Value} {k : SK} {n len : Nat} {cs : List V} (h : Rep E v (.sl k n len cs)) :
    (v = .slice none 0 0 ∧ cs = [] ∧ len = 0 ∧ (k = .imm ∨ k = .full)) ∨ ∃ (b off cap : Nat) (f : Nat → Value), v = .slice (some ⟨b, off, none⟩) len cap ∧ cs.length = len * n ∧ len ≤ cap ∧ k.ok E b off n len cap ∧
      (∀ j, j < cs.length → E.imm b (off + j) (f j)) ∧ ∀ j (hj : j < cs.length), Rep E (f j) cs[j] := by
  cases h with
  | slnil n => exact .inl ⟨rfl, rfl, rfl, .inl rfl⟩
  | slnilf n => exact .inl ⟨rfl, rfl, rfl, .inr rfl⟩
  | sl k b off n len cap cs f hl hc hk h1 h2 => exact .inr ⟨b, off, cap, f, rfl, hl, hc, hk, h1, h2⟩
theorem Rep.msl_inv {E : Env} {v : Value} {id off len : Nat} (h : Rep E v (.msl id off len)) : id < E.nx ∧ ∃ cap, len ≤ cap ∧ v = .slice (some ⟨E.mu id, off, none⟩) len cap := by
  cases h with | msl id off len cap h hc hk h63 => exact ⟨h, cap, hc, rfl⟩
theorem Rep.bsl_inv {E : Env} {v : Value} {n id len : Nat} (h : Rep E v (.bsl n id len)) : id < E.nx ∧ ∃ cap, len ≤ cap ∧ v = .slice (some ⟨E.mu id, 0, none⟩) len cap ∧ E.cap (E.mu id) (cap * n) ∧ cap ≤ 9223372036854775807 := by
  cases h with | bsl n id len cap h hc hk h63 => exact ⟨h, cap, hc, rfl, hk, h63⟩
theorem Rep.iface_inv {E : Env} {v : Value} {t : TypeId} {x : V} (h : Rep E v (.iface t x)) : ∃ u, v = .iface t u ∧ Rep E u x := by
  cases h with | iface t u x h => exact ⟨u, rfl, h⟩
theorem Rep.inil_inv {E : Env} {v : Value} (h : Rep E v .inil) : v = .nilIface := by cases h; rfl
theorem Rep.snil_inv {E : Env} {v : Value} (h : Rep E v .snil) : v = .slice none 0 0 := by cases h; rfl
theorem Rep.pnil_inv {E : Env} {v : Value} (h : Rep E v .pnil) : v = .pointer none := by cases h; rfl
theorem Rep.tup_inv {E : Env} {v : Value} {cs : List V} (h : Rep E v (.tup cs)) :
    ∃ vs, v = .tuple vs ∧ vs.size = cs.length ∧ ∀ j (_ : j < vs.size) (_ : j < cs.length), Rep E vs[j] cs[j] := by
  cases h with | tup vs cs e h2 => exact ⟨vs, rfl, e, h2⟩
theorem q_move {x : Operand} (ho : o.op = .move x) : QOp P G h o ρ (ρ x) :=
  .of_run fun _ _ _ _ _ a _ hr => ⟨a.eval x, by simp [execOp, ho], hr x (by simp [ho, Op.operands])⟩
/-- The same, the value spelt as it is wanted. -/
theorem q_mv {x : Operand} {v : V} (ho : o.op = .move x) (hv : ρ x = v) : QOp P G h o ρ v := hv ▸ q_move ho
theorem q_as {x : Operand} {v : V} (ho : o.op = .assign x) (hv : ρ x = v) : QOp P G h o ρ v :=
  .of_run fun _ _ _ _ _ a _ hr => ⟨a.eval x, by simp [execOp, ho], hv ▸ hr x (by simp [ho, Op.operands])⟩
theorem q_pick {c x y : Operand} (ho : o.op = .pick c x y) {b : Bool} (hc : ρ c = .bool b) : QOp P G h o ρ (bif b then ρ x else ρ y) :=
  .of_run fun _ _ _ _ _ a _ hr => by
    have h1 := hr c (by simp [ho, Op.operands])
    rw [hc] at h1
    have e := h1.bool_inv
    refine ⟨if b then a.eval x else a.eval y, by simp [execOp, ho, e, asBool], ?_⟩
    cases b
    · exact hr y (by simp [ho, Op.operands])
    · exact hr x (by simp [ho, Op.operands])
/-- The two arms, each where its guard has let it be. -/
theorem q_pickg {c x y : Operand} (ho : o.op = .pick c x y) {b u v : Bool} (hc : ρ c = .bool b) (hx : b = true → VLe (ρ x) (.bool u)) (hy : b = false → VLe (ρ y) (.bool v)) :
    QOp P G h o ρ (.bool (bif b then u else v)) := by
  intro h' hl
  have := q_pick (P := P) (G := G) (h := h) ho hc h' hl
  intro mu nx w a hd r hr K Q' hK
  refine this mu nx w a hd r hr K Q' fun z zz mu' nx' h2 w' e0 r' hv e => ?_
  obtain ⟨e1, e2⟩ := e0
  subst e1
  refine hK z (.bool (bif b then u else v)) mu' nx' h2 w' ⟨rfl, e2⟩ r' ?_ e
  cases b
  · exact hy rfl _ _ hv
  · exact hx rfl _ _ hv
theorem q_pick_int {c x y : Operand} (ho : o.op = .pick c x y) {b : Bool} {k : IntKind} {u v : Int} (hc : ρ c = .bool b) (hx : ρ x = .int k u) (hy : ρ y = .int k v) :
    QOp P G h o ρ (.int k (bif b then u else v)) := by
  have := q_pick (P := P) (G := G) (h := h) ho hc
  rw [hx, hy] at this
  cases b <;> exact this

theorem q_int2 {op : BinOp} {t t2 : TypeId} {x y : Operand} (ho : o.op = .binOp op t x y t2) {k : IntKind} {m n : Int} (hx : ρ x = .int k m) (hy : ρ y = .int k n) {v : Value} {z : V}
    (hrun : ∀ w, (binOp op t (.int k m) (.int k n)).run P w = .ok v w) (hz : ∀ E, Rep E v z) : QOp P G h o ρ z :=
  .of_run fun _ _ _ _ w a _ hr => by
    have h1 := hr x (by simp [ho, Op.operands]); rw [hx] at h1
    have h2 := hr y (by simp [ho, Op.operands]); rw [hy] at h2
    refine ⟨v, ?_, hz _⟩
    have hg : (eqGuard op t x y (.int k m) (.int k n)).run P w = .ok () w := by unfold eqGuard; split <;> rfl
    simp [execOp, ho, h1.int_inv, h2.int_inv, hg, hrun]
theorem q_add {t t2 : TypeId} {x y : Operand} (ho : o.op = .binOp .add t x y t2) {k : IntKind} {m n : Int} (hx : ρ x = .int k m) (hy : ρ y = .int k n) : QOp P G h o ρ (.int k (k.wrap (m + n))) :=
  q_int2 ho hx hy (fun w => by simp [binOp, Op.intArith]) fun _ => .int _ _
theorem q_sub {t t2 : TypeId} {x y : Operand} (ho : o.op = .binOp .sub t x y t2) {k : IntKind} {m n : Int} (hx : ρ x = .int k m) (hy : ρ y = .int k n) : QOp P G h o ρ (.int k (k.wrap (m - n))) :=
  q_int2 ho hx hy (fun w => by simp [binOp, Op.intArith]) fun _ => .int _ _
theorem q_mul {t t2 : TypeId} {x y : Operand} (ho : o.op = .binOp .mul t x y t2) {k : IntKind} {m n : Int} (hx : ρ x = .int k m) (hy : ρ y = .int k n) : QOp P G h o ρ (.int k (k.wrap (m * n))) :=
  q_int2 ho hx hy (fun w => by simp [binOp, Op.intArith]) fun _ => .int _ _
theorem q_add' {t t2 : TypeId} {x y : Operand} (ho : o.op = .binOp .add t x y t2) {m n : Int} (hx : ρ x = .int .i64 m) (hy : ρ y = .int .i64 n)
    (hb : -9223372036854775808 ≤ m + n ∧ m + n ≤ 9223372036854775807) : QOp P G h o ρ (.int .i64 (m + n)) := by
  have := q_add (P := P) (G := G) (h := h) ho hx hy
  rwa [IntWalk.i64_in _ hb] at this
theorem q_sub' {t t2 : TypeId} {x y : Operand} (ho : o.op = .binOp .sub t x y t2) {m n : Int} (hx : ρ x = .int .i64 m) (hy : ρ y = .int .i64 n)
    (hb : -9223372036854775808 ≤ m - n ∧ m - n ≤ 9223372036854775807) : QOp P G h o ρ (.int .i64 (m - n)) := by
  have := q_sub (P := P) (G := G) (h := h) ho hx hy
  rwa [IntWalk.i64_in _ hb] at this
theorem q_mul' {t t2 : TypeId} {x y : Operand} (ho : o.op = .binOp .mul t x y t2) {m n : Int} (hx : ρ x = .int .i64 m) (hy : ρ y = .int .i64 n)
    (hb : -9223372036854775808 ≤ m * n ∧ m * n ≤ 9223372036854775807) : QOp P G h o ρ (.int .i64 (m * n)) := by
  have := q_mul (P := P) (G := G) (h := h) ho hx hy
  rwa [IntWalk.i64_in _ hb] at this
theorem q_quo {t t2 : TypeId} {x y : Operand} (ho : o.op = .binOp .quo t x y t2) {k : IntKind} {m n : Int} (hx : ρ x = .int k m) (hy : ρ y = .int k n) (hn : n ≠ 0) : QOp P G h o ρ (.int k (k.wrap (m.tdiv n))) :=
  q_int2 ho hx hy (fun w => by simp [binOp, Op.intDiv, hn]) fun _ => .int _ _
theorem q_rem {t t2 : TypeId} {x y : Operand} (ho : o.op = .binOp .rem t x y t2) {k : IntKind} {m n : Int} (hx : ρ x = .int k m) (hy : ρ y = .int k n) (hn : n ≠ 0) : QOp P G h o ρ (.int k (m.tmod n)) :=
  q_int2 ho hx hy (fun w => by simp [binOp, Op.intDiv, hn]) fun _ => .int _ _
def bitop (op : BinOp) (k : IntKind) (x y : Int) : Int :=
  match op with
  | .and => k.wrap (BitVec.ofInt k.bits x &&& BitVec.ofInt k.bits y).toNat
  | .or => k.wrap (BitVec.ofInt k.bits x ||| BitVec.ofInt k.bits y).toNat
  | .xor => k.wrap (BitVec.ofInt k.bits x ^^^ BitVec.ofInt k.bits y).toNat
  | .andNot => k.wrap (BitVec.ofInt k.bits x &&& ~~~ BitVec.ofInt k.bits y).toNat
  | _ => 0
def BinOp.isBit : BinOp → Bool | .and | .or | .xor | .andNot => true | _ => false
theorem q_bit {op : BinOp} {t t2 : TypeId} {x y : Operand} (ho : o.op = .binOp op t x y t2) (hb : BinOp.isBit op = true) {k : IntKind} {m n : Int} (hx : ρ x = .int k m) (hy : ρ y = .int k n) :
    QOp P G h o ρ (.int k (bitop op k m n)) :=
  q_int2 ho hx hy (v := .int k (bitop op k m n)) (fun w => by cases op <;> simp [BinOp.isBit] at hb <;> simp [binOp, Op.intBits, bitop]) fun _ => .int _ _
theorem q_eq {t t2 : TypeId} {x y : Operand} (ho : o.op = .binOp .eql t x y t2) {k : IntKind} {m n : Int} (hx : ρ x = .int k m) (hy : ρ y = .int k n) : QOp P G h o ρ (.bool (m == n)) :=
  q_int2 ho hx hy (fun w => by simp [binOp, Op.intCmp]) fun _ => .bool _
theorem q_ne {t t2 : TypeId} {x y : Operand} (ho : o.op = .binOp .neq t x y t2) {k : IntKind} {m n : Int} (hx : ρ x = .int k m) (hy : ρ y = .int k n) : QOp P G h o ρ (.bool (m != n)) :=
  q_int2 ho hx hy (fun w => by simp [binOp, Op.intCmp]) fun _ => .bool _
theorem q_lt {t t2 : TypeId} {x y : Operand} (ho : o.op = .binOp .lss t x y t2) {k : IntKind} {m n : Int} (hx : ρ x = .int k m) (hy : ρ y = .int k n) : QOp P G h o ρ (.bool (decide (m < n))) :=
  q_int2 ho hx hy (fun w => by simp [binOp, Op.intCmp]) fun _ => .bool _
theorem q_le {t t2 : TypeId} {x y : Operand} (ho : o.op = .binOp .leq t x y t2) {k : IntKind} {m n : Int} (hx : ρ x = .int k m) (hy : ρ y = .int k n) : QOp P G h o ρ (.bool (decide (m ≤ n))) :=
  q_int2 ho hx hy (fun w => by simp [binOp, Op.intCmp]) fun _ => .bool _
theorem q_gt {t t2 : TypeId} {x y : Operand} (ho : o.op = .binOp .gtr t x y t2) {k : IntKind} {m n : Int} (hx : ρ x = .int k m) (hy : ρ y = .int k n) : QOp P G h o ρ (.bool (decide (n < m))) :=
  q_int2 ho hx hy (fun w => by simp [binOp, Op.intCmp]) fun _ => .bool _
theorem q_ge {t t2 : TypeId} {x y : Operand} (ho : o.op = .binOp .geq t x y t2) {k : IntKind} {m n : Int} (hx : ρ x = .int k m) (hy : ρ y = .int k n) : QOp P G h o ρ (.bool (decide (n ≤ m))) :=
  q_int2 ho hx hy (fun w => by simp [binOp, Op.intCmp]) fun _ => .bool _
/-- Shifts: the two kinds may differ. -/
theorem q_shl {t t2 : TypeId} {x y : Operand} (ho : o.op = .binOp .shl t x y t2) {k k2 : IntKind} {m n : Int} (hx : ρ x = .int k m) (hy : ρ y = .int k2 n) (hn : 0 ≤ n) :
    QOp P G h o ρ (.int k (k.wrap (m * 2 ^ (min n.toNat k.bits)))) :=
  .of_run fun _ _ _ _ w a _ hr => by
    have h1 := hr x (by simp [ho, Op.operands]); rw [hx] at h1
    have h2 := hr y (by simp [ho, Op.operands]); rw [hy] at h2
    have hn' : ¬ n < 0 := by omega
    exact ⟨.int k (k.wrap (m * 2 ^ (min n.toNat k.bits))), by simp [execOp, ho, h1.int_inv, h2.int_inv, eqGuard, binOp, Op.shift, hn'], .int _ _⟩
theorem q_not {t : TypeId} {x : Operand} (ho : o.op = .unOp .not t x) {b : Bool} (hx : ρ x = .bool b) : QOp P G h o ρ (.bool !b) :=
  .of_run fun _ _ _ _ w a _ hr => by
    have h1 := hr x (by simp [ho, Op.operands]); rw [hx] at h1
    exact ⟨.bool !b, by simp [execOp, ho, h1.bool_inv, Op.unary], .bool _⟩
theorem q_conv {s t : TypeId} {x : Operand} (ho : o.op = .convert s t x) {d : TypeDesc} (hs : P.underlying s = some d) {k k2 : IntKind} (ht : P.underlying t = some (.int k)) {n : Int} (hx : ρ x = .int k2 n) :
    QOp P G h o ρ (.int k (k.wrap n)) :=
  .of_run fun _ _ _ _ w a _ hr => by
    have h1 := hr x (by simp [ho, Op.operands]); rw [hx] at h1
    exact ⟨.int k (k.wrap n), by simp [execOp, ho, h1.int_inv, convert, run_underlying hs, run_underlying ht, Conv.intToInt], .int _ _⟩
def notIface : TypeDesc → Bool
  | .interface _ => false
  | _ => true
def V.pointy : V → Bool
  | .ptr .. | .iptr _ | .iface .. => true
  | .func (.func _) .. => true
  | _ => false
theorem q_iface {t : TypeId} {x : Operand} (ho : o.op = .makeInterface t x) {d : TypeDesc} (ht : P.underlying t = some d) (hd : notIface d = true) : QOp P G h o ρ (.iface t (ρ x)) :=
  .of_run fun _ _ _ _ w a _ hr => by
    have h1 := hr x (by simp [ho, Op.operands])
    refine ⟨.iface t (a.eval x), ?_, .iface _ _ _ h1⟩
    simp only [execOp, ho, Instr.makeInterface, Sem.run_bind, run_underlying ht, Result.andThen_ok]
    cases d <;> first | rfl | cases hd
theorem q_extract {x : Operand} {i : Nat} (ho : o.op = .extract x i) {cs : List V} (hx : ρ x = .tup cs) {v : V} (hv : cs[i]? = some v) : QOp P G h o ρ v :=
  .of_run fun _ _ _ _ w a _ hr => by
    have h1 := hr x (by simp [ho, Op.operands]); rw [hx] at h1
    obtain ⟨vs, e, hs, h2⟩ := h1.tup_inv
    obtain ⟨hi, rfl⟩ := List.getElem?_eq_some_iff.1 hv
    exact ⟨vs[i]'(by omega), by simp [execOp, ho, e, Instr.extract, hs, hi], h2 i (by omega) hi⟩
theorem q_nilCheck {x : Operand} (ho : o.op = .nilCheck x) (hx : (ρ x).pointy = true) : QOp P G h o ρ (ρ x) :=
  .of_run fun _ _ _ _ w a _ hr => by
    have h1 := hr x (by simp [ho, Op.operands])
    refine ⟨a.eval x, ?_, h1⟩
    generalize ρ x = z at *
    cases z <;> first | (cases hx; done) | skip
    case ptr id off => simp [execOp, ho, (h1.ptr_inv).2]
    case iptr cs => obtain ⟨b, off, f, e, _⟩ := h1.iptr_inv; simp [execOp, ho, e]
    case iface t v => obtain ⟨u, e, _⟩ := h1.iface_inv; simp [execOp, ho, e]
    case func fn as bs =>
      obtain ⟨fs, cs, e, _⟩ := h1.func_inv
      cases fn <;> first | (simp [execOp, ho, e]; done) | (cases hx; done)

theorem run_eq2 {t : TypeId} {x y : Operand} {u v : Value} {b : Bool} {c : Bool} (hg : ∀ w, (eqGuard .eql t x y u v).run P w = .ok () w) (hq : ∀ w, (Op.equalIn 10000 t u v).run P w = .ok b w)
    (hb : binOp .eql t u v = (do pure (.bool (← Op.equal t u v)))) (hc : c = b) (w : World) :
    (do pure (Next.value (← (do eqGuard .eql t x y u v; binOp .eql t u v))) : Sem Next).run P w = .ok (.value (.bool c)) w := by
  have hq' : (Op.equal t u v).run P w = .ok b w := hq w
  subst hc
  rw [hb]
  simp only [Sem.run_bind, hg, Result.andThen_ok, hq', Sem.run_pure]
theorem run_neq2 {t : TypeId} {x y : Operand} {u v : Value} {b : Bool} {c : Bool} (hg : ∀ w, (eqGuard .neq t x y u v).run P w = .ok () w) (hq : ∀ w, (Op.equalIn 10000 t u v).run P w = .ok b w)
    (hb : binOp .neq t u v = (do pure (.bool (!(← Op.equal t u v))))) (hc : c = !b) (w : World) :
    (do pure (Next.value (← (do eqGuard .neq t x y u v; binOp .neq t u v))) : Sem Next).run P w = .ok (.value (.bool c)) w := by
  have hq' : (Op.equal t u v).run P w = .ok b w := hq w
  subst hc
  rw [hb]
  simp only [Sem.run_bind, hg, Result.andThen_ok, hq', Sem.run_pure]
theorem q_eqb {t t2 : TypeId} (ht : P.underlying t = some .bool) {x y : Operand} (ho : o.op = .binOp .eql t x y t2) {m n : Bool} (hx : ρ x = .bool m) (hy : ρ y = .bool n) : QOp P G h o ρ (.bool (m == n)) :=
  .of_run fun _ _ _ _ w a _ hr => by
    have h1 := hr x (by simp [ho, Op.operands]); rw [hx] at h1
    have h2 := hr y (by simp [ho, Op.operands]); rw [hy] at h2
    refine ⟨.bool (m == n), ?_, .bool _⟩
    simp only [execOp, ho, h1.bool_inv, h2.bool_inv]
    exact run_eq2 (fun _ => rfl) (fun w => run_equalIn_bool' w 9999 t m n ht) rfl rfl w
theorem q_neb {t t2 : TypeId} (ht : P.underlying t = some .bool) {x y : Operand} (ho : o.op = .binOp .neq t x y t2) {m n : Bool} (hx : ρ x = .bool m) (hy : ρ y = .bool n) : QOp P G h o ρ (.bool (m != n)) :=
  .of_run fun _ _ _ _ w a _ hr => by
    have h1 := hr x (by simp [ho, Op.operands]); rw [hx] at h1
    have h2 := hr y (by simp [ho, Op.operands]); rw [hy] at h2
    refine ⟨.bool (m != n), ?_, .bool _⟩
    simp only [execOp, ho, h1.bool_inv, h2.bool_inv]
    exact run_neq2 (fun _ => rfl) (fun w => run_equalIn_bool' w 9999 t m n ht) rfl rfl w

def V.nil? : V → Option Bool
  | .inil => some true
  | .iface .. => some false
  | .pnil => some true
  | .ptr .. => some false
  | .iptr _ => some false
  | .snil => some true
  | _ => none

def nilFits : TypeDesc → Value → V → Bool
  | .interface _, .nilIface, .inil => true
  | .interface _, .nilIface, .iface .. => true
  | .pointer _, .pointer none, .pnil => true
  | .pointer _, .pointer none, .ptr .. => true
  | .pointer _, .pointer none, .iptr _ => true
  | .slice _, .slice none 0 0, .snil => true
  | _, _, _ => false

/-- A value against the literal nil: an error, a pointer, a slice. -/
theorem run_eq_nil {E : Env} {t : TypeId} {d : TypeDesc} (ht : P.underlying t = some d) {z : V} {v c : Value} (hv : Rep E v z) {b : Bool} (hz : z.nil? = some b) (hc : nilFits d c z = true) :
    (∀ n w, (Op.equalIn (n + 1) t v c).run P w = .ok b w) ∧ (binOp .eql t v c = (do pure (.bool (← Op.equal t v c)))) ∧ (binOp .neq t v c = (do pure (.bool (!(← Op.equal t v c))))) ∧
    (∀ x w, (eqGuard .eql t x (.const c) v c).run P w = .ok () w) ∧ (∀ x w, (eqGuard .neq t x (.const c) v c).run P w = .ok () w) := by
  have hu : ∀ w, (underlying t).run P w = .ok d w := fun w => run_underlying ht w
  unfold nilFits at hc
  split at hc
  · cases hz; rw [hv.inil_inv]
    exact ⟨fun n w => by simp only [Op.equalIn, Sem.run_bind, hu, Result.andThen_ok]; rfl, rfl, rfl, fun x w => by simp [eqGuard], fun x w => by simp [eqGuard]⟩
  · cases hz; obtain ⟨u, e, _⟩ := hv.iface_inv; rw [e]
    exact ⟨fun n w => by simp only [Op.equalIn, Sem.run_bind, hu, Result.andThen_ok]; rfl, rfl, rfl, fun x w => rfl, fun x w => rfl⟩
  · cases hz; rw [hv.pnil_inv]
    exact ⟨fun n w => by simp only [Op.equalIn, Sem.run_bind, hu, Result.andThen_ok]; rfl, rfl, rfl, fun x w => rfl, fun x w => rfl⟩
  · cases hz; rw [hv.ptr_inv.2]
    exact ⟨fun n w => by simp only [Op.equalIn, Sem.run_bind, hu, Result.andThen_ok]; rfl, rfl, rfl, fun x w => rfl, fun x w => rfl⟩
  · cases hz; obtain ⟨b, off, f, e, _⟩ := hv.iptr_inv; rw [e]
    exact ⟨fun n w => by simp only [Op.equalIn, Sem.run_bind, hu, Result.andThen_ok]; rfl, rfl, rfl, fun x w => rfl, fun x w => rfl⟩
  · cases hz; rw [hv.snil_inv]
    exact ⟨fun n w => by simp only [Op.equalIn, Sem.run_bind, hu, Result.andThen_ok]; rfl, rfl, rfl, fun x w => rfl, fun x w => rfl⟩
  · simp at hc

theorem q_eqnil {t t2 : TypeId} {d : TypeDesc} (ht : P.underlying t = some d) {x : Operand} {c : Value} (ho : o.op = .binOp .eql t x (.const c) t2) {b : Bool} (hx : (ρ x).nil? = some b) (hc : nilFits d c (ρ x) = true) :
    QOp P G h o ρ (.bool b) :=
  .of_run fun _ _ _ _ w a _ hr => by
    have h1 := hr x (by simp [ho, Op.operands])
    obtain ⟨q1, q2, q3, q4, q5⟩ := run_eq_nil (P := P) ht h1 hx hc
    refine ⟨.bool b, ?_, .bool _⟩
    simp only [execOp, ho]
    exact run_eq2 (q4 x) (q1 9999) q2 rfl w
theorem q_nenil {t t2 : TypeId} {d : TypeDesc} (ht : P.underlying t = some d) {x : Operand} {c : Value} (ho : o.op = .binOp .neq t x (.const c) t2) {b : Bool} (hx : (ρ x).nil? = some b) (hc : nilFits d c (ρ x) = true) :
    QOp P G h o ρ (.bool !b) :=
  .of_run fun _ _ _ _ w a _ hr => by
    have h1 := hr x (by simp [ho, Op.operands])
    obtain ⟨q1, q2, q3, q4, q5⟩ := run_eq_nil (P := P) ht h1 hx hc
    refine ⟨.bool !b, ?_, .bool _⟩
    simp only [execOp, ho]
    exact run_neq2 (q5 x) (q1 9999) q3 rfl w

end
end Go.AV
/- The abstract walk, third part: operations that read memory, and parts of values. -/
namespace Go.AV
section
variable {P : Program} {G : Nat → Option (List V)} {h : Hp} {o : Oper} {ρ : Operand → V}

theorem add_mk (b off j : Nat) : (⟨b, off, none⟩ : Addr).add j = ⟨b, off + j, none⟩ := by
  unfold Addr.add
  split
  · subst_vars; rfl
  · rfl

theorem run_load1 {w : World} {b off : Nat} {t : TypeId} {v : Value} (ha : ∀ w, (isAgg t).run P w = .ok false w) (hc : w.cell? ⟨b, off, none⟩ = some v) :
    (Instr.loadAt t (.pointer (some ⟨b, off, none⟩))).run P w = .ok v w := by
  simp [Instr.loadAt, Instr.sureAddr, loadVar, ha, hc]
theorem run_loadN {w : World} {b off n : Nat} {t : TypeId} {f : Nat → Value} (ha : ∀ w, (isAgg t).run P w = .ok true w) (hs : ∀ w, (sizeOf t).run P w = .ok n w) (hc : ∀ j, j < n → w.cell? ⟨b, off + j, none⟩ = some (f j)) :
    (Instr.loadAt t (.pointer (some ⟨b, off, none⟩))).run P w = .ok (.agg ((List.range n).map f).toArray) w := by
  have := run_loadCells (P := P) w ⟨b, off, none⟩ n f (fun j hj => by rw [add_mk]; exact hc j hj)
  simp [Instr.loadAt, Instr.sureAddr, loadVar, ha, hs, this]

theorem rep_agg_range {E : Env} {n : Nat} {f : Nat → Value} {ds : List V} (hl : ds.length = n) (h1 : ∀ j, j < n → (f j).oneCell' = true) (h2 : ∀ j (_ : j < n) (hj : j < ds.length), Rep E (f j) ds[j]) :
    Rep E (.agg ((List.range n).map f).toArray) (.agg ds) := by
  refine .agg _ _ (by simp [hl]) (fun j hj => ?_) (fun j hj hj' => ?_)
  · simp at hj ⊢; exact h1 j hj
  · simp at hj ⊢; exact h2 j hj hj'

theorem q_load_i1 {t : TypeId} {x : Operand} (ho : o.op = .load t x) (ha : ∀ w, (isAgg t).run P w = .ok false w) {cs : List V} (hx : ρ x = .iptr cs) {v : V} (hv : cs[0]? = some v) : QOp P G h o ρ v :=
  .of_run fun _ _ _ _ w a _ hr => by
    have h1 := hr x (by simp [ho, Op.operands]); rw [hx] at h1
    obtain ⟨b, off, f, e, hi, h2⟩ := h1.iptr_inv
    obtain ⟨hlt, rfl⟩ := List.getElem?_eq_some_iff.1 hv
    obtain ⟨_, hc, _⟩ := hi 0 hlt
    rw [Nat.add_zero] at hc
    exact ⟨f 0, by simp only [execOp, ho, e, Sem.run_bind, run_load1 (P := P) ha hc, Result.andThen_ok]; rfl, h2 0 hlt⟩
theorem q_load_iN {t : TypeId} {x : Operand} (ho : o.op = .load t x) (ha : ∀ w, (isAgg t).run P w = .ok true w) {n : Nat} (hs : ∀ w, (sizeOf t).run P w = .ok n w) {cs : List V} (hx : ρ x = .iptr cs)
    {ds : List V} (hl : ds.length = n) (hd : cs.take n = ds) : QOp P G h o ρ (.agg ds) :=
  .of_run fun _ _ _ _ w a _ hr => by
    have h1 := hr x (by simp [ho, Op.operands]); rw [hx] at h1
    obtain ⟨b, off, f, e, hi, h2⟩ := h1.iptr_inv
    have hn : n ≤ cs.length := by rw [← hd] at hl; simp at hl; omega
    refine ⟨.agg ((List.range n).map f).toArray, ?_, rep_agg_range hl (fun j hj => (hi j (by omega)).2.2) fun j hj hj' => ?_⟩
    · simp only [execOp, ho, e, Sem.run_bind, run_loadN (P := P) ha hs (fun j hj => (hi j (by omega)).2.1), Result.andThen_ok]; rfl
    · have := h2 j (by omega)
      subst hd; simpa using this
theorem q_load_b1 {t : TypeId} {x : Operand} (ho : o.op = .load t x) (ha : ∀ w, (isAgg t).run P w = .ok false w) {id off : Nat} (hx : ρ x = .ptr id off) {cs : List V} (hb : h.box id = some cs) {v : V} (hv : cs[off]? = some v) : QOp P G h o ρ v :=
  .of_run fun _ hle mu _ w a r hr => by
    have h1 := hr x (by simp [ho, Op.operands]); rw [hx] at h1
    obtain ⟨hlt, rfl⟩ := List.getElem?_eq_some_iff.1 hv
    obtain ⟨_, vs, el, hh, hsz, hone, hrep⟩ := r.box id cs (hle.box id cs hb)
    have hc : w.cell? ⟨mu id, off, none⟩ = some (vs[off]'(by omega)) := by
      rw [cell_of_row w _ off vs el (0, 0) hh]; simp [hsz, hlt]
    exact ⟨vs[off]'(by omega), by simp only [execOp, ho, show a.eval x = .pointer (some ⟨mu id, off, none⟩) from (h1.ptr_inv).2, Sem.run_bind, run_load1 (P := P) ha hc, Result.andThen_ok]; rfl, hrep off (by omega) hlt⟩
theorem q_load_bN {t : TypeId} {x : Operand} (ho : o.op = .load t x) (ha : ∀ w, (isAgg t).run P w = .ok true w) {n : Nat} (hs : ∀ w, (sizeOf t).run P w = .ok n w) (hn0 : 0 < n) {id off : Nat} (hx : ρ x = .ptr id off)
    {cs : List V} (hb : h.box id = some cs) {ds : List V} (hl : ds.length = n) (hd : (cs.drop off).take n = ds) : QOp P G h o ρ (.agg ds) :=
  .of_run fun _ hle mu _ w a r hr => by
    have h1 := hr x (by simp [ho, Op.operands]); rw [hx] at h1
    obtain ⟨_, vs, el, hh, hsz, hone, hrep⟩ := r.box id cs (hle.box id cs hb)
    have hn : off + n ≤ cs.length := by rw [← hd] at hl; simp at hl; omega
    let f : Nat → Value := fun j => vs.getD (off + j) undef
    have hf : ∀ j (_ : j < n), f j = vs[off + j]'(by omega) := fun j hj => by
      have : off + j < vs.size := by omega
      simp [f, Array.getD, this]
    have hc : ∀ j, j < n → w.cell? ⟨mu id, off + j, none⟩ = some (f j) := fun j hj => by
      rw [cell_of_row w _ (off + j) vs el (0, 0) hh, hf j hj]; simp
    refine ⟨.agg ((List.range n).map f).toArray, ?_, rep_agg_range hl (fun j hj => by rw [hf j hj]; exact hone _ _) fun j hj hj' => ?_⟩
    · simp only [execOp, ho, show a.eval x = .pointer (some ⟨mu id, off, none⟩) from (h1.ptr_inv).2, Sem.run_bind, run_loadN (P := P) ha hs hc, Result.andThen_ok]; rfl
    · have := hrep (off + j) (by omega) (by omega)
      rw [hf j hj]
      subst hd; simpa using this

theorem run_fieldAt {w : World} {s : TypeId} {fs : Array Field} (hu : P.underlying s = some (.struct fs)) {i : Nat} {fld : Field} (hf : fs[i]? = some fld) {m : Nat} (hs : ∀ w, (sizeOf fld.type).run P w = .ok m w) (hm : m ≠ 0) (b off : Nat) :
    (Instr.fieldAt s (.pointer (some ⟨b, off, none⟩)) i).run P w = .ok (.pointer (some ⟨b, off + fld.offset, none⟩)) w := by
  simp [Instr.fieldAt, run_underlying hu, hf, Instr.sureAddr, fieldPlace, hs, hm, add_mk]
theorem q_fa_i {s : TypeId} {x : Operand} {i : Nat} (ho : o.op = .fieldAddr s x i) {fs : Array Field} (hu : P.underlying s = some (.struct fs)) {fld : Field} (hf : fs[i]? = some fld) {m : Nat} (hs : ∀ w, (sizeOf fld.type).run P w = .ok m w) (hm : m ≠ 0)
    {cs : List V} (hx : ρ x = .iptr cs) {ds : List V} (hd : cs.drop fld.offset = ds) : QOp P G h o ρ (.iptr ds) :=
  .of_run fun _ _ _ _ w a _ hr => by
    have h1 := hr x (by simp [ho, Op.operands]); rw [hx] at h1
    obtain ⟨b, off, f, e, hi, h2⟩ := h1.iptr_inv
    refine ⟨.pointer (some ⟨b, off + fld.offset, none⟩), ?_, .iptr b _ _ (fun j => f (fld.offset + j)) (fun j hj => ?_) (fun j hj => ?_)⟩
    · simp only [execOp, ho, e, Sem.run_bind, run_fieldAt (P := P) hu hf hs hm, Result.andThen_ok]; rfl
    · subst hd; simp at hj; have := hi (fld.offset + j) (by omega); rwa [← Nat.add_assoc] at this
    · subst hd; simp at hj; have := h2 (fld.offset + j) (by omega); simpa using this
theorem q_fa_b {s : TypeId} {x : Operand} {i : Nat} (ho : o.op = .fieldAddr s x i) {fs : Array Field} (hu : P.underlying s = some (.struct fs)) {fld : Field} (hf : fs[i]? = some fld) {m : Nat} (hs : ∀ w, (sizeOf fld.type).run P w = .ok m w) (hm : m ≠ 0)
    {id off : Nat} (hx : ρ x = .ptr id off) {k : Nat} (hk : off + fld.offset = k) : QOp P G h o ρ (.ptr id k) :=
  hk ▸ .of_run fun _ _ _ _ w a _ hr => by
    have h1 := hr x (by simp [ho, Op.operands]); rw [hx] at h1
    obtain ⟨hlt, e⟩ := h1.ptr_inv
    exact ⟨_, by simp only [execOp, ho, e, Sem.run_bind, run_fieldAt (P := P) hu hf hs hm, Result.andThen_ok]; rfl, .ptr id _ hlt⟩

theorem run_indexAt_slice {w : World} {t e : TypeId} (hu : P.underlying t = some (.slice e)) {n : Nat} (hs : ∀ w, (sizeOf e).run P w = .ok n w) (b off len cap : Nat) (k : IntKind) (i : Int) (h0 : 0 ≤ i) (h1 : i < len) :
    (Instr.indexAt t (.slice (some ⟨b, off, none⟩) len cap) (.int k i)).run P w = .ok (.pointer (some ⟨b, off + i.toNat * n, none⟩)) w := by
  simp [Instr.indexAt, asIntOf, run_underlying hu, h0, h1, hs, add_mk]
theorem run_indexAt_array {w : World} {t e : TypeId} {l : Nat} (hu : P.underlying t = some (.array l e)) {n : Nat} (hs : ∀ w, (sizeOf e).run P w = .ok n w) (b off : Nat) (k : IntKind) (i : Int) (h0 : 0 ≤ i) (h1 : i < l) :
    (Instr.indexAt t (.pointer (some ⟨b, off, none⟩)) (.int k i)).run P w = .ok (.pointer (some ⟨b, off + i.toNat * n, none⟩)) w := by
  simp [Instr.indexAt, asIntOf, run_underlying hu, h0, h1, hs, add_mk, Instr.sureAddr]
theorem q_ia_s {t e : TypeId} {x ix : Operand} (ho : o.op = .indexAddr t x ix) (hu : P.underlying t = some (.slice e)) {n : Nat} (hs : ∀ w, (sizeOf e).run P w = .ok n w) {k : SK} {len : Nat} {cs : List V} (hx : ρ x = .sl k n len cs)
    {ik : IntKind} {i : Int} (hi : ρ ix = .int ik i) (h0 : 0 ≤ i) (h1 : i < len) {ds : List V} (hd : (cs.drop (i.toNat * n)).take n = ds) : QOp P G h o ρ (.iptr ds) :=
  .of_run fun _ _ _ _ w a _ hr => by
    have g1 := hr x (by simp [ho, Op.operands]); rw [hx] at g1
    have g2 := hr ix (by simp [ho, Op.operands]); rw [hi] at g2
    rcases g1.sl_inv with ⟨_, _, rfl, _⟩ | ⟨b, off, cap, f, e1, hl, hc, hk, hm, h2⟩
    · omega
    refine ⟨.pointer (some ⟨b, off + i.toNat * n, none⟩), ?_, .iptr b _ _ (fun j => f (i.toNat * n + j)) (fun j hj => ?_) (fun j hj => ?_)⟩
    · simp only [execOp, ho, e1, g2.int_inv, Sem.run_bind, run_indexAt_slice (P := P) hu hs b off len cap ik i h0 h1, Result.andThen_ok]; rfl
    · subst hd; simp at hj; have := hm (i.toNat * n + j) (by omega); rwa [← Nat.add_assoc] at this
    · subst hd; simp at hj; have := h2 (i.toNat * n + j) (by omega); simpa using this
theorem q_ia_m {t e : TypeId} {x ix : Operand} (ho : o.op = .indexAddr t x ix) (hu : P.underlying t = some (.slice e)) {n : Nat} (hs : ∀ w, (sizeOf e).run P w = .ok n w) {id off len : Nat} (hx : ρ x = .msl id off len)
    {ik : IntKind} {i : Int} (hi : ρ ix = .int ik i) (h0 : 0 ≤ i) (h1 : i < len) : QOp P G h o ρ (.ptr id (off + i.toNat * n)) :=
  .of_run fun _ _ _ _ w a _ hr => by
    have g1 := hr x (by simp [ho, Op.operands]); rw [hx] at g1
    have g2 := hr ix (by simp [ho, Op.operands]); rw [hi] at g2
    obtain ⟨hlt, cap, hc, e1⟩ := g1.msl_inv
    exact ⟨_, by simp only [execOp, ho, e1, g2.int_inv, Sem.run_bind, run_indexAt_slice (P := P) hu hs _ off len cap ik i h0 h1, Result.andThen_ok]; rfl, .ptr id _ hlt⟩
theorem q_ia_ai {t e : TypeId} {l : Nat} {x ix : Operand} (ho : o.op = .indexAddr t x ix) (hu : P.underlying t = some (.array l e)) {n : Nat} (hs : ∀ w, (sizeOf e).run P w = .ok n w) {cs : List V} (hx : ρ x = .iptr cs)
    {ik : IntKind} {i : Int} (hi : ρ ix = .int ik i) (h0 : 0 ≤ i) (h1 : i < l) {ds : List V} (hd : cs.drop (i.toNat * n) = ds) : QOp P G h o ρ (.iptr ds) :=
  .of_run fun _ _ _ _ w a _ hr => by
    have g1 := hr x (by simp [ho, Op.operands]); rw [hx] at g1
    have g2 := hr ix (by simp [ho, Op.operands]); rw [hi] at g2
    obtain ⟨b, off, f, e1, hm, h2⟩ := g1.iptr_inv
    refine ⟨.pointer (some ⟨b, off + i.toNat * n, none⟩), ?_, .iptr b _ _ (fun j => f (i.toNat * n + j)) (fun j hj => ?_) (fun j hj => ?_)⟩
    · simp only [execOp, ho, e1, g2.int_inv, Sem.run_bind, run_indexAt_array (P := P) hu hs b off ik i h0 h1, Result.andThen_ok]; rfl
    · subst hd; simp at hj; have := hm (i.toNat * n + j) (by omega); rwa [← Nat.add_assoc] at this
    · subst hd; simp at hj; have := h2 (i.toNat * n + j) (by omega); simpa using this
theorem q_ia_ab {t e : TypeId} {l : Nat} {x ix : Operand} (ho : o.op = .indexAddr t x ix) (hu : P.underlying t = some (.array l e)) {n : Nat} (hs : ∀ w, (sizeOf e).run P w = .ok n w) {id off : Nat} (hx : ρ x = .ptr id off)
    {ik : IntKind} {i : Int} (hi : ρ ix = .int ik i) (h0 : 0 ≤ i) (h1 : i < l) : QOp P G h o ρ (.ptr id (off + i.toNat * n)) :=
  .of_run fun _ _ _ _ w a _ hr => by
    have g1 := hr x (by simp [ho, Op.operands]); rw [hx] at g1
    have g2 := hr ix (by simp [ho, Op.operands]); rw [hi] at g2
    obtain ⟨hlt, e1⟩ := g1.ptr_inv
    exact ⟨_, by simp only [execOp, ho, e1, g2.int_inv, Sem.run_bind, run_indexAt_array (P := P) hu hs _ off ik i h0 h1, Result.andThen_ok]; rfl, .ptr id _ hlt⟩

theorem run_part1 {w : World} {t : TypeId} (ha : ∀ w, (isAgg t).run P w = .ok false w) {vs : Array Value} {off : Nat} {v : Value} (hv : vs[off]? = some v) : (part t vs off).run P w = .ok v w := by
  simp [part, ha, hv]
theorem run_partN {w : World} {t : TypeId} (ha : ∀ w, (isAgg t).run P w = .ok true w) {n : Nat} (hs : ∀ w, (sizeOf t).run P w = .ok n w) {vs : Array Value} {off : Nat} : (part t vs off).run P w = .ok (.agg (vs.extract off (off + n))) w := by
  simp [part, ha, hs]
theorem rep_extract {E : Env} {vs : Array Value} {cs : List V} (hsz : vs.size = cs.length) (h1 : ∀ j (h : j < vs.size), vs[j].oneCell' = true) (h2 : ∀ j (_ : j < vs.size) (_ : j < cs.length), Rep E vs[j] cs[j]) (off n : Nat) :
    Rep E (.agg (vs.extract off (off + n))) (.agg ((cs.drop off).take n)) := by
  refine .agg _ _ (by simp [hsz]; omega) (fun j hj => ?_) (fun j hj hj' => ?_)
  · simp at hj ⊢; exact h1 _ _
  · simp at hj hj' ⊢; exact h2 _ _ _
theorem q_f1 {s : TypeId} {x : Operand} {i : Nat} (ho : o.op = .field s x i) {fs : Array Field} (hu : P.underlying s = some (.struct fs)) {fld : Field} (hf : fs[i]? = some fld) (ha : ∀ w, (isAgg fld.type).run P w = .ok false w)
    {cs : List V} (hx : ρ x = .agg cs) {v : V} (hv : cs[fld.offset]? = some v) : QOp P G h o ρ v :=
  .of_run fun _ _ _ _ w a _ hr => by
    have h1 := hr x (by simp [ho, Op.operands]); rw [hx] at h1
    obtain ⟨vs, e, hsz, _, h2⟩ := h1.agg_inv
    obtain ⟨hlt, rfl⟩ := List.getElem?_eq_some_iff.1 hv
    refine ⟨vs[fld.offset]'(by omega), ?_, h2 _ (by omega) hlt⟩
    simp only [execOp, ho, e, Instr.field, Sem.run_bind, run_underlying hu, Result.andThen_ok, hf, asAgg, Sem.run_pure, run_part1 (P := P) ha (vs := vs) (off := fld.offset) (v := vs[fld.offset]'(by omega)) (by simp [hsz, hlt])]
theorem q_fN {s : TypeId} {x : Operand} {i : Nat} (ho : o.op = .field s x i) {fs : Array Field} (hu : P.underlying s = some (.struct fs)) {fld : Field} (hf : fs[i]? = some fld) (ha : ∀ w, (isAgg fld.type).run P w = .ok true w) {n : Nat} (hs : ∀ w, (sizeOf fld.type).run P w = .ok n w)
    {cs : List V} (hx : ρ x = .agg cs) {ds : List V} (hd : (cs.drop fld.offset).take n = ds) : QOp P G h o ρ (.agg ds) :=
  .of_run fun _ _ _ _ w a _ hr => by
    have h1 := hr x (by simp [ho, Op.operands]); rw [hx] at h1
    obtain ⟨vs, e, hsz, h3, h2⟩ := h1.agg_inv
    subst hd
    exact ⟨.agg (vs.extract fld.offset (fld.offset + n)), by simp only [execOp, ho, e, Instr.field, Sem.run_bind, run_underlying hu, Result.andThen_ok, hf, asAgg, Sem.run_pure, run_partN (P := P) ha hs], rep_extract hsz h3 h2 _ _⟩
theorem q_ix1 {t e : TypeId} {l : Nat} {x ix : Operand} (ho : o.op = .index t x ix) (hu : P.underlying t = some (.array l e)) {n : Nat} (hs : ∀ w, (sizeOf e).run P w = .ok n w) (ha : ∀ w, (isAgg e).run P w = .ok false w)
    {cs : List V} (hx : ρ x = .agg cs) {ik : IntKind} {i : Int} (hi : ρ ix = .int ik i) (h0 : 0 ≤ i) (h1 : i < l) {v : V} (hv : cs[i.toNat * n]? = some v) : QOp P G h o ρ v :=
  .of_run fun _ _ _ _ w a _ hr => by
    have g1 := hr x (by simp [ho, Op.operands]); rw [hx] at g1
    have g2 := hr ix (by simp [ho, Op.operands]); rw [hi] at g2
    obtain ⟨vs, e, hsz, _, h2⟩ := g1.agg_inv
    obtain ⟨hlt, rfl⟩ := List.getElem?_eq_some_iff.1 hv
    refine ⟨vs[i.toNat * n]'(by omega), ?_, h2 _ (by omega) hlt⟩
    simp only [execOp, ho, e, g2.int_inv, Instr.index, asIntOf, Sem.run_bind, Sem.run_pure, run_underlying hu, Result.andThen_ok, h0, h1, and_self, if_true, hs, run_part1 (P := P) ha (vs := vs) (off := i.toNat * n) (v := vs[i.toNat * n]'(by omega)) (by simp [hsz, hlt])]
theorem q_ixN {t e : TypeId} {l : Nat} {x ix : Operand} (ho : o.op = .index t x ix) (hu : P.underlying t = some (.array l e)) {n : Nat} (hs : ∀ w, (sizeOf e).run P w = .ok n w) (ha : ∀ w, (isAgg e).run P w = .ok true w)
    {cs : List V} (hx : ρ x = .agg cs) {ik : IntKind} {i : Int} (hi : ρ ix = .int ik i) (h0 : 0 ≤ i) (h1 : i < l) {ds : List V} (hd : (cs.drop (i.toNat * n)).take n = ds) : QOp P G h o ρ (.agg ds) :=
  .of_run fun _ _ _ _ w a _ hr => by
    have g1 := hr x (by simp [ho, Op.operands]); rw [hx] at g1
    have g2 := hr ix (by simp [ho, Op.operands]); rw [hi] at g2
    obtain ⟨vs, e, hsz, h3, h2⟩ := g1.agg_inv
    subst hd
    refine ⟨.agg (vs.extract (i.toNat * n) (i.toNat * n + n)), ?_, rep_extract hsz h3 h2 _ _⟩
    simp only [execOp, ho, e, g2.int_inv, Instr.index, asIntOf, Sem.run_bind, Sem.run_pure, run_underlying hu, Result.andThen_ok, h0, h1, and_self, if_true, hs, run_partN (P := P) ha hs]

def V.len? : V → Option Nat
  | .snil => some 0
  | .sl _ _ len _ => some len
  | .msl _ _ len => some len
  | .bsl _ _ len => some len
  | _ => none
theorem rep_len {E : Env} {v : Value} {z : V} {n : Nat} (h : Rep E v z) (hz : z.len? = some n) : ∃ a c, v = .slice a n c := by
  cases z <;> simp [V.len?] at hz
  case snil => subst hz; exact ⟨_, _, h.snil_inv⟩
  case sl k m len cs =>
    subst hz
    rcases h.sl_inv with ⟨e, _, e2, _⟩ | ⟨b, off, cap, f, e, _⟩
    · exact ⟨_, _, by rw [e2]; exact e⟩
    · exact ⟨_, _, e⟩
  case msl id off len => subst hz; obtain ⟨_, cap, _, e⟩ := h.msl_inv; exact ⟨_, _, e⟩
  case bsl n id len => subst hz; obtain ⟨_, cap, _, e, _⟩ := h.bsl_inv; exact ⟨_, _, e⟩
theorem q_len {x : Operand} {t e : TypeId} (ho : o.op = .call ⟨.builtin .len, #[x], #[t]⟩) (hu : P.underlying t = some (.slice e)) {n : Nat} (hx : (ρ x).len? = some n) : QOp P G h o ρ (.int .i64 n) :=
  .of_run fun _ _ _ _ w a _ hr => by
    have h1 := hr x (by simp [ho, Op.operands, Call.operands])
    obtain ⟨a', c, e⟩ := rep_len h1 hx
    exact ⟨.int .i64 n, by simp [execOp, ho, resolve, invoke, builtin, Builtin.len_, e, run_underlying hu, goInt], .int _ _⟩
theorem q_func {fn : Fn} {first captured : Array Operand} (ho : o.op = .makeFunc fn first captured) : QOp P G h o ρ (.func fn (first.toList.map ρ) (captured.toList.map ρ)) :=
  .of_run fun _ _ _ _ w a _ hr => by
    refine ⟨.func fn (first.map a.eval) (captured.map a.eval), by simp [execOp, ho, Instr.makeFunc], .func _ _ _ _ _ (by simp) (by simp) (fun j hj hj' => ?_) (fun j hj hj' => ?_)⟩
    · simp at hj ⊢; exact hr _ (by simp [ho, Op.operands])
    · simp at hj ⊢; exact hr _ (by simp [ho, Op.operands])

end
end Go.AV
/- The abstract walk, fourth part: operations that make memory or write to it. -/
namespace Go.AV

def Hp.setBox (h : Hp) (id : Nat) (cs : List V) : Hp := { h with box := fun i => if i = id then some cs else h.box i }
def Hp.setTok (h : Hp) (id n : Nat) : Hp := { h with tok := fun i => if i = id then some n else h.tok i }
def Hp.delTok (h : Hp) (id : Nat) : Hp := { h with tok := fun i => if i = id then none else h.tok i }
def Hp.fresh (h : Hp) (id : Nat) : Prop := h.box id = none ∧ h.tok id = none

@[simp] theorem Hp.box_setBox (h : Hp) (id : Nat) (cs : List V) : (h.setBox id cs).box id = some cs := by simp [Hp.setBox]
theorem Hp.box_setBox_ne (h : Hp) {id i : Nat} (cs : List V) (e : i ≠ id) : (h.setBox id cs).box i = h.box i := by simp [Hp.setBox, e]
@[simp] theorem Hp.tok_setBox (h : Hp) (id : Nat) (cs : List V) : (h.setBox id cs).tok = h.tok := rfl
@[simp] theorem Hp.box_setTok (h : Hp) (id n : Nat) : (h.setTok id n).box = h.box := rfl
@[simp] theorem Hp.tok_setTok (h : Hp) (id n : Nat) : (h.setTok id n).tok id = some n := by simp [Hp.setTok]
theorem Hp.tok_setTok_ne (h : Hp) {id i : Nat} (n : Nat) (e : i ≠ id) : (h.setTok id n).tok i = h.tok i := by simp [Hp.setTok, e]
@[simp] theorem Hp.box_delTok (h : Hp) (id : Nat) : (h.delTok id).box = h.box := rfl
@[simp] theorem Hp.tok_delTok (h : Hp) (id : Nat) : (h.delTok id).tok id = none := by simp [Hp.delTok]
theorem Hp.setBox_setBox (h : Hp) (id : Nat) (a b : List V) : (h.setBox id a).setBox id b = h.setBox id b := by
  simp only [Hp.setBox]; congr 1; funext i; split <;> simp_all
theorem Hp.setBox_comm (h : Hp) {i j : Nat} (a b : List V) (e : i ≠ j) : (h.setBox i a).setBox j b = (h.setBox j b).setBox i a := by
  simp only [Hp.setBox]; congr 1; funext k
  by_cases h1 : k = i
  · subst h1; simp [e]
  · by_cases h2 : k = j
    · subst h2; simp [h1]
    · simp [h1, h2]
theorem HLe.setBox {h : Hp} {id : Nat} {cs : List V} (f : h.box id = none) : HLe (h.setBox id cs) h :=
  ⟨fun i c e => by
    by_cases hi : i = id
    · subst hi; rw [f] at e; cases e
    · rw [Hp.box_setBox_ne h cs hi]; exact e, fun _ _ e => e⟩
theorem HLe.setTok {h : Hp} {id n : Nat} (f : h.tok id = none) : HLe (h.setTok id n) h :=
  ⟨fun _ _ e => e, fun i c e => by
    by_cases hi : i = id
    · subst hi; rw [f] at e; cases e
    · rw [Hp.tok_setTok_ne h n hi]; exact e⟩
theorem Hp.fresh_swap {h : Hp} {i j : Nat} {c c' : List V} (f : (h.setBox i c).fresh j) : (h.setBox i c').fresh j := by
  have hne : j ≠ i := fun e => by subst e; have := f.1; simp at this
  exact ⟨by have := f.1; rw [Hp.box_setBox_ne h c hne] at this; rw [Hp.box_setBox_ne h c' hne]; exact this, f.2⟩
theorem Hp.ne_of_box {h : Hp} {i j : Nat} {cs : List V} (a : h.box i = some cs) (b : h.box j = none) : i ≠ j := fun e => by subst e; rw [a] at b; cases b

section
variable {P : Program} {G : Nat → Option (List V)} {h : Hp} {o : Oper} {ρ : Operand → V} {mu : Nat → Nat} {nx : Nat} {w : World}

theorem Rel.alive_lt (r : Rel G mu nx h w) {i : Nat} (a : h.alive i) : i < nx ∧ mu i < w.heap.size := by
  rcases a with a | a
  · cases e : h.box i with
    | none => exact absurd e a
    | some cs =>
      obtain ⟨h1, vs, el, h2, _⟩ := r.box i cs e
      exact ⟨h1, (Array.getElem?_eq_some_iff.1 h2).1⟩
  · cases e : h.tok i with
    | none => exact absurd e a
    | some n =>
      obtain ⟨h1, vs, el, h2, _⟩ := r.tok i n e
      exact ⟨h1, (Array.getElem?_eq_some_iff.1 h2).1⟩
theorem Rel.fresh (r : Rel G mu nx h w) : h.fresh nx :=
  ⟨by cases e : h.box nx with | none => rfl | some cs => exact absurd (r.alive_lt (i := nx) (.inl (by simp [e]))).1 (Nat.lt_irrefl _),
   by cases e : h.tok nx with | none => rfl | some cs => exact absurd (r.alive_lt (i := nx) (.inr (by simp [e]))).1 (Nat.lt_irrefl _)⟩

def muNew (mu : Nat → Nat) (nx b : Nat) : Nat → Nat := fun i => if i = nx then b else mu i
theorem muNew_lt {i b : Nat} (h : i < nx) : muNew mu nx b i = mu i := by unfold muNew; rw [if_neg (by omega)]
theorem muNew_nx {b : Nat} : muNew mu nx b nx = b := by unfold muNew; rw [if_pos rfl]

/-- A world that keeps all blocks that are there, and has more. -/
structure Grows (w w' : World) : Prop where
  os : w'.os = w.os
  tape : w'.tape = w.tape
  output : w'.output = w.output
  size : w.heap.size ≤ w'.heap.size
  block : ∀ b, b < w.heap.size → w'.heap[b]? = w.heap[b]?
theorem Grows.cell {w w' : World} (g : Grows w w') {b i : Nat} {v : Value} (h : w.cell? ⟨b, i, none⟩ = some v) : w'.cell? ⟨b, i, none⟩ = some v := by
  have hb : b < w.heap.size := World.block_lt_of_cell? w _ h
  rw [World.cell?_of_block (g.block b hb)]; exact h
theorem Grows.alloc (w : World) (o : Obj) : Grows w (w.alloc o) := ⟨rfl, rfl, rfl, by simp, fun _ hk => heap_alloc_old w o hk⟩
theorem Grows.drew_alloc (w : World) (o : Obj) : Grows w (w.drew.alloc o) := ⟨rfl, rfl, rfl, by simp, fun _ hk => heap_alloc_old w.drew o hk⟩
theorem Grows.refl (w : World) : Grows w w := ⟨rfl, rfl, rfl, Nat.le_refl _, fun _ _ => rfl⟩

/-- More blocks, a new number or none: what was there stays. -/
theorem env_grows (r : Rel G mu nx h w) {w' : World} (g : Grows w w') {mu' : Nat → Nat} {nx' : Nat} {h' : Hp} (hnx : nx ≤ nx') (hmu : ∀ i, i < nx → mu' i = mu i)
    (hold : ∀ i, h'.alive i → (h.alive i ∧ h'.box i = h.box i ∧ h'.tok i = h.tok i) ∨ w.heap.size ≤ mu' i) : (env mu nx h w).le (env mu' nx' h' w') where
  nx := hnx
  mu := hmu
  imm := fun b i v ⟨⟨p1, p2, p3⟩, q1, q2⟩ => ⟨⟨Nat.lt_of_lt_of_le p1 g.size, fun id hid e => by
      rcases hold id (.inl hid) with ⟨a, a1, a2⟩ | a
      · rw [hmu id (r.alive_lt a).1] at e
        exact p2 id (by rw [← a1]; exact hid) e
      · omega, fun t n ht e => by
      rcases hold t (.inr (by simp [ht])) with ⟨a, a1, a2⟩ | a
      · rw [hmu t (r.alive_lt a).1] at e
        exact p3 t n (by rw [← a2]; exact ht) e
      · omega⟩, g.cell q1, q2⟩
  cap := fun b n ⟨cs, el, fr, q1, q2⟩ => ⟨cs, el, fr, by rw [g.block b (Array.getElem?_eq_some_iff.1 q1).1]; exact q1, q2⟩

theorem Rel.grows_same (r : Rel G mu nx h w) {w' : World} (g : Grows w w') : Rel G mu nx h w' ∧ Ext mu nx h w mu nx h w' := by
  have le := env_grows r g (mu' := mu) (nx' := nx) (h' := h) (Nat.le_refl _) (fun _ _ => rfl) (fun i a => .inl ⟨a, rfl, rfl⟩)
  refine ⟨⟨fun id cs e => ?_, fun t n e => ?_, r.inj, r.excl, fun g' cs e => (r.glob g' cs e).mono le⟩, ⟨le, g.os, g.tape, g.output, g.size, fun b hb _ => g.block b hb, fun id hid => .inr ⟨id, hid, rfl⟩⟩⟩
  · obtain ⟨h1, vs, el, h2, h3, h4, h5⟩ := r.box id cs e
    exact ⟨h1, vs, el, by rw [g.block _ (Array.getElem?_eq_some_iff.1 h2).1]; exact h2, h3, h4, fun j hj hj' => (h5 j hj hj').mono le⟩
  · obtain ⟨h1, vs, el, h2, h3⟩ := r.tok t n e
    exact ⟨h1, vs, el, by rw [g.block _ (Array.getElem?_eq_some_iff.1 h2).1]; exact h2, h3⟩

/-- A new box. -/
theorem Rel.newBox (r : Rel G mu nx h w) {w' : World} (g : Grows w w') {b : Nat} (hb : w.heap.size ≤ b) {vs : Array Value} {el : TypeId} (hh : w'.heap[b]? = some (.cells vs el (0, 0))) {cs : List V} (hs : vs.size = cs.length)
    (h1 : ∀ j (_ : j < vs.size), vs[j].oneCell' = true) (h2 : ∀ j (_ : j < vs.size) (_ : j < cs.length), Rep (env mu nx h w) vs[j] cs[j]) :
    Rel G (muNew mu nx b) (nx + 1) (h.setBox nx cs) w' ∧ Ext mu nx h w (muNew mu nx b) (nx + 1) (h.setBox nx cs) w' := by
  have fr := r.fresh
  have ali : ∀ i, (h.setBox nx cs).alive i → (h.alive i ∧ i < nx) ∨ i = nx := fun i a => by
    by_cases hi : i = nx
    · exact .inr hi
    · refine .inl ?_
      have : h.alive i := by
        rcases a with a | a
        · rw [Hp.box_setBox_ne h cs hi] at a; exact .inl a
        · exact .inr a
      exact ⟨this, (r.alive_lt this).1⟩
  have le := env_grows r g (mu' := muNew mu nx b) (nx' := nx + 1) (h' := h.setBox nx cs) (Nat.le_succ _) (fun i hi => muNew_lt hi) (fun i a => by
    rcases ali i a with ⟨a, hi⟩ | rfl
    · exact .inl ⟨a, Hp.box_setBox_ne h cs (by omega), rfl⟩
    · exact .inr (by rw [muNew_nx]; exact hb))
  refine ⟨⟨fun id c e => ?_, fun t n e => ?_, fun i j a a' e => ?_, fun i hi => ?_, fun g' c e => (r.glob g' c e).mono le⟩, ⟨le, g.os, g.tape, g.output, g.size, fun b hb _ => g.block b hb, fun id hid => ?_⟩⟩
  · by_cases hi : id = nx
    · subst hi
      simp at e; subst e
      exact ⟨Nat.lt_succ_self _, vs, el, by rw [muNew_nx]; exact hh, hs, h1, fun j hj hj' => (h2 j hj hj').mono le⟩
    · rw [Hp.box_setBox_ne h cs hi] at e
      obtain ⟨k1, vs', el', k2, k3, k4, k5⟩ := r.box id c e
      exact ⟨by omega, vs', el', by rw [muNew_lt k1, g.block _ (Array.getElem?_eq_some_iff.1 k2).1]; exact k2, k3, k4, fun j hj hj' => (k5 j hj hj').mono le⟩
  · obtain ⟨k1, vs', el', k2, k3⟩ := r.tok t n e
    exact ⟨by omega, vs', el', by rw [muNew_lt k1, g.block _ (Array.getElem?_eq_some_iff.1 k2).1]; exact k2, k3⟩
  · rcases ali i a with ⟨b1, hi⟩ | hi <;> rcases ali j a' with ⟨b2, hj⟩ | hj
    · rw [muNew_lt hi, muNew_lt hj] at e; exact r.inj i j b1 b2 e
    · rw [muNew_lt hi, hj, muNew_nx] at e; have := (r.alive_lt b1).2; omega
    · rw [muNew_lt hj, hi, muNew_nx] at e; have := (r.alive_lt b2).2; omega
    · rw [hi, hj]
  · by_cases hi' : i = nx
    · subst hi'; exact fr.2
    · rw [Hp.box_setBox_ne h cs hi'] at hi; exact r.excl i hi
  · rcases ali id hid with ⟨a, hi⟩ | rfl
    · exact .inr ⟨id, a, (muNew_lt hi).symm⟩
    · exact .inl (by rw [muNew_nx]; exact hb)

/-- A new row that is appended to. -/
theorem Rel.newTok (r : Rel G mu nx h w) {w' : World} (g : Grows w w') {b : Nat} (hb : w.heap.size ≤ b) {vs : Array Value} {el : TypeId} (hh : w'.heap[b]? = some (.cells vs el (0, 0))) {n : Nat} (hs : n ≤ vs.size) :
    Rel G (muNew mu nx b) (nx + 1) (h.setTok nx n) w' ∧ Ext mu nx h w (muNew mu nx b) (nx + 1) (h.setTok nx n) w' := by
  have fr := r.fresh
  have ali : ∀ i, (h.setTok nx n).alive i → (h.alive i ∧ i < nx) ∨ i = nx := fun i a => by
    by_cases hi : i = nx
    · exact .inr hi
    · refine .inl ?_
      have : h.alive i := by
        rcases a with a | a
        · exact .inl a
        · rw [Hp.tok_setTok_ne h n hi] at a; exact .inr a
      exact ⟨this, (r.alive_lt this).1⟩
  have le := env_grows r g (mu' := muNew mu nx b) (nx' := nx + 1) (h' := h.setTok nx n) (Nat.le_succ _) (fun i hi => muNew_lt hi) (fun i a => by
    rcases ali i a with ⟨a, hi⟩ | rfl
    · exact .inl ⟨a, rfl, Hp.tok_setTok_ne h n (by omega)⟩
    · exact .inr (by rw [muNew_nx]; exact hb))
  refine ⟨⟨fun id c e => ?_, fun t m e => ?_, fun i j a a' e => ?_, fun i hi => ?_, fun g' c e => (r.glob g' c e).mono le⟩, ⟨le, g.os, g.tape, g.output, g.size, fun b hb _ => g.block b hb, fun id hid => ?_⟩⟩
  · obtain ⟨k1, vs', el', k2, k3, k4, k5⟩ := r.box id c e
    exact ⟨by omega, vs', el', by rw [muNew_lt k1, g.block _ (Array.getElem?_eq_some_iff.1 k2).1]; exact k2, k3, k4, fun j hj hj' => (k5 j hj hj').mono le⟩
  · by_cases hi : t = nx
    · subst hi
      simp at e; subst e
      exact ⟨Nat.lt_succ_self _, vs, el, by rw [muNew_nx]; exact hh, hs⟩
    · rw [Hp.tok_setTok_ne h n hi] at e
      obtain ⟨k1, vs', el', k2, k3⟩ := r.tok t m e
      exact ⟨by omega, vs', el', by rw [muNew_lt k1, g.block _ (Array.getElem?_eq_some_iff.1 k2).1]; exact k2, k3⟩
  · rcases ali i a with ⟨b1, hi⟩ | hi <;> rcases ali j a' with ⟨b2, hj⟩ | hj
    · rw [muNew_lt hi, muNew_lt hj] at e; exact r.inj i j b1 b2 e
    · rw [muNew_lt hi, hj, muNew_nx] at e; have := (r.alive_lt b1).2; omega
    · rw [muNew_lt hj, hi, muNew_nx] at e; have := (r.alive_lt b2).2; omega
    · rw [hi, hj]
  · have hne : i ≠ nx := fun e => by subst e; exact hi fr.1
    rw [Hp.tok_setTok_ne h n hne]
    exact r.excl i hi
  · rcases ali id hid with ⟨a, hi⟩ | rfl
    · exact .inr ⟨id, a, (muNew_lt hi).symm⟩
    · exact .inl (by rw [muNew_nx]; exact hb)

/-- The cells of a new block are protected, if no box is behind it, and no row that is shorter. -/
theorem imm_new (r : Rel G mu nx h w) {w' : World} {b : Nat} (hb : w.heap.size ≤ b) {vs : Array Value} {el : TypeId} (hh : w'.heap[b]? = some (.cells vs el (0, 0))) (h1 : ∀ j (_ : j < vs.size), vs[j].oneCell' = true) {j : Nat} (hj : j < vs.size) :
    (env mu nx h w').imm b j vs[j] := by
  refine ⟨⟨(Array.getElem?_eq_some_iff.1 hh).1, fun id hid e => ?_, fun t n ht e => ?_⟩, ?_, h1 j hj⟩
  · have := (r.alive_lt (i := id) (.inl hid)).2; omega
  · have := (r.alive_lt (i := t) (.inr (by simp [ht]))).2; omega
  · rw [cell_of_row w' b j vs el (0, 0) hh]; simp [hj]
theorem imm_tok (r : Rel G mu nx h w) {w' : World} {b : Nat} (hb : w.heap.size ≤ b) {vs : Array Value} {el : TypeId} (hh : w'.heap[b]? = some (.cells vs el (0, 0))) (h1 : ∀ j (_ : j < vs.size), vs[j].oneCell' = true) {n j : Nat} (hn : n ≤ vs.size) (hj : j < n) :
    (env (muNew mu nx b) (nx + 1) (h.setTok nx n) w').imm b j (vs[j]'(by omega)) := by
  refine ⟨⟨(Array.getElem?_eq_some_iff.1 hh).1, fun id hid e => ?_, fun t m ht e => ?_⟩, ?_, h1 j (by omega)⟩
  · have a := r.alive_lt (i := id) (.inl hid)
    rw [muNew_lt a.1] at e; omega
  · by_cases hi : t = nx
    · subst hi; simp at ht; omega
    · rw [Hp.tok_setTok_ne h n hi] at ht
      have a := r.alive_lt (i := t) (.inr (by simp [ht]))
      rw [muNew_lt a.1] at e; omega
  · rw [cell_of_row w' b j vs el (0, 0) hh]; simp

/-- Cells of a value, abstractly. -/
def V.cells : V → List V
  | .agg cs => cs
  | v => [v]
def V.solid : V → Bool
  | .junk => false
  | .tup _ => false
  | .opt _ _ => false
  | _ => true
theorem rep_cells {E : Env} {v : Value} {x : V} (hr : Rep E v x) (hs : x.solid = true) :
    v.cells.size = x.cells.length ∧ (∀ j (_ : j < v.cells.size), (v.cells[j]).oneCell' = true) ∧ ∀ j (_ : j < v.cells.size) (_ : j < x.cells.length), Rep E v.cells[j] x.cells[j] := by
  have one : ∀ (v : Value) (x : V), Rep E v x → v.cells = #[v] → x.cells = [x] → v.oneCell' = true →
      v.cells.size = x.cells.length ∧ (∀ j (_ : j < v.cells.size), (v.cells[j]).oneCell' = true) ∧ ∀ j (_ : j < v.cells.size) (_ : j < x.cells.length), Rep E v.cells[j] x.cells[j] := by
    intro v x hr e1 e2 e3
    simp only [e1, e2]
    refine ⟨by simp, fun j hj => ?_, fun j hj hj' => ?_⟩
    · have : j = 0 := by simp at hj; omega
      subst this; simpa using e3
    · have : j = 0 := by simp at hj; omega
      subst this; simpa using hr
  cases hr with
  | agg vs cs e h1 h2 => exact ⟨e, h1, h2⟩
  | tup vs cs e h2 => cases hs
  | junk v => cases hs
  | optT v x h => cases hs
  | optF x => cases hs
  | iptr b off cs f h1 h2 => exact one _ _ (.iptr b off cs f h1 h2) rfl rfl rfl
  | sl k b off n len cap cs f hl hc hk h1 h2 => exact one _ _ (.sl k b off n len cap cs f hl hc hk h1 h2) rfl rfl rfl
  | iface t v a h => exact one _ _ (.iface t v a h) rfl rfl rfl
  | func fn fs cs as bs e1 e2 h1 h2 => exact one _ _ (.func fn fs cs as bs e1 e2 h1 h2) rfl rfl rfl
  | bool b => exact one _ _ (.bool b) rfl rfl rfl
  | int k n => exact one _ _ (.int k n) rfl rfl rfl
  | str s => exact one _ _ (.str s) rfl rfl rfl
  | pnil => exact one _ _ .pnil rfl rfl rfl
  | ptr id off h => exact one _ _ (.ptr id off h) rfl rfl rfl
  | snil => exact one _ _ .snil rfl rfl rfl
  | slnil n => exact one _ _ (.slnil n) rfl rfl rfl
  | slnilf n => exact one _ _ (.slnilf n) rfl rfl rfl
  | msl id off len cap h hc hk h63 => exact one _ _ (.msl id off len cap h hc hk h63) rfl rfl rfl
  | bsl n id len cap h hc hk h63 => exact one _ _ (.bsl n id len cap h hc hk h63) rfl rfl rfl
  | inil => exact one _ _ .inil rfl rfl rfl
  | fnil => exact one _ _ .fnil rfl rfl rfl

theorem a_alloc {t : TypeId} (ho : o.op = .alloc t) {z : Value} (hz : ∀ w, (zeroValue t).run P w = .ok z w) {K : V → Hp → Prop} (hs : (cv z).solid = true)
    (k : ∀ id, h.fresh id → K (.ptr id 0) (h.setBox id (cv z).cells)) : AStep P G o ρ h K := by
  intro mu nx w a _ r hr K' Q' hK
  obtain ⟨e1, e2, e3⟩ := rep_cells (rep_cv (env mu nx h w) z) hs
  obtain ⟨r', x⟩ := r.newBox (Grows.alloc w (.cells z.cells t)) (b := w.heap.size) (Nat.le_refl _) (heap_alloc_new w _) e1 e2 e3
  have hrun : (execOp a.eval o).run P w = .ok (.value (.pointer (some ⟨w.heap.size, 0, none⟩))) (w.alloc (.cells z.cells t)) := by
    simp [execOp, ho, Instr.alloc, hz, newVar, newRow]
  unfold Oper.wp
  rw [hrun]
  refine hK _ _ _ _ _ _ (k nx r.fresh) r' ?_ x
  have := Rep.ptr (E := env (muNew mu nx w.heap.size) (nx + 1) (h.setBox nx (cv z).cells) (w.alloc (.cells z.cells t))) nx 0 (Nat.lt_succ_self _)
  rwa [show (env (muNew mu nx w.heap.size) (nx + 1) (h.setBox nx (cv z).cells) (w.alloc (.cells z.cells t))).mu nx = w.heap.size from muNew_nx] at this
theorem a_box {t : TypeId} {y : Operand} (ho : o.op = .box t y) {K : V → Hp → Prop} (hs : (ρ y).solid = true) (k : ∀ id, h.fresh id → K (.ptr id 0) (h.setBox id (ρ y).cells)) : AStep P G o ρ h K := by
  intro mu nx w a _ r hr K' Q' hK
  obtain ⟨e1, e2, e3⟩ := rep_cells (hr y (by simp [ho, Op.operands])) hs
  obtain ⟨r', x⟩ := r.newBox (Grows.alloc w (.cells (a.eval y).cells t)) (b := w.heap.size) (Nat.le_refl _) (heap_alloc_new w _) e1 e2 e3
  have hrun : (execOp a.eval o).run P w = .ok (.value (.pointer (some ⟨w.heap.size, 0, none⟩))) (w.alloc (.cells (a.eval y).cells t)) := by
    simp [execOp, ho, Instr.box, newVar, newRow]
  unfold Oper.wp
  rw [hrun]
  refine hK _ _ _ _ _ _ (k nx r.fresh) r' ?_ x
  have := Rep.ptr (E := env (muNew mu nx w.heap.size) (nx + 1) (h.setBox nx (ρ y).cells) (w.alloc (.cells (a.eval y).cells t))) nx 0 (Nat.lt_succ_self _)
  rwa [show (env (muNew mu nx w.heap.size) (nx + 1) (h.setBox nx (ρ y).cells) (w.alloc (.cells (a.eval y).cells t))).mu nx = w.heap.size from muNew_nx] at this
/-- A new variable that is never written again. -/
theorem q_boxi {t : TypeId} {y : Operand} (ho : o.op = .box t y) (hs : (ρ y).solid = true) : QOp P G h o ρ (.iptr (ρ y).cells) := by
  intro h' _ mu nx w a _ r hr K' Q' hK
  obtain ⟨e1, e2, e3⟩ := rep_cells (hr y (by simp [ho, Op.operands])) hs
  have g := Grows.alloc w (.cells (a.eval y).cells t)
  obtain ⟨r', x⟩ := r.grows_same g
  have hrun : (execOp a.eval o).run P w = .ok (.value (.pointer (some ⟨w.heap.size, 0, none⟩))) (w.alloc (.cells (a.eval y).cells t)) := by
    simp [execOp, ho, Instr.box, newVar, newRow]
  unfold Oper.wp
  rw [hrun]
  refine hK _ _ _ _ _ _ ⟨rfl, rfl⟩ r' (.iptr _ _ _ (fun j => (a.eval y).cells.getD j undef) (fun j hj => ?_) (fun j hj => ?_)) x
  · have hj' : j < (a.eval y).cells.size := by omega
    have := imm_new r (w' := w.alloc (.cells (a.eval y).cells t)) (b := w.heap.size) (Nat.le_refl _) (heap_alloc_new w _) e2 hj'
    simpa [Array.getD, hj'] using this
  · have hj' : j < (a.eval y).cells.size := by omega
    have := (e3 j hj' hj).mono x.le
    simpa [Array.getD, hj'] using this

def ovr : List V → List V → List V
  | cs, ds => match ds with
    | [] => cs
    | d :: ds => match cs with
      | [] => []
      | _ :: cs => d :: ovr cs ds
termination_by structural _ ds => ds
def splice : List V → Nat → List V → List V
  | cs, off, ds => match off with
    | 0 => ovr cs ds
    | off + 1 => match cs with
      | [] => []
      | c :: cs => c :: splice cs off ds
termination_by structural _ off => off
theorem ovr_eq : ∀ (cs ds : List V), ds.length ≤ cs.length → ovr cs ds = ds ++ cs.drop ds.length
  | cs, [], _ => by cases cs <;> rfl
  | [], _ :: _, h => by simp at h
  | _ :: cs, d :: ds, h => by
    have := ovr_eq cs ds (by simpa using h)
    rw [ovr, this]; simp
theorem splice_eq : ∀ (cs : List V) (off : Nat) (ds : List V), off + ds.length ≤ cs.length → splice cs off ds = cs.take off ++ ds ++ cs.drop (off + ds.length)
  | cs, 0, ds, h => by
    have := ovr_eq cs ds (by omega)
    rw [splice, this]; simp
  | [], off + 1, ds, h => by simp at h
  | c :: cs, off + 1, ds, h => by
    have := splice_eq cs off ds (by simp at h; omega)
    rw [splice, this, show off + 1 + ds.length = off + ds.length + 1 by omega]
    simp
theorem splice_length {cs ds : List V} {off : Nat} (h : off + ds.length ≤ cs.length) : (splice cs off ds).length = cs.length := by
  rw [splice_eq _ _ _ h]; simp; omega

/-- Writing into one box. -/
theorem Rel.setBox (r : Rel G mu nx h w) {id : Nat} {cs : List V} (hb : h.box id = some cs) {vs vs' : Array Value} {el : TypeId} (hh : w.heap[mu id]? = some (.cells vs el (0, 0))) {w' : World}
    (hw : w'.heap[mu id]? = some (.cells vs' el (0, 0))) (ho : ∀ b, b ≠ mu id → w'.heap[b]? = w.heap[b]?) (hsz : w'.heap.size = w.heap.size) (hvs : vs'.size = vs.size) (hos : w'.os = w.os) (htp : w'.tape = w.tape) (hout : w'.output = w.output) {cs' : List V} (hs : vs'.size = cs'.length)
    (h1 : ∀ j (_ : j < vs'.size), vs'[j].oneCell' = true) (h2 : ∀ j (_ : j < vs'.size) (_ : j < cs'.length), Rep (env mu nx h w) vs'[j] cs'[j]) :
    Rel G mu nx (h.setBox id cs') w' ∧ Ext mu nx h w mu nx (h.setBox id cs') w' := by
  have ali : ∀ i, (h.setBox id cs').alive i → h.alive i := fun i a => by
    by_cases hi : i = id
    · subst hi; exact .inl (by simp [hb])
    · rcases a with a | a
      · rw [Hp.box_setBox_ne h cs' hi] at a; exact .inl a
      · exact .inr a
  have box_of : ∀ i, (h.setBox id cs').box i ≠ none → h.box i ≠ none := fun i a => by
    by_cases hi : i = id
    · subst hi; simp [hb]
    · rwa [Hp.box_setBox_ne h cs' hi] at a
  have hidb : ∀ i, h.box i ≠ none → h.alive i := fun i a => .inl a
  have le : (env mu nx h w).le (env mu nx (h.setBox id cs') w') := by
    refine ⟨Nat.le_refl _, fun _ _ => rfl, fun b i v ⟨⟨p1, p2, p3⟩, q1, q2⟩ => ⟨⟨by omega, fun j hj => p2 j (box_of j hj), p3⟩, ?_, q2⟩, fun b n ⟨c, e, fr, q1, q2⟩ => ?_⟩
    · have hne : b ≠ mu id := fun e => p2 id (by simp [hb]) e.symm
      rw [World.cell?_of_block (ho b hne)]; exact q1
    · by_cases hb' : b = mu id
      · subst hb'
        rw [hh] at q1
        cases q1
        exact ⟨vs', _, _, hw, by omega⟩
      · exact ⟨c, e, fr, by rw [ho b hb']; exact q1, q2⟩
  refine ⟨⟨fun i c e => ?_, fun t n e => ?_, fun i j a a' e => r.inj i j (ali i a) (ali j a') e, fun i hi => r.excl i (box_of i hi), fun g' c e => (r.glob g' c e).mono le⟩,
    ⟨le, hos, htp, hout, by omega, fun b hb' hn => ho b fun e => hn id (.inl (by simp [hb])) e.symm, fun i a => .inr ⟨i, ali i a, rfl⟩⟩⟩
  · by_cases hi : i = id
    · subst hi
      simp at e; subst e
      exact ⟨(r.box i cs hb).1, vs', el, hw, hs, h1, fun j hj hj' => (h2 j hj hj').mono le⟩
    · rw [Hp.box_setBox_ne h cs' hi] at e
      obtain ⟨k1, vs1, el1, k2, k3, k4, k5⟩ := r.box i c e
      have hne : mu i ≠ mu id := fun e' => hi (r.inj i id (.inl (by simp [e])) (.inl (by simp [hb])) e')
      exact ⟨k1, vs1, el1, by rw [ho _ hne]; exact k2, k3, k4, fun j hj hj' => (k5 j hj hj').mono le⟩
  · obtain ⟨k1, vs1, el1, k2, k3⟩ := r.tok t n e
    have hne : mu t ≠ mu id := fun e' => by
      have := r.inj t id (.inr (by simp only [Hp.tok_setBox] at e; simp [e])) (.inl (by simp [hb])) e'
      subst this
      have := r.excl t (by simp [hb])
      simp only [Hp.tok_setBox] at e
      rw [this] at e; cases e
    exact ⟨k1, vs1, el1, by rw [ho _ hne]; exact k2, k3⟩

theorem a_store {t : TypeId} {x y : Operand} (ho : o.op = .store t x y) {n : Nat} (hs : ∀ w, (sizeOf t).run P w = .ok n w) {id off : Nat} (hx : ρ x = .ptr id off) {cs : List V} (hb : h.box id = some cs)
    {ds : List V} (hd : (ρ y).cells = ds) (hy : (ρ y).solid = true) (hn : ds.length = n) (hle : off + n ≤ cs.length) {K : V → Hp → Prop} (k : K .junk (h.setBox id (splice cs off ds))) : AStep P G o ρ h K := by
  intro mu nx w a _ r hr K' Q' hK
  have g1 := hr x (by simp [ho, Op.operands]); rw [hx] at g1
  have g2 := hr y (by simp [ho, Op.operands])
  obtain ⟨e1, e2, e3⟩ := rep_cells g2 hy
  rw [hd] at e1 e3
  obtain ⟨k1, vs, el, k2, k3, k4, k5⟩ := r.box id cs hb
  have hxe : a.eval x = .pointer (some ⟨mu id, off, none⟩) := (g1.ptr_inv).2
  have hst := run_storeCells_at P (mu id) off el (a.eval y).cells.toList 0 vs w k2 (by simp; omega) (fun v hv => by
    obtain ⟨j, hj, rfl⟩ := List.getElem_of_mem hv
    simpa using e2 j (by simpa using hj))
  simp only [Nat.add_zero] at hst
  have hrun : (execOp a.eval o).run P w = .ok .skip (w.setRow (mu id) (vs.toList.take off ++ (a.eval y).cells.toList ++ vs.toList.drop (off + (a.eval y).cells.toList.length)).toArray) := by
    have hne : ¬ (a.eval y).cells.size ≠ n := by omega
    simp only [execOp, ho, hxe, Instr.storeAt, Instr.sureAddr, Sem.run_bind, Sem.run_pure, Result.andThen_ok, storeVar, hs, hne, if_false, hst]
  unfold Oper.wp
  rw [hrun]
  have hlen : (vs.toList.take off ++ (a.eval y).cells.toList ++ vs.toList.drop (off + (a.eval y).cells.toList.length)).toArray.size = vs.size := by simp; omega
  have hsp : vs.size = (splice cs off ds).length := by rw [splice_length (by omega)]; exact k3
  obtain ⟨r', ex⟩ := r.setBox hb k2 (w' := w.setRow (mu id) (vs.toList.take off ++ (a.eval y).cells.toList ++ vs.toList.drop (off + (a.eval y).cells.toList.length)).toArray)
    (setRow_heap w _ _ _ _ _ k2) (fun b hb' => setRow_other w _ b _ hb') (by simp) hlen rfl rfl rfl (cs' := splice cs off ds) (by rw [hlen]; exact hsp) (fun j hj => by
      simp only [List.getElem_toArray, List.getElem_append, List.getElem_take, List.getElem_drop, List.length_append, List.length_take, Array.length_toList, Array.getElem_toList] at hj ⊢
      split
      · split
        · exact k4 _ _
        · exact e2 _ _
      · exact k4 _ _) (fun j hj hj' => by
      rw [hlen] at hj
      have hse := splice_eq cs off ds (by omega)
      simp only [hse, List.getElem_toArray, List.getElem_append, List.getElem_take, List.getElem_drop, List.length_append, List.length_take, Array.length_toList, Array.getElem_toList]
      by_cases c1 : j < off
      · have a1 : j < min off vs.size + (a.eval y).cells.size := by omega
        have a2 : j < min off vs.size := by omega
        have a3 : j < min off cs.length + ds.length := by omega
        have a4 : j < min off cs.length := by omega
        simp only [a1, a2, a3, a4, dif_pos]; exact k5 _ _ _
      · by_cases c2 : j < off + ds.length
        · have a1 : j < min off vs.size + (a.eval y).cells.size := by omega
          have a2 : ¬ j < min off vs.size := by omega
          have a3 : j < min off cs.length + ds.length := by omega
          have a4 : ¬ j < min off cs.length := by omega
          simp only [a1, a2, a3, a4, dif_pos, dif_neg, not_false_eq_true]
          have b1 : min off vs.size = off := by omega
          have b2 : min off cs.length = off := by omega
          simp only [b1, b2]
          exact e3 _ _ _
        · have a1 : ¬ j < min off vs.size + (a.eval y).cells.size := by omega
          have a3 : ¬ j < min off cs.length + ds.length := by omega
          simp only [a1, a3, dif_neg, not_false_eq_true]
          have b1 : off + (a.eval y).cells.size + (j - (min off vs.size + (a.eval y).cells.size)) = j := by omega
          have b2 : off + ds.length + (j - (min off cs.length + ds.length)) = j := by omega
          simp only [b1, b2]
          exact k5 _ _ _)
  exact hK undef .junk _ _ _ _ k r' (.junk _) ex
/-- The usual spellings: what is stored is one cell, or a whole structure. -/
theorem a_store1 {t : TypeId} {x y : Operand} {v : V} (ho : o.op = .store t x y) (hs : ∀ w, (sizeOf t).run P w = .ok 1 w) {id off : Nat} (hx : ρ x = .ptr id off) {cs : List V} (hb : h.box id = some cs)
    (hv : ρ y = v) (hc : v.cells = [v]) (hy : v.solid = true) (hle : off + 1 ≤ cs.length) {K : V → Hp → Prop} (k : K .junk (h.setBox id (splice cs off [v]))) : AStep P G o ρ h K := by
  subst hv; exact a_store ho hs hx hb hc hy rfl hle k
theorem a_storeA {t : TypeId} {x y : Operand} {ds : List V} {n : Nat} (ho : o.op = .store t x y) (hs : ∀ w, (sizeOf t).run P w = .ok n w) {id off : Nat} (hx : ρ x = .ptr id off) {cs : List V} (hb : h.box id = some cs)
    (hv : ρ y = .agg ds) (hn : ds.length = n) (hle : off + n ≤ cs.length) {K : V → Hp → Prop} (k : K .junk (h.setBox id (splice cs off ds))) : AStep P G o ρ h K :=
  a_store ho hs hx hb (by rw [hv]; rfl) (by rw [hv]; rfl) hn hle k

end
end Go.AV
