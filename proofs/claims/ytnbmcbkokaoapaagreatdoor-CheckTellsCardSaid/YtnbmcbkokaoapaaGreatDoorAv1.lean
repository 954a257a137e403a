/- The abstract walk, first part: abstract values, how they stand for the model's, and the rules of code. -/
import Derived.WalkKit
namespace Go.AV

/-- How a slice that is held by value may be appended to: not at all; only by taking new memory; or as the one owner of its row. -/
inductive SK where
  | imm
  | full
  | own (t : Nat)

/-- Abstract values. -/
inductive V where
  | bool (b : Bool)
  | int (k : IntKind) (n : Int)
  | str (s : ByteArray)
  | pnil
  | ptr (id off : Nat)
  | iptr (cs : List V)
  | snil
  | sl (k : SK) (n len : Nat) (cs : List V)
  | msl (id off len : Nat)
  | inil
  | iface (t : TypeId) (v : V)
  | fnil
  | func (fn : Fn) (first captured : List V)
  | agg (cs : List V)
  | tup (cs : List V)
  | opt (b : Bool) (v : V)      -- what a guarded operation leaves: v, if b; else nothing
  | junk

structure Env where
  mu : Nat → Nat
  nx : Nat
  imm : Nat → Nat → Value → Prop
  cap : Nat → Nat → Prop

def SK.ok (E : Env) (k : SK) (b off n len cap : Nat) : Prop :=
  match k with
  | .imm => True
  | .full => cap = len
  | .own t => t < E.nx ∧ b = E.mu t ∧ off = 0 ∧ E.cap b (cap * n)

/-- A model's value stands for an abstract one. -/
inductive Rep (E : Env) : Value → V → Prop
  | bool (b : Bool) : Rep E (.bool b) (.bool b)
  | int (k : IntKind) (n : Int) : Rep E (.int k n) (.int k n)
  | str (s : ByteArray) : Rep E (.string s) (.str s)
  | pnil : Rep E (.pointer none) .pnil
  | ptr (id off : Nat) (h : id < E.nx) : Rep E (.pointer (some ⟨E.mu id, off, none⟩)) (.ptr id off)
  | iptr (b off : Nat) (cs : List V) (f : Nat → Value) (h1 : ∀ j, j < cs.length → E.imm b (off + j) (f j))
      (h2 : ∀ j (hj : j < cs.length), Rep E (f j) cs[j]) : Rep E (.pointer (some ⟨b, off, none⟩)) (.iptr cs)
  | snil : Rep E (.slice none 0 0) .snil
  | slnil (n : Nat) : Rep E (.slice none 0 0) (.sl .imm n 0 [])
  | slnilf (n : Nat) : Rep E (.slice none 0 0) (.sl .full n 0 [])
  | sl (k : SK) (b off n len cap : Nat) (cs : List V) (f : Nat → Value) (hl : cs.length = len * n) (hc : len ≤ cap)
      (hk : k.ok E b off n len cap) (h1 : ∀ j, j < cs.length → E.imm b (off + j) (f j))
      (h2 : ∀ j (hj : j < cs.length), Rep E (f j) cs[j]) : Rep E (.slice (some ⟨b, off, none⟩) len cap) (.sl k n len cs)
  | msl (id off len cap : Nat) (h : id < E.nx) (hc : len ≤ cap) (hk : E.cap (E.mu id) (off + cap)) (h63 : cap ≤ 9223372036854775807) : Rep E (.slice (some ⟨E.mu id, off, none⟩) len cap) (.msl id off len)
  | inil : Rep E .nilIface .inil
  | iface (t : TypeId) (v : Value) (a : V) (h : Rep E v a) : Rep E (.iface t v) (.iface t a)
  | fnil : Rep E .nilFunc .fnil
  | func (fn : Fn) (fs cs : Array Value) (as bs : List V) (e1 : fs.size = as.length) (e2 : cs.size = bs.length)
      (h1 : ∀ j (h : j < fs.size) (h' : j < as.length), Rep E fs[j] as[j])
      (h2 : ∀ j (h : j < cs.size) (h' : j < bs.length), Rep E cs[j] bs[j]) : Rep E (.func fn fs cs) (.func fn as bs)
  | agg (vs : Array Value) (cs : List V) (e : vs.size = cs.length) (h1 : ∀ j (h : j < vs.size), vs[j].oneCell' = true)
      (h2 : ∀ j (h : j < vs.size) (h' : j < cs.length), Rep E vs[j] cs[j]) : Rep E (.agg vs) (.agg cs)
  | tup (vs : Array Value) (cs : List V) (e : vs.size = cs.length)
      (h2 : ∀ j (h : j < vs.size) (h' : j < cs.length), Rep E vs[j] cs[j]) : Rep E (.tuple vs) (.tup cs)
  | optT (v : Value) (x : V) (h : Rep E v x) : Rep E v (.opt true x)
  | optF (x : V) : Rep E undef (.opt false x)
  | junk (v : Value) : Rep E v .junk

structure Env.le (E E' : Env) : Prop where
  nx : E.nx ≤ E'.nx
  mu : ∀ i, i < E.nx → E'.mu i = E.mu i
  imm : ∀ b i v, E.imm b i v → E'.imm b i v
  cap : ∀ b n, E.cap b n → E'.cap b n

theorem Env.le.refl (E : Env) : E.le E := ⟨Nat.le_refl _, fun _ _ => rfl, fun _ _ _ h => h, fun _ _ h => h⟩
theorem Env.le.trans {a b c : Env} (h : a.le b) (k : b.le c) : a.le c :=
  ⟨Nat.le_trans h.nx k.nx, fun i hi => (k.mu i (Nat.lt_of_lt_of_le hi h.nx)).trans (h.mu i hi), fun x y z g => k.imm x y z (h.imm x y z g), fun x y g => k.cap x y (h.cap x y g)⟩

theorem SK.ok.mono {E E' : Env} (he : E.le E') {k : SK} {b off n len cap : Nat} (h : k.ok E b off n len cap) : k.ok E' b off n len cap := by
  cases k with
  | imm => trivial
  | full => exact h
  | own t =>
    obtain ⟨h1, h2, h3, h4⟩ := h
    exact ⟨Nat.lt_of_lt_of_le h1 he.nx, by rw [he.mu t h1]; exact h2, h3, he.cap _ _ h4⟩

theorem Rep.mono {E E' : Env} (he : E.le E') {v : Value} {a : V} (h : Rep E v a) : Rep E' v a := by
  induction h with
  | bool b => exact .bool b
  | int k n => exact .int k n
  | str s => exact .str s
  | pnil => exact .pnil
  | ptr id off h => rw [← he.mu id h]; exact .ptr id off (Nat.lt_of_lt_of_le h he.nx)
  | iptr b off cs f h1 h2 ih => exact .iptr b off cs f (fun j hj => he.imm _ _ _ (h1 j hj)) ih
  | snil => exact .snil
  | slnil n => exact .slnil n
  | slnilf n => exact .slnilf n
  | sl k b off n len cap cs f hl hc hk h1 h2 ih => exact .sl k b off n len cap cs f hl hc (hk.mono he) (fun j hj => he.imm _ _ _ (h1 j hj)) ih
  | msl id off len cap h hc hk h63 => rw [← he.mu id h]; exact .msl id off len cap (Nat.lt_of_lt_of_le h he.nx) hc (by rw [he.mu id h]; exact he.cap _ _ hk) h63
  | inil => exact .inil
  | iface t v a h ih => exact .iface t v a ih
  | fnil => exact .fnil
  | func fn fs cs as bs e1 e2 h1 h2 ih1 ih2 => exact .func fn fs cs as bs e1 e2 ih1 ih2
  | agg vs cs e h1 h2 ih => exact .agg vs cs e h1 ih
  | tup vs cs e h2 ih => exact .tup vs cs e ih
  | optT v x h ih => exact .optT v x ih
  | optF x => exact .optF x
  | junk v => exact .junk v

/-- The abstract memory: boxes (cells that may be written) and the rows that are appended to. -/
structure Hp where
  box : Nat → Option (List V)
  tok : Nat → Option Nat

def Hp.alive (h : Hp) (i : Nat) : Prop := h.box i ≠ none ∨ h.tok i ≠ none

structure Prot (mu : Nat → Nat) (h : Hp) (w : World) (b i : Nat) : Prop where
  lt : b < w.heap.size
  box : ∀ id, h.box id ≠ none → mu id ≠ b
  tok : ∀ t n, h.tok t = some n → mu t = b → i < n

def env (mu : Nat → Nat) (nx : Nat) (h : Hp) (w : World) : Env where
  mu := mu
  nx := nx
  imm := fun b i v => Prot mu h w b i ∧ w.cell? ⟨b, i, none⟩ = some v ∧ v.oneCell' = true
  cap := fun b n => ∃ cs el fr, w.heap[b]? = some (.cells cs el fr) ∧ n ≤ cs.size

/-- The world is as the abstract memory says. 'G': what the named package-level variables hold. -/
structure Rel (G : Nat → Option (List V)) (mu : Nat → Nat) (nx : Nat) (h : Hp) (w : World) : Prop where
  box : ∀ id cs, h.box id = some cs → id < nx ∧ ∃ vs el, w.heap[mu id]? = some (.cells vs el (0, 0)) ∧ vs.size = cs.length ∧
    (∀ j (_ : j < vs.size), vs[j].oneCell' = true) ∧ ∀ j (_ : j < vs.size) (_ : j < cs.length), Rep (env mu nx h w) vs[j] cs[j]
  tok : ∀ t n, h.tok t = some n → t < nx ∧ ∃ vs el, w.heap[mu t]? = some (.cells vs el (0, 0)) ∧ n ≤ vs.size
  inj : ∀ i j, h.alive i → h.alive j → mu i = mu j → i = j
  excl : ∀ i, h.box i ≠ none → h.tok i = none
  glob : ∀ g cs, G g = some cs → Rep (env mu nx h w) (.pointer (some ⟨g, 0, none⟩)) (.iptr cs)

/-- What a step may have done to the world. -/
structure Ext (mu : Nat → Nat) (nx : Nat) (h : Hp) (w : World) (mu' : Nat → Nat) (nx' : Nat) (h' : Hp) (w' : World) : Prop where
  le : (env mu nx h w).le (env mu' nx' h' w')
  os : w'.os = w.os
  tape : w'.tape = w.tape
  output : w'.output = w.output
  size : w.heap.size ≤ w'.heap.size
  block : ∀ b, b < w.heap.size → (∀ id, h.alive id → mu id ≠ b) → w'.heap[b]? = w.heap[b]?
  src : ∀ id, h'.alive id → w.heap.size ≤ mu' id ∨ ∃ i, h.alive i ∧ mu i = mu' id

theorem Ext.refl (mu : Nat → Nat) (nx : Nat) (h : Hp) (w : World) : Ext mu nx h w mu nx h w :=
  ⟨.refl _, rfl, rfl, rfl, Nat.le_refl _, fun _ _ _ => rfl, fun id hid => .inr ⟨id, hid, rfl⟩⟩

theorem Ext.trans {mu nx h w mu1 nx1 h1 w1 mu2 nx2 h2 w2} (a : Ext mu nx h w mu1 nx1 h1 w1) (b : Ext mu1 nx1 h1 w1 mu2 nx2 h2 w2) : Ext mu nx h w mu2 nx2 h2 w2 where
  le := a.le.trans b.le
  os := b.os.trans a.os
  tape := b.tape.trans a.tape
  output := b.output.trans a.output
  size := Nat.le_trans a.size b.size
  block := fun k hk hn => by
    refine (b.block k (Nat.lt_of_lt_of_le hk a.size) fun id hid he => ?_).trans (a.block k hk hn)
    rcases a.src id hid with h1 | ⟨i, hi, h1⟩
    · omega
    · exact hn i hi (h1.trans he)
  src := fun id hid => by
    rcases b.src id hid with h1 | ⟨i, hi, h1⟩
    · exact .inl (Nat.le_trans a.size h1)
    · rcases a.src i hi with h2 | ⟨j, hj, h2⟩
      · exact .inl (by omega)
      · exact .inr ⟨j, hj, h2.trans h1⟩

/-- Temporaries. -/
abbrev Tm := Nat → V
def put (T : Tm) (d : Nat) (v : V) : Tm := fun i => bif Nat.beq i d then v else T i
def T0 : Tm := fun _ => .junk
def putO (T : Tm) (d : Option Nat) (v : V) : Tm := match d with | some d => put T d v | none => T
def putL (T : Tm) : Nat → List V → Tm
  | _, [] => T
  | k, v :: vs => putL (put T k v) (k + 1) vs

theorem put_same (T : Tm) (d : Nat) (v : V) : put T d v d = v := by simp [put]
theorem put_ne (T : Tm) {d i : Nat} (v : V) (h : i ≠ d) : put T d v i = T i := by
  have : Nat.beq i d = false := by
    cases e : Nat.beq i d with
    | false => rfl
    | true => exact absurd (Nat.eq_of_beq_eq_true e) h
  simp [put, this]

def cv1 : Value → V
  | .bool b => .bool b
  | .int k n => .int k n
  | .string s => .str s
  | .pointer none => .pnil
  | .slice none 0 0 => .snil
  | .nilIface => .inil
  | .nilFunc => .fnil
  | .func fn fs cs => if fs.size = 0 ∧ cs.size = 0 then .func fn [] [] else .junk
  | _ => .junk
def cv : Value → V
  | .agg cs => bif cs.toList.all Value.oneCell' then .agg (cs.toList.map cv1) else .junk
  | v => cv1 v

def ev (G : Nat → Option (List V)) (T : Tm) : Operand → V
  | .tmp t => T t
  | .const v => cv v
  | .global g => match G g with | some cs => .iptr cs | none => .junk
  | .func f => .func (.func f) [] []

theorem rep_cv1 (E : Env) (v : Value) : Rep E v (cv1 v) := by
  unfold cv1
  split
  · exact .bool _
  · exact .int _ _
  · exact .str _
  · exact .pnil
  · exact .snil
  · exact .inil
  · exact .fnil
  · split
    · rename_i fn fs cs h
      exact .func fn fs cs [] [] (by simp [h.1]) (by simp [h.2]) (fun j hj => by omega) (fun j hj => by omega)
    · exact .junk _
  · exact .junk _

theorem rep_cv (E : Env) (v : Value) : Rep E v (cv v) := by
  unfold cv
  split
  · rename_i cs
    cases hq : cs.toList.all Value.oneCell' with
    | false => exact .junk _
    | true =>
      refine .agg _ _ (by simp) (fun j hj => ?_) (fun j hj hj' => ?_)
      · exact (List.all_eq_true.1 hq) _ (by simp)
      · simpa using rep_cv1 E _
  · exact rep_cv1 E v

structure St (G : Nat → Option (List V)) (N : Nat) (mu : Nat → Nat) (nx : Nat) (h : Hp) (w : World) (a : Act) (T : Tm) : Prop where
  rel : Rel G mu nx h w
  defers : a.defers = []
  size : a.tmps.size = N
  tmps : ∀ i, Rep (env mu nx h w) (a.tmps.getD i undef) (T i)

theorem St.ev {G N mu nx h w a T} (s : St G N mu nx h w a T) (x : Operand) : Rep (env mu nx h w) (a.eval x) (ev G T x) := by
  cases x with
  | tmp t => exact s.tmps t
  | const v => exact rep_cv _ v
  | global g =>
    simp only [AV.ev, Act.eval]
    cases hg : G g with
    | none => exact .junk _
    | some cs => exact s.rel.glob g cs hg
  | func f => exact .func _ _ _ [] [] rfl rfl (fun j hj => by simp at hj) (fun j hj => by simp at hj)

theorem St.put {G N mu nx h w a T mu' nx' h' w'} (s : St G N mu nx h w a T) (he : Ext mu nx h w mu' nx' h' w') (r : Rel G mu' nx' h' w')
    {d : Option Nat} (hd : ∀ t, d = some t → t < N) {v : Value} {x : V} (hv : Rep (env mu' nx' h' w') v x) : St G N mu' nx' h' w' (a.put d v) (putO T d x) := by
  cases d with
  | none => exact ⟨r, s.defers, s.size, fun i => (s.tmps i).mono he.le⟩
  | some d =>
    have hlt := hd d rfl
    refine ⟨r, s.defers, by simp [Act.put, s.size], fun i => ?_⟩
    simp only [Act.put, putO]
    by_cases hi : i = d
    · subst hi
      rw [put_same]
      have : (a.tmps.setIfInBounds i v).getD i undef = v := by simp [Array.getD_eq_getD_getElem?, s.size, hlt]
      rw [this]; exact hv
    · rw [put_ne _ _ hi]
      have : (a.tmps.setIfInBounds d v).getD i undef = a.tmps.getD i undef := by
        simp only [Array.getD_eq_getD_getElem?, Array.getElem?_setIfInBounds_ne (Ne.symm hi)]
      rw [this]; exact (s.tmps i).mono he.le

abbrev Post := Exit → Tm → Hp → Prop
def lift (G : Nat → Option (List V)) (N : Nat) (Q : Post) (mu : Nat → Nat) (nx : Nat) (h : Hp) (w : World) : Exit → Act → World → Prop :=
  fun e a' w' => ∃ mu' nx' h' T', Q e T' h' ∧ St G N mu' nx' h' w' a' T' ∧ Ext mu nx h w mu' nx' h' w'

/-- THE ABSTRACT WALK OF A CODE. -/
def AW (P : Program) (G : Nat → Option (List V)) (N : Nat) (c : Code) (Q : Post) (T : Tm) (h : Hp) : Prop :=
  ∀ mu nx w a, St G N mu nx h w a T → c.wp P (lift G N Q mu nx h w) a w

def AOps (P : Program) (G : Nat → Option (List V)) (N : Nat) (ops : Array Oper) (Q : Post) (l : List Oper) (T : Tm) (h : Hp) : Prop :=
  ∀ mu nx w a, St G N mu nx h w a T → ∀ Q' : Exit → Act → World → Prop, (∀ e a' w', lift G N Q mu nx h w e a' w' → Q' e a' w') → wpList P ops Q' l a w

/-- A call, abstractly. -/
def ACalls (P : Program) (G : Nat → Option (List V)) (f : FuncId) (args : List V) (h : Hp) (R : V → Hp → Prop) : Prop :=
  ∀ mu nx w (vs : Array Value), Rel G mu nx h w → (∀ j, Rep (env mu nx h w) (vs.getD j undef) (args.getD j .junk)) → vs.size = args.length →
    Calls P f vs w fun e w' => ∃ v r mu' nx' h', e = .returned v ∧ R r h' ∧ Rel G mu' nx' h' w' ∧ Rep (env mu' nx' h' w') v r ∧ Ext mu nx h w mu' nx' h' w'

section rules
variable {P : Program} {G : Nat → Option (List V)} {N : Nat} {Q : Post} {T : Tm} {h : Hp}

theorem AW.mono {c : Code} {Q' : Post} (k : AW P G N c Q T h) (hq : ∀ e T h, Q e T h → Q' e T h) : AW P G N c Q' T h :=
  fun mu nx w a s => wp_mono (k mu nx w a s) fun _ _ _ ⟨mu', nx', h', T', q, s', e⟩ => ⟨mu', nx', h', T', hq _ _ _ q, s', e⟩

theorem ACalls.mono {f : FuncId} {args : List V} {R R' : V → Hp → Prop} (k : ACalls P G f args h R) (hr : ∀ r h, R r h → R' r h) : ACalls P G f args h R' :=
  fun mu nx w vs r ha hs => (k mu nx w vs r ha hs).mono fun _ _ ⟨v, x, mu', nx', h', e1, e2, e3⟩ => ⟨v, x, mu', nx', h', e1, hr _ _ e2, e3⟩

def thenQ (P : Program) (G : Nat → Option (List V)) (N : Nat) (c : Code) (Q : Post) : Post
  | .normal, T, h => AW P G N c Q T h
  | e, T, h => Q e T h
def blockQ (id : Nat) (Q : Post) : Post
  | .exit j, T, h => if j = id then Q .normal T h else Q (.exit j) T h
  | e, T, h => Q e T h

theorem lift_trans {Q : Post} {mu nx h w mu1 nx1 h1 w1 e a' w'} (x : Ext mu nx h w mu1 nx1 h1 w1) (q : lift G N Q mu1 nx1 h1 w1 e a' w') : lift G N Q mu nx h w e a' w' :=
  let ⟨mu', nx', h', T', q', s', e'⟩ := q; ⟨mu', nx', h', T', q', s', x.trans e'⟩

theorem AW.seq {x y : Code} (k : AW P G N x (thenQ P G N y Q) T h) : AW P G N (.seq x y) Q T h := fun mu nx w a s =>
  wp_seq (wp_mono (k mu nx w a s) fun e a' w' ⟨mu', nx', h', T', q, s', x⟩ => by
    cases e with
    | normal => exact wp_mono (q mu' nx' w' a' s') fun _ _ _ q => lift_trans x q
    | _ => exact ⟨mu', nx', h', T', q, s', x⟩)

theorem AW.skip (k : Q .normal T h) : AW P G N .skip Q T h := fun mu nx _ _ s => wp_skip ⟨mu, nx, h, T, k, s, .refl _ _ _ _⟩
theorem AW.label {l : Nat} (k : Q .normal T h) : AW P G N (.label l) Q T h := fun mu nx _ _ s => wp_label ⟨mu, nx, h, T, k, s, .refl _ _ _ _⟩
theorem AW.exit {id : Nat} (k : Q (.exit id) T h) : AW P G N (.exit id) Q T h := fun mu nx _ _ s => wp_exit ⟨mu, nx, h, T, k, s, .refl _ _ _ _⟩
theorem AW.ret (k : Q .ret T h) : AW P G N .ret Q T h := fun mu nx _ _ s => wp_ret ⟨mu, nx, h, T, k, s, .refl _ _ _ _⟩

theorem AW.block {id : Nat} {c : Code} (k : AW P G N c (blockQ id Q) T h) : AW P G N (.block id c) Q T h := fun mu nx w a s =>
  wp_block (wp_mono (k mu nx w a s) fun e a' w' ⟨mu', nx', h', T', q, s', x⟩ => by
    cases e with
    | exit j =>
      simp only [Exit.inBlock, blockQ] at *
      by_cases hj : j = id
      · rw [if_pos hj] at q ⊢; exact ⟨mu', nx', h', T', q, s', x⟩
      · rw [if_neg hj] at q ⊢; exact ⟨mu', nx', h', T', q, s', x⟩
    | _ => exact ⟨mu', nx', h', T', q, s', x⟩)

theorem Rep.bool_inv {E : Env} {v : Value} {b : Bool} (h : Rep E v (.bool b)) : v = .bool b := by cases h; rfl
theorem Rep.func_inv {E : Env} {v : Value} {fn : Fn} {as bs : List V} (h : Rep E v (.func fn as bs)) :
    ∃ fs cs, v = .func fn fs cs ∧ fs.size = as.length ∧ cs.size = bs.length ∧ (∀ j (_ : j < fs.size) (_ : j < as.length), Rep E fs[j] as[j]) ∧ ∀ j (_ : j < cs.size) (_ : j < bs.length), Rep E cs[j] bs[j] := by
  cases h with | func fn fs cs as bs e1 e2 h1 h2 => exact ⟨fs, cs, rfl, e1, e2, h1, h2⟩
theorem Rep.int_inv {E : Env} {v : Value} {k : IntKind} {n : Int} (h : Rep E v (.int k n)) : v = .int k n := by cases h; rfl

theorem AW.cond {c : Operand} {x y : Code} {b : Bool} (hc : ev G T c = .bool b) (ht : b = true → AW P G N x Q T h) (hf : b = false → AW P G N y Q T h) : AW P G N (.cond c x y) Q T h :=
  fun mu nx w a s => wp_cond_split (Rep.bool_inv (hc ▸ s.ev c)) (fun hb => ht hb mu nx w a s) (fun hb => hf hb mu nx w a s)

/-- WHAT IS KNOWN MAY BE FORGOTTEN: abstract values that say less. -/
def VLe (x y : V) : Prop := ∀ E v, Rep E v x → Rep E v y
theorem VLe.refl (x : V) : VLe x x := fun _ _ h => h
theorem VLe.of_eq {x y : V} (h : x = y) : VLe x y := h ▸ VLe.refl _
theorem VLe.trans {x y z : V} (a : VLe x y) (b : VLe y z) : VLe x z := fun E v h => b E v (a E v h)
theorem VLe.junk (x : V) : VLe x .junk := fun _ v _ => .junk v
def TLe (T T' : Tm) : Prop := ∀ i, VLe (T i) (T' i)
theorem TLe.refl (T : Tm) : TLe T T := fun _ => .refl _
theorem TLe.zero (T : Tm) : TLe T T0 := fun _ => .junk _
theorem TLe.put {T T' : Tm} {d : Nat} {v : V} (h : VLe (T d) v) (k : TLe T T') : TLe T (put T' d v) := fun i => by
  by_cases hi : i = d
  · subst hi; rw [put_same]; exact h
  · rw [put_ne _ _ hi]; exact k i

/-- An abstract memory that says less. -/
structure HLe (h h' : Hp) : Prop where
  box : ∀ i cs, h'.box i = some cs → h.box i = some cs
  tok : ∀ i n, h'.tok i = some n → h.tok i = some n
theorem HLe.refl (h : Hp) : HLe h h := ⟨fun _ _ h => h, fun _ _ h => h⟩
theorem HLe.trans {a b c : Hp} (x : HLe a b) (y : HLe b c) : HLe a c := ⟨fun i cs h => x.box i cs (y.box i cs h), fun i n h => x.tok i n (y.tok i n h)⟩
theorem HLe.alive {h h' : Hp} (k : HLe h h') {i : Nat} (a : h'.alive i) : h.alive i := by
  rcases a with a | a
  · cases e : h'.box i with
    | none => exact absurd e a
    | some cs => exact .inl (by rw [k.box i cs e]; simp)
  · cases e : h'.tok i with
    | none => exact absurd e a
    | some cs => exact .inr (by rw [k.tok i cs e]; simp)
theorem HLe.env {h h' : Hp} (k : HLe h h') (mu : Nat → Nat) (nx : Nat) (w : World) : (env mu nx h w).le (env mu nx h' w) where
  nx := Nat.le_refl _
  mu := fun _ _ => rfl
  imm := fun b i v ⟨⟨p1, p2, p3⟩, q⟩ => ⟨⟨p1, fun id hid => p2 id (by
      cases e : h'.box id with
      | none => exact absurd e hid
      | some cs => rw [k.box id cs e]; simp), fun t n e => p3 t n (k.tok t n e)⟩, q⟩
  cap := fun _ _ h => h
theorem HLe.rel {h h' : Hp} (k : HLe h h') {G : Nat → Option (List V)} {mu : Nat → Nat} {nx : Nat} {w : World} (r : Rel G mu nx h w) : Rel G mu nx h' w where
  box := fun id cs e => by
    obtain ⟨h1, vs, el, h2, h3, h4, h5⟩ := r.box id cs (k.box id cs e)
    exact ⟨h1, vs, el, h2, h3, h4, fun j hj hj' => (h5 j hj hj').mono (k.env mu nx w)⟩
  tok := fun t n e => r.tok t n (k.tok t n e)
  inj := fun i j a b => r.inj i j (k.alive a) (k.alive b)
  excl := fun i hi => by
    cases e : h'.box i with
    | none => exact absurd e hi
    | some cs =>
      cases e2 : h'.tok i with
      | none => rfl
      | some n =>
        have := r.excl i (by rw [k.box i cs e]; simp)
        rw [k.tok i n e2] at this; cases this
  glob := fun g cs e => (r.glob g cs e).mono (k.env mu nx w)
theorem HLe.ext {h h' : Hp} (k : HLe h h') {mu : Nat → Nat} {nx : Nat} {w : World} : Ext mu nx h w mu nx h' w where
  le := k.env mu nx w
  os := rfl
  tape := rfl
  output := rfl
  size := Nat.le_refl _
  block := fun _ _ _ => rfl
  src := fun id hid => .inr ⟨id, k.alive hid, rfl⟩

theorem St.weaken {mu nx w a T' h'} (s : St G N mu nx h w a T) (ht : TLe T T') (hh : HLe h h') : St G N mu nx h' w a T' :=
  ⟨hh.rel s.rel, s.defers, s.size, fun i => ((ht i) _ _ (s.tmps i)).mono (hh.env mu nx w)⟩

/-- A post that may be met by what says more. -/
def Wk (I : Tm → Hp → Prop) : Tm → Hp → Prop := fun T h => ∃ T' h', TLe T T' ∧ HLe h h' ∧ I T' h'
theorem Wk.mk {I : Tm → Hp → Prop} {T T' : Tm} {h h' : Hp} (a : TLe T T') (b : HLe h h') (c : I T' h') : Wk I T h := ⟨T', h', a, b, c⟩

theorem AW.weaken {c : Code} {T' : Tm} {h' : Hp} (k : AW P G N c Q T' h') (ht : TLe T T') (hh : HLe h h') : AW P G N c Q T h :=
  fun mu nx w a s => wp_mono (k mu nx w a (s.weaken ht hh)) fun _ _ _ q => lift_trans hh.ext q

def loopQ (I : Nat → Tm → Hp → Prop) (n : Nat) (Q : Post) : Post
  | .normal, T, h => Wk (fun T h => ∃ m, m < n ∧ I m T h) T h
  | e, T, h => Q e T h

/-- A LOOP. 'I n': what holds at its head, n the measure. -/
theorem AW.loop {c : Code} (I : Nat → Tm → Hp → Prop) (n : Nat) (h0 : Wk (I n) T h) (round : ∀ n T h, I n T h → AW P G N c (loopQ I n Q) T h) : AW P G N (.loop c) Q T h := by
  intro mu nx w a s
  obtain ⟨T', h', ht, hh, hI⟩ := h0
  have s0 := s.weaken ht hh
  refine wp_mono (Q := lift G N Q mu nx h' w) ?_ fun _ _ _ q => lift_trans hh.ext q
  clear ht hh s
  -- by induction on the measure, over all states
  suffices H : ∀ n mu1 nx1 h1 w1 a1 T1, I n T1 h1 → St G N mu1 nx1 h1 w1 a1 T1 → Ext mu nx h' w mu1 nx1 h1 w1 → (Code.loop c).wp P (lift G N Q mu nx h' w) a1 w1 from
    H n mu nx h' w a T' hI s0 (.refl _ _ _ _)
  intro n0 mu0 nx0 h0 w0 a0 T0 hI0 s0' x0
  -- the loop rule of the kit, its measure found by choice
  let J : Act → World → Nat → Prop := fun a' w' m => ∃ mu1 nx1 h1 T1, I m T1 h1 ∧ St G N mu1 nx1 h1 w' a' T1 ∧ Ext mu nx h' w mu1 nx1 h1 w'
  have key : ∀ m a' w', J a' w' m → ∀ (b : Frame) (k : List Item) (cs : List Frame),
      ∃ e a2 w2, lift G N Q mu nx h' w e a2 w2 ∧ Arrives P (lone (b.at a' (.code c :: .inLoop c :: k)) cs w') b k cs e a2 w2 := by
    intro m
    induction m using Nat.strongRecOn with
    | _ m ih =>
      rintro a' w' ⟨mu1, nx1, h1, T1, hi, s1, x1⟩ b k cs
      obtain ⟨e, a₁, w₁, hq, harr⟩ := round m T1 h1 hi mu1 nx1 w' a' s1 b (.inLoop c :: k) cs
      obtain ⟨mu2, nx2, h2, T2, q, s2, x2⟩ := hq
      cases e with
      | normal =>
        obtain ⟨T3, h3, ht, hh, m', hlt, hi'⟩ := q
        obtain ⟨e₂, a₂, w₂, hq₂, harr₂⟩ := ih m' hlt a₁ w₁ ⟨mu2, nx2, h3, T3, hi', s2.weaken ht hh, (x1.trans x2).trans hh.ext⟩ b k cs
        exact ⟨e₂, a₂, w₂, hq₂, .of_steps (Steps.trans harr (.one step_inLoop)) harr₂⟩
      | exit id => exact ⟨_, a₁, w₁, ⟨mu2, nx2, h2, T2, q, s2, x1.trans x2⟩, .pass (x := .inLoop c) rfl (fun _ _ => .inl (by simp)) harr⟩
      | goto l => exact ⟨_, a₁, w₁, ⟨mu2, nx2, h2, T2, q, s2, x1.trans x2⟩, .pass (x := .inLoop c) rfl (fun _ _ => .inl (by simp)) harr⟩
      | ret => exact ⟨_, a₁, w₁, ⟨mu2, nx2, h2, T2, q, s2, x1.trans x2⟩, .pass (x := .inLoop c) rfl (fun _ _ => .inl (by simp)) harr⟩
      | panic ch => exact ⟨_, a₁, w₁, ⟨mu2, nx2, h2, T2, q, s2, x1.trans x2⟩, .pass (x := .inLoop c) rfl (fun _ _ => .inl (by simp)) harr⟩
      | outgrown => exact ⟨_, a₁, w₁, ⟨mu2, nx2, h2, T2, q, s2, x1.trans x2⟩, .pass (x := .inLoop c) rfl (fun _ _ => .inl (by simp)) harr⟩
  intro b k cs
  obtain ⟨e, a', w', hq, harr⟩ := key n0 a0 w0 ⟨mu0, nx0, h0, T0, hI0, s0', x0⟩ b k cs
  exact ⟨e, a', w', hq, .of_steps (.one step_loop) harr⟩

/-- A cut: two codes, one behind the other, with what is known between them. -/
theorem AW.cut {x y : Code} (M : Tm → Hp → Prop) (k : AW P G N x (fun e T h => match e with | .normal => Wk M T h | e => Q e T h) T h)
    (k2 : ∀ T h, M T h → AW P G N y Q T h) : AW P G N (.seq x y) Q T h :=
  .seq (k.mono fun e T h q => by
    cases e with
    | normal => obtain ⟨T', h', ht, hh, m⟩ := q; exact (k2 T' h' m).weaken ht hh
    | _ => exact q)

/-! ### Regions -/
theorem AW.region {id : Nat} {l : List Oper} (k : AOps P G N l.toArray Q l T h) : AW P G N (.region id l.toArray false) Q T h :=
  fun mu nx w a s => wp_region_lit (k mu nx w a s _ fun _ _ _ q => q)
theorem AOps.nil {ops : Array Oper} (k : Q .normal T h) : AOps P G N ops Q [] T h := fun mu nx _ _ s _ hQ => wpList_nil (hQ _ _ _ ⟨mu, nx, h, T, k, s, .refl _ _ _ _⟩)

/-- What an operation does, told by what follows: from whatever stands for its operands it comes to something of which 'K' is known. It looks at its operands, and at the memory, and at nothing else. -/
def AStep (P : Program) (G : Nat → Option (List V)) (o : Oper) (ρ : Operand → V) (h : Hp) (K : V → Hp → Prop) : Prop :=
  ∀ mu nx w (a : Act), a.defers = [] → Rel G mu nx h w → (∀ y ∈ o.op.operands, Rep (env mu nx h w) (a.eval y) (ρ y)) → ∀ (K' : Act → World → Prop) (Q' : Exit → Act → World → Prop),
    (∀ v x mu' nx' h' w', K x h' → Rel G mu' nx' h' w' → Rep (env mu' nx' h' w') v x → Ext mu nx h w mu' nx' h' w' → K' (a.put o.dst v) w') → o.wp P a w K' Q'

/-- A quiet operation: it yields what stands for 'x', and leaves the abstract memory alone; in every larger memory, too. -/
def QOp (P : Program) (G : Nat → Option (List V)) (h : Hp) (o : Oper) (ρ : Operand → V) (x : V) : Prop :=
  ∀ h', HLe h' h → AStep P G o ρ h' fun y h'' => y = x ∧ h'' = h'

/-- The usual kind: one value, the world as it was. -/
theorem QOp.of_run {o : Oper} {ρ : Operand → V} {x : V}
    (k : ∀ h', HLe h' h → ∀ mu nx w (a : Act), Rel G mu nx h' w → (∀ y ∈ o.op.operands, Rep (env mu nx h' w) (a.eval y) (ρ y)) → ∃ v, (execOp a.eval o).run P w = .ok (.value v) w ∧ Rep (env mu nx h' w) v x) :
    QOp P G h o ρ x := fun h' hl mu nx w a _ r hr K Q' hK => by
  obtain ⟨v, h1, h2⟩ := k h' hl mu nx w a r hr
  unfold Oper.wp
  rw [h1]
  exact hK v x mu nx h' w ⟨rfl, rfl⟩ r h2 (.refl _ _ _ _)

theorem AStep.mono {o : Oper} {ρ : Operand → V} {K K' : V → Hp → Prop} (k : AStep P G o ρ h K) (hk : ∀ x h, K x h → K' x h) : AStep P G o ρ h K' :=
  fun mu nx w a hd r hr K1 Q' hK => k mu nx w a hd r hr K1 Q' fun v x mu' nx' h' w' q => hK v x mu' nx' h' w' (hk _ _ q)
theorem AStep.congr {o : Oper} {ρ ρ' : Operand → V} {K : V → Hp → Prop} (k : AStep P G o ρ h K) (he : ∀ y ∈ o.op.operands, ρ' y = ρ y) : AStep P G o ρ' h K :=
  fun mu nx w a hd r hr => k mu nx w a hd r fun y hy => he y hy ▸ hr y hy

theorem dst_spec {N d : Nat} (h : Nat.blt d N = true) : ∀ t, some d = some t → t < N := fun t ht => by
  cases ht
  exact Nat.blt_eq.mp h

theorem AOps.s {ops : Array Oper} {o : Oper} {rest : List Oper} {d : Nat} (hg : o.guard = none) (hdst : o.dst = some d) (hd : Nat.blt d N = true)
    (k : AStep P G o (ev G T) h fun x h' => AOps P G N ops Q rest (put T d x) h') : AOps P G N ops Q (o :: rest) T h := fun mu nx w a s Q' hQ =>
  wpList_plain hg fun K hK => k mu nx w a s.defers s.rel (fun y _ => s.ev y) K _ fun v x mu' nx' h' w' kk r hv e => by
    have st := s.put e r (d := o.dst) (by rw [hdst]; exact dst_spec hd) hv
    rw [hdst] at st ⊢
    exact hK _ _ (kk mu' nx' w' _ st Q' fun _ _ _ q => hQ _ _ _ (lift_trans e q))
theorem AOps.s0 {ops : Array Oper} {o : Oper} {rest : List Oper} (hg : o.guard = none) (hdst : o.dst = none)
    (k : AStep P G o (ev G T) h fun _ h' => AOps P G N ops Q rest T h') : AOps P G N ops Q (o :: rest) T h := fun mu nx w a s Q' hQ =>
  wpList_plain hg fun K hK => k mu nx w a s.defers s.rel (fun y _ => s.ev y) K _ fun v x mu' nx' h' w' kk r hv e => by
    have st := s.put e r (d := o.dst) (by rw [hdst]; exact fun t ht => by cases ht) hv
    rw [hdst] at st ⊢
    exact hK _ _ (kk mu' nx' w' _ st Q' fun _ _ _ q => hQ _ _ _ (lift_trans e q))
theorem AOps.q {ops : Array Oper} {o : Oper} {rest : List Oper} {x : V} {d : Nat} (hg : o.guard = none) (hdst : o.dst = some d) (hd : Nat.blt d N = true) (hq : QOp P G h o (ev G T) x)
    (k : AOps P G N ops Q rest (put T d x) h) : AOps P G N ops Q (o :: rest) T h :=
  .s hg hdst hd ((hq h (.refl h)).mono fun y h' ⟨e1, e2⟩ => by subst e1; subst e2; exact k)

/-! ### Guards -/
theorem VLe.opt {b : Bool} {v : V} (h : b = true) : VLe (.opt b v) v := fun E u hu => by
  subst h
  cases hu with
  | optT v x h => exact h
theorem ev_le {T T' : Tm} (ht : TLe T T') (y : Operand) : VLe (ev G T y) (ev G T' y) := by
  cases y with
  | tmp t => exact ht t
  | _ => exact .refl _
theorem AStep.le {o : Oper} {ρ ρ' : Operand → V} {K : V → Hp → Prop} (hl : ∀ y, VLe (ρ y) (ρ' y)) (k : AStep P G o ρ' h K) : AStep P G o ρ h K :=
  fun mu nx w a hd r hr => k mu nx w a hd r fun y hy => hl y _ _ (hr y hy)
theorem QOp.le {o : Oper} {ρ ρ' : Operand → V} {x : V} (hl : ∀ y, VLe (ρ y) (ρ' y)) (k : QOp P G h o ρ' x) : QOp P G h o ρ x := fun h' l => (k h' l).le hl

/-- What a guard says, by the value that it looks at. -/
def gcond (v : V) (want : Bool) : Option Bool :=
  match v with
  | .bool b => some (b == want)
  | .opt p (.bool b) => some (p && (b == want))
  | .tup [] => some false
  | _ => none
def wantedA (ops : Array Oper) (o : Oper) (T : Tm) : Option Bool :=
  match o.guard with
  | none => some true
  | some (j, want) => match (ops[j]?).bind (·.dst) with | some t => gcond (T t) want | none => none

theorem yielded_of {T : Tm} {mu nx w a} (s : St G N mu nx h w a T) {ops : Array Oper} {j t : Nat} (ht : (ops[j]?).bind (·.dst) = some t) {want c : Bool} (hc : gcond (T t) want = some c) : (yielded ops a.tmps j == some want) = c := by
  have hr := s.tmps t
  have hsome : ∀ b, a.tmps.getD t undef = .bool b → yielded ops a.tmps j = some b := fun b hb => by
    unfold yielded
    rw [ht]
    simp only [Option.bind_some]
    rw [Array.getD_eq_getD_getElem?] at hb
    cases e : a.tmps[t]? with
    | none => rw [e] at hb; cases hb
    | some v => rw [e] at hb; simp at hb; subst hb; rfl
  have hnone : a.tmps.getD t undef = undef → yielded ops a.tmps j = none := fun hb => by
    unfold yielded
    rw [ht]
    simp only [Option.bind_some]
    rw [Array.getD_eq_getD_getElem?] at hb
    cases e : a.tmps[t]? with
    | none => rfl
    | some v => rw [e] at hb; simp at hb; subst hb; rfl
  unfold gcond at hc
  generalize T t = x at *
  split at hc
  · rename_i b
    rw [hsome b hr.bool_inv]
    cases hc
    cases b <;> cases want <;> rfl
  · rename_i p b
    cases hc
    generalize hv : a.tmps.getD t undef = v at *
    cases p with
    | true =>
      have := VLe.opt rfl _ _ hr
      rw [hsome b this.bool_inv]
      cases b <;> cases want <;> rfl
    | false =>
      have : v = undef := by cases hr; rfl
      rw [hnone this]; rfl
  · cases hc
    have : a.tmps.getD t undef = undef := by
      generalize a.tmps.getD t undef = v at *
      cases hr with
      | tup vs cs e h2 => have : vs = #[] := by simpa using e
                          subst this; rfl
    rw [hnone this]; rfl
  · cases hc

theorem wantedA_spec {T : Tm} {mu nx w a} (s : St G N mu nx h w a T) {ops : Array Oper} {o : Oper} {b : Bool} (hw : wantedA ops o T = some b) : Region.wanted o (yielded ops a.tmps) = b := by
  unfold wantedA at hw
  unfold Region.wanted
  cases hg : o.guard with
  | none => rw [hg] at hw; simpa using hw
  | some g =>
    obtain ⟨j, want⟩ := g
    rw [hg] at hw
    simp only at hw ⊢
    cases e : (ops[j]?).bind (·.dst) with
    | none => rw [e] at hw; cases hw
    | some t =>
      rw [e] at hw
      exact yielded_of s e hw

/-- A guarded operation: its value if the guard says so. 'Tr': the temporaries, where what the guard opens is open. -/
theorem AOps.g {ops : Array Oper} {o : Oper} {rest : List Oper} {d : Nat} {c : Bool} {x : V} {Tr : Tm} (hw : wantedA ops o T = some c) (hdst : o.dst = some d) (hd : Nat.blt d N = true) (hTr : c = true → TLe T Tr) (hq : c = true → QOp P G h o (ev G Tr) x)
    (k : AOps P G N ops Q rest (put T d (.opt c x)) h) : AOps P G N ops Q (o :: rest) T h := fun mu nx w a s Q' hQ =>
  wpList_step fun K hK => by
    have hwc := wantedA_spec s hw
    cases c with
    | true =>
      rw [if_pos hwc]
      refine ((hq rfl).le (ev_le (hTr rfl))) h (.refl _) mu nx w a s.defers s.rel (fun y _ => s.ev y) K _ fun v y mu' nx' h' w' e0 r hv e => ?_
      obtain ⟨e1, e2⟩ := e0
      subst e1; subst e2
      have st := s.put e r (d := o.dst) (by rw [hdst]; exact dst_spec hd) (.optT _ _ hv)
      rw [hdst] at st ⊢
      exact hK _ _ (k mu' nx' w' _ st Q' fun _ _ _ q => hQ _ _ _ (lift_trans e q))
    | false =>
      rw [if_neg (by simp [hwc])]
      have st := s.put (.refl mu nx h w) s.rel (d := o.dst) (v := undef) (x := .opt false x) (by rw [hdst]; exact dst_spec hd) (.optF _)
      rw [hdst] at st ⊢
      exact hK _ _ (k mu nx w _ st Q' hQ)
def guardTmp (ops : Array Oper) (o : Oper) : Option (Nat × Bool) :=
  match o.guard with
  | none => none
  | some (j, want) => match (ops[j]?).bind (·.dst) with | some t => some (t, want) | none => none
theorem wantedA_tmp {ops : Array Oper} {o : Oper} {t : Nat} {want : Bool} (hg : guardTmp ops o = some (t, want)) : wantedA ops o T = gcond (T t) want := by
  unfold guardTmp at hg
  unfold wantedA
  split at hg
  · cases hg
  · rename_i j want' hgd
    cases e : (ops[j]?).bind (·.dst) with
    | none => rw [e] at hg; cases hg
    | some t' => rw [e] at hg; cases hg; rfl
theorem wanted_t {ops : Array Oper} {o : Oper} {t : Nat} {b : Bool} (hg : guardTmp ops o = some (t, true)) (hT : T t = .bool b) : wantedA ops o T = some b := by
  rw [wantedA_tmp hg, hT]; cases b <;> rfl
theorem wanted_f {ops : Array Oper} {o : Oper} {t : Nat} {b : Bool} (hg : guardTmp ops o = some (t, false)) (hT : T t = .bool b) : wantedA ops o T = some !b := by
  rw [wantedA_tmp hg, hT]; cases b <;> rfl
theorem wanted_to {ops : Array Oper} {o : Oper} {t : Nat} {p b : Bool} (hg : guardTmp ops o = some (t, true)) (hT : T t = .opt p (.bool b)) : wantedA ops o T = some (p && b) := by
  rw [wantedA_tmp hg, hT]; cases b <;> rfl
theorem wanted_fo {ops : Array Oper} {o : Oper} {t : Nat} {p b : Bool} (hg : guardTmp ops o = some (t, false)) (hT : T t = .opt p (.bool b)) : wantedA ops o T = some (p && !b) := by
  rw [wantedA_tmp hg, hT]; cases b <;> rfl
theorem wanted_yes {ops : Array Oper} {o : Oper} {b : Bool} (hw : wantedA ops o T = some b) (hb : b = true) : wantedA ops o T = some true := hb ▸ hw
theorem wanted_no {ops : Array Oper} {o : Oper} {b : Bool} (hw : wantedA ops o T = some b) (hb : b = false) : wantedA ops o T = some false := hb ▸ hw
/-- A guarded operation of any kind whose guard is known to say yes. -/
theorem AOps.gy {ops : Array Oper} {o : Oper} {rest : List Oper} {d : Nat} (hw : wantedA ops o T = some true) (hdst : o.dst = some d) (hd : Nat.blt d N = true)
    (k : AStep P G o (ev G T) h fun x h' => AOps P G N ops Q rest (put T d x) h') : AOps P G N ops Q (o :: rest) T h := fun mu nx w a s Q' hQ =>
  wpList_step fun K hK => by
    rw [if_pos (wantedA_spec s hw)]
    refine k mu nx w a s.defers s.rel (fun y _ => s.ev y) K _ fun v x mu' nx' h' w' kk r hv e => ?_
    have st := s.put e r (d := o.dst) (by rw [hdst]; exact dst_spec hd) hv
    rw [hdst] at st ⊢
    exact hK _ _ (kk mu' nx' w' _ st Q' fun _ _ _ q => hQ _ _ _ (lift_trans e q))
/-- A guarded operation whose guard is known to say no. -/
theorem AOps.gn {ops : Array Oper} {o : Oper} {rest : List Oper} {d : Nat} (hw : wantedA ops o T = some false) (hdst : o.dst = some d) (hd : Nat.blt d N = true) (k : AOps P G N ops Q rest (put T d (.tup [])) h) : AOps P G N ops Q (o :: rest) T h := fun mu nx w a s Q' hQ =>
  wpList_step fun K hK => by
    rw [if_neg (by simp [wantedA_spec s hw])]
    have st := s.put (.refl mu nx h w) s.rel (d := o.dst) (v := undef) (x := .tup []) (by rw [hdst]; exact dst_spec hd) (.tup _ _ rfl fun j hj => by simp at hj)
    rw [hdst] at st ⊢
    exact hK _ _ (k mu nx w _ st Q' hQ)

/-! ### Calls -/
theorem args_rep {E : Env} {ρ : Operand → V} {a : Act} {xs : List Operand} (hr : ∀ y ∈ xs, Rep E (a.eval y) (ρ y)) (j : Nat) : Rep E ((xs.map a.eval).getD j undef) ((xs.map ρ).getD j .junk) := by
  simp only [List.getD_eq_getElem?_getD, List.getElem?_map]
  cases e : xs[j]? with
  | none => exact .junk _
  | some y => exact hr y (List.mem_of_getElem? e)

/-- A call of a named function. -/
theorem AStep.call {o : Oper} {ρ : Operand → V} {f : FuncId} {xs : List Operand} {ts : Array TypeId} {K : V → Hp → Prop} (ho : o.op = .call ⟨.value (.func f), xs.toArray, ts⟩)
    (hf : ∀ args w, (callFunc f args).run P w = .ok (.enter f args) w) (k : ACalls P G f (xs.map ρ) h K) : AStep P G o ρ h K := by
  intro mu nx w a hd r hr K' Q' hK
  have he : (execOp a.eval o).run P w = .ok (.enter f (xs.map a.eval).toArray) w := by
    have : a.eval (.func f) = .func (.func f) #[] #[] := rfl
    simp [execOp, ho, resolve, this, Deferred.ofValue, invoke, hf]
  unfold Oper.wp
  rw [he]
  have hr' : ∀ y ∈ xs, Rep (env mu nx h w) (a.eval y) (ρ y) := fun y hy => hr y (by simp [ho, Op.operands, Call.operands, hy])
  refine (k mu nx w (xs.map a.eval).toArray r (fun j => ?_) (by simp)).mono ?_
  · have := args_rep hr' j
    simpa [Array.getD_eq_getD_getElem?, List.getD_eq_getElem?_getD] using this
  · rintro e w' ⟨v, x, mu', nx', h', rfl, q, r', hv, ex⟩
    exact hK v x mu' nx' h' w' q r' hv ex

/-- A quiet call. -/
theorem QOp.call {o : Oper} {ρ : Operand → V} {f : FuncId} {xs : List Operand} {ts : Array TypeId} {x : V} (ho : o.op = .call ⟨.value (.func f), xs.toArray, ts⟩)
    (hf : ∀ args w, (callFunc f args).run P w = .ok (.enter f args) w) (k : ∀ h', HLe h' h → ACalls P G f (xs.map ρ) h' fun y h'' => y = x ∧ h'' = h') : QOp P G h o ρ x :=
  fun h' hl => .call ho hf (k h' hl)

theorem Rep.getD_args {E : Env} {vs : Array Value} {cs : List V} (e : vs.size = cs.length) (h2 : ∀ j (_ : j < vs.size) (_ : j < cs.length), Rep E vs[j] cs[j]) (j : Nat) : Rep E (vs.getD j undef) (cs.getD j .junk) := by
  by_cases hj : j < cs.length
  · have hj' : j < vs.size := by omega
    have := h2 j hj' hj
    simpa [Array.getD, hj', List.getD_eq_getElem?_getD, hj] using this
  · have : cs.getD j .junk = .junk := by simp [List.getD_eq_getElem?_getD, List.getElem?_eq_none (Nat.le_of_not_lt hj)]
    rw [this]; exact .junk _

theorem rep_append {E : Env} {us vs : Array Value} {bs cs : List V} (e1 : us.size = bs.length) (e2 : vs.size = cs.length) (h1 : ∀ j (_ : j < us.size) (_ : j < bs.length), Rep E us[j] bs[j])
    (h2 : ∀ j (_ : j < vs.size) (_ : j < cs.length), Rep E vs[j] cs[j]) : (us ++ vs).size = (bs ++ cs).length ∧ ∀ j (_ : j < (us ++ vs).size) (_ : j < (bs ++ cs).length), Rep E (us ++ vs)[j] (bs ++ cs)[j] := by
  refine ⟨by simp [e1, e2], fun j hj hj' => ?_⟩
  rw [Array.getElem_append, List.getElem_append]
  by_cases hlt : j < us.size
  · have : j < bs.length := by omega
    simp only [hlt, this, dif_pos]; exact h1 _ _ _
  · have : ¬ j < bs.length := by omega
    simp only [hlt, this, dif_neg, not_false_eq_true]
    have e : j - us.size = j - bs.length := by omega
    have := h2 (j - us.size) (by simp at hj; omega) (by simp at hj'; omega)
    simpa only [e1] using this

/-- A call of a function value. -/
theorem AStep.callv {o : Oper} {ρ : Operand → V} {g : Operand} {f : FuncId} {first captured : List V} {xs : List Operand} {ts : Array TypeId} {K : V → Hp → Prop} (ho : o.op = .call ⟨.value g, xs.toArray, ts⟩) (hg : ρ g = .func (.func f) first captured)
    (hf : ∀ args w, (callFunc f args).run P w = .ok (.enter f args) w) (k : ACalls P G f (first ++ xs.map ρ ++ captured) h K) : AStep P G o ρ h K := by
  intro mu nx w a hd r hr K' Q' hK
  have hrg := hr g (by simp [ho, Op.operands, Call.operands])
  rw [hg] at hrg
  obtain ⟨fs, cs, hga, e1, e2, h1, h2⟩ := hrg.func_inv
  have he : (execOp a.eval o).run P w = .ok (.enter f (fs ++ (xs.map a.eval).toArray ++ cs)) w := by
    simp [execOp, ho, resolve, hga, Deferred.ofValue, invoke, hf]
  unfold Oper.wp
  rw [he]
  have hr' : ∀ y ∈ xs, Rep (env mu nx h w) (a.eval y) (ρ y) := fun y hy => hr y (by simp [ho, Op.operands, Call.operands, hy])
  obtain ⟨z1, z2⟩ := rep_append (E := env mu nx h w) (vs := (xs.map a.eval).toArray) (cs := xs.map ρ) e1 (by simp) h1 (fun j hj hj' => by simpa using hr' _ (List.getElem_mem _))
  obtain ⟨z3, z4⟩ := rep_append z1 e2 z2 h2
  refine (k mu nx w _ r (Rep.getD_args z3 z4) z3).mono ?_
  · rintro e w' ⟨v, x, mu', nx', h', rfl, q, r', hv, ex⟩
    exact hK v x mu' nx' h' w' q r' hv ex

/-! ### The body of a function -/
def tmArgs : List V → Tm := fun as => putL T0 0 as
theorem putL_spec : ∀ (vs : List V) (T : Tm) (k i : Nat), putL T k vs i = if k ≤ i ∧ i < k + vs.length then vs.getD (i - k) .junk else T i
  | [], T, k, i => by simp [putL]; omega
  | v :: vs, T, k, i => by
    simp only [putL]
    rw [putL_spec vs (put T k v) (k + 1) i]
    by_cases hi : i = k
    · subst hi
      rw [if_neg (by omega), if_pos (by simp), put_same]
      simp
    · rw [put_ne _ _ hi]
      by_cases hr : k + 1 ≤ i ∧ i < k + 1 + vs.length
      · rw [if_pos hr, if_pos (by simp; omega)]
        obtain ⟨j, rfl⟩ : ∃ j, i = k + 1 + j := ⟨i - (k + 1), by omega⟩
        have e1 : k + 1 + j - (k + 1) = j := by omega
        have e2 : k + 1 + j - k = j + 1 := by omega
        rw [e1, e2]; simp
      · rw [if_neg hr, if_neg (by simp; omega)]

/-- What a function hands back. -/
inductive Res (P : Program) (T : Tm) (h : Hp) : Array ResultVar → V → Prop
  | none : Res P T h #[] (.tup [])
  | one (t : Nat) : Res P T h #[.tmp t] (T t)
  | two (t u : Nat) : Res P T h #[.tmp t, .tmp u] (.tup [T t, T u])
  | three (t u v : Nat) : Res P T h #[.tmp t, .tmp u, .tmp v] (.tup [T t, T u, T v])
  | gen {rs : Array ResultVar} {x : V} (k : ∀ (fn : Func) G N mu nx w a, St G N mu nx h w a T → fn.results = rs → ∃ v, (results fn a.tmps).run P w = .ok v w ∧ Rep (env mu nx h w) v x) : Res P T h rs x

theorem Res.run {mu nx w a} {T : Tm} (s : St G N mu nx h w a T) {rs : Array ResultVar} {x : V} (hr : Res P T h rs x) {fn : Func} (hf : fn.results = rs) :
    ∃ v, (results fn a.tmps).run P w = .ok v w ∧ Rep (env mu nx h w) v x := by
  cases hr with
  | none => exact ⟨.tuple #[], results_none hf _ _ _, .tup _ _ rfl fun j hj => by simp at hj⟩
  | one t => exact ⟨_, results_tmp hf _ _ _, s.tmps t⟩
  | two t u =>
    refine ⟨_, results_tmp2 hf _ _ _, .tup _ _ rfl fun j hj hj' => ?_⟩
    match j with
    | 0 => exact s.tmps t
    | 1 => exact s.tmps u
    | j + 2 => exact absurd hj (by simp)
  | three t u v =>
    refine ⟨.tuple #[a.tmps.getD t undef, a.tmps.getD u undef, a.tmps.getD v undef], by simp [results, hf], .tup _ _ rfl fun j hj hj' => ?_⟩
    match j with
    | 0 => exact s.tmps t
    | 1 => exact s.tmps u
    | 2 => exact s.tmps v
    | j + 3 => exact absurd hj (by simp)
  | gen k => exact k fn G N mu nx w a s hf

/-- The post of a body: what it hands back, perhaps told by less. -/
def retQ (P : Program) (rs : Array ResultVar) (R : V → Hp → Prop) : Post
  | .normal, T, h | .ret, T, h => ∃ x y h', Res P T h rs x ∧ VLe x y ∧ HLe h h' ∧ R y h'
  | _, _, _ => False
theorem retQ.mk {rs : Array ResultVar} {R : V → Hp → Prop} {x : V} (hr : Res P T h rs x) (k : R x h) : retQ P rs R .ret T h := ⟨x, x, h, hr, .refl _, .refl _, k⟩
theorem retQ.mk' {rs : Array ResultVar} {R : V → Hp → Prop} {x y : V} {h' : Hp} (hr : Res P T h rs x) (hv : VLe x y) (hh : HLe h h') (k : R y h') : retQ P rs R .ret T h := ⟨x, y, h', hr, hv, hh, k⟩

theorem ACalls.enter {f : FuncId} {fn : Func} {c : Code} {as : List V} {R : V → Hp → Prop} {rs : Array ResultVar} (hf : P.funcs[f]? = some fn) (hb : fn.body = some c) (hN : fn.ntmps = N) (hrs : fn.results = rs) (hl : Nat.ble as.length N = true)
    (k : AW P G N c (retQ P rs R) (tmArgs as) h) : ACalls P G f as h R := by
  intro mu nx w vs r ha hs
  have hle : as.length ≤ N := Nat.ble_eq.mp hl
  refine calls_of_wp hf hb ?_
  have s0 : St G N mu nx h w { tmps := vs ++ Array.replicate (fn.ntmps - vs.size) undef, defers := [] } (tmArgs as) := by
    refine ⟨r, rfl, by simp [hN]; omega, fun i => ?_⟩
    unfold tmArgs
    rw [putL_spec]
    by_cases hi : 0 ≤ i ∧ i < 0 + as.length
    · rw [if_pos hi]
      have := ha i
      have e : (vs ++ Array.replicate (fn.ntmps - vs.size) undef).getD i undef = vs.getD i undef := by
        simp only [Array.getD_eq_getD_getElem?]
        rw [Array.getElem?_append_left (by omega)]
      rw [e]; simpa using this
    · rw [if_neg hi]; exact .junk _
  refine wp_mono (k mu nx w _ s0) fun e a' w' ⟨mu', nx', h', T', q, s', x⟩ => ?_
  have fin : ∀ x y h'', Res P T' h' rs x → VLe x y → HLe h' h'' → R y h'' →
      a'.defers = [] ∧ ∃ v, (results fn a'.tmps).run P w' = .ok v w' ∧ ∃ v_1 r mu' nx' h', Ending.returned v = Ending.returned v_1 ∧ R r h' ∧ Rel G mu' nx' h' w' ∧ Rep (env mu' nx' h' w') v_1 r ∧ Ext mu nx h w mu' nx' h' w' := by
    intro x1 y h'' hr hv hh hR
    obtain ⟨v, hrun, hrep⟩ := hr.run s' hrs
    exact ⟨s'.defers, v, hrun, v, y, mu', nx', h'', rfl, hR, hh.rel s'.rel, (hv _ _ hrep).mono (hh.env _ _ _), x.trans hh.ext⟩
  cases e with
  | normal => obtain ⟨x1, y, h'', hr, hv, hh, hR⟩ := q; exact fin x1 y h'' hr hv hh hR
  | ret => obtain ⟨x1, y, h'', hr, hv, hh, hR⟩ := q; exact fin x1 y h'' hr hv hh hR
  | _ => exact q.elim

/-- Arguments that say more serve too. -/
theorem ACalls.args {f : FuncId} {as bs : List V} {R : V → Hp → Prop} (hl : as.length = bs.length) (hv : ∀ j, VLe (as.getD j .junk) (bs.getD j .junk)) (k : ACalls P G f bs h R) : ACalls P G f as h R :=
  fun mu nx w vs r ha hs => k mu nx w vs r (fun j => hv j _ _ (ha j)) (hs.trans hl)
/-- A memory that says more serves too; what was forgotten is as it was, if the call keeps to what it is told of. -/
theorem ACalls.weaken {f : FuncId} {as : List V} {R : V → Hp → Prop} {x y : V} {h' : Hp} (k : ACalls P G f as h fun r h1 => r = x ∧ h1 = h') (hv : VLe x y) (hR : R y h') : ACalls P G f as h R :=
  fun mu nx w vs r ha hs => (k mu nx w vs r ha hs).mono fun _ _ ⟨v, z, mu', nx', h1, e1, ⟨e2, e3⟩, e4, e5, e6⟩ => by
    subst e2; subst e3
    exact ⟨v, y, mu', nx', h1, e1, hR, e4, hv _ _ e5, e6⟩

end rules
end Go.AV
