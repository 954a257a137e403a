/- The abstract walk, sixth part: regions that draw their order. -/
import Derived.Test.YtnbmcbkokaoapaaGreatDoorAv5
namespace Go.AV
section
variable {P : Program} {G : Nat → Option (List V)} {N : Nat} {Q : Post} {T : Tm} {h : Hp} {ops : Array Oper}

def putD (T : Tm) (d : Option Nat) (v : V) : Tm := match d with | some d => put T d v | none => T

/-- What an operation does in a region. 'keep': it leaves all boxes and rows that are there. -/
def aOp (P : Program) (G : Nat → Option (List V)) (ops : Array Oper) (loose : List Nat) (i : Nat) (K : Tm → Hp → Prop) (T : Tm) (h : Hp) : Prop :=
  match ops[i]? with
  | none => K T h
  | some o =>
    match wantedA ops o T with
    | some c => (c = true → AStep P G o (ev G T) h fun x h' => K (putD T o.dst x) h' ∧ (loose.contains i = false → HLe h' h)) ∧ (c = false → ∃ y, (∀ E, Rep E undef y) ∧ K (putD T o.dst y) h)
    | none => False

def AAny (P : Program) (G : Nat → Option (List V)) (ops : Array Oper) (loose : List Nat) (Q : Tm → Hp → Prop) : Nat → Array Bool → Tm → Hp → Prop
  | 0, listed, T, h => Region.ready .any ops listed = [] ∧ Q T h
  | fuel + 1, listed, T, h => (Region.ready .any ops listed = [] → Q T h) ∧ ∀ i ∈ Region.ready .any ops listed, aOp P G ops loose i (AAny P G ops loose Q fuel (listed.setIfInBounds i true)) T h

def dstsOk (N : Nat) (ops : Array Oper) : Bool := ops.all fun o => match o.dst with | some d => Nat.blt d N | none => true
theorem dstsOk_spec (hd : dstsOk N ops = true) {i : Nat} {o : Oper} (hi : ops[i]? = some o) : ∀ t, o.dst = some t → t < N := fun t ht => by
  have := Array.all_eq_true_iff_forall_mem.1 hd o (Array.mem_of_getElem? hi)
  rw [ht] at this
  exact Nat.blt_eq.mp this

theorem St.putD {mu nx w a mu' nx' h' w'} (s : St G N mu nx h w a T) (he : Ext mu nx h w mu' nx' h' w') (r : Rel G mu' nx' h' w') {d : Option Nat} (hd : ∀ t, d = some t → t < N) {v : Value} {x : V} (hv : Rep (env mu' nx' h' w') v x) :
    St G N mu' nx' h' w' (a.put d v) (putD T d x) := by
  have := s.put he r hd hv
  cases d <;> exact this

theorem wpAny_of_AAny (hd : dstsOk N ops = true) {loose : List Nat} {Qn : Tm → Hp → Prop} : ∀ (fuel : Nat) (listed : Array Bool) (T : Tm) (h : Hp), AAny P G ops loose Qn fuel listed T h →
    ∀ mu nx w a, St G N mu nx h w a T → ∀ Q' : Exit → Act → World → Prop, (∀ a' w' mu' nx' h' T', Qn T' h' → St G N mu' nx' h' w' a' T' → Ext mu nx h w mu' nx' h' w' → Q' .normal a' w') → wpAny P .any ops Q' fuel listed a w
  | 0, _, T, h, k, mu, nx, w, a, s, Q', hQ => ⟨k.1, hQ a w mu nx h T k.2 s (.refl _ _ _ _)⟩
  | fuel + 1, listed, T, h, k, mu, nx, w, a, s, Q', hQ => ⟨fun h0 => hQ a w mu nx h T (k.1 h0) s (.refl _ _ _ _), fun i hi => by
      have hk := k.2 i hi
      unfold aOp at hk
      unfold wpOp
      cases ho : ops[i]? with
      | none =>
        simp only [ho] at hk ⊢
        exact wpAny_of_AAny hd fuel _ T h hk mu nx w a s Q' hQ
      | some o =>
        simp only [ho] at hk ⊢
        cases hw : wantedA ops o T with
        | none => rw [hw] at hk; exact hk.elim
        | some b =>
          rw [hw] at hk
          have hwc := wantedA_spec s hw
          cases b with
          | true =>
            rw [if_pos hwc]
            refine .inl (hk.1 rfl mu nx w a s.defers s.rel (fun y _ => s.ev y) _ _ fun v x mu' nx' h' w' ⟨kk, _⟩ r hv e => ?_)
            exact wpAny_of_AAny hd fuel _ _ h' kk mu' nx' w' _ (s.putD e r (dstsOk_spec hd ho) hv) Q' fun a2 w2 mu2 nx2 h2 T2 q s2 e2 => hQ a2 w2 mu2 nx2 h2 T2 q s2 (e.trans e2)
          | false =>
            rw [if_neg (by simp [hwc])]
            obtain ⟨y, hy, hk'⟩ := hk.2 rfl
            exact wpAny_of_AAny hd fuel _ _ h hk' mu nx w _ (s.putD (.refl _ _ _ _) s.rel (dstsOk_spec hd ho) (hy _)) Q' hQ⟩

/-! ### An operation that may be taken first -/
theorem ev_put {d : Option Nat} {v : V} {x : Operand} (hx : ∀ t, d = some t → x ≠ .tmp t) : ev G (putD T d v) x = ev G T x := by
  cases d with
  | none => rfl
  | some d =>
    cases x with
    | tmp t =>
      have hne : t ≠ d := fun e => hx d rfl (by rw [e])
      exact put_ne _ _ hne
    | _ => rfl
theorem putD_comm (T : Tm) {x y : Option Nat} (v u : V) (hne : ∀ d, x = some d → y ≠ some d) : putD (putD T x v) y u = putD (putD T y u) x v := by
  cases x with
  | none => rfl
  | some d =>
    cases y with
    | none => rfl
    | some e =>
      have hde : d ≠ e := fun h => hne d rfl (by rw [h])
      funext i
      simp only [putD]
      by_cases h1 : i = d
      · subst h1; rw [put_ne _ _ hde, put_same, put_same]
      · by_cases h2 : i = e
        · subst h2; rw [put_same, put_ne _ _ h1, put_same]
        · rw [put_ne _ _ h2, put_ne _ _ h1, put_ne _ _ h1, put_ne _ _ h2]

theorem wantedA_put {o : Oper} {d : Option Nat} {v : V} (hx : ∀ t, d = some t → t ∉ o.looksAt ops) : wantedA ops o (putD T d v) = wantedA ops o T := by
  unfold wantedA
  cases hg : o.guard with
  | none => rfl
  | some g =>
    obtain ⟨j, want⟩ := g
    simp only
    cases e : (ops[j]?).bind (·.dst) with
    | none => rfl
    | some t =>
      cases d with
      | none => rfl
      | some d =>
        have hne : t ≠ d := fun h => hx d rfl (by subst h; simp [Oper.looksAt, hg, e])
        simp only [putD, put_ne _ _ hne]

theorem AStep_put {o : Oper} {d : Option Nat} {v : V} {K : V → Hp → Prop} (hx : ∀ t, d = some t → t ∉ o.looksAt ops) (k : AStep P G o (ev G (putD T d v)) h K) : AStep P G o (ev G T) h K :=
  k.congr fun y hy => (ev_put fun t ht e => hx t ht (by subst e; exact List.mem_append_left _ (List.mem_filterMap.2 ⟨.tmp t, by simpa using hy, rfl⟩))).symm
theorem AStep_put' {o : Oper} {d : Option Nat} {v : V} {K : V → Hp → Prop} (hx : ∀ t, d = some t → t ∉ o.looksAt ops) (k : AStep P G o (ev G T) h K) : AStep P G o (ev G (putD T d v)) h K :=
  k.congr fun y hy => ev_put fun t ht e => hx t ht (by subst e; exact List.mem_append_left _ (List.mem_filterMap.2 ⟨.tmp t, by simpa using hy, rfl⟩))

/-- What operation 'o' yields, quietly, here and in every larger memory: 'x' tells it, whether it is wanted or not. -/
def QYield (P : Program) (G : Nat → Option (List V)) (ops : Array Oper) (o : Oper) (x : V) (T : Tm) (h : Hp) : Prop :=
  ∃ c, wantedA ops o T = some c ∧ (c = true → QOp P G h o (ev G T) x) ∧ (c = false → ∀ E, Rep E undef x)

theorem QOp.up {o : Oper} {ρ : Operand → V} {x : V} {h' : Hp} (q : QOp P G h o ρ x) (hl : HLe h' h) : QOp P G h' o ρ x := fun h2 l2 => q h2 (l2.trans hl)

theorem QYield.put {o o2 : Oper} {x v : V} (y : QYield P G ops o x T h) (hx : ∀ t, o2.dst = some t → t ∉ o.looksAt ops) : QYield P G ops o x (putD T o2.dst v) h := by
  obtain ⟨c, y1, y2, y3⟩ := y
  exact ⟨c, by rw [wantedA_put hx]; exact y1, fun hc h' hl => AStep_put' hx (y2 hc h' hl), y3⟩
theorem QYield.up {o : Oper} {x : V} {h' : Hp} (y : QYield P G ops o x T h) (hl : HLe h' h) : QYield P G ops o x T h' := by
  obtain ⟨c, y1, y2, y3⟩ := y
  exact ⟨c, y1, fun hc => (y2 hc).up hl, y3⟩
/-- .. and whether it holds whatever the memory is. -/
def QY (P : Program) (G : Nat → Option (List V)) (ops : Array Oper) (p : Bool) (o : Oper) (x : V) (T : Tm) (h : Hp) : Prop := QYield P G ops o x T h ∧ (p = true → ∀ h', QYield P G ops o x T h')
theorem QYield.aOp {i : Nat} {o : Oper} {x : V} {loose : List Nat} {K : Tm → Hp → Prop} (hi : ops[i]? = some o) (y : QYield P G ops o x T h) (k : K (putD T o.dst x) h) : aOp P G ops loose i K T h := by
  unfold Go.AV.aOp
  simp only [hi]
  obtain ⟨c, y1, y2, y3⟩ := y
  rw [y1]
  refine ⟨fun hc => (y2 hc h (.refl _)).mono fun z h' ⟨e1, e2⟩ => ?_, fun hc => ⟨x, y3 hc, k⟩⟩
  subst e1; subst e2
  exact ⟨k, fun _ => .refl _⟩

theorem aOp_mono {i : Nat} {loose : List Nat} {K K' : Tm → Hp → Prop} (hk : ∀ T h, K T h → K' T h) (a : aOp P G ops loose i K T h) : aOp P G ops loose i K' T h := by
  unfold aOp at *
  split
  · rename_i e; simp only [e] at a; exact hk _ _ a
  · rename_i o e
    simp only [e] at a
    split
    · rename_i hw; rw [hw] at a
      exact ⟨fun hc => (a.1 hc).mono fun x h' ⟨k1, k2⟩ => ⟨hk _ _ k1, k2⟩, fun hc => let ⟨y, y1, y2⟩ := a.2 hc; ⟨y, y1, hk _ _ y2⟩⟩
    · rename_i hw; rw [hw] at a; exact a

theorem aOp_put {j : Nat} {oi oj : Oper} {x : V} {loose : List Nat} {p : Bool} (hj : ops[j]? = some oj) (hap : oi.apart ops oj = true) (hlo : loose.contains j = false ∨ p = true) {K : Tm → Hp → Prop} (y : QY P G ops p oi x T h)
    (k : aOp P G ops loose j K (putD T oi.dst x) h) : aOp P G ops loose j (fun T' h' => QY P G ops p oi x T' h' ∧ K (putD T' oi.dst x) h') T h := by
  obtain ⟨h1, h2, h3⟩ := Oper.apart_spec hap
  unfold aOp at *
  simp only [hj] at *
  rw [wantedA_put h1] at k
  split
  · rename_i hw
    rw [hw] at k
    have hy : ∀ z h', (loose.contains j = false → HLe h' h) → QY P G ops p oi x (putD T oj.dst z) h' := fun z h' k2 =>
      ⟨by
        rcases hlo with e | e
        · exact (y.1.up (k2 e)).put h3
        · exact (y.2 e h').put h3, fun e h'' => (y.2 e h'').put h3⟩
    refine ⟨fun hc => (AStep_put h1 (k.1 hc)).mono fun z h' ⟨k1, k2⟩ => ⟨⟨hy z h' k2, ?_⟩, k2⟩, fun hc => ?_⟩
    · rw [← putD_comm T x z h2]; exact k1
    · obtain ⟨z, z1, z2⟩ := k.2 hc
      refine ⟨z, z1, hy z h (fun _ => .refl _), ?_⟩
      rw [← putD_comm T x z h2]; exact z2
  · rename_i hw; rw [hw] at k; exact k

theorem AAny.first {loose : List Nat} {p : Bool} {Qn : Tm → Hp → Prop} {i : Nat} {oi : Oper} {x : V} (hi : ops[i]? = some oi) : ∀ (fuel : Nat) (listed : Array Bool) (T : Tm) (h : Hp),
    (∀ j oj, ops[j]? = some oj → j ≠ i → listed.getD j true = false → (∀ e ∈ oj.after, Region.binds .any e = true → e.on ≠ i) → oi.apart ops oj = true ∧ (loose.contains j = false ∨ p = true)) →
    i ∈ Region.ready .any ops listed → QY P G ops p oi x T h → AAny P G ops loose Qn fuel (listed.setIfInBounds i true) (putD T oi.dst x) h → AAny P G ops loose Qn (fuel + 1) listed T h := by
  intro fuel
  induction fuel with
  | zero =>
    intro listed T h _ hr hy H
    refine ⟨fun h0 => (by rw [h0] at hr; cases hr), fun j hj => ?_⟩
    by_cases hji : j = i
    · subst hji; exact hy.1.aOp hi H
    · have := ready_mono hj hji
      rw [H.1] at this
      cases this
  | succ fuel ih =>
    intro listed T h hfree hr hy H
    refine ⟨fun h0 => (by rw [h0] at hr; cases hr), fun j hj => ?_⟩
    by_cases hji : j = i
    · subst hji; exact hy.1.aOp hi H
    · have h1 := H.2 j (ready_mono hj hji)
      obtain ⟨hjun, oj, hoj, hall⟩ := mem_ready.1 hj
      have hnot : ∀ e ∈ oj.after, Region.binds .any e = true → e.on ≠ i := fun e he hb heq => by
        have h1 := hall e he hb
        have h0 := (mem_ready.1 hr).1
        rw [heq] at h1
        rcases Nat.lt_or_ge i listed.size with h' | h'
        · simp [h'] at h0 h1; rw [h0] at h1; cases h1
        · simp [Array.getElem?_eq_none h'] at h1
      obtain ⟨hap, hlo⟩ := hfree j oj hoj hji hjun hnot
      have h2 := aOp_put hoj hap hlo hy h1
      have hfree' : ∀ k ok, ops[k]? = some ok → k ≠ i → (listed.setIfInBounds j true).getD k true = false →
          (∀ e ∈ ok.after, Region.binds .any e = true → e.on ≠ i) → oi.apart ops ok = true ∧ (loose.contains k = false ∨ p = true) := fun k ok hk hki hun hno => by
        refine hfree k ok hk hki ?_ hno
        by_cases hjk : j = k
        · subst hjk; exact hjun
        · rw [getD_set_ne true hjk] at hun; exact hun
      refine aOp_mono (fun T' h' ⟨y', k'⟩ => ih (listed.setIfInBounds j true) T' h' hfree' (ready_mono hr (Ne.symm hji)) y' ?_) h2
      rw [Array.setIfInBounds_comm _ _ hji]
      exact k'

/-! ### One walk, in an order that is checked -/
/-- Each entry: an operation, and whether it is taken first (else it is the only one that may come up). -/
def freeA (ops : Array Oper) (loose pures : List Nat) (listed : Array Bool) (i : Nat) : Bool :=
  match ops[i]? with
  | none => false
  | some oi => (List.range ops.size).all fun j => j == i || listed.getD j true || match ops[j]? with
      | some oj => oj.after.any (fun e => Region.binds .any e && e.on == i) || (oi.apart ops oj && (!loose.contains j || pures.contains i))
      | none => true
def ordOk (ops : Array Oper) (loose pures : List Nat) : List (Nat × Bool) → Array Bool → Bool
  | [], listed => (Region.ready .any ops listed).isEmpty
  | (i, true) :: rest, listed => (Region.ready .any ops listed).contains i && freeA ops loose pures listed i && ordOk ops loose pures rest (listed.setIfInBounds i true)
  | (i, false) :: rest, listed => (Region.ready .any ops listed == [i]) && ordOk ops loose pures rest (listed.setIfInBounds i true)

def AOrd (P : Program) (G : Nat → Option (List V)) (ops : Array Oper) (loose pures : List Nat) (Q : Tm → Hp → Prop) : List (Nat × Bool) → Tm → Hp → Prop
  | [], T, h => Q T h
  | (i, true) :: rest, T, h => ∃ o x, ops[i]? = some o ∧ QY P G ops (pures.contains i) o x T h ∧ AOrd P G ops loose pures Q rest (putD T o.dst x) h
  | (i, false) :: rest, T, h => aOp P G ops loose i (AOrd P G ops loose pures Q rest) T h

theorem AAny_of_AOrd {loose pures : List Nat} {Qn : Tm → Hp → Prop} : ∀ (l : List (Nat × Bool)) (listed : Array Bool) (T : Tm) (h : Hp), ordOk ops loose pures l listed = true → AOrd P G ops loose pures Qn l T h → AAny P G ops loose Qn l.length listed T h
  | [], listed, T, h, hk, k => ⟨by simpa [ordOk] using hk, k⟩
  | (i, true) :: l, listed, T, h, hk, k => by
    simp only [ordOk, Bool.and_eq_true] at hk
    obtain ⟨⟨hr, hf⟩, hk'⟩ := hk
    obtain ⟨o, x, hi, hy, k'⟩ := k
    refine AAny.first hi l.length listed T h (fun j oj hj hne hun hno => ?_) (by simpa using hr) hy (AAny_of_AOrd l _ _ h hk' k')
    simp only [freeA, hi, List.all_eq_true, List.mem_range] at hf
    have h1 := hf j (Array.getElem?_eq_some_iff.1 hj).1
    simp only [hj, Bool.or_eq_true, beq_iff_eq, hne, false_or, hun, Bool.false_eq_true] at h1
    rcases h1 with h1 | h1
    · obtain ⟨e, he, hb⟩ := Array.any_eq_true'.1 h1
      simp only [Bool.and_eq_true, beq_iff_eq] at hb
      exact absurd hb.2 (hno e he hb.1)
    · simpa using h1
  | (i, false) :: l, listed, T, h, hk, k => by
    simp only [ordOk, Bool.and_eq_true, beq_iff_eq] at hk
    obtain ⟨hr, hk'⟩ := hk
    refine ⟨fun h0 => absurd (hr ▸ h0) (by simp), fun j hj => ?_⟩
    rw [hr] at hj
    have : j = i := by simpa using hj
    subst this
    exact aOp_mono (fun T' h' k' => AAny_of_AOrd l _ T' h' hk' k') k

/-- A REGION THAT DRAWS ITS ORDER: one walk in the order 'ord' serves every order. -/
theorem AW.draw {id : Nat} (loose pures : List Nat) (ord : List (Nat × Bool)) (hm : P.follows .mixedOrders = true) (hd : dstsOk N ops = true) (hl : ord.length = ops.size) (hk : ordOk ops loose pures ord (Array.replicate ops.size false) = true)
    (k : AOrd P G ops loose pures (Q .normal) ord T h) : AW P G N (.region id ops true) Q T h := by
  intro mu nx w a s
  refine wp_region_any hm ?_
  have g : Grows w { w with drawn := w.drawn + 1 } := ⟨rfl, rfl, rfl, Nat.le_refl _, fun _ _ => rfl⟩
  obtain ⟨r1, x1⟩ := s.rel.grows_same g
  have s1 : St G N mu nx h { w with drawn := w.drawn + 1 } a T := ⟨r1, s.defers, s.size, fun i => (s.tmps i).mono x1.le⟩
  have k2 := AAny_of_AOrd (P := P) (G := G) ord _ T h hk k
  rw [hl] at k2
  exact wpAny_of_AAny hd ops.size _ T h k2 mu nx _ a s1 _ fun a' w' mu' nx' h' T' q s' e => ⟨mu', nx', h', T', q, s', x1.trans e⟩

/-! ### The steps of such a walk -/
theorem AOrd.nil {loose pures : List Nat} {Qn : Tm → Hp → Prop} (k : Qn T h) : AOrd P G ops loose pures Qn [] T h := k
theorem AOrd.q {loose pures : List Nat} {Qn : Tm → Hp → Prop} {i : Nat} {o : Oper} {rest : List (Nat × Bool)} {x : V} {d : Nat} (hp : pures.contains i = false) (hi : ops[i]? = some o) (hg : o.guard = none) (hdst : o.dst = some d) (hq : QOp P G h o (ev G T) x)
    (k : AOrd P G ops loose pures Qn rest (put T d x) h) : AOrd P G ops loose pures Qn ((i, true) :: rest) T h :=
  ⟨o, x, hi, ⟨⟨true, by simp [wantedA, hg], fun _ => hq, (fun e => by cases e)⟩, fun e => by rw [hp] at e; cases e⟩, by rw [hdst]; exact k⟩
/-- .. whatever the memory is. -/
theorem AOrd.p {loose pures : List Nat} {Qn : Tm → Hp → Prop} {i : Nat} {o : Oper} {rest : List (Nat × Bool)} {x : V} {d : Nat} (hi : ops[i]? = some o) (hg : o.guard = none) (hdst : o.dst = some d) (hq : ∀ h, QOp P G h o (ev G T) x)
    (k : AOrd P G ops loose pures Qn rest (put T d x) h) : AOrd P G ops loose pures Qn ((i, true) :: rest) T h :=
  have y : ∀ h, QYield P G ops o x T h := fun h => ⟨true, by simp [wantedA, hg], fun _ => hq h, (fun e => by cases e)⟩
  ⟨o, x, hi, ⟨y h, fun _ => y⟩, by rw [hdst]; exact k⟩
theorem AOrd.g {loose pures : List Nat} {Qn : Tm → Hp → Prop} {i : Nat} {o : Oper} {rest : List (Nat × Bool)} {x : V} {d : Nat} {c : Bool} {Tr : Tm} (hp : pures.contains i = false) (hi : ops[i]? = some o) (hw : wantedA ops o T = some c) (hdst : o.dst = some d) (hTr : c = true → TLe T Tr) (hq : c = true → QOp P G h o (ev G Tr) x)
    (k : AOrd P G ops loose pures Qn rest (put T d (.opt c x)) h) : AOrd P G ops loose pures Qn ((i, true) :: rest) T h :=
  ⟨o, .opt c x, hi, ⟨⟨c, hw, fun hc h' hl mu nx w a hd r hr K Q' hK => ((hq hc).le (ev_le (hTr hc))) h' hl mu nx w a hd r hr K Q' fun v y mu' nx' h2 w' ⟨e1, e2⟩ r' hv e => by
      subst e1; subst hc
      exact hK v _ mu' nx' h2 w' ⟨rfl, e2⟩ r' (.optT _ _ hv) e, fun hc E => by subst hc; exact .optF _⟩, fun e => by rw [hp] at e; cases e⟩, by rw [hdst]; exact k⟩
theorem AOrd.gn {loose pures : List Nat} {Qn : Tm → Hp → Prop} {i : Nat} {o : Oper} {rest : List (Nat × Bool)} {d : Nat} (hi : ops[i]? = some o) (hw : wantedA ops o T = some false) (hdst : o.dst = some d)
    (k : AOrd P G ops loose pures Qn rest (put T d (.tup [])) h) : AOrd P G ops loose pures Qn ((i, true) :: rest) T h :=
  ⟨o, .tup [], hi, ⟨⟨false, hw, (fun e => by cases e), fun _ E => .tup _ _ rfl fun j hj => by simp at hj⟩, fun _ h' => ⟨false, hw, (fun e => by cases e), fun _ E => .tup _ _ rfl fun j hj => by simp at hj⟩⟩, by rw [hdst]; exact k⟩
theorem AOrd.s {loose pures : List Nat} {Qn : Tm → Hp → Prop} {i : Nat} {o : Oper} {rest : List (Nat × Bool)} {d : Nat} (hi : ops[i]? = some o) (hw : wantedA ops o T = some true) (hlo : loose.contains i = true) (hdst : o.dst = some d)
    (k : AStep P G o (ev G T) h fun x h' => AOrd P G ops loose pures Qn rest (put T d x) h') : AOrd P G ops loose pures Qn ((i, false) :: rest) T h := by
  show aOp P G ops loose i (AOrd P G ops loose pures Qn rest) T h
  unfold aOp
  simp only [hi, hw]
  refine ⟨fun _ => k.mono fun x h' k => ⟨by rw [hdst]; exact k, fun e => by rw [hlo] at e; cases e⟩, fun e => by cases e⟩
theorem AOrd.s0 {loose pures : List Nat} {Qn : Tm → Hp → Prop} {i : Nat} {o : Oper} {rest : List (Nat × Bool)} (hi : ops[i]? = some o) (hw : wantedA ops o T = some true) (hlo : loose.contains i = true) (hdst : o.dst = none)
    (k : AStep P G o (ev G T) h fun _ h' => AOrd P G ops loose pures Qn rest T h') : AOrd P G ops loose pures Qn ((i, false) :: rest) T h := by
  show aOp P G ops loose i (AOrd P G ops loose pures Qn rest) T h
  unfold aOp
  simp only [hi, hw]
  refine ⟨fun _ => k.mono fun x h' k => ⟨by rw [hdst]; exact k, fun e => by rw [hlo] at e; cases e⟩, fun e => by cases e⟩
/-- One that leaves what is there (a new variable). -/
theorem AOrd.s' {loose pures : List Nat} {Qn : Tm → Hp → Prop} {i : Nat} {o : Oper} {rest : List (Nat × Bool)} {d : Nat} (hi : ops[i]? = some o) (hw : wantedA ops o T = some true) (hdst : o.dst = some d)
    (k : AStep P G o (ev G T) h fun x h' => AOrd P G ops loose pures Qn rest (put T d x) h' ∧ HLe h' h) : AOrd P G ops loose pures Qn ((i, false) :: rest) T h := by
  show aOp P G ops loose i (AOrd P G ops loose pures Qn rest) T h
  unfold aOp
  simp only [hi, hw]
  refine ⟨fun _ => k.mono fun x h' k => ⟨by rw [hdst]; exact k.1, fun _ => k.2⟩, fun e => by cases e⟩

/-- A quiet one that is the only one that may come up. -/
theorem AOrd.qf {loose pures : List Nat} {Qn : Tm → Hp → Prop} {i : Nat} {o : Oper} {rest : List (Nat × Bool)} {x : V} {d : Nat} (hi : ops[i]? = some o) (hg : o.guard = none) (hdst : o.dst = some d) (hq : QOp P G h o (ev G T) x)
    (k : AOrd P G ops loose pures Qn rest (put T d x) h) : AOrd P G ops loose pures Qn ((i, false) :: rest) T h :=
  AOrd.s' hi (by simp [wantedA, hg]) hdst ((hq h (.refl _)).mono fun y h' ⟨e1, e2⟩ => by subst e1; subst e2; exact ⟨k, .refl _⟩)

/-! ### A region whose end may come in several orders -/
def listedAfter : List (Nat × Bool) → Array Bool → Array Bool
  | [], l => l
  | (i, _) :: r, l => listedAfter r (l.setIfInBounds i true)
def ordOk2 (ops : Array Oper) (loose pures : List Nat) : List (Nat × Bool) → Array Bool → Bool
  | [], _ => true
  | (i, true) :: rest, listed => (Region.ready .any ops listed).contains i && freeA ops loose pures listed i && ordOk2 ops loose pures rest (listed.setIfInBounds i true)
  | (i, false) :: rest, listed => (Region.ready .any ops listed == [i]) && ordOk2 ops loose pures rest (listed.setIfInBounds i true)
theorem AAny_of_AOrd2 {loose pures : List Nat} {Qn : Tm → Hp → Prop} {m : Nat} : ∀ (l : List (Nat × Bool)) (listed : Array Bool) (T : Tm) (h : Hp), ordOk2 ops loose pures l listed = true → AOrd P G ops loose pures (AAny P G ops loose Qn m (listedAfter l listed)) l T h → AAny P G ops loose Qn (m + l.length) listed T h
  | [], listed, T, h, _, k => k
  | (i, true) :: l, listed, T, h, hk, k => by
    simp only [ordOk2, Bool.and_eq_true] at hk
    obtain ⟨⟨hr, hf⟩, hk'⟩ := hk
    obtain ⟨o, x, hi, hy, k'⟩ := k
    refine AAny.first hi (m + l.length) listed T h (fun j oj hj hne hun hno => ?_) (by simpa using hr) hy (AAny_of_AOrd2 l _ _ h hk' k')
    simp only [freeA, hi, List.all_eq_true, List.mem_range] at hf
    have h1 := hf j (Array.getElem?_eq_some_iff.1 hj).1
    simp only [hj, Bool.or_eq_true, beq_iff_eq, hne, false_or, hun, Bool.false_eq_true] at h1
    rcases h1 with h1 | h1
    · obtain ⟨e, he, hb⟩ := Array.any_eq_true'.1 h1
      simp only [Bool.and_eq_true, beq_iff_eq] at hb
      exact absurd hb.2 (hno e he hb.1)
    · simpa using h1
  | (i, false) :: l, listed, T, h, hk, k => by
    simp only [ordOk2, Bool.and_eq_true, beq_iff_eq] at hk
    obtain ⟨hr, hk'⟩ := hk
    refine ⟨fun h0 => absurd (hr ▸ h0) (by simp), fun j hj => ?_⟩
    rw [hr] at hj
    have : j = i := by simpa using hj
    subst this
    exact aOp_mono (fun T' h' k' => AAny_of_AOrd2 l _ T' h' hk' k') k
theorem AW.draw2 {id : Nat} (loose pures : List Nat) (ord : List (Nat × Bool)) (m : Nat) (hm : P.follows .mixedOrders = true) (hd : dstsOk N ops = true) (hl : m + ord.length = ops.size) (hk : ordOk2 ops loose pures ord (Array.replicate ops.size false) = true)
    (k : AOrd P G ops loose pures (AAny P G ops loose (Q .normal) m (listedAfter ord (Array.replicate ops.size false))) ord T h) : AW P G N (.region id ops true) Q T h := by
  intro mu nx w a s
  refine wp_region_any hm ?_
  have g : Grows w { w with drawn := w.drawn + 1 } := ⟨rfl, rfl, rfl, Nat.le_refl _, fun _ _ => rfl⟩
  obtain ⟨r1, x1⟩ := s.rel.grows_same g
  have s1 : St G N mu nx h { w with drawn := w.drawn + 1 } a T := ⟨r1, s.defers, s.size, fun i => (s.tmps i).mono x1.le⟩
  have k2 := AAny_of_AOrd2 (P := P) (G := G) ord _ T h hk k
  rw [hl] at k2
  exact wpAny_of_AAny hd ops.size _ T h k2 mu nx _ a s1 _ fun a' w' mu' nx' h' T' q s' e => ⟨mu', nx', h', T', q, s', x1.trans e⟩
/-- The steps of such an end. -/
theorem AAny.one {loose : List Nat} {Qn : Tm → Hp → Prop} {m : Nat} {listed : Array Bool} (i : Nat) (hr : (Region.ready .any ops listed == [i]) = true) (k : aOp P G ops loose i (AAny P G ops loose Qn m (listed.setIfInBounds i true)) T h) : AAny P G ops loose Qn (m + 1) listed T h := by
  have hr : Region.ready .any ops listed = [i] := by simpa using hr
  refine ⟨fun e => (by rw [hr] at e; cases e), fun j hj => ?_⟩
  rw [hr] at hj
  have : j = i := by simpa using hj
  subst this; exact k
theorem AAny.two {loose : List Nat} {Qn : Tm → Hp → Prop} {m : Nat} {listed : Array Bool} (i j : Nat) (hr : (Region.ready .any ops listed == [i, j]) = true) (k : aOp P G ops loose i (AAny P G ops loose Qn m (listed.setIfInBounds i true)) T h)
    (k2 : aOp P G ops loose j (AAny P G ops loose Qn m (listed.setIfInBounds j true)) T h) : AAny P G ops loose Qn (m + 1) listed T h := by
  have hr : Region.ready .any ops listed = [i, j] := by simpa using hr
  refine ⟨fun e => (by rw [hr] at e; cases e), fun q hq => ?_⟩
  rw [hr] at hq
  rcases List.mem_cons.1 hq with e | e
  · subst e; exact k
  · have : q = j := by simpa using e
    subst this; exact k2
theorem AAny.fin {loose : List Nat} {Qn : Tm → Hp → Prop} {listed : Array Bool} (hr : (Region.ready .any ops listed).isEmpty = true) (k : Qn T h) : AAny P G ops loose Qn 0 listed T h := ⟨by simpa using hr, k⟩
theorem aOp.new {loose : List Nat} {K : Tm → Hp → Prop} {i : Nat} {o : Oper} {d : Nat} (hi : ops[i]? = some o) (hw : wantedA ops o T = some true) (hdst : o.dst = some d) (k : AStep P G o (ev G T) h fun x h' => K (put T d x) h' ∧ HLe h' h) : aOp P G ops loose i K T h := by
  unfold aOp; simp only [hi, hw]
  exact ⟨fun _ => k.mono fun x h' k => ⟨by rw [hdst]; exact k.1, fun _ => k.2⟩, fun e => by cases e⟩
theorem aOp.st {loose : List Nat} {K : Tm → Hp → Prop} {i : Nat} {o : Oper} (hi : ops[i]? = some o) (hw : wantedA ops o T = some true) (hlo : loose.contains i = true) (hdst : o.dst = none) (k : AStep P G o (ev G T) h fun _ h' => K T h') : aOp P G ops loose i K T h := by
  unfold aOp; simp only [hi, hw]
  exact ⟨fun _ => k.mono fun x h' k => ⟨by rw [hdst]; exact k, fun e => by rw [hlo] at e; cases e⟩, fun e => by cases e⟩

end
end Go.AV
