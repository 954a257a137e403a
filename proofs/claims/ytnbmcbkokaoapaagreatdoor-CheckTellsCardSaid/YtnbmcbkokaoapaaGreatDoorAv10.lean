/- The abstract walk's way back: from judgements over an empty memory to calls in a given world; how arguments that read as data are values. -/
import Derived.Test.YtnbmcbkokaoapaaGreatDoorAv9
import Derived.Below
import Derived.OpenShut
import Derived.ChangeArms
namespace Go.AV
open Go Go.RowKit
set_option maxRecDepth 100000
/-- No memory. -/
def H0 : Hp := ⟨fun _ => none, fun _ => none⟩
def E0 (W : World) : Env := env (fun _ => 0) 0 H0 W
theorem imm0 {W : World} {b i : Nat} {v : Value} (h : W.cell? ⟨b, i, none⟩ = some v) (h1 : v.oneCell' = true) : (E0 W).imm b i v :=
  ⟨⟨World.block_lt_of_cell? W _ h, fun id hn => absurd rfl hn, fun t n e => by cases e⟩, h, h1⟩
theorem rel0 {G : Nat → Option (List V)} {W : World} (hg : ∀ g cs, G g = some cs → Rep (E0 W) (.pointer (some ⟨g, 0, none⟩)) (.iptr cs)) : Rel G (fun _ => 0) 0 H0 W where
  box := fun _ _ e => by cases e
  tok := fun _ _ e => by cases e
  inj := fun i j h => by rcases h with h | h <;> exact absurd rfl h
  excl := fun _ _ => rfl
  glob := hg
/-- What a judgement over an empty memory says of a call in a given world. -/
theorem calls_below {P : Program} {G : Nat → Option (List V)} {f : FuncId} {ar : List V} {R : V → Hp → Prop} {args : Array Value} {W : World} (k : ACalls P G f ar H0 R)
    (hg : ∀ g cs, G g = some cs → Rep (E0 W) (.pointer (some ⟨g, 0, none⟩)) (.iptr cs)) (ha : ∀ j, Rep (E0 W) (args.getD j undef) (ar.getD j .junk)) (hs : args.size = ar.length) :
    Calls P f args W fun e W' => ∃ v r E h', e = .returned v ∧ R r h' ∧ Rep E v r ∧ Below W.heap.size W W' :=
  (k (fun _ => 0) 0 W args (rel0 hg) ha hs).mono fun e W' ⟨v, r, mu', nx', h', he, hr, _, hv, ex⟩ =>
    ⟨v, r, _, h', he, hr, hv, ⟨ex.os, ex.tape, ex.output, ex.size, fun b hb => ex.block b hb fun id hid => by rcases hid with h | h <;> exact absurd rfl h⟩⟩
/-! ### Lists of values -/
inductive RepL (E : Env) : List Value → List V → Prop
  | nil : RepL E [] []
  | cons {v x vs xs} : v.oneCell' = true → Rep E v x → RepL E vs xs → RepL E (v :: vs) (x :: xs)
theorem RepL.append {E : Env} {vs ws : List Value} {xs ys : List V} (h : RepL E vs xs) (k : RepL E ws ys) : RepL E (vs ++ ws) (xs ++ ys) := by
  induction h with
  | nil => exact k
  | cons a b _ ih => exact .cons a b ih
theorem RepL.ints {E : Env} (l : List Int) : RepL E (l.map (Value.int .i64)) (l.map (V.int .i64)) := by
  induction l with
  | nil => exact .nil
  | cons n l ih => exact .cons rfl (.int _ _) ih
theorem RepL.length {E : Env} {vs : List Value} {xs : List V} (h : RepL E vs xs) : vs.length = xs.length := by
  induction h with
  | nil => rfl
  | cons _ _ _ ih => simp [ih]
theorem RepL.get {E : Env} {vs : List Value} {xs : List V} (h : RepL E vs xs) : ∀ j (h1 : j < vs.length) (h2 : j < xs.length), vs[j].oneCell' = true ∧ Rep E vs[j] xs[j] := by
  induction h with
  | nil => intro j h1; simp at h1
  | cons a b _ ih =>
    intro j h1 h2
    cases j with
    | zero => exact ⟨a, b⟩
    | succ j => exact ih j (by simpa using h1) (by simpa using h2)
theorem RepL.agg {E : Env} {vs : Array Value} {xs : List V} (h : RepL E vs.toList xs) : Rep E (.agg vs) (.agg xs) :=
  .agg vs xs (by have := h.length; simpa using this) (fun j hj => by have := (h.get j (by simpa using hj) (by have := h.length; simp at this; omega)).1; simpa using this) (fun j hj hj' => by have := (h.get j (by simpa using hj) hj').2; simpa using this)
/-! ### Readings whose cells are numbers alone -/
def toI : Value → Int | .int _ n => n | _ => 0
def AllI (cs : List Value) : Prop := ∀ c ∈ cs, ∃ k, c = .int .i64 k
theorem AllI.eq {cs : List Value} (h : AllI cs) : cs = (cs.map toI).map (Value.int .i64) := by
  induction cs with
  | nil => rfl
  | cons c cs ih =>
    obtain ⟨k, rfl⟩ := h c (by simp)
    simp only [List.map_cons, toI]
    congr 1
    exact ih fun c hc => h c (by simp [hc])
section
variable {H : Type} {enc : TypeId × Value → H} {P : Program} {w : World} {base : Nat} {spare : Nat → Bool} {held : Bool}
def IntsT (H : Type) (P : Program) (t : TypeId) (m : Nat) : Prop := ∀ (enc : TypeId × Value → H) (w : World) (base : Nat) (spare : Nat → Bool) (held : Bool) (fuel : Nat) (cs : List Value) (x : DataW H × List MemPlace),
  DataW.trod enc P w base spare held fuel t cs = some x → cs.length = m ∧ AllI cs
theorem IntsT.int {t : TypeId} (ht : P.underlying t = some (.int .i64)) : IntsT H P t 1 := fun _ _ _ _ _ _ cs x h => by
  obtain ⟨n, rfl, _⟩ := DataW.trod_int ht h
  exact ⟨rfl, fun c hc => ⟨n, by simpa using hc⟩⟩
theorem IntsT.array {t e : TypeId} {n m l : Nat} (ht : P.underlying t = some (.array n e)) (he : IntsT H P e m) (hc : P.cellsOf e = m) (hl : P.cellsOf t = l) (hn : n * m = l) : IntsT H P t l := fun _ _ _ _ _ _ cs x h => by
  obtain ⟨xs, k, _, _, h1, h2, h3⟩ := DataW.trod_array ht h
  refine ⟨h1.trans hl, fun c hcs => ?_⟩
  obtain ⟨j, hj, rfl⟩ := List.getElem_of_mem hcs
  have hm : 0 < m := by
    rcases Nat.eq_zero_or_pos m with e | e
    · subst e; simp at hn; omega
    · exact e
  have hjn : j / m < n := by
    rw [Nat.div_lt_iff_lt_mul hm]; omega
  have := h3 (j / m) hjn
  rw [List.getElem?_eq_getElem (by omega), hc] at this
  have hb := (he _ _ _ _ _ _ _ _ this).2
  refine hb _ ?_
  rw [List.mem_iff_getElem?]
  refine ⟨j % m, ?_⟩
  have hmod := Nat.mod_lt j hm
  rw [List.getElem?_take, if_pos hmod, List.getElem?_drop]
  have e : j / m * m + j % m = j := Nat.div_add_mod' j m
  rw [e]; exact List.getElem?_eq_getElem hj
/-- A slice whose elements are numbers side by side. -/
theorem rep_slice {t e : TypeId} {m fuel : Nat} {W : World} {v : Value} {x : DataW H × List MemPlace} (ht : P.underlying t = some (.slice e)) (he : IntsT H P e m) (hc : P.cellsOf e = m) (hm : 0 < m)
    (h : DataW.trod enc P W base spare held fuel t [v] = some x) (hs : ∀ a len cap, v = .slice (some a) len cap → a.spot = none) :
    ∃ (len : Nat) (l : List Int), l.length = len * m ∧ v.oneCell' = true ∧ Rep (E0 W) v (.sl .imm m len (l.map (V.int .i64))) := by
  rcases DataW.trod_slice ht h with ⟨e1, _⟩ | ⟨a, len, cap, elems, rest, n, _, e1, _, _, hlc, _, hel, hread, _⟩
  · obtain rfl : v = .slice none 0 0 := by simpa using e1
    exact ⟨0, [], by simp, rfl, .slnil m⟩
  · obtain rfl : v = .slice (some a) len cap := by simpa using e1
    have hsp := hs a len cap rfl
    obtain ⟨b, off, spot⟩ := a
    simp only at hsp; subst hsp
    have hadd : ∀ q, (Addr.add ⟨b, off, none⟩ q) = ⟨b, off + q, none⟩ := fun q => by
      unfold Addr.add; split
      · rename_i h0; subst h0; rfl
      · rfl
    have hcell : ∀ q, q < len * m → ∃ k, W.cell? ⟨b, off + q, none⟩ = some (.int .i64 k) := fun q hq => by
      have hi : q / m < len := by rw [Nat.div_lt_iff_lt_mul hm]; exact hq
      have h1 := hread (q / m) hi
      rw [List.getElem?_eq_getElem (by omega), hc, hadd] at h1
      cases hcs : W.cells? base ⟨b, off + q / m * m, none⟩ m with
      | none => rw [hcs] at h1; cases h1
      | some cs =>
        rw [hcs] at h1
        have hai := (he _ _ _ _ _ _ _ _ h1).2
        obtain ⟨_, hl, hg⟩ := World.cells?_some hcs
        have hmod := Nat.mod_lt q hm
        have h2 := hg (q % m) hmod
        have e2 : (Addr.add ⟨b, off + q / m * m, none⟩ (q % m)) = ⟨b, off + q, none⟩ := by
          have : off + q / m * m + q % m = off + q := by have := Nat.div_add_mod' q m; omega
          unfold Addr.add; split
          · rename_i h0; simp only [Addr.mk.injEq, true_and, and_true]; omega
          · simp only [Addr.mk.injEq, true_and, and_true]; exact this
        rw [e2, List.getElem?_eq_getElem (by omega)] at h2
        obtain ⟨k, hk⟩ := hai cs[q % m] (List.getElem_mem _)
        exact ⟨k, by rw [h2, hk]⟩
    obtain ⟨g, hg⟩ : ∃ g : Nat → Int, ∀ q, q < len * m → W.cell? ⟨b, off + q, none⟩ = some (.int .i64 (g q)) :=
      ⟨fun q => toI ((W.cell? ⟨b, off + q, none⟩).getD undef), fun q hq => by
        obtain ⟨k, hk⟩ := hcell q hq
        show W.cell? _ = some (.int .i64 (toI ((W.cell? ⟨b, off + q, none⟩).getD undef)))
        rw [hk]; rfl⟩
    refine ⟨len, (List.range (len * m)).map g, by simp, rfl, ?_⟩
    exact .sl .imm b off m len cap _ (fun j => .int .i64 (g j)) (by simp) hlc trivial (fun j hj => imm0 (hg j (by simpa using hj)) rfl) (fun j hj => by simp only [List.getElem_map, List.getElem_range]; exact .int _ _)
end
/-- A package-level variable that holds numbers. -/
theorem rep_var {W : World} {g : Nat} {l : List Int} (h : ∀ j (hj : j < l.length), W.cell? ⟨g, j, none⟩ = some (.int .i64 l[j])) : Rep (E0 W) (.pointer (some ⟨g, 0, none⟩)) (.iptr (l.map (V.int .i64))) :=
  .iptr g 0 _ (fun j => (W.cell? ⟨g, j, none⟩).getD undef) (fun j hj => by
    have hj' : j < l.length := by simpa using hj
    simp only [Nat.zero_add]; rw [h j hj']; exact imm0 (h j hj') rfl) (fun j hj => by
    have hj' : j < l.length := by simpa using hj
    rw [h j hj']; simp only [List.getElem_map]; exact .int _ _)
end Go.AV
