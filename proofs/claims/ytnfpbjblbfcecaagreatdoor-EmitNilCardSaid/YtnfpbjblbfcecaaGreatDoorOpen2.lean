/- Arguments that read as data are values of the abstract walk: lists of numbers, lists of acts. -/
import Derived.Test.YtnfpbjblbfcecaaGreatDoorOpen
import Derived.Test.YtnfpbjblbfcecaaGreatDoorNil2
namespace Go.AV
open Go Go.RowKit
/-- A structure whose fields are numbers, one behind the other. -/
theorem IntsT.struct {H : Type} {P : Program} {t e : TypeId} {fs : Array Field} {m : Nat} (ht : P.underlying t = some (.struct fs)) (he : P.underlying e = some (.int .i64)) (hc : P.cellsOf e = 1) (hl : P.cellsOf t = m) (hn : fs.size = m)
    (hf : ∀ j (hj : j < fs.size), fs[j].offset = j ∧ fs[j].type = e) : IntsT H P t m := fun _ _ _ _ _ _ cs x h => by
  obtain ⟨xs, k, _, _, h1, h2, h3⟩ := DataW.trod_struct ht h
  refine ⟨h1.trans hl, fun c hcs => ?_⟩
  obtain ⟨j, hj, rfl⟩ := List.getElem_of_mem hcs
  have hjm : j < fs.size := by omega
  have := h3 j fs[j] (Array.getElem?_eq_getElem hjm)
  obtain ⟨f1, f2⟩ := hf j hjm
  rw [List.getElem?_eq_getElem (by omega), f1, f2, hc] at this
  obtain ⟨n, hn, _⟩ := DataW.trod_int he this
  have h0 : (List.take 1 (List.drop j cs))[0]? = some (.int .i64 n) := by rw [hn]; rfl
  rw [List.getElem?_take, if_pos (by decide), List.getElem?_drop, Nat.add_zero, List.getElem?_eq_getElem hj] at h0
  exact ⟨n, Option.some.inj h0⟩
/-- A slice argument whose elements are numbers side by side. -/
theorem open_slice {H : Type} {P : Program} {enc : TypeId × Value → H} {W : World} {base m : Nat} {t e : TypeId} {v : Value} {d : DataW H} {ps : List MemPlace} (ht : P.underlying t = some (.slice e)) (he : IntsT H P e m) (hc : P.cellsOf e = m) (hm : 0 < m)
    (hval : Value.okWide P W .any base t v) (h : DataW.Trod enc P W 0 (fun _ => true) true t v d ps) : ∃ (len : Nat) (l : List Int), l.length = len * m ∧ Rep (E0 W) v (.sl .imm m len (l.map (V.int .i64))) := by
  obtain ⟨a, len, cap, rfl⟩ := WideShapes.okWide_slice ht hval
  obtain ⟨fuel, hf⟩ := h
  have hf : DataW.trod enc P W 0 (fun _ => true) true fuel t [.slice a len cap] = some (d, ps) := hf
  have hok : Cell.okWide P W .any base t (.slice a len cap) := by simpa only [Value.okWide, ht] using hval
  obtain ⟨n, l, h1, _, h3⟩ := rep_slice ht he hc hm hf (fun a' len' cap' e' => by
    obtain ⟨rfl, rfl, rfl⟩ : a = some a' ∧ len = len' ∧ cap = cap' := by simpa using e'
    simp only [Cell.okWide, ht, Cell.ok] at hok
    exact hok.2.2.2.1)
  exact ⟨n, l, h1, h3⟩
end Go.AV
namespace Go.Proofs.YtnfpbjblbfcecaaGreatDoor
open Go Go.AV Go.RowKit Go.ChangeShapes Go.WideShapes
set_option maxRecDepth 100000
theorem open_ints {H : Type} {enc : TypeId × Value → H} {W : World} {base : Nat} {v : Value} {d : DataW H} {ps : List MemPlace} (hval : Value.okWide Tryz.prog W .any base 23 v)
    (h : DataW.Trod enc Tryz.prog W 0 (fun _ => true) true 23 v d ps) : ∃ l : List Int, Rep (E0 W) v (eInts l) := by
  obtain ⟨n, l, h1, h2⟩ := open_slice Tryz.underlying23 it_int (by kernel_rfl) (by decide) hval h
  obtain rfl : n = l.length := by omega
  exact ⟨l, h2⟩
def chopA : Nat → List Int → List Act
  | 0, _ => []
  | n + 1, l => ⟨l.getD 0 0, l.getD 1 0, l.getD 2 0, l.getD 3 0⟩ :: chopA n (l.drop 4)
theorem chopA_len : ∀ (n : Nat) (l : List Int), (chopA n l).length = n
  | 0, _ => rfl
  | n + 1, l => by simp [chopA, chopA_len n]
theorem chopA_cells : ∀ (n : Nat) (l : List Int), l.length = n * 4 → cActs (chopA n l) = l.map (V.int .i64)
  | 0, l, h => by
    have : l = [] := List.eq_nil_of_length_eq_zero (by omega)
    subst this; rfl
  | n + 1, l, h => by
    have ih := chopA_cells n (l.drop 4) (by simp; omega)
    match l, h, ih with
    | a :: b :: c :: e :: r, h, ih =>
      show cAct _ ++ cActs (chopA n r) = _
      have ih : cActs (chopA n r) = r.map (V.int .i64) := ih
      rw [ih]; rfl
    | [], h, _ => simp at h
    | [_], h, _ | [_, _], h, _ | [_, _, _], h, _ => simp at h; omega
theorem it_act {H : Type} : IntsT H Tryz.prog 37 4 := .struct Tryz.underlying37 Tryz.underlying3 (by kernel_rfl) (by kernel_rfl) rfl (by decide)
theorem open_acts {H : Type} {enc : TypeId × Value → H} {W : World} {base : Nat} {v : Value} {d : DataW H} {ps : List MemPlace} (hval : Value.okWide Tryz.prog W .any base 30 v)
    (h : DataW.Trod enc Tryz.prog W 0 (fun _ => true) true 30 v d ps) : ∃ l : List Act, Rep (E0 W) v (.sl .imm 4 l.length (cActs l)) := by
  obtain ⟨n, l, h1, h2⟩ := open_slice Tryz.underlying30 it_act (by kernel_rfl) (by decide) hval h
  exact ⟨chopA n l, by rw [chopA_len, chopA_cells n l h1]; exact h2⟩
end Go.Proofs.YtnfpbjblbfcecaaGreatDoor
