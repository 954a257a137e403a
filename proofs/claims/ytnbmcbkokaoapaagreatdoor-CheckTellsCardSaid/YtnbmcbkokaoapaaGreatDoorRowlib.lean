/- What a row's own list of variables gives the walk; a witness for rows over a state. -/
import Derived.Test.YtnbmcbkokaoapaaGreatDoorOpen
import Derived.Test.YtnbmcbkokaoapaaGreatDoorLawa
import Derived.Test.YtnbmcbkokaoapaaGreatDoorCards
import Derived.Test.YtnbmcbkokaoapaaGreatDoorTie
import Derived.WalkKit
import Derived.ProofKit
import Derived.OpenShut
import Derived.Deep.DeepHandedRow
import Derived.Lib.LaidTab
import Derived.Carry
import Derived.LaidSub
namespace Go.Proofs.YtnbmcbkokaoapaaGreatDoor
open Go Go.AV Go.ChangeShapes Go.WideShapes Go.ChangeAt Go.RowKit
set_option maxRecDepth 100000
theorem own : ownKnob Tryz.prog.godebug = none := by kernel_rfl
theorem laidOut : laidOutB Tryz.prog = true := by kernel_rfl
/-- The variables that every row of this seat lists. -/
def laidL : List (String × DataW Unit) := [("mulligan/state.any", Rows.laid_mulligan_state_any), ("mulligan/state.flag", Rows.laid_mulligan_state_flag), ("mulligan/state.resting", Rows.laid_mulligan_state_resting), ("mulligan/emit.resting", Rows.laid_mulligan_emit_resting)]
theorem tab_pair {P : Program} {W : World} {name : String} {a b : Int} {rest : List (String × DataW Unit)} {g : Nat} {t e : TypeId} {f0 f1 : Field}
    (hg : P.globalNamed name = some g) (hty : (P.globals[g]?).map (·.type) = some t) (ht : P.underlying t = some (.struct #[f0, f1])) (h0 : f0.offset = 0 ∧ f0.type = e) (h1 : f1.offset = 1 ∧ f1.type = e) (he : P.underlying e = some (.int .i64)) (hce : P.cellsOf e = 1) (hct : P.cellsOf t = 2)
    (h : laidMet P ((name, .agg [.lit (.int .i64 a), .lit (.int .i64 b)]) :: rest) W) : Lib.TabIs P W name .i64 [a, b] := by
  obtain ⟨ps, ⟨g', t', cs, fuel, p, q, hg', ht', hvar, hd, _, _⟩, _⟩ := h
  obtain rfl := Option.some.inj (hg.symm.trans hg')
  obtain rfl := Option.some.inj (hty.symm.trans ht')
  unfold Lib.TabIs
  obtain ⟨xs, k, _, hx, hl, hxl, hread⟩ := DataW.trod_struct ht hd
  have r0 := hread 0 f0 rfl
  have r1 := hread 1 f1 rfl
  have hm : xs.map (·.1) = [.lit (.int .i64 a), .lit (.int .i64 b)] := by
    have := congrArg Prod.fst hx
    exact (DataW.agg.inj this).symm
  match xs, hm with
  | [x0, x1], hm =>
    simp only [List.map_cons, List.map_nil, List.cons.injEq, and_true] at hm
    rw [h0.1, h0.2, hce] at r0
    rw [h1.1, h1.2, hce] at r1
    obtain ⟨n0, c0, e0, _⟩ := DataW.trod_int he r0
    obtain ⟨n1, c1, e1, _⟩ := DataW.trod_int he r1
    subst e0 e1
    obtain ⟨hm0, hm1⟩ := hm
    obtain rfl : n0 = a := by injection hm0 with hm0; injection hm0
    obtain rfl : n1 = b := by injection hm1 with hm1; injection hm1
    rw [hct] at hl
    rw [hvar]
    obtain ⟨cl⟩ := cs
    match cl, hl, c0, c1 with
    | [u, v], _, c0, c1 =>
      obtain rfl : u = .int .i64 n0 := by simpa using c0
      obtain rfl : v = .int .i64 n1 := by simpa using c1
      rfl
theorem vars_ok {W : World} (h : laidMetH Tryz.prog laidL W) : ∀ g cs, G g = some cs → Rep (E0 W) (.pointer (some ⟨g, 0, none⟩)) (.iptr cs) := by
  have m1 : laidMetH Tryz.prog [("mulligan/state.any", Rows.laid_mulligan_state_any)] W := by
    have := laidMetH.filter (fun x => x.1 == "mulligan/state.any") h
    rwa [show laidL.filter (fun x => x.1 == "mulligan/state.any") = [("mulligan/state.any", Rows.laid_mulligan_state_any)] by simp [laidL]] at this
  have t1 : Lib.TabIs Tryz.prog W "mulligan/state.any" .i64 [-1073741824, 1073741824] := tab_pair (rest := []) (g := 3) (t := 113) (by kernel_rfl) (by kernel_rfl) Tryz.underlying113 ⟨rfl, rfl⟩ ⟨rfl, rfl⟩ Tryz.underlying3 (by kernel_rfl) (by kernel_rfl) m1
  have m2 : laidMetH Tryz.prog [("mulligan/state.flag", Rows.laid_mulligan_state_flag)] W := by
    have := laidMetH.filter (fun x => x.1 == "mulligan/state.flag") h
    rwa [show laidL.filter (fun x => x.1 == "mulligan/state.flag") = [("mulligan/state.flag", Rows.laid_mulligan_state_flag)] by simp [laidL]] at this
  have t2 : Lib.TabIs Tryz.prog W "mulligan/state.flag" .i64 [0, 1] := tab_pair (rest := []) (g := 2) (t := 113) (by kernel_rfl) (by kernel_rfl) Tryz.underlying113 ⟨rfl, rfl⟩ ⟨rfl, rfl⟩ Tryz.underlying3 (by kernel_rfl) (by kernel_rfl) m2
  have m3 : laidMetH Tryz.prog [("mulligan/state.resting", Rows.laid_mulligan_state_resting)] W := by
    have := laidMetH.filter (fun x => x.1 == "mulligan/state.resting") h
    rwa [show laidL.filter (fun x => x.1 == "mulligan/state.resting") = [("mulligan/state.resting", Rows.laid_mulligan_state_resting)] by simp [laidL]] at this
  have t3 : Lib.TabIs Tryz.prog W "mulligan/state.resting" .i64 [4, 5, 6, 7, 8, 9, 10, 11, 12] := Lib.tabIs_of_head (rest := []) (g := 0) (t := 25) (by kernel_rfl) (by kernel_rfl) Tryz.underlying25 Tryz.underlying3 (by kernel_rfl) (by kernel_rfl) m3
  have m4 : laidMetH Tryz.prog [("mulligan/emit.resting", Rows.laid_mulligan_emit_resting)] W := by
    have := laidMetH.filter (fun x => x.1 == "mulligan/emit.resting") h
    rwa [show laidL.filter (fun x => x.1 == "mulligan/emit.resting") = [("mulligan/emit.resting", Rows.laid_mulligan_emit_resting)] by simp [laidL]] at this
  have t4 : Lib.TabIs Tryz.prog W "mulligan/emit.resting" .i64 [4, 5, 6, 7, 8, 9, 10, 11, 12] := Lib.tabIs_of_head (rest := []) (g := 1) (t := 25) (by kernel_rfl) (by kernel_rfl) Tryz.underlying25 Tryz.underlying3 (by kernel_rfl) (by kernel_rfl) m4
  have go : ∀ (g : Nat) (zs : List Int), (∀ i, i < zs.length → W.cell? ⟨g, i, none⟩ = some (.int .i64 (zs.getD i 0))) → Rep (E0 W) (.pointer (some ⟨g, 0, none⟩)) (.iptr (zs.map (V.int .i64))) := fun g zs hz =>
    rep_var fun j hj => by have := hz j hj; rwa [List.getD_eq_getElem?_getD, List.getElem?_eq_getElem hj] at this
  intro g cs hg
  unfold G at hg
  cases e1 : Nat.beq g 3 with
  | true => rw [e1] at hg; obtain rfl := Option.some.inj hg; obtain rfl := Nat.eq_of_beq_eq_true e1; exact go _ [-1073741824, 1073741824] fun i hi => t1.cell (by kernel_rfl) i hi
  | false =>
    cases e2 : Nat.beq g 2 with
    | true => rw [e1, e2] at hg; obtain rfl := Option.some.inj hg; obtain rfl := Nat.eq_of_beq_eq_true e2; exact go _ [0, 1] fun i hi => t2.cell (by kernel_rfl) i hi
    | false =>
      cases e3 : Nat.beq g 0 with
      | true => rw [e1, e2, e3] at hg; obtain rfl := Option.some.inj hg; obtain rfl := Nat.eq_of_beq_eq_true e3; exact go _ [4, 5, 6, 7, 8, 9, 10, 11, 12] fun i hi => t3.cell (by kernel_rfl) i hi
      | false =>
        cases e4 : Nat.beq g 1 with
        | true => rw [e1, e2, e3, e4] at hg; obtain rfl := Option.some.inj hg; obtain rfl := Nat.eq_of_beq_eq_true e4; exact go _ [4, 5, 6, 7, 8, 9, 10, 11, 12] fun i hi => t4.cell (by kernel_rfl) i hi
        | false => rw [e1, e2, e3, e4] at hg; cases hg

/-! A world for the witness: the settled one, the variables holding what their initialisers lay; the empty state. -/
def nil0 : Value := .slice none 0 0
def state0 : Value := .agg (((List.replicate 12 nil0) ++ List.replicate 25 (Value.int .i64 0)).toArray)
def state0D {H : Type} : DataW H := .agg [.nil, .agg (List.replicate 11 .nil), .agg (List.replicate 2 (.agg (List.replicate 9 (.lit (.int .i64 0))))), .agg (List.replicate 7 (.lit (.int .i64 0)))]
def putCells (h : Array Go.Obj) (g : Nat) (l : List Int) : Array Go.Obj := h.modify g fun
  | Go.Obj.cells _ t frozen => Go.Obj.cells (l.map (Value.int .i64)).toArray t frozen
  | o => o
noncomputable def laidWorld (os : Os) : World :=
  { World.holding Tryz.prog os ⟨#[], #[], []⟩ with heap := putCells (putCells (putCells (putCells (World.holding Tryz.prog os ⟨#[], #[], []⟩).heap 3 [-1073741824, 1073741824]) 2 [0, 1]) 0 [4, 5, 6, 7, 8, 9, 10, 11, 12]) 1 [4, 5, 6, 7, 8, 9, 10, 11, 12] }
end Go.Proofs.YtnbmcbkokaoapaaGreatDoor
