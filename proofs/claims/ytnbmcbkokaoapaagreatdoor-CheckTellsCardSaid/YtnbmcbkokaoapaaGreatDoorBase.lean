/- What this seat's program and the abstract walk have in common: the package-level variables; states, objects, events as abstract values. -/
import Derived.Test.YtnbmcbkokaoapaaGreatDoorAv8
import Derived.Test.YtnbmcbkokaoapaaGreatDoorProg
import Derived.KernelRfl
namespace Go.Proofs.YtnbmcbkokaoapaaGreatDoor
open Go Go.AV
set_option maxRecDepth 100000
theorem mixed : Tryz.prog.follows .mixedOrders = true := by kernel_rfl

def vi (n : Int) : V := .int .i64 n
/-- What the package-level variables hold. -/
def G : Nat → Option (List V) := fun g =>
  bif Nat.beq g 3 then some [.int .i64 (-1073741824), .int .i64 1073741824] else
  bif Nat.beq g 2 then some [.int .i64 0, .int .i64 1] else
  bif Nat.beq g 0 then some [.int .i64 4, .int .i64 5, .int .i64 6, .int .i64 7, .int .i64 8, .int .i64 9, .int .i64 10, .int .i64 11, .int .i64 12] else
  bif Nat.beq g 1 then some [.int .i64 4, .int .i64 5, .int .i64 6, .int .i64 7, .int .i64 8, .int .i64 9, .int .i64 10, .int .i64 11, .int .i64 12] else none

/-- An object: its fields by number. -/
abbrev Obj := Nat → Int
def cObj (o : Obj) : List V := [.int .i64 (o 0), .int .i64 (o 1), .int .i64 (o 2), .int .i64 (o 3), .int .i64 (o 4), .int .i64 (o 5), .int .i64 (o 6), .int .i64 (o 7), .int .i64 (o 8),
  .int .i64 (o 9), .int .i64 (o 10), .int .i64 (o 11), .int .i64 (o 12), .int .i64 (o 13), .int .i64 (o 14), .int .i64 (o 15), .int .i64 (o 16), .int .i64 (o 17)]
abbrev eObj (o : Obj) : V := .agg (cObj o)
def cInts (l : List Int) : List V := l.map (V.int .i64)
abbrev eInts (l : List Int) : V := .sl .imm 1 l.length (cInts l)
def cObjs (l : List Obj) : List V := l.flatMap cObj
abbrev eObjs (l : List Obj) : V := .sl .imm 18 l.length (cObjs l)

/-- A state. -/
structure St where
  objs : List Obj
  lists : Nat → List Int
  pl : Nat → Nat → Int
  game : Nat → Int
def cState (s : St) : List V := [eObjs s.objs, eInts (s.lists 0), eInts (s.lists 1), eInts (s.lists 2), eInts (s.lists 3), eInts (s.lists 4), eInts (s.lists 5), eInts (s.lists 6), eInts (s.lists 7), eInts (s.lists 8), eInts (s.lists 9), eInts (s.lists 10),
  .int .i64 (s.pl 0 0), .int .i64 (s.pl 0 1), .int .i64 (s.pl 0 2), .int .i64 (s.pl 0 3), .int .i64 (s.pl 0 4), .int .i64 (s.pl 0 5), .int .i64 (s.pl 0 6), .int .i64 (s.pl 0 7), .int .i64 (s.pl 0 8),
  .int .i64 (s.pl 1 0), .int .i64 (s.pl 1 1), .int .i64 (s.pl 1 2), .int .i64 (s.pl 1 3), .int .i64 (s.pl 1 4), .int .i64 (s.pl 1 5), .int .i64 (s.pl 1 6), .int .i64 (s.pl 1 7), .int .i64 (s.pl 1 8),
  .int .i64 (s.game 0), .int .i64 (s.game 1), .int .i64 (s.game 2), .int .i64 (s.game 3), .int .i64 (s.game 4), .int .i64 (s.game 5), .int .i64 (s.game 6)]
abbrev eState (s : St) : V := .agg (cState s)
/-- No state: what a variable of that type holds at first. -/
def zState : List V := [.snil, .snil, .snil, .snil, .snil, .snil, .snil, .snil, .snil, .snil, .snil, .snil,
  .int .i64 0, .int .i64 0, .int .i64 0, .int .i64 0, .int .i64 0, .int .i64 0, .int .i64 0, .int .i64 0, .int .i64 0, .int .i64 0, .int .i64 0, .int .i64 0, .int .i64 0,
  .int .i64 0, .int .i64 0, .int .i64 0, .int .i64 0, .int .i64 0, .int .i64 0, .int .i64 0, .int .i64 0, .int .i64 0, .int .i64 0, .int .i64 0, .int .i64 0]
abbrev eE (e : Int) : V := eErr 62 e

theorem cObj_ix {o : Obj} {i : Nat} (h : i < 18) : (cObj o)[i]? = some (.int .i64 (o i)) := by
  have e : cObj o = (List.range 18).map fun j => V.int .i64 (o j) := rfl
  rw [e]; simp [h]
theorem cObj_len (o : Obj) : (cObj o).length = 18 := rfl
theorem cInts_len (l : List Int) : (cInts l).length = l.length := by simp [cInts]
theorem cObjs_len (l : List Obj) : (cObjs l).length = l.length * 18 := by
  induction l with
  | nil => rfl
  | cons o l ih => simp only [cObjs, List.flatMap_cons, List.length_append, cObj_len, List.length_cons] at ih ⊢; omega
theorem cInts_elem {l : List Int} {i : Int} (h0 : 0 ≤ i) (h1 : i < l.length) : ((cInts l).drop (i.toNat * 1)).take 1 = [.int .i64 (l.getD i.toNat 0)] := by
  have hi : i.toNat < l.length := by omega
  rw [Nat.mul_one]
  have : (cInts l).drop i.toNat = .int .i64 (l[i.toNat]) :: (cInts l).drop (i.toNat + 1) := by
    rw [List.drop_eq_getElem_cons (by rw [cInts_len]; exact hi)]; simp [cInts]
  rw [this]; simp [List.getD_eq_getElem?_getD, hi]
def noObj : Obj := fun _ => 0
theorem cObjs_elem : ∀ {l : List Obj} {i : Nat}, i < l.length → ((cObjs l).drop (i * 18)).take 18 = cObj (l.getD i noObj)
  | [], i, h => by simp at h
  | o :: l, 0, _ => by
    simp only [cObjs, List.flatMap_cons, Nat.zero_mul, List.drop_zero]
    rw [List.take_append_of_le_length (by simp [cObj_len]), List.take_of_length_le (by simp [cObj_len])]; rfl
  | o :: l, i + 1, h => by
    have ih := cObjs_elem (l := l) (i := i) (by simpa using h)
    simp only [cObjs, List.flatMap_cons] at ih ⊢
    rw [show (i + 1) * 18 = (cObj o).length + i * 18 by rw [cObj_len]; omega, List.drop_append, List.drop_eq_nil_of_le (by omega)]
    simp only [List.nil_append, Nat.add_sub_cancel_left]
    rw [ih]; simp [List.getD]
theorem cObjs_elem' {l : List Obj} {i : Int} (h0 : 0 ≤ i) (h1 : i < l.length) : ((cObjs l).drop (i.toNat * 18)).take 18 = cObj (l.getD i.toNat noObj) := cObjs_elem (by omega)
theorem obj_ix {o : Obj} {i : Int} (h0 : 0 ≤ i) (h1 : i < 18) : (cObj o)[i.toNat * 1]? = some (.int .i64 (o i.toNat)) := by
  rw [Nat.mul_one]; exact cObj_ix (by omega)
theorem lists_ix {s : St} {i : Int} (h0 : 0 ≤ i) (h1 : i < 11) : (((cState s).drop 1).take 11)[i.toNat * 1]? = some (eInts (s.lists i.toNat)) := by
  have e : ((cState s).drop 1).take 11 = (List.range 11).map fun j => eInts (s.lists j) := rfl
  have : i.toNat < 11 := by omega
  rw [e, Nat.mul_one]; simp [this]
end Go.Proofs.YtnbmcbkokaoapaaGreatDoor
