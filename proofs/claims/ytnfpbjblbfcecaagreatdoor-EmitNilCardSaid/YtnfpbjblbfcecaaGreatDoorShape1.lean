/- Walks: who has lost; what a creature is. -/
import Derived.Test.YtnfpbjblbfcecaaGreatDoorAwait
namespace Go.Proofs.YtnfpbjblbfcecaaGreatDoor
open Go Go.AV
set_option maxRecDepth 100000
set_option maxHeartbeats 1000000
/-- Has a player lost? -/
def lostF (s : St) (p : Int) : Bool := (p == 0 || p == 1) && (decide (s.pl p.toNat 0 ≤ 0) || s.pl p.toNat 8 == 1)
theorem plp_at {s : St} {p : Int} (h0 : 0 ≤ p) (h1 : p < 2) : ((((cState s).drop 12)).drop (p.toNat * 9)).take 9 = plRow (s.pl p.toNat) := by
  have : p = 0 ∨ p = 1 := by omega
  rcases this with e | e <;> subst e <;> rfl
theorem lost_eq {s : St} {p : Int} (hp : 0 ≤ p ∧ p < 2) : lostF s p = (bif decide (s.pl p.toNat 0 ≤ 0) then true else s.pl p.toNat 8 == 1) := by
  have : p = 0 ∨ p = 1 := by omega
  rcases this with e | e <;> subst e <;> simp [lostF]

def resultF (s : St) : Int := if lostF s 0 && lostF s 1 then 3 else if lostF s 0 then 2 else if lostF s 1 then 1 else 0

/-- An object's card. -/
def kindF (s : St) (i : Int) : Card := (cardE (s.objs.getD i.toNat noObj 0)).1
def creatureF (s : St) (i : Int) : Bool := inN i s.objs.length && s.objs.getD i.toNat noObj 3 == 8 && (kindF s i).kind == 1
/-- An effect that lasts. -/
structure Static where
  src : Int
  ctl : Int
  grp : Int
  doo : Eff0
def cStatic (x : Static) : List V := [.int .i64 x.src, .int .i64 x.ctl, .int .i64 x.grp, .int .i64 x.doo.op, .int .i64 x.doo.n, .int .i64 x.doo.m, .int .i64 x.doo.who, .sl .imm 5 0 []]
def reachesF (x : Static) (s : St) (i : Int) : Bool :=
  if x.grp = 0 then true else if x.grp = 1 then s.objs.getD i.toNat noObj 2 == x.ctl else if x.grp = 2 then !(s.objs.getD i.toNat noObj 2 == x.ctl) else s.objs.getD i.toNat noObj 2 == x.ctl && i != x.src
theorem cr_in {n i : Int} (h : (bif decide (0 ≤ i) then decide (i < n) else false) = true) : 0 ≤ i ∧ i < n := by
  by_cases e : 0 ≤ i
  · exact ⟨e, by simpa [e] using h⟩
  · simp [e] at h
theorem cr_in2 {n i : Int} {b : Bool} (h : (bif bif decide (0 ≤ i) then decide (i < n) else false then b else false) = true) : 0 ≤ i ∧ i < n := by
  refine cr_in ?_
  cases e : (bif decide (0 ≤ i) then decide (i < n) else false) with
  | true => rfl
  | false => rw [e] at h; cases h
theorem cr_eq {s : St} {i : Int} : (bif bif bif decide (0 ≤ i) then decide (i < (s.objs.length : Int)) else false then s.objs.getD i.toNat noObj 3 == 8 else false then (kindF s i).kind == 1 else false) = creatureF s i := by
  simp only [creatureF, inN]
  cases decide (0 ≤ i) <;> cases decide (i < (s.objs.length : Int)) <;> cases (s.objs.getD i.toNat noObj 3 == 8) <;> rfl
theorem cardE_err {n : Int} (h : (cardE n).2 ≠ 0) : (cardE n).1 = noCard := by
  unfold cardE at *; split
  · rfl
  · rename_i h1; rw [if_neg h1] at h; exact absurd rfl h

end Go.Proofs.YtnfpbjblbfcecaaGreatDoor
