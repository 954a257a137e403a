/- Slices that are gathered, apart from the memory. -/
import Derived.Test.YtnbmcbkokaoapaaGreatDoorAv9
import Derived.Test.YtnbmcbkokaoapaaGreatDoorBase
namespace Go.Proofs.YtnbmcbkokaoapaaGreatDoor
open Go Go.AV
set_option maxRecDepth 100000
def upd {α : Type} (f : Nat → α) (i : Nat) (v : α) : Nat → α := fun j => if j = i then v else f j
def addTok (v : V) (h : Hp) : Hp := match v with | .sl (.own t) _ _ cs => h.setTok t cs.length | _ => h
def vFresh (v : V) (h : Hp) : Prop := match v with | .sl (.own t) _ _ _ => h.fresh t | _ => True
/-- A slice that is gathered, apart from the memory. -/
def AccV (n len : Nat) (cs : List V) (v : V) : Prop := cs.length = len * n ∧ ((v = .snil ∧ cs = [] ∧ len = 0) ∨ v = .sl .full n len cs ∨ ∃ t, v = .sl (.own t) n len cs)
theorem acc_iff {h0 h : Hp} {n len : Nat} {cs : List V} {v : V} : Go.AV.Acc h0 n len cs v h ↔ AccV n len cs v ∧ vFresh v h0 ∧ h = addTok v h0 := by
  constructor
  · rintro ⟨e, ⟨rfl, e2, e3, rfl⟩ | ⟨rfl, rfl⟩ | ⟨t, f, rfl, rfl⟩⟩
    · exact ⟨⟨e, .inl ⟨rfl, e2, e3⟩⟩, trivial, rfl⟩
    · exact ⟨⟨e, .inr (.inl rfl)⟩, trivial, rfl⟩
    · exact ⟨⟨e, .inr (.inr ⟨t, rfl⟩)⟩, f, rfl⟩
  · rintro ⟨⟨e, ⟨rfl, e2, e3⟩ | rfl | ⟨t, rfl⟩⟩, f, rfl⟩
    · exact ⟨e, .inl ⟨rfl, e2, e3, rfl⟩⟩
    · exact ⟨e, .inr (.inl ⟨rfl, rfl⟩)⟩
    · exact ⟨e, .inr (.inr ⟨t, f, rfl, rfl⟩)⟩
theorem AccV.imm {n len : Nat} {cs : List V} {v : V} (a : AccV n len cs v) : VLe v (.sl .imm n len cs) := by
  rcases a with ⟨_, ⟨rfl, rfl, rfl⟩ | rfl | ⟨t, rfl⟩⟩
  · exact .nilimm
  · exact .fullimm
  · exact .own
theorem AccV.len? {n len : Nat} {cs : List V} {v : V} (a : AccV n len cs v) : v.len? = some len := by
  rcases a with ⟨_, ⟨rfl, rfl, rfl⟩ | rfl | ⟨t, rfl⟩⟩ <;> rfl
theorem AccV.cells {n len : Nat} {cs : List V} {v : V} (a : AccV n len cs v) : v.cells = [v] ∧ v.solid = true := by
  rcases a with ⟨_, ⟨rfl, rfl, rfl⟩ | rfl | ⟨t, rfl⟩⟩ <;> exact ⟨rfl, rfl⟩
theorem addTok_le {v : V} {h : Hp} (f : vFresh v h) : HLe (addTok v h) h := by
  unfold addTok vFresh at *
  split
  · exact .setTok f.2
  · exact .refl _
theorem addTok_box (v : V) (h : Hp) : (addTok v h).box = h.box := by unfold addTok; split <;> rfl
theorem addTok_setBox (v : V) (h : Hp) (id : Nat) (cs : List V) : addTok v (h.setBox id cs) = (addTok v h).setBox id cs := by unfold addTok; split <;> rfl
end Go.Proofs.YtnbmcbkokaoapaaGreatDoor
