/- Walks: what is left of a creature; what is dying. -/
import Derived.Test.YtnfpbjblbfcecaaGreatDoorShape3
namespace Go.Proofs.YtnfpbjblbfcecaaGreatDoor
open Go Go.AV
set_option maxRecDepth 100000
set_option maxHeartbeats 1000000
theorem right_parts {s : St} (h : checkF s = 0) : s.objs.length ≤ 400 ∧ rangesF s = true ∧ zonesF s = true ∧ ∀ o ∈ s.objs, formedF o = true := by
  unfold checkF at h
  split at h
  · cases h
  split at h
  · cases h
  split at h
  · cases h
  split at h
  · cases h
  rename_i a b c d
  refine ⟨by omega, by simpa using b, by simpa using c, fun o ho => ?_⟩
  simp only [List.any_eq_true, not_exists, not_and] at d
  have := d o ho; simpa using this
theorem right_ids {s : St} (h : zonesF s = true) {z : Nat} (hz : z < 11) : ∀ id ∈ s.lists z, 0 ≤ id ∧ id < s.objs.length ∧ objAt s id 3 = z ∧ standsF (objAt s id) z = true := by
  simp only [zonesF, Bool.and_eq_true, List.all_eq_true, List.mem_range] at h
  intro id hid
  have := h.1.1 z hz id hid
  simp only [standsAt, Bool.and_eq_true, beq_iff_eq] at this
  obtain ⟨⟨a, b⟩, c⟩ := this
  have : 0 ≤ id ∧ id < s.objs.length := by simpa [inN] using a
  exact ⟨this.1, this.2, b, c⟩
theorem right_obj {s : St} (h : rangesF s = true) {i : Nat} (hi : i < s.objs.length) (f : Nat) (hf : f < 18) : oLo s.objs.length f ≤ s.objs.getD i noObj f ∧ s.objs.getD i noObj f ≤ oHi s.objs.length f := by
  simp only [rangesF, Bool.and_eq_true] at h
  have := (List.all_eq_true.1 h.1.1) _ (getD_mem' (z := noObj) hi)
  have := (all_up.1 this) f hf
  simpa [inB] using this
theorem right_obd {s : St} (h : rangesF s = true) {i : Int} (hi : 0 ≤ i ∧ i < s.objs.length) : obd (s.objs.getD i.toNat noObj) :=
  have hl : i.toNat < s.objs.length := by omega
  ⟨right_obj h hl 7 (by decide), right_obj h hl 8 (by decide), right_obj h hl 9 (by decide)⟩
theorem creature_in {s : St} {i : Int} (h : creatureF s i = true) : 0 ≤ i ∧ i < s.objs.length := by
  simp only [creatureF, Bool.and_eq_true] at h; simpa [inN] using h.1.1
def ofF (s : St) (i : Int) : Sh × Int := if checkF s ≠ 0 then (⟨0, 0, 0⟩, checkF s) else if creatureF s i = false then (⟨0, 0, 0⟩, 4) else (evalF s i, 0)
theorem of_ok {s : St} {i : Int} (h : (ofF s i).2 = 0) : checkF s = 0 ∧ creatureF s i = true ∧ ofF s i = (evalF s i, 0) := by
  unfold ofF at *
  split at h
  · rename_i a; exact absurd h a
  split at h
  · cases h
  · rename_i a b; exact ⟨by omega, by simpa using b, by rw [if_neg a, if_neg b]⟩
def leftF (s : St) (i : Int) : Int × Int := if (ofF s i).2 ≠ 0 then (0, (ofF s i).2) else ((ofF s i).1.t - s.objs.getD i.toNat noObj 6, 0)
def dies (s : St) (id : Int) : Bool := (leftF s id).2 == 0 && decide ((leftF s id).1 ≤ 0)
def dyingUp (s : St) (i : Nat) : List Int := ((s.lists 8).take i).filter (dies s)
/-- What is dying. -/
def dyingF (s : St) : List Int := (s.lists 8).filter (dies s)
theorem dying_all {s : St} : dyingUp s (s.lists 8).length = dyingF s := by simp [dyingUp, dyingF]
theorem dying_step {s : St} {i : Nat} (h : i < (s.lists 8).length) : dyingUp s (i + 1) = dyingUp s i ++ if dies s ((s.lists 8).getD i 0) then [(s.lists 8).getD i 0] else [] := by
  rw [dyingUp, List.take_add_one, List.getElem?_eq_getElem h, getD_of h, Option.toList_some, List.filter_append, dyingUp]; simp only [List.filter_cons, List.filter_nil]
theorem dying_yes {s : St} {i : Nat} (h : i < (s.lists 8).length) (c : dies s ((s.lists 8).getD i 0) = true) : dyingUp s (i + 1) = dyingUp s i ++ [(s.lists 8).getD i 0] := by rw [dying_step h, if_pos c]
theorem dying_no {s : St} {i : Nat} (h : i < (s.lists 8).length) (c : dies s ((s.lists 8).getD i 0) = false) : dyingUp s (i + 1) = dyingUp s i := by rw [dying_step h, if_neg (by simp [-List.getD_eq_getElem?_getD, c]), List.append_nil]
theorem dying_le {s : St} {i : Nat} : (dyingUp s i).length ≤ (s.lists 8).length := Nat.le_trans (List.length_filter_le _ _) (by rw [List.length_take]; omega)
def quietF (s : St) : Bool := s.game 6 != 0 || (resultF s == 0 && ((dyingF s).length : Int) == 0)
def settledF (s : St) : Bool := checkF s == 0 && quietF s

end Go.Proofs.YtnfpbjblbfcecaaGreatDoor
