/- Walks: the effects that last. -/
import Derived.Test.YtnfpbjblbfcecaaGreatDoorShape1
namespace Go.Proofs.YtnfpbjblbfcecaaGreatDoor
open Go Go.AV
set_option maxRecDepth 100000
set_option maxHeartbeats 1000000
theorem cardF_subs : ∀ k : Fin 120, ((cardF (k.val : Int)).abs.all fun a => a.when != 5 || 0 < a.doo.subs.length) = true := by decide +kernel
theorem cardE_subs (n : Int) : ∀ a ∈ (cardE n).1.abs, a.when = 5 → 0 < a.doo.subs.length := by
  intro a ha hw
  unfold cardE at ha
  split at ha
  · simp [noCard] at ha
  · rename_i h
    have := cardF_subs ⟨n.toNat, by omega⟩
    have e : ((n.toNat : Nat) : Int) = n := by omega
    simp only [e, List.all_eq_true] at this
    have := this a ha
    simpa [hw] using this
def noEff0 : Eff0 := ⟨0, 0, 0, 0⟩
def staticOf (s : St) (id : Int) (j : Int) : Static := ⟨id, s.objs.getD id.toNat noObj 2, ((kindF s id).abs.getD j.toNat noAb).doo.n, ((kindF s id).abs.getD j.toNat noAb).doo.subs.getD 0 noEff0⟩
def staticsOf (s : St) (id : Int) : List Static := (usesF (kindF s id) 5).map (staticOf s id)
/-- The effects that last. -/
def staticsF (s : St) : List Static := (s.lists 8).flatMap (staticsOf s)
def stUp (s : St) (i k : Nat) : List Static := ((s.lists 8).take i).flatMap (staticsOf s) ++ (staticsOf s ((s.lists 8).getD i 0)).take k
theorem stUp_next {s : St} {i : Nat} (h : i < (s.lists 8).length) : stUp s i (usesF (kindF s ((s.lists 8).getD i 0)) 5).length = stUp s (i + 1) 0 := by
  have e : (staticsOf s ((s.lists 8).getD i 0)).length = (usesF (kindF s ((s.lists 8).getD i 0)) 5).length := by simp [staticsOf]
  rw [stUp, ← e, List.take_length, stUp, List.take_zero, List.append_nil, List.take_add_one, List.getElem?_eq_getElem h, getD_of h, Option.toList_some, List.flatMap_append]
  simp only [List.flatMap_cons, List.flatMap_nil, List.append_nil]
theorem stUp_succ {s : St} {i k : Nat} (h : k < (usesF (kindF s ((s.lists 8).getD i 0)) 5).length) : stUp s i (k + 1) = stUp s i k ++ [staticOf s ((s.lists 8).getD i 0) ((usesF (kindF s ((s.lists 8).getD i 0)) 5).getD k 0)] := by
  rw [stUp, stUp, List.take_add_one, staticsOf, List.getElem?_map, List.getElem?_eq_getElem h, getD_of h, List.append_assoc]; rfl
theorem stUp_all {s : St} : stUp s (s.lists 8).length 0 = staticsF s := by simp [stUp, staticsF]
def cStatics (l : List Static) : List V := l.flatMap cStatic
theorem uses_in {c : Card} {w : Int} {x : Int} (h : x ∈ usesF c w) : 0 ≤ x ∧ x < c.abs.length ∧ (c.abs.getD x.toNat noAb).when = w := by
  simp only [usesF, usesUp, List.mem_map, List.mem_filter, List.mem_range, beq_iff_eq] at h
  obtain ⟨j, ⟨h1, h2⟩, rfl⟩ := h
  exact ⟨by omega, by omega, by simpa using h2⟩

theorem sub_at {l : List Eff0} (h : 0 < l.length) : ((l.flatMap cEff0).drop (Int.toNat 0 * 5)).take 5 = cEff0 (l.getD 0 noEff0) := flat_at (f := cEff0) (n := 5) (fun _ => rfl) noEff0 (i := 0) h
theorem static_app (l : List Static) (x : Static) : cStatics (l ++ [x]) = cStatics l ++ cStatic x := by simp [cStatics]
theorem static_pos {s : St} {id x : Int} (h : x ∈ usesF (kindF s id) 5) : 0 < ((kindF s id).abs.getD x.toNat noAb).doo.subs.length := by
  obtain ⟨h0, h1, h2⟩ := uses_in h
  have hlt : x.toNat < (kindF s id).abs.length := by omega
  refine cardE_subs (s.objs.getD id.toNat noObj 0) _ ?_ h2
  rw [getD_of' hlt]; exact List.getElem_mem hlt
theorem abil_elem {l : List Abil} {i : Int} (h0 : 0 ≤ i) (h1 : i < l.length) : ((l.flatMap cAbil).drop (i.toNat * 14)).take 14 = cAbil (l.getD i.toNat noAb) := flat_at (f := cAbil) (n := 14) (fun _ => rfl) noAb (by omega)
theorem stUp_len {s : St} (hl : (s.lists 8).length ≤ 1000000) {i k : Nat} : (stUp s i k).length ≤ 10000000 := by
  have h1 : ∀ id, (staticsOf s id).length ≤ 4 := fun id => by
    rw [staticsOf, List.length_map]; exact Nat.le_trans uses_le (cardE_abs _)
  have h2 : ∀ l : List Int, (l.flatMap (staticsOf s)).length ≤ l.length * 4 := fun l => by
    induction l with
    | nil => simp
    | cons a l ih => rw [List.flatMap_cons, List.length_append, List.length_cons]; have := h1 a; omega
  have h3 := h2 ((s.lists 8).take i)
  have h4 : ((s.lists 8).take i).length ≤ 1000000 := Nat.le_trans (List.length_take_le' _ _) hl
  have h5 : ((staticsOf s ((s.lists 8).getD i 0)).take k).length ≤ 4 := Nat.le_trans (List.length_take_le' _ _) (h1 _)
  rw [stUp, List.length_append]; omega

end Go.Proofs.YtnfpbjblbfcecaaGreatDoor
