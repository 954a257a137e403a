/- Walks: the law's fixed fact; rounds again. -/
import Derived.Test.YtnfpbjblbfcecaaGreatDoorRun
import Derived.Test.YtnfpbjblbfcecaaGreatDoorNumst
namespace Go.Proofs.YtnfpbjblbfcecaaGreatDoor
open Go Go.AV
set_option maxRecDepth 100000
set_option maxHeartbeats 1000000
def aliveO : Obj := fun f => match f with | 0 => 10 | 3 => 8 | 6 => 1 | _ => 0
def aliveSt : St := ⟨[aliveO], fun z => if z = 8 then [0] else [], fun _ f => if f = 0 then 1 else 0, fun _ => 0⟩
theorem sz_of {s : St} (h : checkF s = 0) (hf : Few s) : Sz s := by
  obtain ⟨a, b, c, d⟩ := right_parts h
  refine ⟨a, ?_, hf, fun i => ?_⟩
  · simp only [zonesF, Bool.and_eq_true, decide_eq_true_eq] at c; omega
  · by_cases hi : i < s.objs.length
    · exact right_obj b hi 3 (by decide)
    · rw [List.getD_eq_getElem?_getD, List.getElem?_eq_none (by omega)]; exact ⟨by decide, by decide⟩
theorem new_eq (s : St) : newF s [] = ⟨s, [], [], [], checkF s⟩ := by
  have e : randF [] = 0 := rfl
  unfold newF Em.fail
  rw [e]; split
  · rename_i h
    have h : checkF s = 0 := h
    rw [h]
  · rfl
theorem new_p {s : St} (hf : Few s) : EmP (newF s []) := by
  rw [new_eq]
  exact ⟨⟨fun e => sz_of e hf, by simp⟩, by simp⟩
/-- A new emitter, without draws. -/
theorem new_nil (s : St) (hb : s.objs.length ≤ 1000000) (hl : ∀ z, (s.lists z).length ≤ 1000000) (h : Hp) : ACalls Tryz.prog G 9 [eState s, .snil] h fun r h' => ∃ id, r = .ptr id 0 ∧ EmAt h id (newF s []) h' :=
  .args (bs := [eState s, eInts []]) rfl (fun j => match j with | 0 => .refl _ | 1 => .nilimm | _ + 2 => .refl _) (new_calls s [] hb hl (by simp) h)
def alive0 : Em := newF aliveSt []
theorem alive_a : alive0.err = 0 ∧ quietF alive0.state = false := by decide +kernel
theorem alive_b : (roundF alive0).err = 0 ∧ quietF (roundF alive0).state = true ∧ ((roundF alive0).state.lists 4).length = 1 ∧ (roundF alive0).state.game 6 = 0 := by decide +kernel
theorem alive_runs {m : Em} {n : Int} (h : Runs 9 alive0 0 m n) : m = roundF alive0 ∧ n = 1 := by
  cases h with
  | quiet h => exact absurd (h alive_a.1) (by rw [alive_a.2]; decide)
  | out _ _ h => exact absurd h (by decide)
  | more _ _ _ h =>
    cases h with
    | quiet h => exact ⟨rfl, rfl⟩
    | out a b _ => rw [alive_b.2.1] at b; cases b
    | more a b _ _ => rw [alive_b.2.1] at b; cases b
theorem alive_few : Few aliveSt := fun z hz => by simp only [aliveSt]; rw [if_neg (by omega)]
theorem alive_le : VLe (V.agg ([V.sl .full 18 1 (cObj aliveO), .snil, .snil, .snil, .snil, .snil, .snil, .snil, .snil, V.sl .full 1 1 [.int .i64 0], .snil, .snil] ++ (cState aliveSt).drop 12)) (eState aliveSt) := by
  refine LLe.agg (LLe.append (d := (cState aliveSt).drop 12) (b := (cState aliveSt).take 12) ?_ (LLe.refl _))
  exact .cons .fullimm (.cons .nilimm (.cons .nilimm (.cons .nilimm (.cons .nilimm (.cons .nilimm (.cons .nilimm (.cons .nilimm (.cons .nilimm (.cons .fullimm (.cons .nilimm (.cons .nilimm .nil)))))))))))

theorem long_no {s : St} (hf : Few s) (h : longF s 40 = false) : s.objs.length ≤ 40 ∧ ∀ z, (s.lists z).length ≤ 50 := by
  simp only [longF, Bool.or_eq_false_iff, decide_eq_false_iff_not, List.any_eq_false, List.mem_range] at h
  refine ⟨by omega, fun z => ?_⟩
  by_cases hz : z < 11
  · have := h.2 z hz; simp at this; omega
  · rw [hf z (by omega)]; simp
theorem long_hb {s : St} (hf : Few s) (h : longF s 40 = false) : s.objs.length ≤ 1000000 ∧ ∀ z, (s.lists z).length ≤ 1000000 := by
  obtain ⟨a, b⟩ := long_no hf h
  exact ⟨by omega, fun z => by have := b z; omega⟩
theorem ref_no {l : Bool} {c : Int} (h : (bif l then true else c != 0) = false) : l = false ∧ c = 0 := by
  cases l <;> simp at h ⊢; exact h
theorem runs_quiet {fuel : Int} {m m' : Em} {n n' : Int} (h : Runs fuel m n m' n') (he : m.err = 0) (hq : quietF m.state = true) : m' = m ∧ n' = n := by
  cases h with
  | quiet _ => exact ⟨rfl, rfl⟩
  | out _ b _ => rw [hq] at b; cases b
  | more _ b _ _ => rw [hq] at b; cases b

end Go.Proofs.YtnfpbjblbfcecaaGreatDoor
