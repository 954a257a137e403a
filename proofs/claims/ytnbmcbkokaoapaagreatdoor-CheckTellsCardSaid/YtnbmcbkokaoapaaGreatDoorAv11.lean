/- A part of a slice that is held by value. -/
import Derived.Test.YtnbmcbkokaoapaaGreatDoorAv10
import Derived.Laws.Slices
namespace Go.AV
open Go
section
variable {P : Program} {G : Nat → Option (List V)} {h : Hp} {o : Oper} {ρ : Operand → V}
/-- 's[l:]' of a slice that is held by value. -/
theorem q_sliceS {t e : TypeId} {x lo : Operand} (ho : o.op = .slice t x (some lo) none none) (hu : P.underlying t = some (.slice e)) {n : Nat} (hs : ∀ w, (sizeOf e).run P w = .ok n w) {k : SK} {len l : Nat} {ik : IntKind} {cs : List V} (hx : ρ x = .sl k n len cs) (hlo : ρ lo = .int ik (l : Int)) (hl : l ≤ len) :
    QOp P G h o ρ (.sl .imm n (len - l) (cs.drop (l * n))) :=
  .of_run fun _ _ _ _ w a _ hr => by
    have h1 := hr x (by simp [ho, Op.operands]); rw [hx] at h1
    have h2 := hr lo (by simp [ho, Op.operands]); rw [hlo] at h2
    have e2 := h2.int_inv
    have he : P.elem t = e := by simp [Program.elem, hu]
    have hu' : P.underlying t = some (.slice (P.elem t)) := by rw [he]; exact hu
    have hrun : ∀ (b : Option Addr) (cap : Nat), len ≤ cap → (Instr.sliceAt t (.slice b len cap) (some (.int ik (l : Int))) none none).run P w = .ok (sliced b l len cap n) w := fun b cap hc => by
      rw [run_sliceAt_slice w t _ _ _ _ hu', run_slice_l w t b len cap hu' ik (l : Int) (by omega) (by omega), he, hs]
      simp [Result.andThen]
    rcases h1.sl_inv with ⟨e1, e3, e4, _⟩ | ⟨b, off, cap, f, e1, hcl, hc, hk, hm, hv⟩
    · subst e3; subst e4
      obtain rfl : l = 0 := by omega
      have : (Instr.sliceAt t (.slice none 0 0) (some (.int ik 0)) none none).run P w = .ok (sliced none 0 0 0 n) w := hrun none 0 (Nat.le_refl _)
      refine ⟨sliced none 0 0 0 n, by simp [execOp, ho, e1, e2, this], ?_⟩
      simp only [sliced, List.drop_nil, Nat.sub_self, if_true]
      exact .slnil n
    · refine ⟨sliced (some ⟨b, off, none⟩) l len cap n, by simp [execOp, ho, e1, e2, hrun _ _ hc], ?_⟩
      by_cases hcap : cap = l
      · have : len = l := by omega
        subst hcap; subst this
        have hd : cs.drop (len * n) = [] := List.drop_eq_nil_of_le (by omega)
        rw [hd]
        simp only [sliced, if_true, Nat.sub_self]
        exact .sl .imm b off n 0 0 [] f (by simp) (Nat.le_refl _) trivial (by simp) (by simp)
      · simp only [sliced, if_neg hcap, Option.map]
        have ha : (Addr.mk b off none).add (l * n) = ⟨b, off + l * n, none⟩ := by simp [Addr.add]
        rw [ha]
        refine .sl .imm b (off + l * n) n (len - l) (cap - l) (cs.drop (l * n)) (fun j => f (l * n + j)) (by rw [List.length_drop, hcl, Nat.sub_mul]) (by omega) trivial (fun j hj => ?_) (fun j hj => ?_)
        · rw [List.length_drop] at hj
          rw [Nat.add_assoc]; exact hm _ (by omega)
        · rw [List.length_drop] at hj
          rw [List.getElem_drop]; exact hv _ (by omega)
end
end Go.AV
