/- Walks: errors as numbers. -/
import Derived.Test.YtnfpbjblbfcecaaGreatDoorAv10
import Derived.Test.YtnfpbjblbfcecaaGreatDoorBase
namespace Go.AV
open Go
section
variable {P : Program} {G : Nat → Option (List V)} {h : Hp} {o : Oper} {ρ : Operand → V}
/-- An interface value's own type, asked for. -/
theorem q_assert {x : Operand} {xT t : TypeId} {k : IntKind} {e : Int} (ho : o.op = .typeAssert x xT t true) (hu : P.underlying t = some (.int k)) (hx : ρ x = .iface t (.int k e)) : QOp P G h o ρ (.tup [.int k e, .bool true]) :=
  .of_run fun _ _ _ _ w a _ hr => by
    have h1 := hr x (by simp [ho, Op.operands]); rw [hx] at h1
    cases hv : a.eval x with
    | iface t' v =>
      rw [hv] at h1
      cases h1 with
      | iface _ _ _ h2 =>
        refine ⟨.tuple #[v, .bool true], by simp [execOp, ho, hv, Instr.typeAssert, run_underlying hu, Result.andThen], .tup _ _ rfl fun j hj hj' => ?_⟩
        match j, hj with
        | 0, _ => exact h2
        | 1, _ => exact .bool true
    | _ => rw [hv] at h1; cases h1
end
end Go.AV
namespace Go.Proofs.YtnfpbjblbfcecaaGreatDoor
open Go Go.AV
set_option maxRecDepth 100000

theorem num_calls (e : Int) (h : Hp) : ACalls Tryz.prog G 18 [eE e] h fun r h' => r = .int .i64 e ∧ h' = h := by
  refine ACalls.enter Tryz.func18 rfl Tryz.ntmps18 Tryz.results18 rfl ?_
  refine AW.seq ?_
  refine AW.region ?_
  refine AOps.q rfl rfl rfl (q_as rfl (rfl : _ = V.int _ _)) ?_
  refine AOps.nil ?_
  refine AW.seq ?_
  refine AW.seq ?_
  refine AW.region ?_
  refine AOps.q rfl rfl rfl (q_mv rfl (rfl : _ = eErr _ _)) ?_
  refine AOps.q rfl rfl rfl (q_eqerr Tryz.underlying40 rfl rfl) ?_
  refine AOps.nil ?_
  refine AW.cond rfl (fun c0 => ?_) (fun c0 => ?_)
  · skip
    refine AW.seq ?_
    refine AW.region ?_
    refine AOps.q rfl rfl rfl (q_as rfl (rfl : _ = V.int _ _)) ?_
    refine AOps.nil ?_
    refine AW.ret ?_
    exact retQ.mk' (.one _) (VLe.of_eq (congrArg (V.int .i64) ((beq_iff_eq.1 c0).symm))) (HLe.refl _) ⟨rfl, rfl⟩
  · have he : e ≠ 0 := by simpa using c0
    refine AW.skip ?_
    refine AW.seq ?_
    refine AW.seq ?_
    refine AW.region ?_
    refine AOps.q rfl rfl rfl (q_mv rfl (rfl : _ = eErr _ _)) ?_
    refine AOps.q rfl rfl rfl (q_assert rfl Tryz.underlying52 (by exact eErr_ne he)) ?_
    refine AOps.q rfl rfl rfl (q_mv rfl (rfl : _ = V.tup _)) ?_
    refine AOps.q rfl rfl rfl (q_extract rfl rfl rfl) ?_
    refine AOps.q rfl rfl rfl (q_extract rfl rfl rfl) ?_
    refine AOps.q rfl rfl rfl (q_as rfl (rfl : _ = V.int _ _)) ?_
    refine AOps.q rfl rfl rfl (q_as rfl (rfl : _ = V.bool _)) ?_
    refine AOps.nil ?_
    refine AW.seq ?_
    refine AW.region ?_
    refine AOps.q rfl rfl rfl (q_mv rfl (rfl : _ = V.bool _)) ?_
    refine AOps.q rfl rfl rfl (q_mv rfl (rfl : _ = V.bool _)) ?_
    refine AOps.g (wanted_t rfl rfl) rfl rfl (fun hc => TLe.refl _) (fun hc => q_mv rfl (rfl : _ = V.int _ _)) ?_
    refine AOps.g (wanted_t rfl rfl) rfl rfl (fun hc => TLe.put (d := 14) (VLe.opt hc) (TLe.refl _)) (fun hc => q_ne rfl rfl rfl) ?_
    refine AOps.q rfl rfl rfl (q_pickg rfl rfl (fun hp => by first | exact VLe.opt hp | exact VLe.opt (by rw [hp]; rfl) | exact VLe.opt (by simp_all)) (fun hp => by exact VLe.refl _)) ?_
    refine AOps.nil ?_
    refine AW.cond rfl (fun c1 => ?_) (fun c1 => ?_)
    · skip
      refine AW.seq ?_
      refine AW.region ?_
      refine AOps.q rfl rfl rfl (q_mv rfl (rfl : _ = V.int _ _)) ?_
      refine AOps.q rfl rfl rfl (q_as rfl (rfl : _ = V.int _ _)) ?_
      refine AOps.nil ?_
      refine AW.ret ?_
      exact retQ.mk' (.one _) (VLe.of_eq (congrArg (V.int .i64) (rfl))) (HLe.refl _) ⟨rfl, rfl⟩
    · simp [he] at c1

theorem numIs_calls (e n : Int) (h : Hp) : ACalls Tryz.prog G 19 [eE e, .int .i64 n] h fun r h' => r = .bool (e == n) ∧ h' = h := by
  refine ACalls.enter Tryz.func19 rfl Tryz.ntmps19 Tryz.results19 rfl ?_
  refine AW.seq ?_
  refine AW.region ?_
  refine AOps.q rfl rfl rfl (q_as rfl (rfl : _ = V.bool _)) ?_
  refine AOps.nil ?_
  refine AW.seq ?_
  refine AW.region ?_
  refine AOps.q rfl rfl rfl (q_mv rfl (rfl : _ = eErr _ _)) ?_
  refine AOps.q rfl rfl rfl (QOp.call rfl (by exact Tryz.call18) fun h' hl' => by exact num_calls _ h') ?_
  refine AOps.q rfl rfl rfl (q_mv rfl (rfl : _ = V.int _ _)) ?_
  refine AOps.q rfl rfl rfl (q_eq rfl rfl rfl) ?_
  refine AOps.q rfl rfl rfl (q_as rfl (rfl : _ = V.bool _)) ?_
  refine AOps.nil ?_
  refine AW.ret ?_
  exact retQ.mk (.one _) ⟨rfl, rfl⟩

end Go.Proofs.YtnfpbjblbfcecaaGreatDoor
