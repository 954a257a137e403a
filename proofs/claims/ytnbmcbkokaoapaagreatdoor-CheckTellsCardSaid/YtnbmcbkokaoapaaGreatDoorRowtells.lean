/- The statement on CheckTells: who has lost, what is dying, whether that is settled, and which fuel is enough. -/
import Derived.Test.YtnbmcbkokaoapaaGreatDoorRowlib
import Derived.Test.YtnbmcbkokaoapaaGreatDoorTells
namespace Go.Proofs.YtnbmcbkokaoapaaGreatDoor.checkTells
open Go Go.AV Go.ChangeShapes Go.WideShapes Go.ChangeAt Go.RowKit
set_option maxRecDepth 100000
/-- What the walk gives, for every argument and every world that holds the variables. -/
theorem contract (H : Type) (enc : TypeId × Value → H) (W : World) (base : Nat) (args : Array Value) (ds gs : List (DataW H)) (before : List MemPlace)
    (hval : ∀ (j : Nat) t v, Tryz.f4.params[j]? = some t → args[j]? = some v → Value.okWide Tryz.prog W .any base t v)
    (hW : DataW.Whole enc Tryz.prog Tryz.f4.params.toList Rows.checkTellsSpec.vars false W args.toList ds gs before) (hL : laidMetH Tryz.prog Rows.checkTellsRow.laid W) :
    Calls Tryz.prog 4 args W fun e W' => ∃ v, e = .returned v ∧ Rows.checkTellsSpec.post enc Tryz.prog Tryz.f4 false true false false W args v W' := by
  have hW' := hW
  obtain ⟨p, q, hA0, hV, rfl, hfz, hnd⟩ := hW
  have hA : DataW.TrodAll enc Tryz.prog W 0 (fun _ => true) true Tryz.f4.params.toList args.toList ds p := hA0
  rw [Tryz.params4] at hA hval
  obtain ⟨v0, v1, d0, d1, p0, p1, rfl, rfl, rfl, h0, h1⟩ := trodAll_two hA
  obtain ⟨rfl, rfl⟩ := trodVars_none hV
  clear hA0
  have hlt0 : ∀ x ∈ p0, x.block < W.heap.size := fun x hx => by simpa using hW'.lt x (by simp [hx])
  obtain ⟨s0, f0, hr0⟩ := open_state (hval 0 29 v0 rfl rfl) h0
  obtain ⟨n1, rfl, rfl, rfl, hwf1⟩ := open_int Tryz.underlying3 (hval 1 3 v1 rfl rfl) h1
  have k := checkTells_calls s0 f0 n1 H0
  refine (calls_below (args := #[v0, .int .i64 n1]) k (vars_ok hL) (fun j => match j with | 0 => hr0 | 1 => .int _ _ | _ + 2 => .junk _) rfl).mono fun e W' ⟨v, r, E, h', he, ⟨hr', _⟩, hrep, hb⟩ => ?_
  subst hr'
  cases hrep
  subst he
  refine ⟨_, rfl, _, _, _, [], p0 ++ [], [], hW', ?_, ?_, rfl, hb.frame _, fun h => by cases h⟩
  · exact trodAll_mk1 (shut_bool Tryz.underlying4 true)
  · exact trodAll_mk2 (Below.trod laidOut (by kernel_rfl) (of_decide_eq_true (by kernel_rfl)) h0 hb hlt0) (shut_int Tryz.underlying3 hwf1)
theorem laid_met (os : Os) : laidMet Tryz.prog Rows.checkTellsRow.laid ((laidWorld os).forCall (fun _ _ => 0) ⟨#[], #[state0, .int .i64 0], []⟩).memory :=
  laidMet_of_run' 8 (by kernel_rfl) (by kernel_rfl)
theorem reads (os : Os) {H : Type} (enc : TypeId × Value → H) : ∃ places, DataW.whole enc Tryz.prog ((laidWorld os).forCall (fun _ _ => 0) ⟨#[], #[state0, .int .i64 0], []⟩).memory Tryz.f4.params.toList Rows.checkTellsSpec.vars false #[state0, .int .i64 0].toList 8 = some ([state0D, .lit (.int .i64 0)], [], places) :=
  ⟨[], by kernel_rfl⟩
theorem lifted (os : Os) (started : os.Started) (H : Type) (enc : TypeId × Value → H) (F : Stop.Interp) :
    ReturnsInHanded {} Tryz.checked os 4 .any ((OpenSpec.ofChange Rows.checkTellsSpec).preRow enc Tryz.prog Tryz.f4 Rows.checkTellsRow.domain false Rows.checkTellsRow.laid) (((OpenSpec.ofChange Rows.checkTellsSpec).at F).post enc Tryz.prog Tryz.f4 false true false false) := by
  obtain ⟨places, hx⟩ := reads os enc
  refine returnsInHanded_of_row (C := Tryz.checked) (s := OpenSpec.ofChange Rows.checkTellsSpec) own started (by kernel_rfl) Tryz.func4
    (witness_row_at (enc := enc) (C := Tryz.checked) false (laidWorld os) #[state0, .int .i64 0] rfl (by kernel_rfl) (by kernel_rfl) (by kernel_rfl)
      (OpenSpec.preRow_of_cond 8 hx (by kernel_rfl) (fun k hk => by cases hk) (by kernel_rfl) (laid_met os))) ?_
  intro W base args ds gs before hval hW _ _ _ hL _ _
  exact contract H enc W base args ds gs before hval hW hL
theorem said : Rows.CheckTellsSaid :=
  OpenClaim.holds_of_cond 4 Tryz.f4 rfl rfl rfl rfl rfl rfl rfl ⟨rfl, rfl, rfl, rfl, rfl⟩ rfl rfl rfl rfl rfl (by kernel_rfl) Tryz.func4 (by kernel_rfl)
    (of_decide_eq_true (by kernel_rfl)) (by unfold Func.isWrapper; first | (rw [if_pos (by decide +kernel)]; kernel_rfl) | (rw [if_neg (by decide +kernel)]; exact ⟨rfl, rfl⟩))
    (fun os started H enc _ F => by rw [OpenClaim.pre_eq_preRow]; exact lifted os started H enc F)
theorem plain (f : FuncId) (fn : Func) (hf : Tryz.pinned.checked.prog.funcNamed "mulligan/mulliganlaw20.CheckTells" = some f) (hfn : Tryz.pinned.checked.prog.funcs[f]? = some fn) :
    true = Tryz.pinned.checked.prog.looks [] ∧ ∀ (j : Nat) t, fn.params[j]? = some t → Tryz.pinned.checked.prog.wantsStandIn t = false := by
  obtain rfl : f = 4 := Option.some.inj ((show Tryz.prog.funcNamed "mulligan/mulliganlaw20.CheckTells" = some 4 by kernel_rfl).symm.trans hf) |>.symm
  obtain rfl : fn = Tryz.f4 := (Option.some.inj (Tryz.func4.symm.trans hfn)).symm
  refine ⟨by kernel_rfl, fun j t ht => ?_⟩
  rw [Tryz.params4] at ht
  match j, ht with
  | 0, ht => obtain rfl : 29 = t := Option.some.inj ht; exact (show Tryz.prog.wantsStandIn 29 = false by kernel_rfl)
  | 1, ht => obtain rfl : 3 = t := Option.some.inj ht; exact (show Tryz.prog.wantsStandIn 3 = false by kernel_rfl)
  | _ + 2, ht => cases ht
/-- The card. -/
theorem card : Rows.CheckTellsCardSaid :=
  Claim7.holds_tied_plain_at .later [] _ _ _ _ said (fun _ h => by cases h) (by kernel_rfl) (fun _ h => by cases h) checkTells_row_tie rfl ⟨rfl, rfl⟩ (by kernel_rfl) rfl plain (by kernel_rfl)
end Go.Proofs.YtnbmcbkokaoapaaGreatDoor.checkTells
