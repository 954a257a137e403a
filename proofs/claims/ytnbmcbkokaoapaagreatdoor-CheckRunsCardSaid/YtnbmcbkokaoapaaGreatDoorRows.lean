/-
  NARROWER THAN 'FOR EVERY INPUT', by the rows' own cells (each row's printed sentence says how): CheckAgain: laid · CheckTells: laid · CheckEnds: laid · CheckRuns: laid.
  DERIVED. THE GIVEN ROWS OF THIS SEAT. 4 by the template 'for every input the law returns true; each argument reads behind the call as it read before'; 0 by the template 'total and deterministic' (their statements: YtnbmcbkokaoapaaGreatDoorTotals.lean).
  GIVEN WITH THE SEED: the statements are not yours to turn. If you find one false, say at which input.
  Laid BY PROGRAM, IN A SANDBOX (cutbox-rows.mjs): the forced cells as the released guide's own fill.sh prints them over the translation 7a7a9fcb18f1aa83… (all of the seat's roots in one cut). By AI agents, Wed Nov 11 2026. No macro, syntax, notation, axiom, sorry.
-/
import Derived.Test.YtnbmcbkokaoapaaGreatDoorChecked
import GoSem.Claim
import GoSem.ClaimJoined
import GoSem.ClaimMapViews
import Derived.JoinedTies
import Derived.KernelRfl
namespace Go.Proofs.YtnbmcbkokaoapaaGreatDoor
/- THE CELL 'sum', in the pinned program and in every row, IS THE sha256 OF THE DUMP (.gsa) THAT YtnbmcbkokaoapaaGreatDoorProg.lean LOADS. Nothing in Lean hashes anything: it is a label: what it is worth is what the hold of that sum in a sandbox is worth. -/
noncomputable def Tryz.pinned : Pinned := { name := "ytnbmcbkokaoapaagreatdoor", sum := "7a7a9fcb18f1aa83cd96735202835860e3149c1525039d1d4c01f6f5edce8c8a", checked := Tryz.checked }
namespace Rows
def none {H : Type} : Left H := { results := [], args := [] }

/- WHAT THE LISTED PACKAGE-LEVEL VARIABLES READ AS WHEN THE CALL BEGINS. Each datum BY PROGRAM (the guide's laid-datum.mjs) off the statement by which the dump's own 'gosem.cut.vars' lays the variable. In a bare row this is a premise. The card (YtnbmcbkokaoapaaGreatDoorCards.lean) ties it to the program's text. -/
def laid_mulligan_state_any {H : Type} : DataW H := .agg [.lit (.int .i64 (-1073741824)), .lit (.int .i64 1073741824)]
def laid_mulligan_state_flag {H : Type} : DataW H := .agg [.lit (.int .i64 0), .lit (.int .i64 1)]
def laid_mulligan_state_resting {H : Type} : DataW H := .agg [.lit (.int .i64 4), .lit (.int .i64 5), .lit (.int .i64 6), .lit (.int .i64 7), .lit (.int .i64 8), .lit (.int .i64 9), .lit (.int .i64 10), .lit (.int .i64 11), .lit (.int .i64 12)]
def laid_mulligan_emit_resting {H : Type} : DataW H := .agg [.lit (.int .i64 4), .lit (.int .i64 5), .lit (.int .i64 6), .lit (.int .i64 7), .lit (.int .i64 8), .lit (.int .i64 9), .lit (.int .i64 10), .lit (.int .i64 11), .lit (.int .i64 12)]

/-- 'mulliganlaw20.CheckAgain': WHATEVER THE INPUT: true; the input reads as it did. -/
def checkAgainSpec : ChangeSpec := { name := "checkAgain", fn := fun _ => fun
  | [d1, d2] => { results := [.lit (.bool true)], args := [d1, d2] }
  | _ => none }
def checkAgainRow : OpenClaim := { program := "ytnbmcbkokaoapaagreatdoor", sum := "7a7a9fcb18f1aa83cd96735202835860e3149c1525039d1d4c01f6f5edce8c8a", func := "mulligan/mulliganlaw20.CheckAgain", spec := "checkAgain", inPlace := ["slices.overlaps[int]"], unfollowed := true, recurses := true, named := ["mulligan/state.flag", "mulligan/state.any", "mulligan/state.resting", "mulligan/emit.resting"], apart := false, laid := [("mulligan/state.any", laid_mulligan_state_any), ("mulligan/state.flag", laid_mulligan_state_flag), ("mulligan/state.resting", laid_mulligan_state_resting), ("mulligan/emit.resting", laid_mulligan_emit_resting)] }
def CheckAgainSaid : Prop := checkAgainRow.holds Tryz.pinned (OpenSpec.ofChange checkAgainSpec)

/-- ITS FALSE NEIGHBOUR: 'it returns false'. Refute it at one input. -/
def checkAgainWrong : ChangeSpec := { name := "checkAgain", fn := fun _ => fun
  | [d1, d2] => { results := [.lit (.bool false)], args := [d1, d2] }
  | _ => none }
def CheckAgainWrongFalsely : Prop := checkAgainRow.holds Tryz.pinned (OpenSpec.ofChange checkAgainWrong)

/-- 'mulliganlaw20.CheckTells': WHATEVER THE INPUT: true; the input reads as it did. -/
def checkTellsSpec : ChangeSpec := { name := "checkTells", fn := fun _ => fun
  | [d1, d2] => { results := [.lit (.bool true)], args := [d1, d2] }
  | _ => none }
def checkTellsRow : OpenClaim := { program := "ytnbmcbkokaoapaagreatdoor", sum := "7a7a9fcb18f1aa83cd96735202835860e3149c1525039d1d4c01f6f5edce8c8a", func := "mulligan/mulliganlaw20.CheckTells", spec := "checkTells", inPlace := ["slices.overlaps[int]"], unfollowed := true, recurses := true, named := ["mulligan/state.flag", "mulligan/state.any", "mulligan/state.resting", "mulligan/emit.resting"], apart := false, laid := [("mulligan/state.any", laid_mulligan_state_any), ("mulligan/state.flag", laid_mulligan_state_flag), ("mulligan/state.resting", laid_mulligan_state_resting), ("mulligan/emit.resting", laid_mulligan_emit_resting)] }
def CheckTellsSaid : Prop := checkTellsRow.holds Tryz.pinned (OpenSpec.ofChange checkTellsSpec)

/-- ITS FALSE NEIGHBOUR: 'it returns false'. Refute it at one input. -/
def checkTellsWrong : ChangeSpec := { name := "checkTells", fn := fun _ => fun
  | [d1, d2] => { results := [.lit (.bool false)], args := [d1, d2] }
  | _ => none }
def CheckTellsWrongFalsely : Prop := checkTellsRow.holds Tryz.pinned (OpenSpec.ofChange checkTellsWrong)

/-- 'mulliganlaw20.CheckEnds': WHATEVER THE INPUT: true; the input reads as it did. -/
def checkEndsSpec : ChangeSpec := { name := "checkEnds", fn := fun _ => fun
  | [d] => { results := [.lit (.bool true)], args := [d] }
  | _ => none }
def checkEndsRow : OpenClaim := { program := "ytnbmcbkokaoapaagreatdoor", sum := "7a7a9fcb18f1aa83cd96735202835860e3149c1525039d1d4c01f6f5edce8c8a", func := "mulligan/mulliganlaw20.CheckEnds", spec := "checkEnds", inPlace := ["slices.overlaps[int]"], unfollowed := true, recurses := true, named := ["mulligan/state.flag", "mulligan/state.any", "mulligan/state.resting", "mulligan/emit.resting"], apart := false, laid := [("mulligan/state.any", laid_mulligan_state_any), ("mulligan/state.flag", laid_mulligan_state_flag), ("mulligan/state.resting", laid_mulligan_state_resting), ("mulligan/emit.resting", laid_mulligan_emit_resting)] }
def CheckEndsSaid : Prop := checkEndsRow.holds Tryz.pinned (OpenSpec.ofChange checkEndsSpec)

/-- ITS FALSE NEIGHBOUR: 'it returns false'. Refute it at one input. -/
def checkEndsWrong : ChangeSpec := { name := "checkEnds", fn := fun _ => fun
  | [d] => { results := [.lit (.bool false)], args := [d] }
  | _ => none }
def CheckEndsWrongFalsely : Prop := checkEndsRow.holds Tryz.pinned (OpenSpec.ofChange checkEndsWrong)

/-- 'mulliganlaw20.CheckRuns': WHATEVER THE INPUT: true; the input reads as it did. -/
def checkRunsSpec : ChangeSpec := { name := "checkRuns", fn := fun _ => fun
  | [d1, d2] => { results := [.lit (.bool true)], args := [d1, d2] }
  | _ => none }
def checkRunsRow : OpenClaim := { program := "ytnbmcbkokaoapaagreatdoor", sum := "7a7a9fcb18f1aa83cd96735202835860e3149c1525039d1d4c01f6f5edce8c8a", func := "mulligan/mulliganlaw20.CheckRuns", spec := "checkRuns", inPlace := ["slices.overlaps[int]"], unfollowed := true, recurses := true, named := ["mulligan/state.flag", "mulligan/state.any", "mulligan/state.resting", "mulligan/emit.resting"], apart := false, laid := [("mulligan/state.any", laid_mulligan_state_any), ("mulligan/state.flag", laid_mulligan_state_flag), ("mulligan/state.resting", laid_mulligan_state_resting), ("mulligan/emit.resting", laid_mulligan_emit_resting)] }
def CheckRunsSaid : Prop := checkRunsRow.holds Tryz.pinned (OpenSpec.ofChange checkRunsSpec)

/-- ITS FALSE NEIGHBOUR: 'it returns false'. Refute it at one input. -/
def checkRunsWrong : ChangeSpec := { name := "checkRuns", fn := fun _ => fun
  | [d1, d2] => { results := [.lit (.bool false)], args := [d1, d2] }
  | _ => none }
def CheckRunsWrongFalsely : Prop := checkRunsRow.holds Tryz.pinned (OpenSpec.ofChange checkRunsWrong)

/- THE SECOND FORM. 'bulk': how many values and letters a reading holds, each counted each time it is reached (what is shared counts as often as it is met; a slice's spare places count too). A statement '..UptoSaid' is the law's where the arguments, and the package variables that the reading takes, are together of bulk at most 1048576: NARROWER than '..Said'. Prove '..Said' where nothing that the law and all that it calls make is longer than what came in: it says more and counts as full. Else prove '..UptoSaid'. A law counts once. -/
mutual
def uptoBulk {H : Type} : DataW H → Nat
  | .lit (.string bytes) => bytes.length + 1
  | .lit _ => 1
  | .nil => 1
  | .ptr d => uptoBulk d + 1
  | .slice elems spare => uptoBulkAll elems + uptoBulkAll spare + 1
  | .agg parts => uptoBulkAll parts + 1
  | .iface _ d => uptoBulk d + 1
  | .map entries => uptoBulkEntries entries + 1
  | .held _ => 1
def uptoBulkAll {H : Type} : List (DataW H) → Nat
  | [] => 0
  | d :: r => uptoBulk d + uptoBulkAll r
def uptoBulkEntries {H : Type} : List (Lit × DataW H) → Nat
  | [] => 0
  | x :: r => uptoBulkEntry x + uptoBulkEntries r
def uptoBulkEntry {H : Type} : Lit × DataW H → Nat
  | (.string bytes, d) => bytes.length + uptoBulk d + 1
  | (_, d) => uptoBulk d + 1
 end
def uptoSmall : (H : Type) → List (DataW H) → Bool := fun _ ds => decide (uptoBulkAll ds ≤ 1048576)
def OpenSpec.upto (s : _root_.Go.ChangeSpec) : _root_.Go.OpenSpec := { _root_.Go.OpenSpec.ofChange s with cond := some uptoSmall }

/-- 'mulliganlaw20.CheckAgain', WHERE WHAT IT READS IS OF BULK AT MOST 1048576: true; the input reads as it did. -/
def checkAgainUptoRow : OpenClaim := { program := "ytnbmcbkokaoapaagreatdoor", sum := "7a7a9fcb18f1aa83cd96735202835860e3149c1525039d1d4c01f6f5edce8c8a", func := "mulligan/mulliganlaw20.CheckAgain", spec := "checkAgain", inPlace := ["slices.overlaps[int]"], unfollowed := true, recurses := true, named := ["mulligan/state.flag", "mulligan/state.any", "mulligan/state.resting", "mulligan/emit.resting"], apart := false, laid := [("mulligan/state.any", laid_mulligan_state_any), ("mulligan/state.flag", laid_mulligan_state_flag), ("mulligan/state.resting", laid_mulligan_state_resting), ("mulligan/emit.resting", laid_mulligan_emit_resting)], narrowed := true }
def CheckAgainUptoSaid : Prop := checkAgainUptoRow.holds Tryz.pinned (OpenSpec.upto checkAgainSpec)

/-- 'mulliganlaw20.CheckTells', WHERE WHAT IT READS IS OF BULK AT MOST 1048576: true; the input reads as it did. -/
def checkTellsUptoRow : OpenClaim := { program := "ytnbmcbkokaoapaagreatdoor", sum := "7a7a9fcb18f1aa83cd96735202835860e3149c1525039d1d4c01f6f5edce8c8a", func := "mulligan/mulliganlaw20.CheckTells", spec := "checkTells", inPlace := ["slices.overlaps[int]"], unfollowed := true, recurses := true, named := ["mulligan/state.flag", "mulligan/state.any", "mulligan/state.resting", "mulligan/emit.resting"], apart := false, laid := [("mulligan/state.any", laid_mulligan_state_any), ("mulligan/state.flag", laid_mulligan_state_flag), ("mulligan/state.resting", laid_mulligan_state_resting), ("mulligan/emit.resting", laid_mulligan_emit_resting)], narrowed := true }
def CheckTellsUptoSaid : Prop := checkTellsUptoRow.holds Tryz.pinned (OpenSpec.upto checkTellsSpec)

/-- 'mulliganlaw20.CheckEnds', WHERE WHAT IT READS IS OF BULK AT MOST 1048576: true; the input reads as it did. -/
def checkEndsUptoRow : OpenClaim := { program := "ytnbmcbkokaoapaagreatdoor", sum := "7a7a9fcb18f1aa83cd96735202835860e3149c1525039d1d4c01f6f5edce8c8a", func := "mulligan/mulliganlaw20.CheckEnds", spec := "checkEnds", inPlace := ["slices.overlaps[int]"], unfollowed := true, recurses := true, named := ["mulligan/state.flag", "mulligan/state.any", "mulligan/state.resting", "mulligan/emit.resting"], apart := false, laid := [("mulligan/state.any", laid_mulligan_state_any), ("mulligan/state.flag", laid_mulligan_state_flag), ("mulligan/state.resting", laid_mulligan_state_resting), ("mulligan/emit.resting", laid_mulligan_emit_resting)], narrowed := true }
def CheckEndsUptoSaid : Prop := checkEndsUptoRow.holds Tryz.pinned (OpenSpec.upto checkEndsSpec)

/-- 'mulliganlaw20.CheckRuns', WHERE WHAT IT READS IS OF BULK AT MOST 1048576: true; the input reads as it did. -/
def checkRunsUptoRow : OpenClaim := { program := "ytnbmcbkokaoapaagreatdoor", sum := "7a7a9fcb18f1aa83cd96735202835860e3149c1525039d1d4c01f6f5edce8c8a", func := "mulligan/mulliganlaw20.CheckRuns", spec := "checkRuns", inPlace := ["slices.overlaps[int]"], unfollowed := true, recurses := true, named := ["mulligan/state.flag", "mulligan/state.any", "mulligan/state.resting", "mulligan/emit.resting"], apart := false, laid := [("mulligan/state.any", laid_mulligan_state_any), ("mulligan/state.flag", laid_mulligan_state_flag), ("mulligan/state.resting", laid_mulligan_state_resting), ("mulligan/emit.resting", laid_mulligan_emit_resting)], narrowed := true }
def CheckRunsUptoSaid : Prop := checkRunsUptoRow.holds Tryz.pinned (OpenSpec.upto checkRunsSpec)

end Rows
end Go.Proofs.YtnbmcbkokaoapaaGreatDoor
