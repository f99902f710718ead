/-
  No cell of these rows narrows 'for every input' (looked for: loops, veiled, ifaces, maps, wideKeys, modest, calm, conditions, laid).
  DERIVED. THE GIVEN ROWS OF THIS SEAT. 11 by the template 'for every input the law returns true; each argument reads behind the call as it read before'; 0 by the template 'total and deterministic' (their statements: YtibpmogmeoappabTotals.lean).
  GIVEN WITH THE SEED: the statements are not yours to turn. If you find one false, say at which input.
  Laid BY PROGRAM, IN A SANDBOX (cutbox-rows.mjs): the forced cells as the released guide's own fill.sh prints them over the translation ac1600bb78659f39… (all of the seat's roots in one cut). By AI agents, Wed Nov 11 2026. No macro, syntax, notation, axiom, sorry.
-/
import Derived.Test.YtibpmogmeoappabChecked
import GoSem.Claim
import GoSem.ClaimJoined
import GoSem.ClaimMapViews
import Derived.JoinedTies
import Derived.KernelRfl
namespace Go.Proofs.Ytibpmogmeoappab
/- THE CELL 'sum', in the pinned program and in every row, IS THE sha256 OF THE DUMP (.gsa) THAT YtibpmogmeoappabProg.lean LOADS. Nothing in Lean hashes anything: it is a label: what it is worth is what the hold of that sum in a sandbox is worth. -/
noncomputable def Try.pinned : Pinned := { name := "ytibpmogmeoappab", sum := "ac1600bb78659f3998084c2e0c47543386ab6e850d7ed62e39372d786f2d8e01", checked := Try.checked }
namespace Rows
def none {H : Type} : Left H := { results := [], args := [] }

/-- 'underpaintlaw.PlanChecks': WHATEVER THE INPUT: true; the input reads as it did. -/
def planChecksSpec : ChangeSpec := { name := "planChecks", fn := fun _ => fun
  | [d1, d2, d3] => { results := [.lit (.bool true)], args := [d1, d2, d3] }
  | _ => none }
def planChecksRow : OpenClaim := { program := "ytibpmogmeoappab", sum := "ac1600bb78659f3998084c2e0c47543386ab6e850d7ed62e39372d786f2d8e01", func := "underpaint/underpaintlaw.PlanChecks", spec := "planChecks", unfollowed := true, recurses := true, apart := false }
def PlanChecksSaid : Prop := planChecksRow.holds Try.pinned (OpenSpec.ofChange planChecksSpec)

/-- ITS FALSE NEIGHBOUR: 'it returns false'. Refute it at one input. -/
def planChecksWrong : ChangeSpec := { name := "planChecks", fn := fun _ => fun
  | [d1, d2, d3] => { results := [.lit (.bool false)], args := [d1, d2, d3] }
  | _ => none }
def PlanChecksWrongFalsely : Prop := planChecksRow.holds Try.pinned (OpenSpec.ofChange planChecksWrong)

/-- 'underpaintlaw.PlanTells': WHATEVER THE INPUT: true; the input reads as it did. -/
def planTellsSpec : ChangeSpec := { name := "planTells", fn := fun _ => fun
  | [d1, d2] => { results := [.lit (.bool true)], args := [d1, d2] }
  | _ => none }
def planTellsRow : OpenClaim := { program := "ytibpmogmeoappab", sum := "ac1600bb78659f3998084c2e0c47543386ab6e850d7ed62e39372d786f2d8e01", func := "underpaint/underpaintlaw.PlanTells", spec := "planTells", unfollowed := true, recurses := true, apart := false }
def PlanTellsSaid : Prop := planTellsRow.holds Try.pinned (OpenSpec.ofChange planTellsSpec)

/-- ITS FALSE NEIGHBOUR: 'it returns false'. Refute it at one input. -/
def planTellsWrong : ChangeSpec := { name := "planTells", fn := fun _ => fun
  | [d1, d2] => { results := [.lit (.bool false)], args := [d1, d2] }
  | _ => none }
def PlanTellsWrongFalsely : Prop := planTellsRow.holds Try.pinned (OpenSpec.ofChange planTellsWrong)

/-- 'underpaintlaw.PlanTrue': WHATEVER THE INPUT: true; the input reads as it did. -/
def planTrueSpec : ChangeSpec := { name := "planTrue", fn := fun _ => fun
  | [d1, d2, d3] => { results := [.lit (.bool true)], args := [d1, d2, d3] }
  | _ => none }
def planTrueRow : OpenClaim := { program := "ytibpmogmeoappab", sum := "ac1600bb78659f3998084c2e0c47543386ab6e850d7ed62e39372d786f2d8e01", func := "underpaint/underpaintlaw.PlanTrue", spec := "planTrue", unfollowed := true, recurses := true, apart := false }
def PlanTrueSaid : Prop := planTrueRow.holds Try.pinned (OpenSpec.ofChange planTrueSpec)

/-- ITS FALSE NEIGHBOUR: 'it returns false'. Refute it at one input. -/
def planTrueWrong : ChangeSpec := { name := "planTrue", fn := fun _ => fun
  | [d1, d2, d3] => { results := [.lit (.bool false)], args := [d1, d2, d3] }
  | _ => none }
def PlanTrueWrongFalsely : Prop := planTrueRow.holds Try.pinned (OpenSpec.ofChange planTrueWrong)

/-- 'underpaintlaw.FrameTells': WHATEVER THE INPUT: true; the input reads as it did. -/
def frameTellsSpec : ChangeSpec := { name := "frameTells", fn := fun _ => fun
  | [d] => { results := [.lit (.bool true)], args := [d] }
  | _ => none }
def frameTellsRow : OpenClaim := { program := "ytibpmogmeoappab", sum := "ac1600bb78659f3998084c2e0c47543386ab6e850d7ed62e39372d786f2d8e01", func := "underpaint/underpaintlaw.FrameTells", spec := "frameTells", unfollowed := true, recurses := true, apart := false }
def FrameTellsSaid : Prop := frameTellsRow.holds Try.pinned (OpenSpec.ofChange frameTellsSpec)

/-- ITS FALSE NEIGHBOUR: 'it returns false'. Refute it at one input. -/
def frameTellsWrong : ChangeSpec := { name := "frameTells", fn := fun _ => fun
  | [d] => { results := [.lit (.bool false)], args := [d] }
  | _ => none }
def FrameTellsWrongFalsely : Prop := frameTellsRow.holds Try.pinned (OpenSpec.ofChange frameTellsWrong)

/-- 'underpaintlaw.FrameRenders': WHATEVER THE INPUT: true; the input reads as it did. -/
def frameRendersSpec : ChangeSpec := { name := "frameRenders", fn := fun _ => fun
  | [d] => { results := [.lit (.bool true)], args := [d] }
  | _ => none }
def frameRendersRow : OpenClaim := { program := "ytibpmogmeoappab", sum := "ac1600bb78659f3998084c2e0c47543386ab6e850d7ed62e39372d786f2d8e01", func := "underpaint/underpaintlaw.FrameRenders", spec := "frameRenders", unfollowed := true, recurses := true, apart := false }
def FrameRendersSaid : Prop := frameRendersRow.holds Try.pinned (OpenSpec.ofChange frameRendersSpec)

/-- ITS FALSE NEIGHBOUR: 'it returns false'. Refute it at one input. -/
def frameRendersWrong : ChangeSpec := { name := "frameRenders", fn := fun _ => fun
  | [d] => { results := [.lit (.bool false)], args := [d] }
  | _ => none }
def FrameRendersWrongFalsely : Prop := frameRendersRow.holds Try.pinned (OpenSpec.ofChange frameRendersWrong)

/-- 'underpaintlaw.FrameRight': WHATEVER THE INPUT: true; the input reads as it did. -/
def frameRightSpec : ChangeSpec := { name := "frameRight", fn := fun _ => fun
  | [d] => { results := [.lit (.bool true)], args := [d] }
  | _ => none }
def frameRightRow : OpenClaim := { program := "ytibpmogmeoappab", sum := "ac1600bb78659f3998084c2e0c47543386ab6e850d7ed62e39372d786f2d8e01", func := "underpaint/underpaintlaw.FrameRight", spec := "frameRight", unfollowed := true, recurses := true, apart := false }
def FrameRightSaid : Prop := frameRightRow.holds Try.pinned (OpenSpec.ofChange frameRightSpec)

/-- ITS FALSE NEIGHBOUR: 'it returns false'. Refute it at one input. -/
def frameRightWrong : ChangeSpec := { name := "frameRight", fn := fun _ => fun
  | [d] => { results := [.lit (.bool false)], args := [d] }
  | _ => none }
def FrameRightWrongFalsely : Prop := frameRightRow.holds Try.pinned (OpenSpec.ofChange frameRightWrong)

/-- 'underpaintlaw.NeedTrue': WHATEVER THE INPUT: true; the input reads as it did. -/
def needTrueSpec : ChangeSpec := { name := "needTrue", fn := fun _ => fun
  | [d1, d2, d3] => { results := [.lit (.bool true)], args := [d1, d2, d3] }
  | _ => none }
def needTrueRow : OpenClaim := { program := "ytibpmogmeoappab", sum := "ac1600bb78659f3998084c2e0c47543386ab6e850d7ed62e39372d786f2d8e01", func := "underpaint/underpaintlaw.NeedTrue", spec := "needTrue", unfollowed := true, recurses := true, apart := false }
def NeedTrueSaid : Prop := needTrueRow.holds Try.pinned (OpenSpec.ofChange needTrueSpec)

/-- ITS FALSE NEIGHBOUR: 'it returns false'. Refute it at one input. -/
def needTrueWrong : ChangeSpec := { name := "needTrue", fn := fun _ => fun
  | [d1, d2, d3] => { results := [.lit (.bool false)], args := [d1, d2, d3] }
  | _ => none }
def NeedTrueWrongFalsely : Prop := needTrueRow.holds Try.pinned (OpenSpec.ofChange needTrueWrong)

/-- 'underpaintlaw.ExecSteps': WHATEVER THE INPUT: true; the input reads as it did. -/
def execStepsSpec : ChangeSpec := { name := "execSteps", fn := fun _ => fun
  | [d1, d2, d3, d4] => { results := [.lit (.bool true)], args := [d1, d2, d3, d4] }
  | _ => none }
def execStepsRow : OpenClaim := { program := "ytibpmogmeoappab", sum := "ac1600bb78659f3998084c2e0c47543386ab6e850d7ed62e39372d786f2d8e01", func := "underpaint/underpaintlaw.ExecSteps", spec := "execSteps", unfollowed := true, recurses := true, apart := false }
def ExecStepsSaid : Prop := execStepsRow.holds Try.pinned (OpenSpec.ofChange execStepsSpec)

/-- ITS FALSE NEIGHBOUR: 'it returns false'. Refute it at one input. -/
def execStepsWrong : ChangeSpec := { name := "execSteps", fn := fun _ => fun
  | [d1, d2, d3, d4] => { results := [.lit (.bool false)], args := [d1, d2, d3, d4] }
  | _ => none }
def ExecStepsWrongFalsely : Prop := execStepsRow.holds Try.pinned (OpenSpec.ofChange execStepsWrong)

/-- 'underpaintlaw.FitPlaces': WHATEVER THE INPUT: true; the input reads as it did. -/
def fitPlacesSpec : ChangeSpec := { name := "fitPlaces", fn := fun _ => fun
  | [d1, d2] => { results := [.lit (.bool true)], args := [d1, d2] }
  | _ => none }
def fitPlacesRow : OpenClaim := { program := "ytibpmogmeoappab", sum := "ac1600bb78659f3998084c2e0c47543386ab6e850d7ed62e39372d786f2d8e01", func := "underpaint/underpaintlaw.FitPlaces", spec := "fitPlaces", unfollowed := true, recurses := true, apart := false }
def FitPlacesSaid : Prop := fitPlacesRow.holds Try.pinned (OpenSpec.ofChange fitPlacesSpec)

/-- ITS FALSE NEIGHBOUR: 'it returns false'. Refute it at one input. -/
def fitPlacesWrong : ChangeSpec := { name := "fitPlaces", fn := fun _ => fun
  | [d1, d2] => { results := [.lit (.bool false)], args := [d1, d2] }
  | _ => none }
def FitPlacesWrongFalsely : Prop := fitPlacesRow.holds Try.pinned (OpenSpec.ofChange fitPlacesWrong)

/-- 'underpaintlaw.FitCompiles': WHATEVER THE INPUT: true; the input reads as it did. -/
def fitCompilesSpec : ChangeSpec := { name := "fitCompiles", fn := fun _ => fun
  | [d] => { results := [.lit (.bool true)], args := [d] }
  | _ => none }
def fitCompilesRow : OpenClaim := { program := "ytibpmogmeoappab", sum := "ac1600bb78659f3998084c2e0c47543386ab6e850d7ed62e39372d786f2d8e01", func := "underpaint/underpaintlaw.FitCompiles", spec := "fitCompiles", unfollowed := true, recurses := true, apart := false }
def FitCompilesSaid : Prop := fitCompilesRow.holds Try.pinned (OpenSpec.ofChange fitCompilesSpec)

/-- ITS FALSE NEIGHBOUR: 'it returns false'. Refute it at one input. -/
def fitCompilesWrong : ChangeSpec := { name := "fitCompiles", fn := fun _ => fun
  | [d] => { results := [.lit (.bool false)], args := [d] }
  | _ => none }
def FitCompilesWrongFalsely : Prop := fitCompilesRow.holds Try.pinned (OpenSpec.ofChange fitCompilesWrong)

/-- 'underpaintlaw.FitTrue': WHATEVER THE INPUT: true; the input reads as it did. -/
def fitTrueSpec : ChangeSpec := { name := "fitTrue", fn := fun _ => fun
  | [d] => { results := [.lit (.bool true)], args := [d] }
  | _ => none }
def fitTrueRow : OpenClaim := { program := "ytibpmogmeoappab", sum := "ac1600bb78659f3998084c2e0c47543386ab6e850d7ed62e39372d786f2d8e01", func := "underpaint/underpaintlaw.FitTrue", spec := "fitTrue", unfollowed := true, recurses := true, apart := false }
def FitTrueSaid : Prop := fitTrueRow.holds Try.pinned (OpenSpec.ofChange fitTrueSpec)

/-- ITS FALSE NEIGHBOUR: 'it returns false'. Refute it at one input. -/
def fitTrueWrong : ChangeSpec := { name := "fitTrue", fn := fun _ => fun
  | [d] => { results := [.lit (.bool false)], args := [d] }
  | _ => none }
def FitTrueWrongFalsely : Prop := fitTrueRow.holds Try.pinned (OpenSpec.ofChange fitTrueWrong)

/- THE SECOND FORM. 'bulk': how many values and letters a reading holds, each counted each time it is reached (what is shared counts as often as it is met; a slice's spare places count too). A statement '..UptoSaid' is the law's where the arguments, and the package variables that the reading takes, are together of bulk at most 1048576: NARROWER than '..Said'. Prove '..Said' where nothing that the law and all that it calls make is longer than what came in: it says more and counts as full. Else prove '..UptoSaid'. A law counts once. -/
mutual
def uptoBulk {H : Type} : DataW H → Nat
  | .lit (.string bytes) => bytes.length + 1
  | .lit _ => 1
  | .nil => 1
  | .ptr d => uptoBulk d + 1
  | .slice elems spare => uptoBulkAll elems + uptoBulkAll spare + 1
  | .agg parts => uptoBulkAll parts + 1
  | .iface _ d => uptoBulk d + 1
  | .map entries => uptoBulkEntries entries + 1
  | .held _ => 1
def uptoBulkAll {H : Type} : List (DataW H) → Nat
  | [] => 0
  | d :: r => uptoBulk d + uptoBulkAll r
def uptoBulkEntries {H : Type} : List (Lit × DataW H) → Nat
  | [] => 0
  | x :: r => uptoBulkEntry x + uptoBulkEntries r
def uptoBulkEntry {H : Type} : Lit × DataW H → Nat
  | (.string bytes, d) => bytes.length + uptoBulk d + 1
  | (_, d) => uptoBulk d + 1
 end
def uptoSmall : (H : Type) → List (DataW H) → Bool := fun _ ds => decide (uptoBulkAll ds ≤ 1048576)
def OpenSpec.upto (s : _root_.Go.ChangeSpec) : _root_.Go.OpenSpec := { _root_.Go.OpenSpec.ofChange s with cond := some uptoSmall }

/-- 'underpaintlaw.PlanChecks', WHERE WHAT IT READS IS OF BULK AT MOST 1048576: true; the input reads as it did. -/
def planChecksUptoRow : OpenClaim := { program := "ytibpmogmeoappab", sum := "ac1600bb78659f3998084c2e0c47543386ab6e850d7ed62e39372d786f2d8e01", func := "underpaint/underpaintlaw.PlanChecks", spec := "planChecks", unfollowed := true, recurses := true, apart := false, narrowed := true }
def PlanChecksUptoSaid : Prop := planChecksUptoRow.holds Try.pinned (OpenSpec.upto planChecksSpec)

/-- 'underpaintlaw.PlanTells', WHERE WHAT IT READS IS OF BULK AT MOST 1048576: true; the input reads as it did. -/
def planTellsUptoRow : OpenClaim := { program := "ytibpmogmeoappab", sum := "ac1600bb78659f3998084c2e0c47543386ab6e850d7ed62e39372d786f2d8e01", func := "underpaint/underpaintlaw.PlanTells", spec := "planTells", unfollowed := true, recurses := true, apart := false, narrowed := true }
def PlanTellsUptoSaid : Prop := planTellsUptoRow.holds Try.pinned (OpenSpec.upto planTellsSpec)

/-- 'underpaintlaw.PlanTrue', WHERE WHAT IT READS IS OF BULK AT MOST 1048576: true; the input reads as it did. -/
def planTrueUptoRow : OpenClaim := { program := "ytibpmogmeoappab", sum := "ac1600bb78659f3998084c2e0c47543386ab6e850d7ed62e39372d786f2d8e01", func := "underpaint/underpaintlaw.PlanTrue", spec := "planTrue", unfollowed := true, recurses := true, apart := false, narrowed := true }
def PlanTrueUptoSaid : Prop := planTrueUptoRow.holds Try.pinned (OpenSpec.upto planTrueSpec)

/-- 'underpaintlaw.FrameTells', WHERE WHAT IT READS IS OF BULK AT MOST 1048576: true; the input reads as it did. -/
def frameTellsUptoRow : OpenClaim := { program := "ytibpmogmeoappab", sum := "ac1600bb78659f3998084c2e0c47543386ab6e850d7ed62e39372d786f2d8e01", func := "underpaint/underpaintlaw.FrameTells", spec := "frameTells", unfollowed := true, recurses := true, apart := false, narrowed := true }
def FrameTellsUptoSaid : Prop := frameTellsUptoRow.holds Try.pinned (OpenSpec.upto frameTellsSpec)

/-- 'underpaintlaw.FrameRenders', WHERE WHAT IT READS IS OF BULK AT MOST 1048576: true; the input reads as it did. -/
def frameRendersUptoRow : OpenClaim := { program := "ytibpmogmeoappab", sum := "ac1600bb78659f3998084c2e0c47543386ab6e850d7ed62e39372d786f2d8e01", func := "underpaint/underpaintlaw.FrameRenders", spec := "frameRenders", unfollowed := true, recurses := true, apart := false, narrowed := true }
def FrameRendersUptoSaid : Prop := frameRendersUptoRow.holds Try.pinned (OpenSpec.upto frameRendersSpec)

/-- 'underpaintlaw.FrameRight', WHERE WHAT IT READS IS OF BULK AT MOST 1048576: true; the input reads as it did. -/
def frameRightUptoRow : OpenClaim := { program := "ytibpmogmeoappab", sum := "ac1600bb78659f3998084c2e0c47543386ab6e850d7ed62e39372d786f2d8e01", func := "underpaint/underpaintlaw.FrameRight", spec := "frameRight", unfollowed := true, recurses := true, apart := false, narrowed := true }
def FrameRightUptoSaid : Prop := frameRightUptoRow.holds Try.pinned (OpenSpec.upto frameRightSpec)

/-- 'underpaintlaw.NeedTrue', WHERE WHAT IT READS IS OF BULK AT MOST 1048576: true; the input reads as it did. -/
def needTrueUptoRow : OpenClaim := { program := "ytibpmogmeoappab", sum := "ac1600bb78659f3998084c2e0c47543386ab6e850d7ed62e39372d786f2d8e01", func := "underpaint/underpaintlaw.NeedTrue", spec := "needTrue", unfollowed := true, recurses := true, apart := false, narrowed := true }
def NeedTrueUptoSaid : Prop := needTrueUptoRow.holds Try.pinned (OpenSpec.upto needTrueSpec)

/-- 'underpaintlaw.ExecSteps', WHERE WHAT IT READS IS OF BULK AT MOST 1048576: true; the input reads as it did. -/
def execStepsUptoRow : OpenClaim := { program := "ytibpmogmeoappab", sum := "ac1600bb78659f3998084c2e0c47543386ab6e850d7ed62e39372d786f2d8e01", func := "underpaint/underpaintlaw.ExecSteps", spec := "execSteps", unfollowed := true, recurses := true, apart := false, narrowed := true }
def ExecStepsUptoSaid : Prop := execStepsUptoRow.holds Try.pinned (OpenSpec.upto execStepsSpec)

/-- 'underpaintlaw.FitPlaces', WHERE WHAT IT READS IS OF BULK AT MOST 1048576: true; the input reads as it did. -/
def fitPlacesUptoRow : OpenClaim := { program := "ytibpmogmeoappab", sum := "ac1600bb78659f3998084c2e0c47543386ab6e850d7ed62e39372d786f2d8e01", func := "underpaint/underpaintlaw.FitPlaces", spec := "fitPlaces", unfollowed := true, recurses := true, apart := false, narrowed := true }
def FitPlacesUptoSaid : Prop := fitPlacesUptoRow.holds Try.pinned (OpenSpec.upto fitPlacesSpec)

/-- 'underpaintlaw.FitCompiles', WHERE WHAT IT READS IS OF BULK AT MOST 1048576: true; the input reads as it did. -/
def fitCompilesUptoRow : OpenClaim := { program := "ytibpmogmeoappab", sum := "ac1600bb78659f3998084c2e0c47543386ab6e850d7ed62e39372d786f2d8e01", func := "underpaint/underpaintlaw.FitCompiles", spec := "fitCompiles", unfollowed := true, recurses := true, apart := false, narrowed := true }
def FitCompilesUptoSaid : Prop := fitCompilesUptoRow.holds Try.pinned (OpenSpec.upto fitCompilesSpec)

/-- 'underpaintlaw.FitTrue', WHERE WHAT IT READS IS OF BULK AT MOST 1048576: true; the input reads as it did. -/
def fitTrueUptoRow : OpenClaim := { program := "ytibpmogmeoappab", sum := "ac1600bb78659f3998084c2e0c47543386ab6e850d7ed62e39372d786f2d8e01", func := "underpaint/underpaintlaw.FitTrue", spec := "fitTrue", unfollowed := true, recurses := true, apart := false, narrowed := true }
def FitTrueUptoSaid : Prop := fitTrueUptoRow.holds Try.pinned (OpenSpec.upto fitTrueSpec)

end Rows
end Go.Proofs.Ytibpmogmeoappab
