/-
  No cell of these rows narrows 'for every input' (looked for: loops, veiled, ifaces, maps, wideKeys, modest, calm, conditions, laid).
  DERIVED. THE GIVEN ROWS OF THIS SEAT. 9 by the template 'for every input the law returns true; each argument reads behind the call as it read before'; 0 by the template 'total and deterministic' (their statements: YtnpemocpfdgaoaaTotals.lean).
  GIVEN WITH THE SEED: the statements are not yours to turn. If you find one false, say at which input.
  Laid BY PROGRAM, IN A SANDBOX (cutbox-rows.mjs): the forced cells as the released guide's own fill.sh prints them over the translation 07dd377a00321708… (all of the seat's roots in one cut). By AI agents, Wed Nov 11 2026. No macro, syntax, notation, axiom, sorry.
-/
import Derived.Test.YtnpemocpfdgaoaaChecked
import GoSem.Claim
import GoSem.ClaimJoined
import GoSem.ClaimMapViews
import Derived.JoinedTies
import Derived.KernelRfl
namespace Go.Proofs.Ytnpemocpfdgaoaa
/- THE CELL 'sum', in the pinned program and in every row, IS THE sha256 OF THE DUMP (.gsa) THAT YtnpemocpfdgaoaaProg.lean LOADS. Nothing in Lean hashes anything: it is a label: what it is worth is what the hold of that sum in a sandbox is worth. -/
noncomputable def Try.pinned : Pinned := { name := "ytnpemocpfdgaoaa", sum := "07dd377a0032170878b0e6efb8d3de015db34a2a0dae88e47bd602e68bfa4cdc", checked := Try.checked }
namespace Rows
def none {H : Type} : Left H := { results := [], args := [] }

/-- 'windlasslaw09.BuildDoes': WHATEVER THE INPUT: true; the input reads as it did. -/
def buildDoesSpec : ChangeSpec := { name := "buildDoes", fn := fun _ => fun
  | [d1, d2, d3] => { results := [.lit (.bool true)], args := [d1, d2, d3] }
  | _ => none }
def buildDoesRow : OpenClaim := { program := "ytnpemocpfdgaoaa", sum := "07dd377a0032170878b0e6efb8d3de015db34a2a0dae88e47bd602e68bfa4cdc", func := "windlass/windlasslaw09.BuildDoes", spec := "buildDoes", unfollowed := true, recurses := true, apart := false }
def BuildDoesSaid : Prop := buildDoesRow.holds Try.pinned (OpenSpec.ofChange buildDoesSpec)

/-- ITS FALSE NEIGHBOUR: 'it returns false'. Refute it at one input. -/
def buildDoesWrong : ChangeSpec := { name := "buildDoes", fn := fun _ => fun
  | [d1, d2, d3] => { results := [.lit (.bool false)], args := [d1, d2, d3] }
  | _ => none }
def BuildDoesWrongFalsely : Prop := buildDoesRow.holds Try.pinned (OpenSpec.ofChange buildDoesWrong)

/-- 'windlasslaw09.BuildHeads': WHATEVER THE INPUT: true; the input reads as it did. -/
def buildHeadsSpec : ChangeSpec := { name := "buildHeads", fn := fun _ => fun
  | [d] => { results := [.lit (.bool true)], args := [d] }
  | _ => none }
def buildHeadsRow : OpenClaim := { program := "ytnpemocpfdgaoaa", sum := "07dd377a0032170878b0e6efb8d3de015db34a2a0dae88e47bd602e68bfa4cdc", func := "windlass/windlasslaw09.BuildHeads", spec := "buildHeads", unfollowed := true, recurses := true, apart := false }
def BuildHeadsSaid : Prop := buildHeadsRow.holds Try.pinned (OpenSpec.ofChange buildHeadsSpec)

/-- ITS FALSE NEIGHBOUR: 'it returns false'. Refute it at one input. -/
def buildHeadsWrong : ChangeSpec := { name := "buildHeads", fn := fun _ => fun
  | [d] => { results := [.lit (.bool false)], args := [d] }
  | _ => none }
def BuildHeadsWrongFalsely : Prop := buildHeadsRow.holds Try.pinned (OpenSpec.ofChange buildHeadsWrong)

/-- 'windlasslaw09.BuildAgain': WHATEVER THE INPUT: true; the input reads as it did. -/
def buildAgainSpec : ChangeSpec := { name := "buildAgain", fn := fun _ => fun
  | [d1, d2] => { results := [.lit (.bool true)], args := [d1, d2] }
  | _ => none }
def buildAgainRow : OpenClaim := { program := "ytnpemocpfdgaoaa", sum := "07dd377a0032170878b0e6efb8d3de015db34a2a0dae88e47bd602e68bfa4cdc", func := "windlass/windlasslaw09.BuildAgain", spec := "buildAgain", unfollowed := true, recurses := true, apart := false }
def BuildAgainSaid : Prop := buildAgainRow.holds Try.pinned (OpenSpec.ofChange buildAgainSpec)

/-- ITS FALSE NEIGHBOUR: 'it returns false'. Refute it at one input. -/
def buildAgainWrong : ChangeSpec := { name := "buildAgain", fn := fun _ => fun
  | [d1, d2] => { results := [.lit (.bool false)], args := [d1, d2] }
  | _ => none }
def BuildAgainWrongFalsely : Prop := buildAgainRow.holds Try.pinned (OpenSpec.ofChange buildAgainWrong)

/-- 'windlasslaw06.SemRuns': WHATEVER THE INPUT: true; the input reads as it did. -/
def semRunsSpec : ChangeSpec := { name := "semRuns", fn := fun _ => fun
  | [d1, d2, d3] => { results := [.lit (.bool true)], args := [d1, d2, d3] }
  | _ => none }
def semRunsRow : OpenClaim := { program := "ytnpemocpfdgaoaa", sum := "07dd377a0032170878b0e6efb8d3de015db34a2a0dae88e47bd602e68bfa4cdc", func := "windlass/windlasslaw06.SemRuns", spec := "semRuns", unfollowed := true, recurses := true, apart := false }
def SemRunsSaid : Prop := semRunsRow.holds Try.pinned (OpenSpec.ofChange semRunsSpec)

/-- ITS FALSE NEIGHBOUR: 'it returns false'. Refute it at one input. -/
def semRunsWrong : ChangeSpec := { name := "semRuns", fn := fun _ => fun
  | [d1, d2, d3] => { results := [.lit (.bool false)], args := [d1, d2, d3] }
  | _ => none }
def SemRunsWrongFalsely : Prop := semRunsRow.holds Try.pinned (OpenSpec.ofChange semRunsWrong)

/-- 'windlasslaw06.SemFuel': WHATEVER THE INPUT: true; the input reads as it did. -/
def semFuelSpec : ChangeSpec := { name := "semFuel", fn := fun _ => fun
  | [d1, d2, d3] => { results := [.lit (.bool true)], args := [d1, d2, d3] }
  | _ => none }
def semFuelRow : OpenClaim := { program := "ytnpemocpfdgaoaa", sum := "07dd377a0032170878b0e6efb8d3de015db34a2a0dae88e47bd602e68bfa4cdc", func := "windlass/windlasslaw06.SemFuel", spec := "semFuel", unfollowed := true, recurses := true, apart := false }
def SemFuelSaid : Prop := semFuelRow.holds Try.pinned (OpenSpec.ofChange semFuelSpec)

/-- ITS FALSE NEIGHBOUR: 'it returns false'. Refute it at one input. -/
def semFuelWrong : ChangeSpec := { name := "semFuel", fn := fun _ => fun
  | [d1, d2, d3] => { results := [.lit (.bool false)], args := [d1, d2, d3] }
  | _ => none }
def SemFuelWrongFalsely : Prop := semFuelRow.holds Try.pinned (OpenSpec.ofChange semFuelWrong)

/-- 'windlasslaw06.SemSums': WHATEVER THE INPUT: true; the input reads as it did. -/
def semSumsSpec : ChangeSpec := { name := "semSums", fn := fun _ => fun
  | [d1, d2] => { results := [.lit (.bool true)], args := [d1, d2] }
  | _ => none }
def semSumsRow : OpenClaim := { program := "ytnpemocpfdgaoaa", sum := "07dd377a0032170878b0e6efb8d3de015db34a2a0dae88e47bd602e68bfa4cdc", func := "windlass/windlasslaw06.SemSums", spec := "semSums", unfollowed := true, recurses := true, apart := false }
def SemSumsSaid : Prop := semSumsRow.holds Try.pinned (OpenSpec.ofChange semSumsSpec)

/-- ITS FALSE NEIGHBOUR: 'it returns false'. Refute it at one input. -/
def semSumsWrong : ChangeSpec := { name := "semSums", fn := fun _ => fun
  | [d1, d2] => { results := [.lit (.bool false)], args := [d1, d2] }
  | _ => none }
def SemSumsWrongFalsely : Prop := semSumsRow.holds Try.pinned (OpenSpec.ofChange semSumsWrong)

/-- 'windlasslaw06.SemDepth': WHATEVER THE INPUT: true; the input reads as it did. -/
def semDepthSpec : ChangeSpec := { name := "semDepth", fn := fun _ => fun
  | [d] => { results := [.lit (.bool true)], args := [d] }
  | _ => none }
def semDepthRow : OpenClaim := { program := "ytnpemocpfdgaoaa", sum := "07dd377a0032170878b0e6efb8d3de015db34a2a0dae88e47bd602e68bfa4cdc", func := "windlass/windlasslaw06.SemDepth", spec := "semDepth", unfollowed := true, recurses := true, apart := false }
def SemDepthSaid : Prop := semDepthRow.holds Try.pinned (OpenSpec.ofChange semDepthSpec)

/-- ITS FALSE NEIGHBOUR: 'it returns false'. Refute it at one input. -/
def semDepthWrong : ChangeSpec := { name := "semDepth", fn := fun _ => fun
  | [d] => { results := [.lit (.bool false)], args := [d] }
  | _ => none }
def SemDepthWrongFalsely : Prop := semDepthRow.holds Try.pinned (OpenSpec.ofChange semDepthWrong)

/-- 'windlasslaw08.IrunFuel': WHATEVER THE INPUT: true; the input reads as it did. -/
def irunFuelSpec : ChangeSpec := { name := "irunFuel", fn := fun _ => fun
  | [d1, d2, d3] => { results := [.lit (.bool true)], args := [d1, d2, d3] }
  | _ => none }
def irunFuelRow : OpenClaim := { program := "ytnpemocpfdgaoaa", sum := "07dd377a0032170878b0e6efb8d3de015db34a2a0dae88e47bd602e68bfa4cdc", func := "windlass/windlasslaw08.IrunFuel", spec := "irunFuel", unfollowed := true, recurses := true, apart := false }
def IrunFuelSaid : Prop := irunFuelRow.holds Try.pinned (OpenSpec.ofChange irunFuelSpec)

/-- ITS FALSE NEIGHBOUR: 'it returns false'. Refute it at one input. -/
def irunFuelWrong : ChangeSpec := { name := "irunFuel", fn := fun _ => fun
  | [d1, d2, d3] => { results := [.lit (.bool false)], args := [d1, d2, d3] }
  | _ => none }
def IrunFuelWrongFalsely : Prop := irunFuelRow.holds Try.pinned (OpenSpec.ofChange irunFuelWrong)

/-- 'windlasslaw08.IrunSums': WHATEVER THE INPUT: true; the input reads as it did. -/
def irunSumsSpec : ChangeSpec := { name := "irunSums", fn := fun _ => fun
  | [d1, d2] => { results := [.lit (.bool true)], args := [d1, d2] }
  | _ => none }
def irunSumsRow : OpenClaim := { program := "ytnpemocpfdgaoaa", sum := "07dd377a0032170878b0e6efb8d3de015db34a2a0dae88e47bd602e68bfa4cdc", func := "windlass/windlasslaw08.IrunSums", spec := "irunSums", unfollowed := true, recurses := true, apart := false }
def IrunSumsSaid : Prop := irunSumsRow.holds Try.pinned (OpenSpec.ofChange irunSumsSpec)

/-- ITS FALSE NEIGHBOUR: 'it returns false'. Refute it at one input. -/
def irunSumsWrong : ChangeSpec := { name := "irunSums", fn := fun _ => fun
  | [d1, d2] => { results := [.lit (.bool false)], args := [d1, d2] }
  | _ => none }
def IrunSumsWrongFalsely : Prop := irunSumsRow.holds Try.pinned (OpenSpec.ofChange irunSumsWrong)

/- THE SECOND FORM. 'bulk': how many values and letters a reading holds, each counted each time it is reached (what is shared counts as often as it is met; a slice's spare places count too). A statement '..UptoSaid' is the law's where the arguments, and the package variables that the reading takes, are together of bulk at most 1048576: NARROWER than '..Said'. Prove '..Said' where nothing that the law and all that it calls make is longer than what came in: it says more and counts as full. Else prove '..UptoSaid'. A law counts once. -/
mutual
def uptoBulk {H : Type} : DataW H → Nat
  | .lit (.string bytes) => bytes.length + 1
  | .lit _ => 1
  | .nil => 1
  | .ptr d => uptoBulk d + 1
  | .slice elems spare => uptoBulkAll elems + uptoBulkAll spare + 1
  | .agg parts => uptoBulkAll parts + 1
  | .iface _ d => uptoBulk d + 1
  | .map entries => uptoBulkEntries entries + 1
  | .held _ => 1
def uptoBulkAll {H : Type} : List (DataW H) → Nat
  | [] => 0
  | d :: r => uptoBulk d + uptoBulkAll r
def uptoBulkEntries {H : Type} : List (Lit × DataW H) → Nat
  | [] => 0
  | x :: r => uptoBulkEntry x + uptoBulkEntries r
def uptoBulkEntry {H : Type} : Lit × DataW H → Nat
  | (.string bytes, d) => bytes.length + uptoBulk d + 1
  | (_, d) => uptoBulk d + 1
 end
def uptoSmall : (H : Type) → List (DataW H) → Bool := fun _ ds => decide (uptoBulkAll ds ≤ 1048576)
def OpenSpec.upto (s : _root_.Go.ChangeSpec) : _root_.Go.OpenSpec := { _root_.Go.OpenSpec.ofChange s with cond := some uptoSmall }

/-- 'windlasslaw09.BuildDoes', WHERE WHAT IT READS IS OF BULK AT MOST 1048576: true; the input reads as it did. -/
def buildDoesUptoRow : OpenClaim := { program := "ytnpemocpfdgaoaa", sum := "07dd377a0032170878b0e6efb8d3de015db34a2a0dae88e47bd602e68bfa4cdc", func := "windlass/windlasslaw09.BuildDoes", spec := "buildDoes", unfollowed := true, recurses := true, apart := false, narrowed := true }
def BuildDoesUptoSaid : Prop := buildDoesUptoRow.holds Try.pinned (OpenSpec.upto buildDoesSpec)

/-- 'windlasslaw09.BuildHeads', WHERE WHAT IT READS IS OF BULK AT MOST 1048576: true; the input reads as it did. -/
def buildHeadsUptoRow : OpenClaim := { program := "ytnpemocpfdgaoaa", sum := "07dd377a0032170878b0e6efb8d3de015db34a2a0dae88e47bd602e68bfa4cdc", func := "windlass/windlasslaw09.BuildHeads", spec := "buildHeads", unfollowed := true, recurses := true, apart := false, narrowed := true }
def BuildHeadsUptoSaid : Prop := buildHeadsUptoRow.holds Try.pinned (OpenSpec.upto buildHeadsSpec)

/-- 'windlasslaw09.BuildAgain', WHERE WHAT IT READS IS OF BULK AT MOST 1048576: true; the input reads as it did. -/
def buildAgainUptoRow : OpenClaim := { program := "ytnpemocpfdgaoaa", sum := "07dd377a0032170878b0e6efb8d3de015db34a2a0dae88e47bd602e68bfa4cdc", func := "windlass/windlasslaw09.BuildAgain", spec := "buildAgain", unfollowed := true, recurses := true, apart := false, narrowed := true }
def BuildAgainUptoSaid : Prop := buildAgainUptoRow.holds Try.pinned (OpenSpec.upto buildAgainSpec)

/-- 'windlasslaw06.SemRuns', WHERE WHAT IT READS IS OF BULK AT MOST 1048576: true; the input reads as it did. -/
def semRunsUptoRow : OpenClaim := { program := "ytnpemocpfdgaoaa", sum := "07dd377a0032170878b0e6efb8d3de015db34a2a0dae88e47bd602e68bfa4cdc", func := "windlass/windlasslaw06.SemRuns", spec := "semRuns", unfollowed := true, recurses := true, apart := false, narrowed := true }
def SemRunsUptoSaid : Prop := semRunsUptoRow.holds Try.pinned (OpenSpec.upto semRunsSpec)

/-- 'windlasslaw06.SemFuel', WHERE WHAT IT READS IS OF BULK AT MOST 1048576: true; the input reads as it did. -/
def semFuelUptoRow : OpenClaim := { program := "ytnpemocpfdgaoaa", sum := "07dd377a0032170878b0e6efb8d3de015db34a2a0dae88e47bd602e68bfa4cdc", func := "windlass/windlasslaw06.SemFuel", spec := "semFuel", unfollowed := true, recurses := true, apart := false, narrowed := true }
def SemFuelUptoSaid : Prop := semFuelUptoRow.holds Try.pinned (OpenSpec.upto semFuelSpec)

/-- 'windlasslaw06.SemSums', WHERE WHAT IT READS IS OF BULK AT MOST 1048576: true; the input reads as it did. -/
def semSumsUptoRow : OpenClaim := { program := "ytnpemocpfdgaoaa", sum := "07dd377a0032170878b0e6efb8d3de015db34a2a0dae88e47bd602e68bfa4cdc", func := "windlass/windlasslaw06.SemSums", spec := "semSums", unfollowed := true, recurses := true, apart := false, narrowed := true }
def SemSumsUptoSaid : Prop := semSumsUptoRow.holds Try.pinned (OpenSpec.upto semSumsSpec)

/-- 'windlasslaw06.SemDepth', WHERE WHAT IT READS IS OF BULK AT MOST 1048576: true; the input reads as it did. -/
def semDepthUptoRow : OpenClaim := { program := "ytnpemocpfdgaoaa", sum := "07dd377a0032170878b0e6efb8d3de015db34a2a0dae88e47bd602e68bfa4cdc", func := "windlass/windlasslaw06.SemDepth", spec := "semDepth", unfollowed := true, recurses := true, apart := false, narrowed := true }
def SemDepthUptoSaid : Prop := semDepthUptoRow.holds Try.pinned (OpenSpec.upto semDepthSpec)

/-- 'windlasslaw08.IrunFuel', WHERE WHAT IT READS IS OF BULK AT MOST 1048576: true; the input reads as it did. -/
def irunFuelUptoRow : OpenClaim := { program := "ytnpemocpfdgaoaa", sum := "07dd377a0032170878b0e6efb8d3de015db34a2a0dae88e47bd602e68bfa4cdc", func := "windlass/windlasslaw08.IrunFuel", spec := "irunFuel", unfollowed := true, recurses := true, apart := false, narrowed := true }
def IrunFuelUptoSaid : Prop := irunFuelUptoRow.holds Try.pinned (OpenSpec.upto irunFuelSpec)

/-- 'windlasslaw08.IrunSums', WHERE WHAT IT READS IS OF BULK AT MOST 1048576: true; the input reads as it did. -/
def irunSumsUptoRow : OpenClaim := { program := "ytnpemocpfdgaoaa", sum := "07dd377a0032170878b0e6efb8d3de015db34a2a0dae88e47bd602e68bfa4cdc", func := "windlass/windlasslaw08.IrunSums", spec := "irunSums", unfollowed := true, recurses := true, apart := false, narrowed := true }
def IrunSumsUptoSaid : Prop := irunSumsUptoRow.holds Try.pinned (OpenSpec.upto irunSumsSpec)

end Rows
end Go.Proofs.Ytnpemocpfdgaoaa
