/-
  No cell of these rows narrows 'for every input' (looked for: loops, veiled, ifaces, maps, wideKeys, modest, calm, conditions, laid).
  DERIVED. THE GIVEN ROWS OF THIS SEAT. 5 by the template 'for every input the law returns true; each argument reads behind the call as it read before'; 0 by the template 'total and deterministic' (their statements: YtiocagilhbomgaaTotals.lean).
  GIVEN WITH THE SEED: the statements are not yours to turn. If you find one false, say at which input.
  Laid BY PROGRAM, IN A SANDBOX (cutbox-rows.mjs): the forced cells as the released guide's own fill.sh prints them over the translation 8cf264b66d44a186… (all of the seat's roots in one cut). By AI agents, Wed Nov 11 2026. No macro, syntax, notation, axiom, sorry.
-/
import Derived.Test.YtiocagilhbomgaaChecked
import GoSem.Claim
import GoSem.ClaimJoined
import GoSem.ClaimMapViews
import Derived.JoinedTies
import Derived.KernelRfl
namespace Go.Proofs.Ytiocagilhbomgaa
/- THE CELL 'sum', in the pinned program and in every row, IS THE sha256 OF THE DUMP (.gsa) THAT YtiocagilhbomgaaProg.lean LOADS. Nothing in Lean hashes anything: it is a label: what it is worth is what the hold of that sum in a sandbox is worth. -/
noncomputable def Try.pinned : Pinned := { name := "ytiocagilhbomgaa", sum := "8cf264b66d44a186b98a94417e25c3e0f27b72dd20d3851aa8d1c091e8ddc07f", checked := Try.checked }
namespace Rows
def none {H : Type} : Left H := { results := [], args := [] }

/-- 'windlasslaw05.KindsChecks': WHATEVER THE INPUT: true; the input reads as it did. -/
def kindsChecksSpec : ChangeSpec := { name := "kindsChecks", fn := fun _ => fun
  | [d] => { results := [.lit (.bool true)], args := [d] }
  | _ => none }
def kindsChecksRow : OpenClaim := { program := "ytiocagilhbomgaa", sum := "8cf264b66d44a186b98a94417e25c3e0f27b72dd20d3851aa8d1c091e8ddc07f", func := "windlass/windlasslaw05.KindsChecks", spec := "kindsChecks", apart := false }
def KindsChecksSaid : Prop := kindsChecksRow.holds Try.pinned (OpenSpec.ofChange kindsChecksSpec)

/-- ITS FALSE NEIGHBOUR: 'it returns false'. Refute it at one input. -/
def kindsChecksWrong : ChangeSpec := { name := "kindsChecks", fn := fun _ => fun
  | [d] => { results := [.lit (.bool false)], args := [d] }
  | _ => none }
def KindsChecksWrongFalsely : Prop := kindsChecksRow.holds Try.pinned (OpenSpec.ofChange kindsChecksWrong)

/-- 'windlasslaw05.KindsFollow': WHATEVER THE INPUT: true; the input reads as it did. -/
def kindsFollowSpec : ChangeSpec := { name := "kindsFollow", fn := fun _ => fun
  | [d] => { results := [.lit (.bool true)], args := [d] }
  | _ => none }
def kindsFollowRow : OpenClaim := { program := "ytiocagilhbomgaa", sum := "8cf264b66d44a186b98a94417e25c3e0f27b72dd20d3851aa8d1c091e8ddc07f", func := "windlass/windlasslaw05.KindsFollow", spec := "kindsFollow", apart := false }
def KindsFollowSaid : Prop := kindsFollowRow.holds Try.pinned (OpenSpec.ofChange kindsFollowSpec)

/-- ITS FALSE NEIGHBOUR: 'it returns false'. Refute it at one input. -/
def kindsFollowWrong : ChangeSpec := { name := "kindsFollow", fn := fun _ => fun
  | [d] => { results := [.lit (.bool false)], args := [d] }
  | _ => none }
def KindsFollowWrongFalsely : Prop := kindsFollowRow.holds Try.pinned (OpenSpec.ofChange kindsFollowWrong)

/-- 'windlasslaw05.KindsAhead': WHATEVER THE INPUT: true; the input reads as it did. -/
def kindsAheadSpec : ChangeSpec := { name := "kindsAhead", fn := fun _ => fun
  | [d1, d2] => { results := [.lit (.bool true)], args := [d1, d2] }
  | _ => none }
def kindsAheadRow : OpenClaim := { program := "ytiocagilhbomgaa", sum := "8cf264b66d44a186b98a94417e25c3e0f27b72dd20d3851aa8d1c091e8ddc07f", func := "windlass/windlasslaw05.KindsAhead", spec := "kindsAhead", apart := false }
def KindsAheadSaid : Prop := kindsAheadRow.holds Try.pinned (OpenSpec.ofChange kindsAheadSpec)

/-- ITS FALSE NEIGHBOUR: 'it returns false'. Refute it at one input. -/
def kindsAheadWrong : ChangeSpec := { name := "kindsAhead", fn := fun _ => fun
  | [d1, d2] => { results := [.lit (.bool false)], args := [d1, d2] }
  | _ => none }
def KindsAheadWrongFalsely : Prop := kindsAheadRow.holds Try.pinned (OpenSpec.ofChange kindsAheadWrong)

/-- 'windlasslaw05.KindsDeep': WHATEVER THE INPUT: true; the input reads as it did. -/
def kindsDeepSpec : ChangeSpec := { name := "kindsDeep", fn := fun _ => fun
  | [d1, d2] => { results := [.lit (.bool true)], args := [d1, d2] }
  | _ => none }
def kindsDeepRow : OpenClaim := { program := "ytiocagilhbomgaa", sum := "8cf264b66d44a186b98a94417e25c3e0f27b72dd20d3851aa8d1c091e8ddc07f", func := "windlass/windlasslaw05.KindsDeep", spec := "kindsDeep", apart := false }
def KindsDeepSaid : Prop := kindsDeepRow.holds Try.pinned (OpenSpec.ofChange kindsDeepSpec)

/-- ITS FALSE NEIGHBOUR: 'it returns false'. Refute it at one input. -/
def kindsDeepWrong : ChangeSpec := { name := "kindsDeep", fn := fun _ => fun
  | [d1, d2] => { results := [.lit (.bool false)], args := [d1, d2] }
  | _ => none }
def KindsDeepWrongFalsely : Prop := kindsDeepRow.holds Try.pinned (OpenSpec.ofChange kindsDeepWrong)

/-- 'windlasslaw05.KindsPointers': WHATEVER THE INPUT: true; the input reads as it did. -/
def kindsPointersSpec : ChangeSpec := { name := "kindsPointers", fn := fun _ => fun
  | [d] => { results := [.lit (.bool true)], args := [d] }
  | _ => none }
def kindsPointersRow : OpenClaim := { program := "ytiocagilhbomgaa", sum := "8cf264b66d44a186b98a94417e25c3e0f27b72dd20d3851aa8d1c091e8ddc07f", func := "windlass/windlasslaw05.KindsPointers", spec := "kindsPointers", apart := false }
def KindsPointersSaid : Prop := kindsPointersRow.holds Try.pinned (OpenSpec.ofChange kindsPointersSpec)

/-- ITS FALSE NEIGHBOUR: 'it returns false'. Refute it at one input. -/
def kindsPointersWrong : ChangeSpec := { name := "kindsPointers", fn := fun _ => fun
  | [d] => { results := [.lit (.bool false)], args := [d] }
  | _ => none }
def KindsPointersWrongFalsely : Prop := kindsPointersRow.holds Try.pinned (OpenSpec.ofChange kindsPointersWrong)

/- THE SECOND FORM. 'bulk': how many values and letters a reading holds, each counted each time it is reached (what is shared counts as often as it is met; a slice's spare places count too). A statement '..UptoSaid' is the law's where the arguments, and the package variables that the reading takes, are together of bulk at most 1048576: NARROWER than '..Said'. Prove '..Said' where nothing that the law and all that it calls make is longer than what came in: it says more and counts as full. Else prove '..UptoSaid'. A law counts once. -/
mutual
def uptoBulk {H : Type} : DataW H → Nat
  | .lit (.string bytes) => bytes.length + 1
  | .lit _ => 1
  | .nil => 1
  | .ptr d => uptoBulk d + 1
  | .slice elems spare => uptoBulkAll elems + uptoBulkAll spare + 1
  | .agg parts => uptoBulkAll parts + 1
  | .iface _ d => uptoBulk d + 1
  | .map entries => uptoBulkEntries entries + 1
  | .held _ => 1
def uptoBulkAll {H : Type} : List (DataW H) → Nat
  | [] => 0
  | d :: r => uptoBulk d + uptoBulkAll r
def uptoBulkEntries {H : Type} : List (Lit × DataW H) → Nat
  | [] => 0
  | x :: r => uptoBulkEntry x + uptoBulkEntries r
def uptoBulkEntry {H : Type} : Lit × DataW H → Nat
  | (.string bytes, d) => bytes.length + uptoBulk d + 1
  | (_, d) => uptoBulk d + 1
 end
def uptoSmall : (H : Type) → List (DataW H) → Bool := fun _ ds => decide (uptoBulkAll ds ≤ 1048576)
def OpenSpec.upto (s : _root_.Go.ChangeSpec) : _root_.Go.OpenSpec := { _root_.Go.OpenSpec.ofChange s with cond := some uptoSmall }

/-- 'windlasslaw05.KindsChecks', WHERE WHAT IT READS IS OF BULK AT MOST 1048576: true; the input reads as it did. -/
def kindsChecksUptoRow : OpenClaim := { program := "ytiocagilhbomgaa", sum := "8cf264b66d44a186b98a94417e25c3e0f27b72dd20d3851aa8d1c091e8ddc07f", func := "windlass/windlasslaw05.KindsChecks", spec := "kindsChecks", apart := false, narrowed := true }
def KindsChecksUptoSaid : Prop := kindsChecksUptoRow.holds Try.pinned (OpenSpec.upto kindsChecksSpec)

/-- 'windlasslaw05.KindsFollow', WHERE WHAT IT READS IS OF BULK AT MOST 1048576: true; the input reads as it did. -/
def kindsFollowUptoRow : OpenClaim := { program := "ytiocagilhbomgaa", sum := "8cf264b66d44a186b98a94417e25c3e0f27b72dd20d3851aa8d1c091e8ddc07f", func := "windlass/windlasslaw05.KindsFollow", spec := "kindsFollow", apart := false, narrowed := true }
def KindsFollowUptoSaid : Prop := kindsFollowUptoRow.holds Try.pinned (OpenSpec.upto kindsFollowSpec)

/-- 'windlasslaw05.KindsAhead', WHERE WHAT IT READS IS OF BULK AT MOST 1048576: true; the input reads as it did. -/
def kindsAheadUptoRow : OpenClaim := { program := "ytiocagilhbomgaa", sum := "8cf264b66d44a186b98a94417e25c3e0f27b72dd20d3851aa8d1c091e8ddc07f", func := "windlass/windlasslaw05.KindsAhead", spec := "kindsAhead", apart := false, narrowed := true }
def KindsAheadUptoSaid : Prop := kindsAheadUptoRow.holds Try.pinned (OpenSpec.upto kindsAheadSpec)

/-- 'windlasslaw05.KindsDeep', WHERE WHAT IT READS IS OF BULK AT MOST 1048576: true; the input reads as it did. -/
def kindsDeepUptoRow : OpenClaim := { program := "ytiocagilhbomgaa", sum := "8cf264b66d44a186b98a94417e25c3e0f27b72dd20d3851aa8d1c091e8ddc07f", func := "windlass/windlasslaw05.KindsDeep", spec := "kindsDeep", apart := false, narrowed := true }
def KindsDeepUptoSaid : Prop := kindsDeepUptoRow.holds Try.pinned (OpenSpec.upto kindsDeepSpec)

/-- 'windlasslaw05.KindsPointers', WHERE WHAT IT READS IS OF BULK AT MOST 1048576: true; the input reads as it did. -/
def kindsPointersUptoRow : OpenClaim := { program := "ytiocagilhbomgaa", sum := "8cf264b66d44a186b98a94417e25c3e0f27b72dd20d3851aa8d1c091e8ddc07f", func := "windlass/windlasslaw05.KindsPointers", spec := "kindsPointers", apart := false, narrowed := true }
def KindsPointersUptoSaid : Prop := kindsPointersUptoRow.holds Try.pinned (OpenSpec.upto kindsPointersSpec)

end Rows
end Go.Proofs.Ytiocagilhbomgaa
