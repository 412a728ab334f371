/-
  No cell of these rows narrows 'for every input' (looked for: loops, veiled, ifaces, maps, wideKeys, modest, calm, conditions, laid).
  DERIVED. THE GIVEN ROWS OF THIS SEAT. 7 by the template 'for every input the law returns true; each argument reads behind the call as it read before'; 0 by the template 'total and deterministic' (their statements: YtjgdppgagihejaaTotals.lean).
  GIVEN WITH THE SEED: the statements are not yours to turn. If you find one false, say at which input.
  Laid BY PROGRAM, IN A SANDBOX (cutbox-rows.mjs): the forced cells as the released guide's own fill.sh prints them over the translation fff6ad4b5af3ed19… (all of the seat's roots in one cut). By AI agents, Wed Nov 11 2026. No macro, syntax, notation, axiom, sorry.
-/
import Derived.Test.YtjgdppgagihejaaChecked
import GoSem.Claim
import GoSem.ClaimJoined
import GoSem.ClaimMapViews
import Derived.JoinedTies
import Derived.KernelRfl
namespace Go.Proofs.Ytjgdppgagihejaa
/- THE CELL 'sum', in the pinned program and in every row, IS THE sha256 OF THE DUMP (.gsa) THAT YtjgdppgagihejaaProg.lean LOADS. Nothing in Lean hashes anything: it is a label: what it is worth is what the hold of that sum in a sandbox is worth. -/
noncomputable def Try.pinned : Pinned := { name := "ytjgdppgagihejaa", sum := "fff6ad4b5af3ed196fe266a7bbe9d67dc032347c8b9b00e01ded0475c320b9c5", checked := Try.checked }
namespace Rows
def none {H : Type} : Left H := { results := [], args := [] }

/-- 'windlasslaw08.IrunKeeps': WHATEVER THE INPUT: true; the input reads as it did. -/
def irunKeepsSpec : ChangeSpec := { name := "irunKeeps", fn := fun _ => fun
  | [d1, d2, d3] => { results := [.lit (.bool true)], args := [d1, d2, d3] }
  | _ => none }
def irunKeepsRow : OpenClaim := { program := "ytjgdppgagihejaa", sum := "fff6ad4b5af3ed196fe266a7bbe9d67dc032347c8b9b00e01ded0475c320b9c5", func := "windlass/windlasslaw08.IrunKeeps", spec := "irunKeeps", unfollowed := true, recurses := true, apart := false }
def IrunKeepsSaid : Prop := irunKeepsRow.holds Try.pinned (OpenSpec.ofChange irunKeepsSpec)

/-- ITS FALSE NEIGHBOUR: 'it returns false'. Refute it at one input. -/
def irunKeepsWrong : ChangeSpec := { name := "irunKeeps", fn := fun _ => fun
  | [d1, d2, d3] => { results := [.lit (.bool false)], args := [d1, d2, d3] }
  | _ => none }
def IrunKeepsWrongFalsely : Prop := irunKeepsRow.holds Try.pinned (OpenSpec.ofChange irunKeepsWrong)

/-- 'windlasslaw08.IrunSums': WHATEVER THE INPUT: true; the input reads as it did. -/
def irunSumsSpec : ChangeSpec := { name := "irunSums", fn := fun _ => fun
  | [d1, d2] => { results := [.lit (.bool true)], args := [d1, d2] }
  | _ => none }
def irunSumsRow : OpenClaim := { program := "ytjgdppgagihejaa", sum := "fff6ad4b5af3ed196fe266a7bbe9d67dc032347c8b9b00e01ded0475c320b9c5", func := "windlass/windlasslaw08.IrunSums", spec := "irunSums", unfollowed := true, recurses := true, apart := false }
def IrunSumsSaid : Prop := irunSumsRow.holds Try.pinned (OpenSpec.ofChange irunSumsSpec)

/-- ITS FALSE NEIGHBOUR: 'it returns false'. Refute it at one input. -/
def irunSumsWrong : ChangeSpec := { name := "irunSums", fn := fun _ => fun
  | [d1, d2] => { results := [.lit (.bool false)], args := [d1, d2] }
  | _ => none }
def IrunSumsWrongFalsely : Prop := irunSumsRow.holds Try.pinned (OpenSpec.ofChange irunSumsWrong)

/-- 'windlasslaw06.SemOrder': WHATEVER THE INPUT: true; the input reads as it did. -/
def semOrderSpec : ChangeSpec := { name := "semOrder", fn := fun _ => fun
  | [d1, d2] => { results := [.lit (.bool true)], args := [d1, d2] }
  | _ => none }
def semOrderRow : OpenClaim := { program := "ytjgdppgagihejaa", sum := "fff6ad4b5af3ed196fe266a7bbe9d67dc032347c8b9b00e01ded0475c320b9c5", func := "windlass/windlasslaw06.SemOrder", spec := "semOrder", unfollowed := true, recurses := true, apart := false }
def SemOrderSaid : Prop := semOrderRow.holds Try.pinned (OpenSpec.ofChange semOrderSpec)

/-- ITS FALSE NEIGHBOUR: 'it returns false'. Refute it at one input. -/
def semOrderWrong : ChangeSpec := { name := "semOrder", fn := fun _ => fun
  | [d1, d2] => { results := [.lit (.bool false)], args := [d1, d2] }
  | _ => none }
def SemOrderWrongFalsely : Prop := semOrderRow.holds Try.pinned (OpenSpec.ofChange semOrderWrong)

/-- 'windlasslaw06.SemChain': WHATEVER THE INPUT: true; the input reads as it did. -/
def semChainSpec : ChangeSpec := { name := "semChain", fn := fun _ => fun
  | [d] => { results := [.lit (.bool true)], args := [d] }
  | _ => none }
def semChainRow : OpenClaim := { program := "ytjgdppgagihejaa", sum := "fff6ad4b5af3ed196fe266a7bbe9d67dc032347c8b9b00e01ded0475c320b9c5", func := "windlass/windlasslaw06.SemChain", spec := "semChain", unfollowed := true, recurses := true, apart := false }
def SemChainSaid : Prop := semChainRow.holds Try.pinned (OpenSpec.ofChange semChainSpec)

/-- ITS FALSE NEIGHBOUR: 'it returns false'. Refute it at one input. -/
def semChainWrong : ChangeSpec := { name := "semChain", fn := fun _ => fun
  | [d] => { results := [.lit (.bool false)], args := [d] }
  | _ => none }
def SemChainWrongFalsely : Prop := semChainRow.holds Try.pinned (OpenSpec.ofChange semChainWrong)

/-- 'windlasslaw06.SemDepth': WHATEVER THE INPUT: true; the input reads as it did. -/
def semDepthSpec : ChangeSpec := { name := "semDepth", fn := fun _ => fun
  | [d] => { results := [.lit (.bool true)], args := [d] }
  | _ => none }
def semDepthRow : OpenClaim := { program := "ytjgdppgagihejaa", sum := "fff6ad4b5af3ed196fe266a7bbe9d67dc032347c8b9b00e01ded0475c320b9c5", func := "windlass/windlasslaw06.SemDepth", spec := "semDepth", unfollowed := true, recurses := true, apart := false }
def SemDepthSaid : Prop := semDepthRow.holds Try.pinned (OpenSpec.ofChange semDepthSpec)

/-- ITS FALSE NEIGHBOUR: 'it returns false'. Refute it at one input. -/
def semDepthWrong : ChangeSpec := { name := "semDepth", fn := fun _ => fun
  | [d] => { results := [.lit (.bool false)], args := [d] }
  | _ => none }
def SemDepthWrongFalsely : Prop := semDepthRow.holds Try.pinned (OpenSpec.ofChange semDepthWrong)

/-- 'windlasslaw09.BuildStraight': WHATEVER THE INPUT: true; the input reads as it did. -/
def buildStraightSpec : ChangeSpec := { name := "buildStraight", fn := fun _ => fun
  | [d] => { results := [.lit (.bool true)], args := [d] }
  | _ => none }
def buildStraightRow : OpenClaim := { program := "ytjgdppgagihejaa", sum := "fff6ad4b5af3ed196fe266a7bbe9d67dc032347c8b9b00e01ded0475c320b9c5", func := "windlass/windlasslaw09.BuildStraight", spec := "buildStraight", unfollowed := true, recurses := true, apart := false }
def BuildStraightSaid : Prop := buildStraightRow.holds Try.pinned (OpenSpec.ofChange buildStraightSpec)

/-- ITS FALSE NEIGHBOUR: 'it returns false'. Refute it at one input. -/
def buildStraightWrong : ChangeSpec := { name := "buildStraight", fn := fun _ => fun
  | [d] => { results := [.lit (.bool false)], args := [d] }
  | _ => none }
def BuildStraightWrongFalsely : Prop := buildStraightRow.holds Try.pinned (OpenSpec.ofChange buildStraightWrong)

/-- 'windlasslaw06.SemSums': WHATEVER THE INPUT: true; the input reads as it did. -/
def semSumsSpec : ChangeSpec := { name := "semSums", fn := fun _ => fun
  | [d1, d2] => { results := [.lit (.bool true)], args := [d1, d2] }
  | _ => none }
def semSumsRow : OpenClaim := { program := "ytjgdppgagihejaa", sum := "fff6ad4b5af3ed196fe266a7bbe9d67dc032347c8b9b00e01ded0475c320b9c5", func := "windlass/windlasslaw06.SemSums", spec := "semSums", unfollowed := true, recurses := true, apart := false }
def SemSumsSaid : Prop := semSumsRow.holds Try.pinned (OpenSpec.ofChange semSumsSpec)

/-- ITS FALSE NEIGHBOUR: 'it returns false'. Refute it at one input. -/
def semSumsWrong : ChangeSpec := { name := "semSums", fn := fun _ => fun
  | [d1, d2] => { results := [.lit (.bool false)], args := [d1, d2] }
  | _ => none }
def SemSumsWrongFalsely : Prop := semSumsRow.holds Try.pinned (OpenSpec.ofChange semSumsWrong)

/- THE SECOND FORM. 'bulk': how many values and letters a reading holds, each counted each time it is reached (what is shared counts as often as it is met; a slice's spare places count too). A statement '..UptoSaid' is the law's where the arguments, and the package variables that the reading takes, are together of bulk at most 1048576: NARROWER than '..Said'. Prove '..Said' where nothing that the law and all that it calls make is longer than what came in: it says more and counts as full. Else prove '..UptoSaid'. A law counts once. -/
mutual
def uptoBulk {H : Type} : DataW H → Nat
  | .lit (.string bytes) => bytes.length + 1
  | .lit _ => 1
  | .nil => 1
  | .ptr d => uptoBulk d + 1
  | .slice elems spare => uptoBulkAll elems + uptoBulkAll spare + 1
  | .agg parts => uptoBulkAll parts + 1
  | .iface _ d => uptoBulk d + 1
  | .map entries => uptoBulkEntries entries + 1
  | .held _ => 1
def uptoBulkAll {H : Type} : List (DataW H) → Nat
  | [] => 0
  | d :: r => uptoBulk d + uptoBulkAll r
def uptoBulkEntries {H : Type} : List (Lit × DataW H) → Nat
  | [] => 0
  | x :: r => uptoBulkEntry x + uptoBulkEntries r
def uptoBulkEntry {H : Type} : Lit × DataW H → Nat
  | (.string bytes, d) => bytes.length + uptoBulk d + 1
  | (_, d) => uptoBulk d + 1
 end
def uptoSmall : (H : Type) → List (DataW H) → Bool := fun _ ds => decide (uptoBulkAll ds ≤ 1048576)
def OpenSpec.upto (s : _root_.Go.ChangeSpec) : _root_.Go.OpenSpec := { _root_.Go.OpenSpec.ofChange s with cond := some uptoSmall }

/-- 'windlasslaw08.IrunKeeps', WHERE WHAT IT READS IS OF BULK AT MOST 1048576: true; the input reads as it did. -/
def irunKeepsUptoRow : OpenClaim := { program := "ytjgdppgagihejaa", sum := "fff6ad4b5af3ed196fe266a7bbe9d67dc032347c8b9b00e01ded0475c320b9c5", func := "windlass/windlasslaw08.IrunKeeps", spec := "irunKeeps", unfollowed := true, recurses := true, apart := false, narrowed := true }
def IrunKeepsUptoSaid : Prop := irunKeepsUptoRow.holds Try.pinned (OpenSpec.upto irunKeepsSpec)

/-- 'windlasslaw08.IrunSums', WHERE WHAT IT READS IS OF BULK AT MOST 1048576: true; the input reads as it did. -/
def irunSumsUptoRow : OpenClaim := { program := "ytjgdppgagihejaa", sum := "fff6ad4b5af3ed196fe266a7bbe9d67dc032347c8b9b00e01ded0475c320b9c5", func := "windlass/windlasslaw08.IrunSums", spec := "irunSums", unfollowed := true, recurses := true, apart := false, narrowed := true }
def IrunSumsUptoSaid : Prop := irunSumsUptoRow.holds Try.pinned (OpenSpec.upto irunSumsSpec)

/-- 'windlasslaw06.SemOrder', WHERE WHAT IT READS IS OF BULK AT MOST 1048576: true; the input reads as it did. -/
def semOrderUptoRow : OpenClaim := { program := "ytjgdppgagihejaa", sum := "fff6ad4b5af3ed196fe266a7bbe9d67dc032347c8b9b00e01ded0475c320b9c5", func := "windlass/windlasslaw06.SemOrder", spec := "semOrder", unfollowed := true, recurses := true, apart := false, narrowed := true }
def SemOrderUptoSaid : Prop := semOrderUptoRow.holds Try.pinned (OpenSpec.upto semOrderSpec)

/-- 'windlasslaw06.SemChain', WHERE WHAT IT READS IS OF BULK AT MOST 1048576: true; the input reads as it did. -/
def semChainUptoRow : OpenClaim := { program := "ytjgdppgagihejaa", sum := "fff6ad4b5af3ed196fe266a7bbe9d67dc032347c8b9b00e01ded0475c320b9c5", func := "windlass/windlasslaw06.SemChain", spec := "semChain", unfollowed := true, recurses := true, apart := false, narrowed := true }
def SemChainUptoSaid : Prop := semChainUptoRow.holds Try.pinned (OpenSpec.upto semChainSpec)

/-- 'windlasslaw06.SemDepth', WHERE WHAT IT READS IS OF BULK AT MOST 1048576: true; the input reads as it did. -/
def semDepthUptoRow : OpenClaim := { program := "ytjgdppgagihejaa", sum := "fff6ad4b5af3ed196fe266a7bbe9d67dc032347c8b9b00e01ded0475c320b9c5", func := "windlass/windlasslaw06.SemDepth", spec := "semDepth", unfollowed := true, recurses := true, apart := false, narrowed := true }
def SemDepthUptoSaid : Prop := semDepthUptoRow.holds Try.pinned (OpenSpec.upto semDepthSpec)

/-- 'windlasslaw09.BuildStraight', WHERE WHAT IT READS IS OF BULK AT MOST 1048576: true; the input reads as it did. -/
def buildStraightUptoRow : OpenClaim := { program := "ytjgdppgagihejaa", sum := "fff6ad4b5af3ed196fe266a7bbe9d67dc032347c8b9b00e01ded0475c320b9c5", func := "windlass/windlasslaw09.BuildStraight", spec := "buildStraight", unfollowed := true, recurses := true, apart := false, narrowed := true }
def BuildStraightUptoSaid : Prop := buildStraightUptoRow.holds Try.pinned (OpenSpec.upto buildStraightSpec)

/-- 'windlasslaw06.SemSums', WHERE WHAT IT READS IS OF BULK AT MOST 1048576: true; the input reads as it did. -/
def semSumsUptoRow : OpenClaim := { program := "ytjgdppgagihejaa", sum := "fff6ad4b5af3ed196fe266a7bbe9d67dc032347c8b9b00e01ded0475c320b9c5", func := "windlass/windlasslaw06.SemSums", spec := "semSums", unfollowed := true, recurses := true, apart := false, narrowed := true }
def SemSumsUptoSaid : Prop := semSumsUptoRow.holds Try.pinned (OpenSpec.upto semSumsSpec)

end Rows
end Go.Proofs.Ytjgdppgagihejaa
