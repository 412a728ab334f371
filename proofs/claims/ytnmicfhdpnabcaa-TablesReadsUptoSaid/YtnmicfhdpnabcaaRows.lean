/-
  No cell of these rows narrows 'for every input' (looked for: loops, veiled, ifaces, maps, wideKeys, modest, calm, conditions, laid).
  DERIVED. THE GIVEN ROWS OF THIS SEAT. 5 by the template 'for every input the law returns true; each argument reads behind the call as it read before'; 0 by the template 'total and deterministic' (their statements: YtnmicfhdpnabcaaTotals.lean).
  GIVEN WITH THE SEED: the statements are not yours to turn. If you find one false, say at which input.
  Laid BY PROGRAM, IN A SANDBOX (cutbox-rows.mjs): the forced cells as the released guide's own fill.sh prints them over the translation cde09cd3a533471c… (all of the seat's roots in one cut). By AI agents, Wed Nov 11 2026. No macro, syntax, notation, axiom, sorry.
-/
import Derived.Test.YtnmicfhdpnabcaaChecked
import GoSem.Claim
import GoSem.ClaimJoined
import GoSem.ClaimMapViews
import Derived.JoinedTies
import Derived.KernelRfl
namespace Go.Proofs.Ytnmicfhdpnabcaa
/- THE CELL 'sum', in the pinned program and in every row, IS THE sha256 OF THE DUMP (.gsa) THAT YtnmicfhdpnabcaaProg.lean LOADS. Nothing in Lean hashes anything: it is a label: what it is worth is what the hold of that sum in a sandbox is worth. -/
noncomputable def Try.pinned : Pinned := { name := "ytnmicfhdpnabcaa", sum := "cde09cd3a533471cdebdaacd8e8f762b62e42e7f09f4112df947826268ffc096", checked := Try.checked }
namespace Rows
def none {H : Type} : Left H := { results := [], args := [] }

/-- 'windlasslaw19.TablesHalves': WHATEVER THE INPUT: true; the input reads as it did. -/
def tablesHalvesSpec : ChangeSpec := { name := "tablesHalves", fn := fun _ => fun
  | [d] => { results := [.lit (.bool true)], args := [d] }
  | _ => none }
def tablesHalvesRow : OpenClaim := { program := "ytnmicfhdpnabcaa", sum := "cde09cd3a533471cdebdaacd8e8f762b62e42e7f09f4112df947826268ffc096", func := "windlass/windlasslaw19.TablesHalves", spec := "tablesHalves", unfollowed := true, recurses := true, apart := false }
def TablesHalvesSaid : Prop := tablesHalvesRow.holds Try.pinned (OpenSpec.ofChange tablesHalvesSpec)

/-- ITS FALSE NEIGHBOUR: 'it returns false'. Refute it at one input. -/
def tablesHalvesWrong : ChangeSpec := { name := "tablesHalves", fn := fun _ => fun
  | [d] => { results := [.lit (.bool false)], args := [d] }
  | _ => none }
def TablesHalvesWrongFalsely : Prop := tablesHalvesRow.holds Try.pinned (OpenSpec.ofChange tablesHalvesWrong)

/-- 'windlasslaw19.TablesFinds': WHATEVER THE INPUT: true; the input reads as it did. -/
def tablesFindsSpec : ChangeSpec := { name := "tablesFinds", fn := fun _ => fun
  | [d1, d2] => { results := [.lit (.bool true)], args := [d1, d2] }
  | _ => none }
def tablesFindsRow : OpenClaim := { program := "ytnmicfhdpnabcaa", sum := "cde09cd3a533471cdebdaacd8e8f762b62e42e7f09f4112df947826268ffc096", func := "windlass/windlasslaw19.TablesFinds", spec := "tablesFinds", unfollowed := true, recurses := true, apart := false }
def TablesFindsSaid : Prop := tablesFindsRow.holds Try.pinned (OpenSpec.ofChange tablesFindsSpec)

/-- ITS FALSE NEIGHBOUR: 'it returns false'. Refute it at one input. -/
def tablesFindsWrong : ChangeSpec := { name := "tablesFinds", fn := fun _ => fun
  | [d1, d2] => { results := [.lit (.bool false)], args := [d1, d2] }
  | _ => none }
def TablesFindsWrongFalsely : Prop := tablesFindsRow.holds Try.pinned (OpenSpec.ofChange tablesFindsWrong)

/-- 'windlasslaw19.TablesBytes': WHATEVER THE INPUT: true; the input reads as it did. -/
def tablesBytesSpec : ChangeSpec := { name := "tablesBytes", fn := fun _ => fun
  | [d] => { results := [.lit (.bool true)], args := [d] }
  | _ => none }
def tablesBytesRow : OpenClaim := { program := "ytnmicfhdpnabcaa", sum := "cde09cd3a533471cdebdaacd8e8f762b62e42e7f09f4112df947826268ffc096", func := "windlass/windlasslaw19.TablesBytes", spec := "tablesBytes", unfollowed := true, recurses := true, apart := false }
def TablesBytesSaid : Prop := tablesBytesRow.holds Try.pinned (OpenSpec.ofChange tablesBytesSpec)

/-- ITS FALSE NEIGHBOUR: 'it returns false'. Refute it at one input. -/
def tablesBytesWrong : ChangeSpec := { name := "tablesBytes", fn := fun _ => fun
  | [d] => { results := [.lit (.bool false)], args := [d] }
  | _ => none }
def TablesBytesWrongFalsely : Prop := tablesBytesRow.holds Try.pinned (OpenSpec.ofChange tablesBytesWrong)

/-- 'windlasslaw19.TablesReads': WHATEVER THE INPUT: true; the input reads as it did. -/
def tablesReadsSpec : ChangeSpec := { name := "tablesReads", fn := fun _ => fun
  | [d] => { results := [.lit (.bool true)], args := [d] }
  | _ => none }
def tablesReadsRow : OpenClaim := { program := "ytnmicfhdpnabcaa", sum := "cde09cd3a533471cdebdaacd8e8f762b62e42e7f09f4112df947826268ffc096", func := "windlass/windlasslaw19.TablesReads", spec := "tablesReads", unfollowed := true, recurses := true, apart := false }
def TablesReadsSaid : Prop := tablesReadsRow.holds Try.pinned (OpenSpec.ofChange tablesReadsSpec)

/-- ITS FALSE NEIGHBOUR: 'it returns false'. Refute it at one input. -/
def tablesReadsWrong : ChangeSpec := { name := "tablesReads", fn := fun _ => fun
  | [d] => { results := [.lit (.bool false)], args := [d] }
  | _ => none }
def TablesReadsWrongFalsely : Prop := tablesReadsRow.holds Try.pinned (OpenSpec.ofChange tablesReadsWrong)

/-- 'windlasslaw19.TablesSizes': WHATEVER THE INPUT: true; the input reads as it did. -/
def tablesSizesSpec : ChangeSpec := { name := "tablesSizes", fn := fun _ => fun
  | [d1, d2] => { results := [.lit (.bool true)], args := [d1, d2] }
  | _ => none }
def tablesSizesRow : OpenClaim := { program := "ytnmicfhdpnabcaa", sum := "cde09cd3a533471cdebdaacd8e8f762b62e42e7f09f4112df947826268ffc096", func := "windlass/windlasslaw19.TablesSizes", spec := "tablesSizes", unfollowed := true, recurses := true, apart := false }
def TablesSizesSaid : Prop := tablesSizesRow.holds Try.pinned (OpenSpec.ofChange tablesSizesSpec)

/-- ITS FALSE NEIGHBOUR: 'it returns false'. Refute it at one input. -/
def tablesSizesWrong : ChangeSpec := { name := "tablesSizes", fn := fun _ => fun
  | [d1, d2] => { results := [.lit (.bool false)], args := [d1, d2] }
  | _ => none }
def TablesSizesWrongFalsely : Prop := tablesSizesRow.holds Try.pinned (OpenSpec.ofChange tablesSizesWrong)

/- THE SECOND FORM. 'bulk': how many values and letters a reading holds, each counted each time it is reached (what is shared counts as often as it is met; a slice's spare places count too). A statement '..UptoSaid' is the law's where the arguments, and the package variables that the reading takes, are together of bulk at most 1048576: NARROWER than '..Said'. Prove '..Said' where nothing that the law and all that it calls make is longer than what came in: it says more and counts as full. Else prove '..UptoSaid'. A law counts once. -/
mutual
def uptoBulk {H : Type} : DataW H → Nat
  | .lit (.string bytes) => bytes.length + 1
  | .lit _ => 1
  | .nil => 1
  | .ptr d => uptoBulk d + 1
  | .slice elems spare => uptoBulkAll elems + uptoBulkAll spare + 1
  | .agg parts => uptoBulkAll parts + 1
  | .iface _ d => uptoBulk d + 1
  | .map entries => uptoBulkEntries entries + 1
  | .held _ => 1
def uptoBulkAll {H : Type} : List (DataW H) → Nat
  | [] => 0
  | d :: r => uptoBulk d + uptoBulkAll r
def uptoBulkEntries {H : Type} : List (Lit × DataW H) → Nat
  | [] => 0
  | x :: r => uptoBulkEntry x + uptoBulkEntries r
def uptoBulkEntry {H : Type} : Lit × DataW H → Nat
  | (.string bytes, d) => bytes.length + uptoBulk d + 1
  | (_, d) => uptoBulk d + 1
 end
def uptoSmall : (H : Type) → List (DataW H) → Bool := fun _ ds => decide (uptoBulkAll ds ≤ 1048576)
def OpenSpec.upto (s : _root_.Go.ChangeSpec) : _root_.Go.OpenSpec := { _root_.Go.OpenSpec.ofChange s with cond := some uptoSmall }

/-- 'windlasslaw19.TablesHalves', WHERE WHAT IT READS IS OF BULK AT MOST 1048576: true; the input reads as it did. -/
def tablesHalvesUptoRow : OpenClaim := { program := "ytnmicfhdpnabcaa", sum := "cde09cd3a533471cdebdaacd8e8f762b62e42e7f09f4112df947826268ffc096", func := "windlass/windlasslaw19.TablesHalves", spec := "tablesHalves", unfollowed := true, recurses := true, apart := false, narrowed := true }
def TablesHalvesUptoSaid : Prop := tablesHalvesUptoRow.holds Try.pinned (OpenSpec.upto tablesHalvesSpec)

/-- 'windlasslaw19.TablesFinds', WHERE WHAT IT READS IS OF BULK AT MOST 1048576: true; the input reads as it did. -/
def tablesFindsUptoRow : OpenClaim := { program := "ytnmicfhdpnabcaa", sum := "cde09cd3a533471cdebdaacd8e8f762b62e42e7f09f4112df947826268ffc096", func := "windlass/windlasslaw19.TablesFinds", spec := "tablesFinds", unfollowed := true, recurses := true, apart := false, narrowed := true }
def TablesFindsUptoSaid : Prop := tablesFindsUptoRow.holds Try.pinned (OpenSpec.upto tablesFindsSpec)

/-- 'windlasslaw19.TablesBytes', WHERE WHAT IT READS IS OF BULK AT MOST 1048576: true; the input reads as it did. -/
def tablesBytesUptoRow : OpenClaim := { program := "ytnmicfhdpnabcaa", sum := "cde09cd3a533471cdebdaacd8e8f762b62e42e7f09f4112df947826268ffc096", func := "windlass/windlasslaw19.TablesBytes", spec := "tablesBytes", unfollowed := true, recurses := true, apart := false, narrowed := true }
def TablesBytesUptoSaid : Prop := tablesBytesUptoRow.holds Try.pinned (OpenSpec.upto tablesBytesSpec)

/-- 'windlasslaw19.TablesReads', WHERE WHAT IT READS IS OF BULK AT MOST 1048576: true; the input reads as it did. -/
def tablesReadsUptoRow : OpenClaim := { program := "ytnmicfhdpnabcaa", sum := "cde09cd3a533471cdebdaacd8e8f762b62e42e7f09f4112df947826268ffc096", func := "windlass/windlasslaw19.TablesReads", spec := "tablesReads", unfollowed := true, recurses := true, apart := false, narrowed := true }
def TablesReadsUptoSaid : Prop := tablesReadsUptoRow.holds Try.pinned (OpenSpec.upto tablesReadsSpec)

/-- 'windlasslaw19.TablesSizes', WHERE WHAT IT READS IS OF BULK AT MOST 1048576: true; the input reads as it did. -/
def tablesSizesUptoRow : OpenClaim := { program := "ytnmicfhdpnabcaa", sum := "cde09cd3a533471cdebdaacd8e8f762b62e42e7f09f4112df947826268ffc096", func := "windlass/windlasslaw19.TablesSizes", spec := "tablesSizes", unfollowed := true, recurses := true, apart := false, narrowed := true }
def TablesSizesUptoSaid : Prop := tablesSizesUptoRow.holds Try.pinned (OpenSpec.upto tablesSizesSpec)

end Rows
end Go.Proofs.Ytnmicfhdpnabcaa
