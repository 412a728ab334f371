/-
  NARROWER THAN 'FOR EVERY INPUT', by the rows' own cells (each row's printed sentence says how): TraceKeeps: laid · TraceWords: laid · TraceTapes: laid · TraceCompares: laid · TraceOrder: laid · LiveSets: laid · LiveRest: laid · LiveLoops: laid.
  DERIVED. THE GIVEN ROWS OF THIS SEAT. 8 by the template 'for every input the law returns true; each argument reads behind the call as it read before'; 0 by the template 'total and deterministic' (their statements: YtekkiedpcgaddaaDoorTotals.lean).
  GIVEN WITH THE SEED: the statements are not yours to turn. If you find one false, say at which input.
  Laid BY PROGRAM, IN A SANDBOX (cutbox-rows.mjs): the forced cells as the released guide's own fill.sh prints them over the translation 8f0d6934ec58a541… (all of the seat's roots in one cut). By AI agents, Wed Nov 11 2026. No macro, syntax, notation, axiom, sorry.
-/
import Derived.Test.YtekkiedpcgaddaaDoorChecked
import GoSem.Claim
import GoSem.ClaimJoined
import GoSem.ClaimMapViews
import Derived.JoinedTies
import Derived.KernelRfl
namespace Go.Proofs.YtekkiedpcgaddaaDoor
/- THE CELL 'sum', in the pinned program and in every row, IS THE sha256 OF THE DUMP (.gsa) THAT YtekkiedpcgaddaaDoorProg.lean LOADS. Nothing in Lean hashes anything: it is a label: what it is worth is what the hold of that sum in a sandbox is worth. -/
noncomputable def Tryd.pinned : Pinned := { name := "ytekkiedpcgaddaadoor", sum := "8f0d6934ec58a541ea254caf13ea4915d0edec13a496c278afabb93a60f45e2c", checked := Tryd.checked }
namespace Rows
def none {H : Type} : Left H := { results := [], args := [] }

/- WHAT THE LISTED PACKAGE-LEVEL VARIABLES READ AS WHEN THE CALL BEGINS. Each datum BY PROGRAM (the guide's laid-datum.mjs) off the statement by which the dump's own 'gosem.cut.vars' lays the variable. In a bare row this is a premise. The card (YtekkiedpcgaddaaDoorCards.lean) ties it to the program's text. -/
def laid_math_bits_deBruijn32tab {H : Type} : DataW H := .agg [.lit (.int .u8 0), .lit (.int .u8 1), .lit (.int .u8 28), .lit (.int .u8 2), .lit (.int .u8 29), .lit (.int .u8 14), .lit (.int .u8 24), .lit (.int .u8 3), .lit (.int .u8 30), .lit (.int .u8 22), .lit (.int .u8 20), .lit (.int .u8 15), .lit (.int .u8 25), .lit (.int .u8 17), .lit (.int .u8 4), .lit (.int .u8 8), .lit (.int .u8 31), .lit (.int .u8 27), .lit (.int .u8 13), .lit (.int .u8 23), .lit (.int .u8 21), .lit (.int .u8 19), .lit (.int .u8 16), .lit (.int .u8 7), .lit (.int .u8 26), .lit (.int .u8 12), .lit (.int .u8 18), .lit (.int .u8 6), .lit (.int .u8 11), .lit (.int .u8 5), .lit (.int .u8 10), .lit (.int .u8 9)]
def laid_math_bits_deBruijn64tab {H : Type} : DataW H := .agg [.lit (.int .u8 0), .lit (.int .u8 1), .lit (.int .u8 56), .lit (.int .u8 2), .lit (.int .u8 57), .lit (.int .u8 49), .lit (.int .u8 28), .lit (.int .u8 3), .lit (.int .u8 61), .lit (.int .u8 58), .lit (.int .u8 42), .lit (.int .u8 50), .lit (.int .u8 38), .lit (.int .u8 29), .lit (.int .u8 17), .lit (.int .u8 4), .lit (.int .u8 62), .lit (.int .u8 47), .lit (.int .u8 59), .lit (.int .u8 36), .lit (.int .u8 45), .lit (.int .u8 43), .lit (.int .u8 51), .lit (.int .u8 22), .lit (.int .u8 53), .lit (.int .u8 39), .lit (.int .u8 33), .lit (.int .u8 30), .lit (.int .u8 24), .lit (.int .u8 18), .lit (.int .u8 12), .lit (.int .u8 5), .lit (.int .u8 63), .lit (.int .u8 55), .lit (.int .u8 48), .lit (.int .u8 27), .lit (.int .u8 60), .lit (.int .u8 41), .lit (.int .u8 37), .lit (.int .u8 16), .lit (.int .u8 46), .lit (.int .u8 35), .lit (.int .u8 44), .lit (.int .u8 21), .lit (.int .u8 52), .lit (.int .u8 32), .lit (.int .u8 23), .lit (.int .u8 11), .lit (.int .u8 54), .lit (.int .u8 26), .lit (.int .u8 40), .lit (.int .u8 15), .lit (.int .u8 34), .lit (.int .u8 20), .lit (.int .u8 31), .lit (.int .u8 10), .lit (.int .u8 25), .lit (.int .u8 14), .lit (.int .u8 19), .lit (.int .u8 9), .lit (.int .u8 13), .lit (.int .u8 8), .lit (.int .u8 7), .lit (.int .u8 6)]
def laid_internal_strconv_uint64pow10 {H : Type} : DataW H := .agg [.lit (.int .u64 1), .lit (.int .u64 10), .lit (.int .u64 100), .lit (.int .u64 1000), .lit (.int .u64 10000), .lit (.int .u64 100000), .lit (.int .u64 1000000), .lit (.int .u64 10000000), .lit (.int .u64 100000000), .lit (.int .u64 1000000000), .lit (.int .u64 10000000000), .lit (.int .u64 100000000000), .lit (.int .u64 1000000000000), .lit (.int .u64 10000000000000), .lit (.int .u64 100000000000000), .lit (.int .u64 1000000000000000), .lit (.int .u64 10000000000000000), .lit (.int .u64 100000000000000000), .lit (.int .u64 1000000000000000000), .lit (.int .u64 10000000000000000000)]

/-- 'windlasslaw02.TraceKeeps': WHATEVER THE INPUT: true; the input reads as it did. -/
def traceKeepsSpec : ChangeSpec := { name := "traceKeeps", fn := fun _ => fun
  | [d1, d2] => { results := [.lit (.bool true)], args := [d1, d2] }
  | _ => none }
def traceKeepsRow : OpenClaim := { program := "ytekkiedpcgaddaadoor", sum := "8f0d6934ec58a541ea254caf13ea4915d0edec13a496c278afabb93a60f45e2c", func := "windlass/windlasslaw02.TraceKeeps", spec := "traceKeeps", inPlace := ["internal/abi.NoEscape", "internal/bytealg.MakeNoZero"], named := ["internal/strconv.uint64pow10", "math/bits.deBruijn32tab", "math/bits.deBruijn64tab"], apart := false, laid := [("math/bits.deBruijn32tab", laid_math_bits_deBruijn32tab), ("math/bits.deBruijn64tab", laid_math_bits_deBruijn64tab), ("internal/strconv.uint64pow10", laid_internal_strconv_uint64pow10)] }
def TraceKeepsSaid : Prop := traceKeepsRow.holds Tryd.pinned (OpenSpec.ofChange traceKeepsSpec)

/-- ITS FALSE NEIGHBOUR: 'it returns false'. Refute it at one input. -/
def traceKeepsWrong : ChangeSpec := { name := "traceKeeps", fn := fun _ => fun
  | [d1, d2] => { results := [.lit (.bool false)], args := [d1, d2] }
  | _ => none }
def TraceKeepsWrongFalsely : Prop := traceKeepsRow.holds Tryd.pinned (OpenSpec.ofChange traceKeepsWrong)

/-- 'windlasslaw02.TraceWords': WHATEVER THE INPUT: true; the input reads as it did. -/
def traceWordsSpec : ChangeSpec := { name := "traceWords", fn := fun _ => fun
  | [d1, d2, d3] => { results := [.lit (.bool true)], args := [d1, d2, d3] }
  | _ => none }
def traceWordsRow : OpenClaim := { program := "ytekkiedpcgaddaadoor", sum := "8f0d6934ec58a541ea254caf13ea4915d0edec13a496c278afabb93a60f45e2c", func := "windlass/windlasslaw02.TraceWords", spec := "traceWords", inPlace := ["internal/abi.NoEscape", "internal/bytealg.MakeNoZero"], named := ["internal/strconv.uint64pow10", "math/bits.deBruijn32tab", "math/bits.deBruijn64tab"], apart := false, laid := [("math/bits.deBruijn32tab", laid_math_bits_deBruijn32tab), ("math/bits.deBruijn64tab", laid_math_bits_deBruijn64tab), ("internal/strconv.uint64pow10", laid_internal_strconv_uint64pow10)] }
def TraceWordsSaid : Prop := traceWordsRow.holds Tryd.pinned (OpenSpec.ofChange traceWordsSpec)

/-- ITS FALSE NEIGHBOUR: 'it returns false'. Refute it at one input. -/
def traceWordsWrong : ChangeSpec := { name := "traceWords", fn := fun _ => fun
  | [d1, d2, d3] => { results := [.lit (.bool false)], args := [d1, d2, d3] }
  | _ => none }
def TraceWordsWrongFalsely : Prop := traceWordsRow.holds Tryd.pinned (OpenSpec.ofChange traceWordsWrong)

/-- 'windlasslaw02.TraceTapes': WHATEVER THE INPUT: true; the input reads as it did. -/
def traceTapesSpec : ChangeSpec := { name := "traceTapes", fn := fun _ => fun
  | [d1, d2] => { results := [.lit (.bool true)], args := [d1, d2] }
  | _ => none }
def traceTapesRow : OpenClaim := { program := "ytekkiedpcgaddaadoor", sum := "8f0d6934ec58a541ea254caf13ea4915d0edec13a496c278afabb93a60f45e2c", func := "windlass/windlasslaw02.TraceTapes", spec := "traceTapes", inPlace := ["internal/abi.NoEscape", "internal/bytealg.MakeNoZero"], named := ["internal/strconv.uint64pow10", "math/bits.deBruijn32tab", "math/bits.deBruijn64tab"], apart := false, laid := [("math/bits.deBruijn32tab", laid_math_bits_deBruijn32tab), ("math/bits.deBruijn64tab", laid_math_bits_deBruijn64tab), ("internal/strconv.uint64pow10", laid_internal_strconv_uint64pow10)] }
def TraceTapesSaid : Prop := traceTapesRow.holds Tryd.pinned (OpenSpec.ofChange traceTapesSpec)

/-- ITS FALSE NEIGHBOUR: 'it returns false'. Refute it at one input. -/
def traceTapesWrong : ChangeSpec := { name := "traceTapes", fn := fun _ => fun
  | [d1, d2] => { results := [.lit (.bool false)], args := [d1, d2] }
  | _ => none }
def TraceTapesWrongFalsely : Prop := traceTapesRow.holds Tryd.pinned (OpenSpec.ofChange traceTapesWrong)

/-- 'windlasslaw02.TraceCompares': WHATEVER THE INPUT: true; the input reads as it did. -/
def traceComparesSpec : ChangeSpec := { name := "traceCompares", fn := fun _ => fun
  | [d1, d2, d3] => { results := [.lit (.bool true)], args := [d1, d2, d3] }
  | _ => none }
def traceComparesRow : OpenClaim := { program := "ytekkiedpcgaddaadoor", sum := "8f0d6934ec58a541ea254caf13ea4915d0edec13a496c278afabb93a60f45e2c", func := "windlass/windlasslaw02.TraceCompares", spec := "traceCompares", inPlace := ["internal/abi.NoEscape", "internal/bytealg.MakeNoZero"], named := ["internal/strconv.uint64pow10", "math/bits.deBruijn32tab", "math/bits.deBruijn64tab"], apart := false, laid := [("math/bits.deBruijn32tab", laid_math_bits_deBruijn32tab), ("math/bits.deBruijn64tab", laid_math_bits_deBruijn64tab), ("internal/strconv.uint64pow10", laid_internal_strconv_uint64pow10)] }
def TraceComparesSaid : Prop := traceComparesRow.holds Tryd.pinned (OpenSpec.ofChange traceComparesSpec)

/-- ITS FALSE NEIGHBOUR: 'it returns false'. Refute it at one input. -/
def traceComparesWrong : ChangeSpec := { name := "traceCompares", fn := fun _ => fun
  | [d1, d2, d3] => { results := [.lit (.bool false)], args := [d1, d2, d3] }
  | _ => none }
def TraceComparesWrongFalsely : Prop := traceComparesRow.holds Tryd.pinned (OpenSpec.ofChange traceComparesWrong)

/-- 'windlasslaw02.TraceOrder': WHATEVER THE INPUT: true; the input reads as it did. -/
def traceOrderSpec : ChangeSpec := { name := "traceOrder", fn := fun _ => fun
  | [d1, d2] => { results := [.lit (.bool true)], args := [d1, d2] }
  | _ => none }
def traceOrderRow : OpenClaim := { program := "ytekkiedpcgaddaadoor", sum := "8f0d6934ec58a541ea254caf13ea4915d0edec13a496c278afabb93a60f45e2c", func := "windlass/windlasslaw02.TraceOrder", spec := "traceOrder", inPlace := ["internal/abi.NoEscape", "internal/bytealg.MakeNoZero"], named := ["internal/strconv.uint64pow10", "math/bits.deBruijn32tab", "math/bits.deBruijn64tab"], apart := false, laid := [("math/bits.deBruijn32tab", laid_math_bits_deBruijn32tab), ("math/bits.deBruijn64tab", laid_math_bits_deBruijn64tab), ("internal/strconv.uint64pow10", laid_internal_strconv_uint64pow10)] }
def TraceOrderSaid : Prop := traceOrderRow.holds Tryd.pinned (OpenSpec.ofChange traceOrderSpec)

/-- ITS FALSE NEIGHBOUR: 'it returns false'. Refute it at one input. -/
def traceOrderWrong : ChangeSpec := { name := "traceOrder", fn := fun _ => fun
  | [d1, d2] => { results := [.lit (.bool false)], args := [d1, d2] }
  | _ => none }
def TraceOrderWrongFalsely : Prop := traceOrderRow.holds Tryd.pinned (OpenSpec.ofChange traceOrderWrong)

/-- 'windlasslaw11.LiveSets': WHATEVER THE INPUT: true; the input reads as it did. -/
def liveSetsSpec : ChangeSpec := { name := "liveSets", fn := fun _ => fun
  | [d1, d2] => { results := [.lit (.bool true)], args := [d1, d2] }
  | _ => none }
def liveSetsRow : OpenClaim := { program := "ytekkiedpcgaddaadoor", sum := "8f0d6934ec58a541ea254caf13ea4915d0edec13a496c278afabb93a60f45e2c", func := "windlass/windlasslaw11.LiveSets", spec := "liveSets", unfollowed := true, recurses := true, named := ["math/bits.deBruijn64tab"], apart := false, laid := [("math/bits.deBruijn64tab", laid_math_bits_deBruijn64tab)] }
def LiveSetsSaid : Prop := liveSetsRow.holds Tryd.pinned (OpenSpec.ofChange liveSetsSpec)

/-- ITS FALSE NEIGHBOUR: 'it returns false'. Refute it at one input. -/
def liveSetsWrong : ChangeSpec := { name := "liveSets", fn := fun _ => fun
  | [d1, d2] => { results := [.lit (.bool false)], args := [d1, d2] }
  | _ => none }
def LiveSetsWrongFalsely : Prop := liveSetsRow.holds Tryd.pinned (OpenSpec.ofChange liveSetsWrong)

/-- 'windlasslaw11.LiveRest': WHATEVER THE INPUT: true; the input reads as it did. -/
def liveRestSpec : ChangeSpec := { name := "liveRest", fn := fun _ => fun
  | [d1, d2, d3] => { results := [.lit (.bool true)], args := [d1, d2, d3] }
  | _ => none }
def liveRestRow : OpenClaim := { program := "ytekkiedpcgaddaadoor", sum := "8f0d6934ec58a541ea254caf13ea4915d0edec13a496c278afabb93a60f45e2c", func := "windlass/windlasslaw11.LiveRest", spec := "liveRest", unfollowed := true, recurses := true, named := ["math/bits.deBruijn64tab"], apart := false, laid := [("math/bits.deBruijn64tab", laid_math_bits_deBruijn64tab)] }
def LiveRestSaid : Prop := liveRestRow.holds Tryd.pinned (OpenSpec.ofChange liveRestSpec)

/-- ITS FALSE NEIGHBOUR: 'it returns false'. Refute it at one input. -/
def liveRestWrong : ChangeSpec := { name := "liveRest", fn := fun _ => fun
  | [d1, d2, d3] => { results := [.lit (.bool false)], args := [d1, d2, d3] }
  | _ => none }
def LiveRestWrongFalsely : Prop := liveRestRow.holds Tryd.pinned (OpenSpec.ofChange liveRestWrong)

/-- 'windlasslaw11.LiveLoops': WHATEVER THE INPUT: true; the input reads as it did. -/
def liveLoopsSpec : ChangeSpec := { name := "liveLoops", fn := fun _ => fun
  | [d1, d2, d3] => { results := [.lit (.bool true)], args := [d1, d2, d3] }
  | _ => none }
def liveLoopsRow : OpenClaim := { program := "ytekkiedpcgaddaadoor", sum := "8f0d6934ec58a541ea254caf13ea4915d0edec13a496c278afabb93a60f45e2c", func := "windlass/windlasslaw11.LiveLoops", spec := "liveLoops", unfollowed := true, recurses := true, named := ["math/bits.deBruijn64tab"], apart := false, laid := [("math/bits.deBruijn64tab", laid_math_bits_deBruijn64tab)] }
def LiveLoopsSaid : Prop := liveLoopsRow.holds Tryd.pinned (OpenSpec.ofChange liveLoopsSpec)

/-- ITS FALSE NEIGHBOUR: 'it returns false'. Refute it at one input. -/
def liveLoopsWrong : ChangeSpec := { name := "liveLoops", fn := fun _ => fun
  | [d1, d2, d3] => { results := [.lit (.bool false)], args := [d1, d2, d3] }
  | _ => none }
def LiveLoopsWrongFalsely : Prop := liveLoopsRow.holds Tryd.pinned (OpenSpec.ofChange liveLoopsWrong)

/- THE SECOND FORM. 'bulk': how many values and letters a reading holds, each counted each time it is reached (what is shared counts as often as it is met; a slice's spare places count too). A statement '..UptoSaid' is the law's where the arguments, and the package variables that the reading takes, are together of bulk at most 1048576: NARROWER than '..Said'. Prove '..Said' where nothing that the law and all that it calls make is longer than what came in: it says more and counts as full. Else prove '..UptoSaid'. A law counts once. -/
mutual
def uptoBulk {H : Type} : DataW H → Nat
  | .lit (.string bytes) => bytes.length + 1
  | .lit _ => 1
  | .nil => 1
  | .ptr d => uptoBulk d + 1
  | .slice elems spare => uptoBulkAll elems + uptoBulkAll spare + 1
  | .agg parts => uptoBulkAll parts + 1
  | .iface _ d => uptoBulk d + 1
  | .map entries => uptoBulkEntries entries + 1
  | .held _ => 1
def uptoBulkAll {H : Type} : List (DataW H) → Nat
  | [] => 0
  | d :: r => uptoBulk d + uptoBulkAll r
def uptoBulkEntries {H : Type} : List (Lit × DataW H) → Nat
  | [] => 0
  | x :: r => uptoBulkEntry x + uptoBulkEntries r
def uptoBulkEntry {H : Type} : Lit × DataW H → Nat
  | (.string bytes, d) => bytes.length + uptoBulk d + 1
  | (_, d) => uptoBulk d + 1
 end
def uptoSmall : (H : Type) → List (DataW H) → Bool := fun _ ds => decide (uptoBulkAll ds ≤ 1048576)
def OpenSpec.upto (s : _root_.Go.ChangeSpec) : _root_.Go.OpenSpec := { _root_.Go.OpenSpec.ofChange s with cond := some uptoSmall }

/-- 'windlasslaw02.TraceKeeps', WHERE WHAT IT READS IS OF BULK AT MOST 1048576: true; the input reads as it did. -/
def traceKeepsUptoRow : OpenClaim := { program := "ytekkiedpcgaddaadoor", sum := "8f0d6934ec58a541ea254caf13ea4915d0edec13a496c278afabb93a60f45e2c", func := "windlass/windlasslaw02.TraceKeeps", spec := "traceKeeps", inPlace := ["internal/abi.NoEscape", "internal/bytealg.MakeNoZero"], named := ["internal/strconv.uint64pow10", "math/bits.deBruijn32tab", "math/bits.deBruijn64tab"], apart := false, laid := [("math/bits.deBruijn32tab", laid_math_bits_deBruijn32tab), ("math/bits.deBruijn64tab", laid_math_bits_deBruijn64tab), ("internal/strconv.uint64pow10", laid_internal_strconv_uint64pow10)], narrowed := true }
def TraceKeepsUptoSaid : Prop := traceKeepsUptoRow.holds Tryd.pinned (OpenSpec.upto traceKeepsSpec)

/-- 'windlasslaw02.TraceWords', WHERE WHAT IT READS IS OF BULK AT MOST 1048576: true; the input reads as it did. -/
def traceWordsUptoRow : OpenClaim := { program := "ytekkiedpcgaddaadoor", sum := "8f0d6934ec58a541ea254caf13ea4915d0edec13a496c278afabb93a60f45e2c", func := "windlass/windlasslaw02.TraceWords", spec := "traceWords", inPlace := ["internal/abi.NoEscape", "internal/bytealg.MakeNoZero"], named := ["internal/strconv.uint64pow10", "math/bits.deBruijn32tab", "math/bits.deBruijn64tab"], apart := false, laid := [("math/bits.deBruijn32tab", laid_math_bits_deBruijn32tab), ("math/bits.deBruijn64tab", laid_math_bits_deBruijn64tab), ("internal/strconv.uint64pow10", laid_internal_strconv_uint64pow10)], narrowed := true }
def TraceWordsUptoSaid : Prop := traceWordsUptoRow.holds Tryd.pinned (OpenSpec.upto traceWordsSpec)

/-- 'windlasslaw02.TraceTapes', WHERE WHAT IT READS IS OF BULK AT MOST 1048576: true; the input reads as it did. -/
def traceTapesUptoRow : OpenClaim := { program := "ytekkiedpcgaddaadoor", sum := "8f0d6934ec58a541ea254caf13ea4915d0edec13a496c278afabb93a60f45e2c", func := "windlass/windlasslaw02.TraceTapes", spec := "traceTapes", inPlace := ["internal/abi.NoEscape", "internal/bytealg.MakeNoZero"], named := ["internal/strconv.uint64pow10", "math/bits.deBruijn32tab", "math/bits.deBruijn64tab"], apart := false, laid := [("math/bits.deBruijn32tab", laid_math_bits_deBruijn32tab), ("math/bits.deBruijn64tab", laid_math_bits_deBruijn64tab), ("internal/strconv.uint64pow10", laid_internal_strconv_uint64pow10)], narrowed := true }
def TraceTapesUptoSaid : Prop := traceTapesUptoRow.holds Tryd.pinned (OpenSpec.upto traceTapesSpec)

/-- 'windlasslaw02.TraceCompares', WHERE WHAT IT READS IS OF BULK AT MOST 1048576: true; the input reads as it did. -/
def traceComparesUptoRow : OpenClaim := { program := "ytekkiedpcgaddaadoor", sum := "8f0d6934ec58a541ea254caf13ea4915d0edec13a496c278afabb93a60f45e2c", func := "windlass/windlasslaw02.TraceCompares", spec := "traceCompares", inPlace := ["internal/abi.NoEscape", "internal/bytealg.MakeNoZero"], named := ["internal/strconv.uint64pow10", "math/bits.deBruijn32tab", "math/bits.deBruijn64tab"], apart := false, laid := [("math/bits.deBruijn32tab", laid_math_bits_deBruijn32tab), ("math/bits.deBruijn64tab", laid_math_bits_deBruijn64tab), ("internal/strconv.uint64pow10", laid_internal_strconv_uint64pow10)], narrowed := true }
def TraceComparesUptoSaid : Prop := traceComparesUptoRow.holds Tryd.pinned (OpenSpec.upto traceComparesSpec)

/-- 'windlasslaw02.TraceOrder', WHERE WHAT IT READS IS OF BULK AT MOST 1048576: true; the input reads as it did. -/
def traceOrderUptoRow : OpenClaim := { program := "ytekkiedpcgaddaadoor", sum := "8f0d6934ec58a541ea254caf13ea4915d0edec13a496c278afabb93a60f45e2c", func := "windlass/windlasslaw02.TraceOrder", spec := "traceOrder", inPlace := ["internal/abi.NoEscape", "internal/bytealg.MakeNoZero"], named := ["internal/strconv.uint64pow10", "math/bits.deBruijn32tab", "math/bits.deBruijn64tab"], apart := false, laid := [("math/bits.deBruijn32tab", laid_math_bits_deBruijn32tab), ("math/bits.deBruijn64tab", laid_math_bits_deBruijn64tab), ("internal/strconv.uint64pow10", laid_internal_strconv_uint64pow10)], narrowed := true }
def TraceOrderUptoSaid : Prop := traceOrderUptoRow.holds Tryd.pinned (OpenSpec.upto traceOrderSpec)

/-- 'windlasslaw11.LiveSets', WHERE WHAT IT READS IS OF BULK AT MOST 1048576: true; the input reads as it did. -/
def liveSetsUptoRow : OpenClaim := { program := "ytekkiedpcgaddaadoor", sum := "8f0d6934ec58a541ea254caf13ea4915d0edec13a496c278afabb93a60f45e2c", func := "windlass/windlasslaw11.LiveSets", spec := "liveSets", unfollowed := true, recurses := true, named := ["math/bits.deBruijn64tab"], apart := false, laid := [("math/bits.deBruijn64tab", laid_math_bits_deBruijn64tab)], narrowed := true }
def LiveSetsUptoSaid : Prop := liveSetsUptoRow.holds Tryd.pinned (OpenSpec.upto liveSetsSpec)

/-- 'windlasslaw11.LiveRest', WHERE WHAT IT READS IS OF BULK AT MOST 1048576: true; the input reads as it did. -/
def liveRestUptoRow : OpenClaim := { program := "ytekkiedpcgaddaadoor", sum := "8f0d6934ec58a541ea254caf13ea4915d0edec13a496c278afabb93a60f45e2c", func := "windlass/windlasslaw11.LiveRest", spec := "liveRest", unfollowed := true, recurses := true, named := ["math/bits.deBruijn64tab"], apart := false, laid := [("math/bits.deBruijn64tab", laid_math_bits_deBruijn64tab)], narrowed := true }
def LiveRestUptoSaid : Prop := liveRestUptoRow.holds Tryd.pinned (OpenSpec.upto liveRestSpec)

/-- 'windlasslaw11.LiveLoops', WHERE WHAT IT READS IS OF BULK AT MOST 1048576: true; the input reads as it did. -/
def liveLoopsUptoRow : OpenClaim := { program := "ytekkiedpcgaddaadoor", sum := "8f0d6934ec58a541ea254caf13ea4915d0edec13a496c278afabb93a60f45e2c", func := "windlass/windlasslaw11.LiveLoops", spec := "liveLoops", unfollowed := true, recurses := true, named := ["math/bits.deBruijn64tab"], apart := false, laid := [("math/bits.deBruijn64tab", laid_math_bits_deBruijn64tab)], narrowed := true }
def LiveLoopsUptoSaid : Prop := liveLoopsUptoRow.holds Tryd.pinned (OpenSpec.upto liveLoopsSpec)

end Rows
end Go.Proofs.YtekkiedpcgaddaaDoor
