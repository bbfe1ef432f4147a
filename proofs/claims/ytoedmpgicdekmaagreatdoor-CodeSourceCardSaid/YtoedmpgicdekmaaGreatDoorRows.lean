/-
  NARROWER THAN 'FOR EVERY INPUT', by the rows' own cells (each row's printed sentence says how): CodeErrors: loops, laid · CodePrefix: laid · CodeLoops: laid · CodeSource: laid · CodeMeans: loops, laid.
  DERIVED. THE GIVEN ROWS OF THIS SEAT. 5 by the template 'for every input the law returns true; each argument reads behind the call as it read before'; 0 by the template 'total and deterministic' (their statements: YtoedmpgicdekmaaGreatDoorTotals.lean).
  GIVEN WITH THE SEED: the statements are not yours to turn. If you find one false, say at which input.
  Laid BY PROGRAM, IN A SANDBOX (cutbox-rows.mjs): the forced cells as the released guide's own fill.sh prints them over the translation 5104cc2a0aa9af8d… (all of the seat's roots in one cut). By AI agents, Wed Nov 11 2026. No macro, syntax, notation, axiom, sorry.
-/
import Derived.Test.YtoedmpgicdekmaaGreatDoorChecked
import GoSem.Claim
import GoSem.ClaimJoined
import GoSem.ClaimMapViews
import Derived.JoinedTies
import Derived.KernelRfl
namespace Go.Proofs.YtoedmpgicdekmaaGreatDoor
/- THE CELL 'sum', in the pinned program and in every row, IS THE sha256 OF THE DUMP (.gsa) THAT YtoedmpgicdekmaaGreatDoorProg.lean LOADS. Nothing in Lean hashes anything: it is a label: what it is worth is what the hold of that sum in a sandbox is worth. -/
noncomputable def Tryz.pinned : Pinned := { name := "ytoedmpgicdekmaagreatdoor", sum := "5104cc2a0aa9af8d36fd095fbc9ad102009402a0152438822d2622f0e2c84b9d", checked := Tryz.checked }
namespace Rows
def none {H : Type} : Left H := { results := [], args := [] }

/- WHAT THE LISTED PACKAGE-LEVEL VARIABLES READ AS WHEN THE CALL BEGINS. Each datum BY PROGRAM (the guide's laid-datum.mjs) off the statement by which the dump's own 'gosem.cut.vars' lays the variable. In a bare row this is a premise. The card (YtoedmpgicdekmaaGreatDoorCards.lean) ties it to the program's text. -/
def laid_math_bits_deBruijn32tab {H : Type} : DataW H := .agg [.lit (.int .u8 0), .lit (.int .u8 1), .lit (.int .u8 28), .lit (.int .u8 2), .lit (.int .u8 29), .lit (.int .u8 14), .lit (.int .u8 24), .lit (.int .u8 3), .lit (.int .u8 30), .lit (.int .u8 22), .lit (.int .u8 20), .lit (.int .u8 15), .lit (.int .u8 25), .lit (.int .u8 17), .lit (.int .u8 4), .lit (.int .u8 8), .lit (.int .u8 31), .lit (.int .u8 27), .lit (.int .u8 13), .lit (.int .u8 23), .lit (.int .u8 21), .lit (.int .u8 19), .lit (.int .u8 16), .lit (.int .u8 7), .lit (.int .u8 26), .lit (.int .u8 12), .lit (.int .u8 18), .lit (.int .u8 6), .lit (.int .u8 11), .lit (.int .u8 5), .lit (.int .u8 10), .lit (.int .u8 9)]
def laid_math_bits_deBruijn64tab {H : Type} : DataW H := .agg [.lit (.int .u8 0), .lit (.int .u8 1), .lit (.int .u8 56), .lit (.int .u8 2), .lit (.int .u8 57), .lit (.int .u8 49), .lit (.int .u8 28), .lit (.int .u8 3), .lit (.int .u8 61), .lit (.int .u8 58), .lit (.int .u8 42), .lit (.int .u8 50), .lit (.int .u8 38), .lit (.int .u8 29), .lit (.int .u8 17), .lit (.int .u8 4), .lit (.int .u8 62), .lit (.int .u8 47), .lit (.int .u8 59), .lit (.int .u8 36), .lit (.int .u8 45), .lit (.int .u8 43), .lit (.int .u8 51), .lit (.int .u8 22), .lit (.int .u8 53), .lit (.int .u8 39), .lit (.int .u8 33), .lit (.int .u8 30), .lit (.int .u8 24), .lit (.int .u8 18), .lit (.int .u8 12), .lit (.int .u8 5), .lit (.int .u8 63), .lit (.int .u8 55), .lit (.int .u8 48), .lit (.int .u8 27), .lit (.int .u8 60), .lit (.int .u8 41), .lit (.int .u8 37), .lit (.int .u8 16), .lit (.int .u8 46), .lit (.int .u8 35), .lit (.int .u8 44), .lit (.int .u8 21), .lit (.int .u8 52), .lit (.int .u8 32), .lit (.int .u8 23), .lit (.int .u8 11), .lit (.int .u8 54), .lit (.int .u8 26), .lit (.int .u8 40), .lit (.int .u8 15), .lit (.int .u8 34), .lit (.int .u8 20), .lit (.int .u8 31), .lit (.int .u8 10), .lit (.int .u8 25), .lit (.int .u8 14), .lit (.int .u8 19), .lit (.int .u8 9), .lit (.int .u8 13), .lit (.int .u8 8), .lit (.int .u8 7), .lit (.int .u8 6)]
def laid_internal_strconv_uint64pow10 {H : Type} : DataW H := .agg [.lit (.int .u64 1), .lit (.int .u64 10), .lit (.int .u64 100), .lit (.int .u64 1000), .lit (.int .u64 10000), .lit (.int .u64 100000), .lit (.int .u64 1000000), .lit (.int .u64 10000000), .lit (.int .u64 100000000), .lit (.int .u64 1000000000), .lit (.int .u64 10000000000), .lit (.int .u64 100000000000), .lit (.int .u64 1000000000000), .lit (.int .u64 10000000000000), .lit (.int .u64 100000000000000), .lit (.int .u64 1000000000000000), .lit (.int .u64 10000000000000000), .lit (.int .u64 100000000000000000), .lit (.int .u64 1000000000000000000), .lit (.int .u64 10000000000000000000)]
def laid_strconv_ErrRange {H : Type} : DataW H := .iface "*errors.errorString" (.ptr (.agg [.lit (.string [118, 97, 108, 117, 101, 32, 111, 117, 116, 32, 111, 102, 32, 114, 97, 110, 103, 101])]))
def laid_strconv_ErrSyntax {H : Type} : DataW H := .iface "*errors.errorString" (.ptr (.agg [.lit (.string [105, 110, 118, 97, 108, 105, 100, 32, 115, 121, 110, 116, 97, 120])]))
def laid_ratoon_cpu_formats {H : Type} : DataW H := .agg [.agg [.lit (.string []), .lit (.bool false), .lit (.bool false), .lit (.bool false), .lit (.bool false), .lit (.bool false)], .agg [.lit (.string [115, 101, 116]), .lit (.bool true), .lit (.bool false), .lit (.bool false), .lit (.bool true), .lit (.bool false)], .agg [.lit (.string [104, 105, 103, 104]), .lit (.bool true), .lit (.bool false), .lit (.bool false), .lit (.bool true), .lit (.bool false)], .agg [.lit (.string [112, 108, 117, 115]), .lit (.bool true), .lit (.bool true), .lit (.bool true), .lit (.bool false), .lit (.bool true)], .agg [.lit (.string [97, 100, 100]), .lit (.bool true), .lit (.bool true), .lit (.bool true), .lit (.bool false), .lit (.bool false)], .agg [.lit (.string [115, 117, 98]), .lit (.bool true), .lit (.bool true), .lit (.bool true), .lit (.bool false), .lit (.bool false)], .agg [.lit (.string [109, 117, 108]), .lit (.bool true), .lit (.bool true), .lit (.bool true), .lit (.bool false), .lit (.bool false)], .agg [.lit (.string [100, 105, 118]), .lit (.bool true), .lit (.bool true), .lit (.bool true), .lit (.bool false), .lit (.bool false)], .agg [.lit (.string [114, 101, 109]), .lit (.bool true), .lit (.bool true), .lit (.bool true), .lit (.bool false), .lit (.bool false)], .agg [.lit (.string [97, 110, 100]), .lit (.bool true), .lit (.bool true), .lit (.bool true), .lit (.bool false), .lit (.bool false)], .agg [.lit (.string [111, 114]), .lit (.bool true), .lit (.bool true), .lit (.bool true), .lit (.bool false), .lit (.bool false)], .agg [.lit (.string [120, 111, 114]), .lit (.bool true), .lit (.bool true), .lit (.bool true), .lit (.bool false), .lit (.bool false)], .agg [.lit (.string [108, 101, 115, 115]), .lit (.bool true), .lit (.bool true), .lit (.bool true), .lit (.bool false), .lit (.bool false)], .agg [.lit (.string [115, 97, 109, 101]), .lit (.bool true), .lit (.bool true), .lit (.bool true), .lit (.bool false), .lit (.bool false)], .agg [.lit (.string [108, 111, 97, 100]), .lit (.bool true), .lit (.bool true), .lit (.bool true), .lit (.bool false), .lit (.bool true)], .agg [.lit (.string [115, 116, 111, 114, 101]), .lit (.bool true), .lit (.bool true), .lit (.bool true), .lit (.bool false), .lit (.bool true)], .agg [.lit (.string [108, 111, 97, 100, 98, 121, 116, 101]), .lit (.bool true), .lit (.bool true), .lit (.bool true), .lit (.bool false), .lit (.bool true)], .agg [.lit (.string [115, 116, 111, 114, 101, 98, 121, 116, 101]), .lit (.bool true), .lit (.bool true), .lit (.bool true), .lit (.bool false), .lit (.bool true)], .agg [.lit (.string [106, 117, 109, 112]), .lit (.bool false), .lit (.bool false), .lit (.bool false), .lit (.bool true), .lit (.bool false)], .agg [.lit (.string [122, 101, 114, 111]), .lit (.bool true), .lit (.bool false), .lit (.bool false), .lit (.bool true), .lit (.bool false)], .agg [.lit (.string [99, 97, 108, 108]), .lit (.bool true), .lit (.bool false), .lit (.bool false), .lit (.bool true), .lit (.bool false)], .agg [.lit (.string [98, 97, 99, 107]), .lit (.bool true), .lit (.bool false), .lit (.bool false), .lit (.bool false), .lit (.bool false)], .agg [.lit (.string [115, 121, 115, 116, 101, 109]), .lit (.bool false), .lit (.bool false), .lit (.bool false), .lit (.bool false), .lit (.bool false)]]
def laid_ratoon_types_builtins {H : Type} : DataW H := .agg [.agg [.lit (.string [101, 120, 105, 116]), .lit (.int .i64 0), .lit (.string [105])], .agg [.lit (.string [107, 105, 108, 108]), .lit (.int .i64 4), .lit (.string [105])], .agg [.lit (.string [103, 114, 111, 119]), .lit (.int .i64 6), .lit (.string [105])], .agg [.lit (.string [99, 108, 111, 115, 101]), .lit (.int .i64 8), .lit (.string [105])], .agg [.lit (.string [115, 101, 114, 118, 101]), .lit (.int .i64 16), .lit (.string [105])], .agg [.lit (.string [100, 105, 97, 108]), .lit (.int .i64 17), .lit (.string [105])], .agg [.lit (.string [115, 108, 101, 101, 112]), .lit (.int .i64 19), .lit (.string [105])], .agg [.lit (.string [102, 111, 114, 107]), .lit (.int .i64 1), .lit (.string [])], .agg [.lit (.string [119, 97, 105, 116]), .lit (.int .i64 3), .lit (.string [])], .agg [.lit (.string [115, 101, 108, 102]), .lit (.int .i64 5), .lit (.string [])], .agg [.lit (.string [112, 105, 112, 101]), .lit (.int .i64 11), .lit (.string [])], .agg [.lit (.string [116, 105, 109, 101]), .lit (.int .i64 18), .lit (.string [])], .agg [.lit (.string [100, 117, 112]), .lit (.int .i64 12), .lit (.string [105, 105])], .agg [.lit (.string [101, 120, 101, 99]), .lit (.int .i64 2), .lit (.string [115])], .agg [.lit (.string [117, 110, 108, 105, 110, 107]), .lit (.int .i64 13), .lit (.string [115])], .agg [.lit (.string [109, 107, 100, 105, 114]), .lit (.int .i64 14), .lit (.string [115])], .agg [.lit (.string [111, 112, 101, 110]), .lit (.int .i64 7), .lit (.string [115, 105])], .agg [.lit (.string [114, 101, 97, 100]), .lit (.int .i64 9), .lit (.string [105, 97, 105])], .agg [.lit (.string [119, 114, 105, 116, 101]), .lit (.int .i64 10), .lit (.string [105, 98, 105])]]

/-- 'ratoonlaw50.CodeErrors': WHATEVER THE INPUT: true; the input reads as it did. -/
def codeErrorsSpec : ChangeSpec := { name := "codeErrors", fn := fun _ => fun
  | [d] => { results := [.lit (.bool true)], args := [d] }
  | _ => none }
def codeErrorsRow : OpenClaim := { program := "ytoedmpgicdekmaagreatdoor", sum := "5104cc2a0aa9af8d36fd095fbc9ad102009402a0152438822d2622f0e2c84b9d", func := "ratoon/ratoonlaw50.CodeErrors", spec := "codeErrors", inPlace := ["internal/bytealg.IndexByteString", "internal/abi.NoEscape", "internal/bytealg.MakeNoZero"], unfollowed := true, recurses := true, named := ["strconv.ErrSyntax", "strconv.ErrRange", "internal/strconv.uint64pow10", "math/bits.deBruijn32tab", "math/bits.deBruijn64tab", "ratoon/types.builtins", "ratoon/cpu.formats"], loops := true, apart := false, laid := [("math/bits.deBruijn32tab", laid_math_bits_deBruijn32tab), ("math/bits.deBruijn64tab", laid_math_bits_deBruijn64tab), ("internal/strconv.uint64pow10", laid_internal_strconv_uint64pow10), ("strconv.ErrRange", laid_strconv_ErrRange), ("strconv.ErrSyntax", laid_strconv_ErrSyntax), ("ratoon/cpu.formats", laid_ratoon_cpu_formats), ("ratoon/types.builtins", laid_ratoon_types_builtins)] }
def CodeErrorsSaid : Prop := codeErrorsRow.holds Tryz.pinned (OpenSpec.ofChange codeErrorsSpec)

/-- ITS FALSE NEIGHBOUR: 'it returns false'. Refute it at one input. -/
def codeErrorsWrong : ChangeSpec := { name := "codeErrors", fn := fun _ => fun
  | [d] => { results := [.lit (.bool false)], args := [d] }
  | _ => none }
def CodeErrorsWrongFalsely : Prop := codeErrorsRow.holds Tryz.pinned (OpenSpec.ofChange codeErrorsWrong)

/-- 'ratoonlaw50.CodePrefix': WHATEVER THE INPUT: true; the input reads as it did. -/
def codePrefixSpec : ChangeSpec := { name := "codePrefix", fn := fun _ => fun
  | [d1, d2, d3] => { results := [.lit (.bool true)], args := [d1, d2, d3] }
  | _ => none }
def codePrefixRow : OpenClaim := { program := "ytoedmpgicdekmaagreatdoor", sum := "5104cc2a0aa9af8d36fd095fbc9ad102009402a0152438822d2622f0e2c84b9d", func := "ratoon/ratoonlaw50.CodePrefix", spec := "codePrefix", inPlace := ["internal/bytealg.IndexByteString", "internal/abi.NoEscape", "internal/bytealg.MakeNoZero"], unfollowed := true, recurses := true, named := ["strconv.ErrSyntax", "strconv.ErrRange", "internal/strconv.uint64pow10", "math/bits.deBruijn32tab", "math/bits.deBruijn64tab", "ratoon/types.builtins", "ratoon/cpu.formats"], apart := false, laid := [("math/bits.deBruijn32tab", laid_math_bits_deBruijn32tab), ("math/bits.deBruijn64tab", laid_math_bits_deBruijn64tab), ("internal/strconv.uint64pow10", laid_internal_strconv_uint64pow10), ("strconv.ErrRange", laid_strconv_ErrRange), ("strconv.ErrSyntax", laid_strconv_ErrSyntax), ("ratoon/cpu.formats", laid_ratoon_cpu_formats), ("ratoon/types.builtins", laid_ratoon_types_builtins)] }
def CodePrefixSaid : Prop := codePrefixRow.holds Tryz.pinned (OpenSpec.ofChange codePrefixSpec)

/-- ITS FALSE NEIGHBOUR: 'it returns false'. Refute it at one input. -/
def codePrefixWrong : ChangeSpec := { name := "codePrefix", fn := fun _ => fun
  | [d1, d2, d3] => { results := [.lit (.bool false)], args := [d1, d2, d3] }
  | _ => none }
def CodePrefixWrongFalsely : Prop := codePrefixRow.holds Tryz.pinned (OpenSpec.ofChange codePrefixWrong)

/-- 'ratoonlaw50.CodeLoops': WHATEVER THE INPUT: true; the input reads as it did. -/
def codeLoopsSpec : ChangeSpec := { name := "codeLoops", fn := fun _ => fun
  | [d] => { results := [.lit (.bool true)], args := [d] }
  | _ => none }
def codeLoopsRow : OpenClaim := { program := "ytoedmpgicdekmaagreatdoor", sum := "5104cc2a0aa9af8d36fd095fbc9ad102009402a0152438822d2622f0e2c84b9d", func := "ratoon/ratoonlaw50.CodeLoops", spec := "codeLoops", inPlace := ["internal/bytealg.IndexByteString", "internal/abi.NoEscape", "internal/bytealg.MakeNoZero"], unfollowed := true, recurses := true, named := ["strconv.ErrSyntax", "strconv.ErrRange", "internal/strconv.uint64pow10", "math/bits.deBruijn32tab", "math/bits.deBruijn64tab", "ratoon/types.builtins", "ratoon/cpu.formats"], apart := false, laid := [("math/bits.deBruijn32tab", laid_math_bits_deBruijn32tab), ("math/bits.deBruijn64tab", laid_math_bits_deBruijn64tab), ("internal/strconv.uint64pow10", laid_internal_strconv_uint64pow10), ("strconv.ErrRange", laid_strconv_ErrRange), ("strconv.ErrSyntax", laid_strconv_ErrSyntax), ("ratoon/cpu.formats", laid_ratoon_cpu_formats), ("ratoon/types.builtins", laid_ratoon_types_builtins)] }
def CodeLoopsSaid : Prop := codeLoopsRow.holds Tryz.pinned (OpenSpec.ofChange codeLoopsSpec)

/-- ITS FALSE NEIGHBOUR: 'it returns false'. Refute it at one input. -/
def codeLoopsWrong : ChangeSpec := { name := "codeLoops", fn := fun _ => fun
  | [d] => { results := [.lit (.bool false)], args := [d] }
  | _ => none }
def CodeLoopsWrongFalsely : Prop := codeLoopsRow.holds Tryz.pinned (OpenSpec.ofChange codeLoopsWrong)

/-- 'ratoonlaw50.CodeSource': WHATEVER THE INPUT: true; the input reads as it did. -/
def codeSourceSpec : ChangeSpec := { name := "codeSource", fn := fun _ => fun
  | [d] => { results := [.lit (.bool true)], args := [d] }
  | _ => none }
def codeSourceRow : OpenClaim := { program := "ytoedmpgicdekmaagreatdoor", sum := "5104cc2a0aa9af8d36fd095fbc9ad102009402a0152438822d2622f0e2c84b9d", func := "ratoon/ratoonlaw50.CodeSource", spec := "codeSource", inPlace := ["internal/bytealg.IndexByteString", "internal/abi.NoEscape", "internal/bytealg.MakeNoZero"], unfollowed := true, recurses := true, named := ["strconv.ErrSyntax", "strconv.ErrRange", "internal/strconv.uint64pow10", "math/bits.deBruijn32tab", "math/bits.deBruijn64tab", "ratoon/types.builtins", "ratoon/cpu.formats"], apart := false, laid := [("math/bits.deBruijn32tab", laid_math_bits_deBruijn32tab), ("math/bits.deBruijn64tab", laid_math_bits_deBruijn64tab), ("internal/strconv.uint64pow10", laid_internal_strconv_uint64pow10), ("strconv.ErrRange", laid_strconv_ErrRange), ("strconv.ErrSyntax", laid_strconv_ErrSyntax), ("ratoon/cpu.formats", laid_ratoon_cpu_formats), ("ratoon/types.builtins", laid_ratoon_types_builtins)] }
def CodeSourceSaid : Prop := codeSourceRow.holds Tryz.pinned (OpenSpec.ofChange codeSourceSpec)

/-- ITS FALSE NEIGHBOUR: 'it returns false'. Refute it at one input. -/
def codeSourceWrong : ChangeSpec := { name := "codeSource", fn := fun _ => fun
  | [d] => { results := [.lit (.bool false)], args := [d] }
  | _ => none }
def CodeSourceWrongFalsely : Prop := codeSourceRow.holds Tryz.pinned (OpenSpec.ofChange codeSourceWrong)

/-- 'ratoonlaw50.CodeMeans': WHATEVER THE INPUT: true; the input reads as it did. -/
def codeMeansSpec : ChangeSpec := { name := "codeMeans", fn := fun _ => fun
  | [d1, d2, d3] => { results := [.lit (.bool true)], args := [d1, d2, d3] }
  | _ => none }
def codeMeansRow : OpenClaim := { program := "ytoedmpgicdekmaagreatdoor", sum := "5104cc2a0aa9af8d36fd095fbc9ad102009402a0152438822d2622f0e2c84b9d", func := "ratoon/ratoonlaw50.CodeMeans", spec := "codeMeans", inPlace := ["internal/bytealg.IndexByteString", "internal/abi.NoEscape", "internal/bytealg.MakeNoZero"], unfollowed := true, recurses := true, named := ["strconv.ErrSyntax", "strconv.ErrRange", "internal/strconv.uint64pow10", "math/bits.deBruijn32tab", "math/bits.deBruijn64tab", "ratoon/types.builtins", "ratoon/cpu.formats"], loops := true, apart := false, laid := [("math/bits.deBruijn32tab", laid_math_bits_deBruijn32tab), ("math/bits.deBruijn64tab", laid_math_bits_deBruijn64tab), ("internal/strconv.uint64pow10", laid_internal_strconv_uint64pow10), ("strconv.ErrRange", laid_strconv_ErrRange), ("strconv.ErrSyntax", laid_strconv_ErrSyntax), ("ratoon/cpu.formats", laid_ratoon_cpu_formats), ("ratoon/types.builtins", laid_ratoon_types_builtins)] }
def CodeMeansSaid : Prop := codeMeansRow.holds Tryz.pinned (OpenSpec.ofChange codeMeansSpec)

/-- ITS FALSE NEIGHBOUR: 'it returns false'. Refute it at one input. -/
def codeMeansWrong : ChangeSpec := { name := "codeMeans", fn := fun _ => fun
  | [d1, d2, d3] => { results := [.lit (.bool false)], args := [d1, d2, d3] }
  | _ => none }
def CodeMeansWrongFalsely : Prop := codeMeansRow.holds Tryz.pinned (OpenSpec.ofChange codeMeansWrong)

/- THE SECOND FORM. 'bulk': how many values and letters a reading holds, each counted each time it is reached (what is shared counts as often as it is met; a slice's spare places count too). A statement '..UptoSaid' is the law's where the arguments, and the package variables that the reading takes, are together of bulk at most 1048576: NARROWER than '..Said'. Prove '..Said' where nothing that the law and all that it calls make is longer than what came in: it says more and counts as full. Else prove '..UptoSaid'. A law counts once. -/
mutual
def uptoBulk {H : Type} : DataW H → Nat
  | .lit (.string bytes) => bytes.length + 1
  | .lit _ => 1
  | .nil => 1
  | .ptr d => uptoBulk d + 1
  | .slice elems spare => uptoBulkAll elems + uptoBulkAll spare + 1
  | .agg parts => uptoBulkAll parts + 1
  | .iface _ d => uptoBulk d + 1
  | .map entries => uptoBulkEntries entries + 1
  | .held _ => 1
def uptoBulkAll {H : Type} : List (DataW H) → Nat
  | [] => 0
  | d :: r => uptoBulk d + uptoBulkAll r
def uptoBulkEntries {H : Type} : List (Lit × DataW H) → Nat
  | [] => 0
  | x :: r => uptoBulkEntry x + uptoBulkEntries r
def uptoBulkEntry {H : Type} : Lit × DataW H → Nat
  | (.string bytes, d) => bytes.length + uptoBulk d + 1
  | (_, d) => uptoBulk d + 1
 end
def uptoSmall : (H : Type) → List (DataW H) → Bool := fun _ ds => decide (uptoBulkAll ds ≤ 1048576)
def OpenSpec.upto (s : _root_.Go.ChangeSpec) : _root_.Go.OpenSpec := { _root_.Go.OpenSpec.ofChange s with cond := some uptoSmall }

/-- 'ratoonlaw50.CodeErrors', WHERE WHAT IT READS IS OF BULK AT MOST 1048576: true; the input reads as it did. -/
def codeErrorsUptoRow : OpenClaim := { program := "ytoedmpgicdekmaagreatdoor", sum := "5104cc2a0aa9af8d36fd095fbc9ad102009402a0152438822d2622f0e2c84b9d", func := "ratoon/ratoonlaw50.CodeErrors", spec := "codeErrors", inPlace := ["internal/bytealg.IndexByteString", "internal/abi.NoEscape", "internal/bytealg.MakeNoZero"], unfollowed := true, recurses := true, named := ["strconv.ErrSyntax", "strconv.ErrRange", "internal/strconv.uint64pow10", "math/bits.deBruijn32tab", "math/bits.deBruijn64tab", "ratoon/types.builtins", "ratoon/cpu.formats"], loops := true, apart := false, laid := [("math/bits.deBruijn32tab", laid_math_bits_deBruijn32tab), ("math/bits.deBruijn64tab", laid_math_bits_deBruijn64tab), ("internal/strconv.uint64pow10", laid_internal_strconv_uint64pow10), ("strconv.ErrRange", laid_strconv_ErrRange), ("strconv.ErrSyntax", laid_strconv_ErrSyntax), ("ratoon/cpu.formats", laid_ratoon_cpu_formats), ("ratoon/types.builtins", laid_ratoon_types_builtins)], narrowed := true }
def CodeErrorsUptoSaid : Prop := codeErrorsUptoRow.holds Tryz.pinned (OpenSpec.upto codeErrorsSpec)

/-- 'ratoonlaw50.CodePrefix', WHERE WHAT IT READS IS OF BULK AT MOST 1048576: true; the input reads as it did. -/
def codePrefixUptoRow : OpenClaim := { program := "ytoedmpgicdekmaagreatdoor", sum := "5104cc2a0aa9af8d36fd095fbc9ad102009402a0152438822d2622f0e2c84b9d", func := "ratoon/ratoonlaw50.CodePrefix", spec := "codePrefix", inPlace := ["internal/bytealg.IndexByteString", "internal/abi.NoEscape", "internal/bytealg.MakeNoZero"], unfollowed := true, recurses := true, named := ["strconv.ErrSyntax", "strconv.ErrRange", "internal/strconv.uint64pow10", "math/bits.deBruijn32tab", "math/bits.deBruijn64tab", "ratoon/types.builtins", "ratoon/cpu.formats"], apart := false, laid := [("math/bits.deBruijn32tab", laid_math_bits_deBruijn32tab), ("math/bits.deBruijn64tab", laid_math_bits_deBruijn64tab), ("internal/strconv.uint64pow10", laid_internal_strconv_uint64pow10), ("strconv.ErrRange", laid_strconv_ErrRange), ("strconv.ErrSyntax", laid_strconv_ErrSyntax), ("ratoon/cpu.formats", laid_ratoon_cpu_formats), ("ratoon/types.builtins", laid_ratoon_types_builtins)], narrowed := true }
def CodePrefixUptoSaid : Prop := codePrefixUptoRow.holds Tryz.pinned (OpenSpec.upto codePrefixSpec)

/-- 'ratoonlaw50.CodeLoops', WHERE WHAT IT READS IS OF BULK AT MOST 1048576: true; the input reads as it did. -/
def codeLoopsUptoRow : OpenClaim := { program := "ytoedmpgicdekmaagreatdoor", sum := "5104cc2a0aa9af8d36fd095fbc9ad102009402a0152438822d2622f0e2c84b9d", func := "ratoon/ratoonlaw50.CodeLoops", spec := "codeLoops", inPlace := ["internal/bytealg.IndexByteString", "internal/abi.NoEscape", "internal/bytealg.MakeNoZero"], unfollowed := true, recurses := true, named := ["strconv.ErrSyntax", "strconv.ErrRange", "internal/strconv.uint64pow10", "math/bits.deBruijn32tab", "math/bits.deBruijn64tab", "ratoon/types.builtins", "ratoon/cpu.formats"], apart := false, laid := [("math/bits.deBruijn32tab", laid_math_bits_deBruijn32tab), ("math/bits.deBruijn64tab", laid_math_bits_deBruijn64tab), ("internal/strconv.uint64pow10", laid_internal_strconv_uint64pow10), ("strconv.ErrRange", laid_strconv_ErrRange), ("strconv.ErrSyntax", laid_strconv_ErrSyntax), ("ratoon/cpu.formats", laid_ratoon_cpu_formats), ("ratoon/types.builtins", laid_ratoon_types_builtins)], narrowed := true }
def CodeLoopsUptoSaid : Prop := codeLoopsUptoRow.holds Tryz.pinned (OpenSpec.upto codeLoopsSpec)

/-- 'ratoonlaw50.CodeSource', WHERE WHAT IT READS IS OF BULK AT MOST 1048576: true; the input reads as it did. -/
def codeSourceUptoRow : OpenClaim := { program := "ytoedmpgicdekmaagreatdoor", sum := "5104cc2a0aa9af8d36fd095fbc9ad102009402a0152438822d2622f0e2c84b9d", func := "ratoon/ratoonlaw50.CodeSource", spec := "codeSource", inPlace := ["internal/bytealg.IndexByteString", "internal/abi.NoEscape", "internal/bytealg.MakeNoZero"], unfollowed := true, recurses := true, named := ["strconv.ErrSyntax", "strconv.ErrRange", "internal/strconv.uint64pow10", "math/bits.deBruijn32tab", "math/bits.deBruijn64tab", "ratoon/types.builtins", "ratoon/cpu.formats"], apart := false, laid := [("math/bits.deBruijn32tab", laid_math_bits_deBruijn32tab), ("math/bits.deBruijn64tab", laid_math_bits_deBruijn64tab), ("internal/strconv.uint64pow10", laid_internal_strconv_uint64pow10), ("strconv.ErrRange", laid_strconv_ErrRange), ("strconv.ErrSyntax", laid_strconv_ErrSyntax), ("ratoon/cpu.formats", laid_ratoon_cpu_formats), ("ratoon/types.builtins", laid_ratoon_types_builtins)], narrowed := true }
def CodeSourceUptoSaid : Prop := codeSourceUptoRow.holds Tryz.pinned (OpenSpec.upto codeSourceSpec)

/-- 'ratoonlaw50.CodeMeans', WHERE WHAT IT READS IS OF BULK AT MOST 1048576: true; the input reads as it did. -/
def codeMeansUptoRow : OpenClaim := { program := "ytoedmpgicdekmaagreatdoor", sum := "5104cc2a0aa9af8d36fd095fbc9ad102009402a0152438822d2622f0e2c84b9d", func := "ratoon/ratoonlaw50.CodeMeans", spec := "codeMeans", inPlace := ["internal/bytealg.IndexByteString", "internal/abi.NoEscape", "internal/bytealg.MakeNoZero"], unfollowed := true, recurses := true, named := ["strconv.ErrSyntax", "strconv.ErrRange", "internal/strconv.uint64pow10", "math/bits.deBruijn32tab", "math/bits.deBruijn64tab", "ratoon/types.builtins", "ratoon/cpu.formats"], loops := true, apart := false, laid := [("math/bits.deBruijn32tab", laid_math_bits_deBruijn32tab), ("math/bits.deBruijn64tab", laid_math_bits_deBruijn64tab), ("internal/strconv.uint64pow10", laid_internal_strconv_uint64pow10), ("strconv.ErrRange", laid_strconv_ErrRange), ("strconv.ErrSyntax", laid_strconv_ErrSyntax), ("ratoon/cpu.formats", laid_ratoon_cpu_formats), ("ratoon/types.builtins", laid_ratoon_types_builtins)], narrowed := true }
def CodeMeansUptoSaid : Prop := codeMeansUptoRow.holds Tryz.pinned (OpenSpec.upto codeMeansSpec)

end Rows
end Go.Proofs.YtoedmpgicdekmaaGreatDoor
