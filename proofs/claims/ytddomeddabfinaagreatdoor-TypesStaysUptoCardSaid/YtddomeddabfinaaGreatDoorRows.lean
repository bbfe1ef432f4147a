/-
  NARROWER THAN 'FOR EVERY INPUT', by the rows' own cells (each row's printed sentence says how): TypesCheck: loops, laid · TypesRun: loops, laid · TypesNeed: loops, laid · TypesPrefix: loops, laid · TypesLogic: laid · TypesArray: laid · TypesStays: loops, laid · TypesArithmetic: laid.
  DERIVED. THE GIVEN ROWS OF THIS SEAT. 8 by the template 'for every input the law returns true; each argument reads behind the call as it read before'; 0 by the template 'total and deterministic' (their statements: YtddomeddabfinaaGreatDoorTotals.lean).
  GIVEN WITH THE SEED: the statements are not yours to turn. If you find one false, say at which input.
  Laid BY PROGRAM, IN A SANDBOX (cutbox-rows.mjs): the forced cells as the released guide's own fill.sh prints them over the translation 8d52c508eb4be5c7… (all of the seat's roots in one cut). By AI agents, Wed Nov 11 2026. No macro, syntax, notation, axiom, sorry.
-/
import Derived.Test.YtddomeddabfinaaGreatDoorChecked
import GoSem.Claim
import GoSem.ClaimJoined
import GoSem.ClaimMapViews
import Derived.JoinedTies
import Derived.KernelRfl
namespace Go.Proofs.YtddomeddabfinaaGreatDoor
/- THE CELL 'sum', in the pinned program and in every row, IS THE sha256 OF THE DUMP (.gsa) THAT YtddomeddabfinaaGreatDoorProg.lean LOADS. Nothing in Lean hashes anything: it is a label: what it is worth is what the hold of that sum in a sandbox is worth. -/
noncomputable def Tryz.pinned : Pinned := { name := "ytddomeddabfinaagreatdoor", sum := "8d52c508eb4be5c7d9c279ed45cb9d81dd172793ee756dea05b2f1e980267517", checked := Tryz.checked }
namespace Rows
def none {H : Type} : Left H := { results := [], args := [] }

/- WHAT THE LISTED PACKAGE-LEVEL VARIABLES READ AS WHEN THE CALL BEGINS. Each datum BY PROGRAM (the guide's laid-datum.mjs) off the statement by which the dump's own 'gosem.cut.vars' lays the variable. In a bare row this is a premise. The card (YtddomeddabfinaaGreatDoorCards.lean) ties it to the program's text. -/
def laid_math_bits_deBruijn32tab {H : Type} : DataW H := .agg [.lit (.int .u8 0), .lit (.int .u8 1), .lit (.int .u8 28), .lit (.int .u8 2), .lit (.int .u8 29), .lit (.int .u8 14), .lit (.int .u8 24), .lit (.int .u8 3), .lit (.int .u8 30), .lit (.int .u8 22), .lit (.int .u8 20), .lit (.int .u8 15), .lit (.int .u8 25), .lit (.int .u8 17), .lit (.int .u8 4), .lit (.int .u8 8), .lit (.int .u8 31), .lit (.int .u8 27), .lit (.int .u8 13), .lit (.int .u8 23), .lit (.int .u8 21), .lit (.int .u8 19), .lit (.int .u8 16), .lit (.int .u8 7), .lit (.int .u8 26), .lit (.int .u8 12), .lit (.int .u8 18), .lit (.int .u8 6), .lit (.int .u8 11), .lit (.int .u8 5), .lit (.int .u8 10), .lit (.int .u8 9)]
def laid_math_bits_deBruijn64tab {H : Type} : DataW H := .agg [.lit (.int .u8 0), .lit (.int .u8 1), .lit (.int .u8 56), .lit (.int .u8 2), .lit (.int .u8 57), .lit (.int .u8 49), .lit (.int .u8 28), .lit (.int .u8 3), .lit (.int .u8 61), .lit (.int .u8 58), .lit (.int .u8 42), .lit (.int .u8 50), .lit (.int .u8 38), .lit (.int .u8 29), .lit (.int .u8 17), .lit (.int .u8 4), .lit (.int .u8 62), .lit (.int .u8 47), .lit (.int .u8 59), .lit (.int .u8 36), .lit (.int .u8 45), .lit (.int .u8 43), .lit (.int .u8 51), .lit (.int .u8 22), .lit (.int .u8 53), .lit (.int .u8 39), .lit (.int .u8 33), .lit (.int .u8 30), .lit (.int .u8 24), .lit (.int .u8 18), .lit (.int .u8 12), .lit (.int .u8 5), .lit (.int .u8 63), .lit (.int .u8 55), .lit (.int .u8 48), .lit (.int .u8 27), .lit (.int .u8 60), .lit (.int .u8 41), .lit (.int .u8 37), .lit (.int .u8 16), .lit (.int .u8 46), .lit (.int .u8 35), .lit (.int .u8 44), .lit (.int .u8 21), .lit (.int .u8 52), .lit (.int .u8 32), .lit (.int .u8 23), .lit (.int .u8 11), .lit (.int .u8 54), .lit (.int .u8 26), .lit (.int .u8 40), .lit (.int .u8 15), .lit (.int .u8 34), .lit (.int .u8 20), .lit (.int .u8 31), .lit (.int .u8 10), .lit (.int .u8 25), .lit (.int .u8 14), .lit (.int .u8 19), .lit (.int .u8 9), .lit (.int .u8 13), .lit (.int .u8 8), .lit (.int .u8 7), .lit (.int .u8 6)]
def laid_internal_strconv_uint64pow10 {H : Type} : DataW H := .agg [.lit (.int .u64 1), .lit (.int .u64 10), .lit (.int .u64 100), .lit (.int .u64 1000), .lit (.int .u64 10000), .lit (.int .u64 100000), .lit (.int .u64 1000000), .lit (.int .u64 10000000), .lit (.int .u64 100000000), .lit (.int .u64 1000000000), .lit (.int .u64 10000000000), .lit (.int .u64 100000000000), .lit (.int .u64 1000000000000), .lit (.int .u64 10000000000000), .lit (.int .u64 100000000000000), .lit (.int .u64 1000000000000000), .lit (.int .u64 10000000000000000), .lit (.int .u64 100000000000000000), .lit (.int .u64 1000000000000000000), .lit (.int .u64 10000000000000000000)]
def laid_strconv_ErrRange {H : Type} : DataW H := .iface "*errors.errorString" (.ptr (.agg [.lit (.string [118, 97, 108, 117, 101, 32, 111, 117, 116, 32, 111, 102, 32, 114, 97, 110, 103, 101])]))
def laid_strconv_ErrSyntax {H : Type} : DataW H := .iface "*errors.errorString" (.ptr (.agg [.lit (.string [105, 110, 118, 97, 108, 105, 100, 32, 115, 121, 110, 116, 97, 120])]))
def laid_ratoon_types_builtins {H : Type} : DataW H := .agg [.agg [.lit (.string [101, 120, 105, 116]), .lit (.int .i64 0), .lit (.string [105])], .agg [.lit (.string [107, 105, 108, 108]), .lit (.int .i64 4), .lit (.string [105])], .agg [.lit (.string [103, 114, 111, 119]), .lit (.int .i64 6), .lit (.string [105])], .agg [.lit (.string [99, 108, 111, 115, 101]), .lit (.int .i64 8), .lit (.string [105])], .agg [.lit (.string [115, 101, 114, 118, 101]), .lit (.int .i64 16), .lit (.string [105])], .agg [.lit (.string [100, 105, 97, 108]), .lit (.int .i64 17), .lit (.string [105])], .agg [.lit (.string [115, 108, 101, 101, 112]), .lit (.int .i64 19), .lit (.string [105])], .agg [.lit (.string [102, 111, 114, 107]), .lit (.int .i64 1), .lit (.string [])], .agg [.lit (.string [119, 97, 105, 116]), .lit (.int .i64 3), .lit (.string [])], .agg [.lit (.string [115, 101, 108, 102]), .lit (.int .i64 5), .lit (.string [])], .agg [.lit (.string [112, 105, 112, 101]), .lit (.int .i64 11), .lit (.string [])], .agg [.lit (.string [116, 105, 109, 101]), .lit (.int .i64 18), .lit (.string [])], .agg [.lit (.string [100, 117, 112]), .lit (.int .i64 12), .lit (.string [105, 105])], .agg [.lit (.string [101, 120, 101, 99]), .lit (.int .i64 2), .lit (.string [115])], .agg [.lit (.string [117, 110, 108, 105, 110, 107]), .lit (.int .i64 13), .lit (.string [115])], .agg [.lit (.string [109, 107, 100, 105, 114]), .lit (.int .i64 14), .lit (.string [115])], .agg [.lit (.string [111, 112, 101, 110]), .lit (.int .i64 7), .lit (.string [115, 105])], .agg [.lit (.string [114, 101, 97, 100]), .lit (.int .i64 9), .lit (.string [105, 97, 105])], .agg [.lit (.string [119, 114, 105, 116, 101]), .lit (.int .i64 10), .lit (.string [105, 98, 105])]]
def laid_ratoon_cpu_formats {H : Type} : DataW H := .agg [.agg [.lit (.string []), .lit (.bool false), .lit (.bool false), .lit (.bool false), .lit (.bool false), .lit (.bool false)], .agg [.lit (.string [115, 101, 116]), .lit (.bool true), .lit (.bool false), .lit (.bool false), .lit (.bool true), .lit (.bool false)], .agg [.lit (.string [104, 105, 103, 104]), .lit (.bool true), .lit (.bool false), .lit (.bool false), .lit (.bool true), .lit (.bool false)], .agg [.lit (.string [112, 108, 117, 115]), .lit (.bool true), .lit (.bool true), .lit (.bool true), .lit (.bool false), .lit (.bool true)], .agg [.lit (.string [97, 100, 100]), .lit (.bool true), .lit (.bool true), .lit (.bool true), .lit (.bool false), .lit (.bool false)], .agg [.lit (.string [115, 117, 98]), .lit (.bool true), .lit (.bool true), .lit (.bool true), .lit (.bool false), .lit (.bool false)], .agg [.lit (.string [109, 117, 108]), .lit (.bool true), .lit (.bool true), .lit (.bool true), .lit (.bool false), .lit (.bool false)], .agg [.lit (.string [100, 105, 118]), .lit (.bool true), .lit (.bool true), .lit (.bool true), .lit (.bool false), .lit (.bool false)], .agg [.lit (.string [114, 101, 109]), .lit (.bool true), .lit (.bool true), .lit (.bool true), .lit (.bool false), .lit (.bool false)], .agg [.lit (.string [97, 110, 100]), .lit (.bool true), .lit (.bool true), .lit (.bool true), .lit (.bool false), .lit (.bool false)], .agg [.lit (.string [111, 114]), .lit (.bool true), .lit (.bool true), .lit (.bool true), .lit (.bool false), .lit (.bool false)], .agg [.lit (.string [120, 111, 114]), .lit (.bool true), .lit (.bool true), .lit (.bool true), .lit (.bool false), .lit (.bool false)], .agg [.lit (.string [108, 101, 115, 115]), .lit (.bool true), .lit (.bool true), .lit (.bool true), .lit (.bool false), .lit (.bool false)], .agg [.lit (.string [115, 97, 109, 101]), .lit (.bool true), .lit (.bool true), .lit (.bool true), .lit (.bool false), .lit (.bool false)], .agg [.lit (.string [108, 111, 97, 100]), .lit (.bool true), .lit (.bool true), .lit (.bool true), .lit (.bool false), .lit (.bool true)], .agg [.lit (.string [115, 116, 111, 114, 101]), .lit (.bool true), .lit (.bool true), .lit (.bool true), .lit (.bool false), .lit (.bool true)], .agg [.lit (.string [108, 111, 97, 100, 98, 121, 116, 101]), .lit (.bool true), .lit (.bool true), .lit (.bool true), .lit (.bool false), .lit (.bool true)], .agg [.lit (.string [115, 116, 111, 114, 101, 98, 121, 116, 101]), .lit (.bool true), .lit (.bool true), .lit (.bool true), .lit (.bool false), .lit (.bool true)], .agg [.lit (.string [106, 117, 109, 112]), .lit (.bool false), .lit (.bool false), .lit (.bool false), .lit (.bool true), .lit (.bool false)], .agg [.lit (.string [122, 101, 114, 111]), .lit (.bool true), .lit (.bool false), .lit (.bool false), .lit (.bool true), .lit (.bool false)], .agg [.lit (.string [99, 97, 108, 108]), .lit (.bool true), .lit (.bool false), .lit (.bool false), .lit (.bool true), .lit (.bool false)], .agg [.lit (.string [98, 97, 99, 107]), .lit (.bool true), .lit (.bool false), .lit (.bool false), .lit (.bool false), .lit (.bool false)], .agg [.lit (.string [115, 121, 115, 116, 101, 109]), .lit (.bool false), .lit (.bool false), .lit (.bool false), .lit (.bool false), .lit (.bool false)]]

/-- 'ratoonlaw49.TypesCheck': WHATEVER THE INPUT: true; the input reads as it did. -/
def typesCheckSpec : ChangeSpec := { name := "typesCheck", fn := fun _ => fun
  | [d] => { results := [.lit (.bool true)], args := [d] }
  | _ => none }
def typesCheckRow : OpenClaim := { program := "ytddomeddabfinaagreatdoor", sum := "8d52c508eb4be5c7d9c279ed45cb9d81dd172793ee756dea05b2f1e980267517", func := "ratoon/ratoonlaw49.TypesCheck", spec := "typesCheck", inPlace := ["internal/bytealg.IndexByteString", "internal/abi.NoEscape", "internal/bytealg.MakeNoZero"], unfollowed := true, recurses := true, named := ["strconv.ErrSyntax", "strconv.ErrRange", "internal/strconv.uint64pow10", "math/bits.deBruijn32tab", "math/bits.deBruijn64tab", "ratoon/types.builtins"], loops := true, apart := false, laid := [("math/bits.deBruijn32tab", laid_math_bits_deBruijn32tab), ("math/bits.deBruijn64tab", laid_math_bits_deBruijn64tab), ("internal/strconv.uint64pow10", laid_internal_strconv_uint64pow10), ("strconv.ErrRange", laid_strconv_ErrRange), ("strconv.ErrSyntax", laid_strconv_ErrSyntax), ("ratoon/types.builtins", laid_ratoon_types_builtins)] }
def TypesCheckSaid : Prop := typesCheckRow.holds Tryz.pinned (OpenSpec.ofChange typesCheckSpec)

/-- ITS FALSE NEIGHBOUR: 'it returns false'. Refute it at one input. -/
def typesCheckWrong : ChangeSpec := { name := "typesCheck", fn := fun _ => fun
  | [d] => { results := [.lit (.bool false)], args := [d] }
  | _ => none }
def TypesCheckWrongFalsely : Prop := typesCheckRow.holds Tryz.pinned (OpenSpec.ofChange typesCheckWrong)

/-- 'ratoonlaw49.TypesRun': WHATEVER THE INPUT: true; the input reads as it did. -/
def typesRunSpec : ChangeSpec := { name := "typesRun", fn := fun _ => fun
  | [d1, d2, d3] => { results := [.lit (.bool true)], args := [d1, d2, d3] }
  | _ => none }
def typesRunRow : OpenClaim := { program := "ytddomeddabfinaagreatdoor", sum := "8d52c508eb4be5c7d9c279ed45cb9d81dd172793ee756dea05b2f1e980267517", func := "ratoon/ratoonlaw49.TypesRun", spec := "typesRun", inPlace := ["internal/bytealg.IndexByteString", "internal/abi.NoEscape", "internal/bytealg.MakeNoZero"], unfollowed := true, recurses := true, named := ["strconv.ErrSyntax", "strconv.ErrRange", "internal/strconv.uint64pow10", "math/bits.deBruijn32tab", "math/bits.deBruijn64tab", "ratoon/types.builtins"], loops := true, apart := false, laid := [("math/bits.deBruijn32tab", laid_math_bits_deBruijn32tab), ("math/bits.deBruijn64tab", laid_math_bits_deBruijn64tab), ("internal/strconv.uint64pow10", laid_internal_strconv_uint64pow10), ("strconv.ErrRange", laid_strconv_ErrRange), ("strconv.ErrSyntax", laid_strconv_ErrSyntax), ("ratoon/types.builtins", laid_ratoon_types_builtins)] }
def TypesRunSaid : Prop := typesRunRow.holds Tryz.pinned (OpenSpec.ofChange typesRunSpec)

/-- ITS FALSE NEIGHBOUR: 'it returns false'. Refute it at one input. -/
def typesRunWrong : ChangeSpec := { name := "typesRun", fn := fun _ => fun
  | [d1, d2, d3] => { results := [.lit (.bool false)], args := [d1, d2, d3] }
  | _ => none }
def TypesRunWrongFalsely : Prop := typesRunRow.holds Tryz.pinned (OpenSpec.ofChange typesRunWrong)

/-- 'ratoonlaw49.TypesNeed': WHATEVER THE INPUT: true; the input reads as it did. -/
def typesNeedSpec : ChangeSpec := { name := "typesNeed", fn := fun _ => fun
  | [d1, d2] => { results := [.lit (.bool true)], args := [d1, d2] }
  | _ => none }
def typesNeedRow : OpenClaim := { program := "ytddomeddabfinaagreatdoor", sum := "8d52c508eb4be5c7d9c279ed45cb9d81dd172793ee756dea05b2f1e980267517", func := "ratoon/ratoonlaw49.TypesNeed", spec := "typesNeed", inPlace := ["internal/bytealg.IndexByteString", "internal/abi.NoEscape", "internal/bytealg.MakeNoZero"], unfollowed := true, recurses := true, named := ["strconv.ErrSyntax", "strconv.ErrRange", "internal/strconv.uint64pow10", "math/bits.deBruijn32tab", "math/bits.deBruijn64tab", "ratoon/types.builtins"], loops := true, apart := false, laid := [("math/bits.deBruijn32tab", laid_math_bits_deBruijn32tab), ("math/bits.deBruijn64tab", laid_math_bits_deBruijn64tab), ("internal/strconv.uint64pow10", laid_internal_strconv_uint64pow10), ("strconv.ErrRange", laid_strconv_ErrRange), ("strconv.ErrSyntax", laid_strconv_ErrSyntax), ("ratoon/types.builtins", laid_ratoon_types_builtins)] }
def TypesNeedSaid : Prop := typesNeedRow.holds Tryz.pinned (OpenSpec.ofChange typesNeedSpec)

/-- ITS FALSE NEIGHBOUR: 'it returns false'. Refute it at one input. -/
def typesNeedWrong : ChangeSpec := { name := "typesNeed", fn := fun _ => fun
  | [d1, d2] => { results := [.lit (.bool false)], args := [d1, d2] }
  | _ => none }
def TypesNeedWrongFalsely : Prop := typesNeedRow.holds Tryz.pinned (OpenSpec.ofChange typesNeedWrong)

/-- 'ratoonlaw49.TypesPrefix': WHATEVER THE INPUT: true; the input reads as it did. -/
def typesPrefixSpec : ChangeSpec := { name := "typesPrefix", fn := fun _ => fun
  | [d1, d2, d3] => { results := [.lit (.bool true)], args := [d1, d2, d3] }
  | _ => none }
def typesPrefixRow : OpenClaim := { program := "ytddomeddabfinaagreatdoor", sum := "8d52c508eb4be5c7d9c279ed45cb9d81dd172793ee756dea05b2f1e980267517", func := "ratoon/ratoonlaw49.TypesPrefix", spec := "typesPrefix", inPlace := ["internal/bytealg.IndexByteString", "internal/abi.NoEscape", "internal/bytealg.MakeNoZero"], unfollowed := true, recurses := true, named := ["strconv.ErrSyntax", "strconv.ErrRange", "internal/strconv.uint64pow10", "math/bits.deBruijn32tab", "math/bits.deBruijn64tab", "ratoon/types.builtins"], loops := true, apart := false, laid := [("math/bits.deBruijn32tab", laid_math_bits_deBruijn32tab), ("math/bits.deBruijn64tab", laid_math_bits_deBruijn64tab), ("internal/strconv.uint64pow10", laid_internal_strconv_uint64pow10), ("strconv.ErrRange", laid_strconv_ErrRange), ("strconv.ErrSyntax", laid_strconv_ErrSyntax), ("ratoon/types.builtins", laid_ratoon_types_builtins)] }
def TypesPrefixSaid : Prop := typesPrefixRow.holds Tryz.pinned (OpenSpec.ofChange typesPrefixSpec)

/-- ITS FALSE NEIGHBOUR: 'it returns false'. Refute it at one input. -/
def typesPrefixWrong : ChangeSpec := { name := "typesPrefix", fn := fun _ => fun
  | [d1, d2, d3] => { results := [.lit (.bool false)], args := [d1, d2, d3] }
  | _ => none }
def TypesPrefixWrongFalsely : Prop := typesPrefixRow.holds Tryz.pinned (OpenSpec.ofChange typesPrefixWrong)

/-- 'ratoonlaw49.TypesLogic': WHATEVER THE INPUT: true; the input reads as it did. -/
def typesLogicSpec : ChangeSpec := { name := "typesLogic", fn := fun _ => fun
  | [d1, d2, d3] => { results := [.lit (.bool true)], args := [d1, d2, d3] }
  | _ => none }
def typesLogicRow : OpenClaim := { program := "ytddomeddabfinaagreatdoor", sum := "8d52c508eb4be5c7d9c279ed45cb9d81dd172793ee756dea05b2f1e980267517", func := "ratoon/ratoonlaw49.TypesLogic", spec := "typesLogic", inPlace := ["internal/bytealg.IndexByteString", "internal/abi.NoEscape", "internal/bytealg.MakeNoZero"], unfollowed := true, recurses := true, named := ["strconv.ErrSyntax", "strconv.ErrRange", "internal/strconv.uint64pow10", "math/bits.deBruijn32tab", "math/bits.deBruijn64tab", "ratoon/types.builtins"], apart := false, laid := [("math/bits.deBruijn32tab", laid_math_bits_deBruijn32tab), ("math/bits.deBruijn64tab", laid_math_bits_deBruijn64tab), ("internal/strconv.uint64pow10", laid_internal_strconv_uint64pow10), ("strconv.ErrRange", laid_strconv_ErrRange), ("strconv.ErrSyntax", laid_strconv_ErrSyntax), ("ratoon/types.builtins", laid_ratoon_types_builtins)] }
def TypesLogicSaid : Prop := typesLogicRow.holds Tryz.pinned (OpenSpec.ofChange typesLogicSpec)

/-- ITS FALSE NEIGHBOUR: 'it returns false'. Refute it at one input. -/
def typesLogicWrong : ChangeSpec := { name := "typesLogic", fn := fun _ => fun
  | [d1, d2, d3] => { results := [.lit (.bool false)], args := [d1, d2, d3] }
  | _ => none }
def TypesLogicWrongFalsely : Prop := typesLogicRow.holds Tryz.pinned (OpenSpec.ofChange typesLogicWrong)

/-- 'ratoonlaw49.TypesArray': WHATEVER THE INPUT: true; the input reads as it did. -/
def typesArraySpec : ChangeSpec := { name := "typesArray", fn := fun _ => fun
  | [d1, d2, d3] => { results := [.lit (.bool true)], args := [d1, d2, d3] }
  | _ => none }
def typesArrayRow : OpenClaim := { program := "ytddomeddabfinaagreatdoor", sum := "8d52c508eb4be5c7d9c279ed45cb9d81dd172793ee756dea05b2f1e980267517", func := "ratoon/ratoonlaw49.TypesArray", spec := "typesArray", inPlace := ["internal/bytealg.IndexByteString", "internal/abi.NoEscape", "internal/bytealg.MakeNoZero"], unfollowed := true, recurses := true, named := ["strconv.ErrSyntax", "strconv.ErrRange", "internal/strconv.uint64pow10", "math/bits.deBruijn32tab", "math/bits.deBruijn64tab", "ratoon/types.builtins"], apart := false, laid := [("math/bits.deBruijn32tab", laid_math_bits_deBruijn32tab), ("math/bits.deBruijn64tab", laid_math_bits_deBruijn64tab), ("internal/strconv.uint64pow10", laid_internal_strconv_uint64pow10), ("strconv.ErrRange", laid_strconv_ErrRange), ("strconv.ErrSyntax", laid_strconv_ErrSyntax), ("ratoon/types.builtins", laid_ratoon_types_builtins)] }
def TypesArraySaid : Prop := typesArrayRow.holds Tryz.pinned (OpenSpec.ofChange typesArraySpec)

/-- ITS FALSE NEIGHBOUR: 'it returns false'. Refute it at one input. -/
def typesArrayWrong : ChangeSpec := { name := "typesArray", fn := fun _ => fun
  | [d1, d2, d3] => { results := [.lit (.bool false)], args := [d1, d2, d3] }
  | _ => none }
def TypesArrayWrongFalsely : Prop := typesArrayRow.holds Tryz.pinned (OpenSpec.ofChange typesArrayWrong)

/-- 'ratoonlaw49.TypesStays': WHATEVER THE INPUT: true; the input reads as it did. -/
def typesStaysSpec : ChangeSpec := { name := "typesStays", fn := fun _ => fun
  | [d1, d2] => { results := [.lit (.bool true)], args := [d1, d2] }
  | _ => none }
def typesStaysRow : OpenClaim := { program := "ytddomeddabfinaagreatdoor", sum := "8d52c508eb4be5c7d9c279ed45cb9d81dd172793ee756dea05b2f1e980267517", func := "ratoon/ratoonlaw49.TypesStays", spec := "typesStays", inPlace := ["internal/bytealg.IndexByteString", "internal/abi.NoEscape", "internal/bytealg.MakeNoZero"], unfollowed := true, recurses := true, named := ["strconv.ErrSyntax", "strconv.ErrRange", "internal/strconv.uint64pow10", "math/bits.deBruijn32tab", "math/bits.deBruijn64tab", "ratoon/types.builtins"], loops := true, apart := false, laid := [("math/bits.deBruijn32tab", laid_math_bits_deBruijn32tab), ("math/bits.deBruijn64tab", laid_math_bits_deBruijn64tab), ("internal/strconv.uint64pow10", laid_internal_strconv_uint64pow10), ("strconv.ErrRange", laid_strconv_ErrRange), ("strconv.ErrSyntax", laid_strconv_ErrSyntax), ("ratoon/types.builtins", laid_ratoon_types_builtins)] }
def TypesStaysSaid : Prop := typesStaysRow.holds Tryz.pinned (OpenSpec.ofChange typesStaysSpec)

/-- ITS FALSE NEIGHBOUR: 'it returns false'. Refute it at one input. -/
def typesStaysWrong : ChangeSpec := { name := "typesStays", fn := fun _ => fun
  | [d1, d2] => { results := [.lit (.bool false)], args := [d1, d2] }
  | _ => none }
def TypesStaysWrongFalsely : Prop := typesStaysRow.holds Tryz.pinned (OpenSpec.ofChange typesStaysWrong)

/-- 'ratoonlaw49.TypesArithmetic': WHATEVER THE INPUT: true; the input reads as it did. -/
def typesArithmeticSpec : ChangeSpec := { name := "typesArithmetic", fn := fun _ => fun
  | [d1, d2, d3] => { results := [.lit (.bool true)], args := [d1, d2, d3] }
  | _ => none }
def typesArithmeticRow : OpenClaim := { program := "ytddomeddabfinaagreatdoor", sum := "8d52c508eb4be5c7d9c279ed45cb9d81dd172793ee756dea05b2f1e980267517", func := "ratoon/ratoonlaw49.TypesArithmetic", spec := "typesArithmetic", inPlace := ["internal/bytealg.IndexByteString", "internal/abi.NoEscape", "internal/bytealg.MakeNoZero"], unfollowed := true, recurses := true, named := ["strconv.ErrSyntax", "strconv.ErrRange", "internal/strconv.uint64pow10", "math/bits.deBruijn32tab", "math/bits.deBruijn64tab", "ratoon/types.builtins", "ratoon/cpu.formats"], apart := false, laid := [("math/bits.deBruijn32tab", laid_math_bits_deBruijn32tab), ("math/bits.deBruijn64tab", laid_math_bits_deBruijn64tab), ("internal/strconv.uint64pow10", laid_internal_strconv_uint64pow10), ("strconv.ErrRange", laid_strconv_ErrRange), ("strconv.ErrSyntax", laid_strconv_ErrSyntax), ("ratoon/cpu.formats", laid_ratoon_cpu_formats), ("ratoon/types.builtins", laid_ratoon_types_builtins)] }
def TypesArithmeticSaid : Prop := typesArithmeticRow.holds Tryz.pinned (OpenSpec.ofChange typesArithmeticSpec)

/-- ITS FALSE NEIGHBOUR: 'it returns false'. Refute it at one input. -/
def typesArithmeticWrong : ChangeSpec := { name := "typesArithmetic", fn := fun _ => fun
  | [d1, d2, d3] => { results := [.lit (.bool false)], args := [d1, d2, d3] }
  | _ => none }
def TypesArithmeticWrongFalsely : Prop := typesArithmeticRow.holds Tryz.pinned (OpenSpec.ofChange typesArithmeticWrong)

/- THE SECOND FORM. 'bulk': how many values and letters a reading holds, each counted each time it is reached (what is shared counts as often as it is met; a slice's spare places count too). A statement '..UptoSaid' is the law's where the arguments, and the package variables that the reading takes, are together of bulk at most 1048576: NARROWER than '..Said'. Prove '..Said' where nothing that the law and all that it calls make is longer than what came in: it says more and counts as full. Else prove '..UptoSaid'. A law counts once. -/
mutual
def uptoBulk {H : Type} : DataW H → Nat
  | .lit (.string bytes) => bytes.length + 1
  | .lit _ => 1
  | .nil => 1
  | .ptr d => uptoBulk d + 1
  | .slice elems spare => uptoBulkAll elems + uptoBulkAll spare + 1
  | .agg parts => uptoBulkAll parts + 1
  | .iface _ d => uptoBulk d + 1
  | .map entries => uptoBulkEntries entries + 1
  | .held _ => 1
def uptoBulkAll {H : Type} : List (DataW H) → Nat
  | [] => 0
  | d :: r => uptoBulk d + uptoBulkAll r
def uptoBulkEntries {H : Type} : List (Lit × DataW H) → Nat
  | [] => 0
  | x :: r => uptoBulkEntry x + uptoBulkEntries r
def uptoBulkEntry {H : Type} : Lit × DataW H → Nat
  | (.string bytes, d) => bytes.length + uptoBulk d + 1
  | (_, d) => uptoBulk d + 1
 end
def uptoSmall : (H : Type) → List (DataW H) → Bool := fun _ ds => decide (uptoBulkAll ds ≤ 1048576)
def OpenSpec.upto (s : _root_.Go.ChangeSpec) : _root_.Go.OpenSpec := { _root_.Go.OpenSpec.ofChange s with cond := some uptoSmall }

/-- 'ratoonlaw49.TypesCheck', WHERE WHAT IT READS IS OF BULK AT MOST 1048576: true; the input reads as it did. -/
def typesCheckUptoRow : OpenClaim := { program := "ytddomeddabfinaagreatdoor", sum := "8d52c508eb4be5c7d9c279ed45cb9d81dd172793ee756dea05b2f1e980267517", func := "ratoon/ratoonlaw49.TypesCheck", spec := "typesCheck", inPlace := ["internal/bytealg.IndexByteString", "internal/abi.NoEscape", "internal/bytealg.MakeNoZero"], unfollowed := true, recurses := true, named := ["strconv.ErrSyntax", "strconv.ErrRange", "internal/strconv.uint64pow10", "math/bits.deBruijn32tab", "math/bits.deBruijn64tab", "ratoon/types.builtins"], loops := true, apart := false, laid := [("math/bits.deBruijn32tab", laid_math_bits_deBruijn32tab), ("math/bits.deBruijn64tab", laid_math_bits_deBruijn64tab), ("internal/strconv.uint64pow10", laid_internal_strconv_uint64pow10), ("strconv.ErrRange", laid_strconv_ErrRange), ("strconv.ErrSyntax", laid_strconv_ErrSyntax), ("ratoon/types.builtins", laid_ratoon_types_builtins)], narrowed := true }
def TypesCheckUptoSaid : Prop := typesCheckUptoRow.holds Tryz.pinned (OpenSpec.upto typesCheckSpec)

/-- 'ratoonlaw49.TypesRun', WHERE WHAT IT READS IS OF BULK AT MOST 1048576: true; the input reads as it did. -/
def typesRunUptoRow : OpenClaim := { program := "ytddomeddabfinaagreatdoor", sum := "8d52c508eb4be5c7d9c279ed45cb9d81dd172793ee756dea05b2f1e980267517", func := "ratoon/ratoonlaw49.TypesRun", spec := "typesRun", inPlace := ["internal/bytealg.IndexByteString", "internal/abi.NoEscape", "internal/bytealg.MakeNoZero"], unfollowed := true, recurses := true, named := ["strconv.ErrSyntax", "strconv.ErrRange", "internal/strconv.uint64pow10", "math/bits.deBruijn32tab", "math/bits.deBruijn64tab", "ratoon/types.builtins"], loops := true, apart := false, laid := [("math/bits.deBruijn32tab", laid_math_bits_deBruijn32tab), ("math/bits.deBruijn64tab", laid_math_bits_deBruijn64tab), ("internal/strconv.uint64pow10", laid_internal_strconv_uint64pow10), ("strconv.ErrRange", laid_strconv_ErrRange), ("strconv.ErrSyntax", laid_strconv_ErrSyntax), ("ratoon/types.builtins", laid_ratoon_types_builtins)], narrowed := true }
def TypesRunUptoSaid : Prop := typesRunUptoRow.holds Tryz.pinned (OpenSpec.upto typesRunSpec)

/-- 'ratoonlaw49.TypesNeed', WHERE WHAT IT READS IS OF BULK AT MOST 1048576: true; the input reads as it did. -/
def typesNeedUptoRow : OpenClaim := { program := "ytddomeddabfinaagreatdoor", sum := "8d52c508eb4be5c7d9c279ed45cb9d81dd172793ee756dea05b2f1e980267517", func := "ratoon/ratoonlaw49.TypesNeed", spec := "typesNeed", inPlace := ["internal/bytealg.IndexByteString", "internal/abi.NoEscape", "internal/bytealg.MakeNoZero"], unfollowed := true, recurses := true, named := ["strconv.ErrSyntax", "strconv.ErrRange", "internal/strconv.uint64pow10", "math/bits.deBruijn32tab", "math/bits.deBruijn64tab", "ratoon/types.builtins"], loops := true, apart := false, laid := [("math/bits.deBruijn32tab", laid_math_bits_deBruijn32tab), ("math/bits.deBruijn64tab", laid_math_bits_deBruijn64tab), ("internal/strconv.uint64pow10", laid_internal_strconv_uint64pow10), ("strconv.ErrRange", laid_strconv_ErrRange), ("strconv.ErrSyntax", laid_strconv_ErrSyntax), ("ratoon/types.builtins", laid_ratoon_types_builtins)], narrowed := true }
def TypesNeedUptoSaid : Prop := typesNeedUptoRow.holds Tryz.pinned (OpenSpec.upto typesNeedSpec)

/-- 'ratoonlaw49.TypesPrefix', WHERE WHAT IT READS IS OF BULK AT MOST 1048576: true; the input reads as it did. -/
def typesPrefixUptoRow : OpenClaim := { program := "ytddomeddabfinaagreatdoor", sum := "8d52c508eb4be5c7d9c279ed45cb9d81dd172793ee756dea05b2f1e980267517", func := "ratoon/ratoonlaw49.TypesPrefix", spec := "typesPrefix", inPlace := ["internal/bytealg.IndexByteString", "internal/abi.NoEscape", "internal/bytealg.MakeNoZero"], unfollowed := true, recurses := true, named := ["strconv.ErrSyntax", "strconv.ErrRange", "internal/strconv.uint64pow10", "math/bits.deBruijn32tab", "math/bits.deBruijn64tab", "ratoon/types.builtins"], loops := true, apart := false, laid := [("math/bits.deBruijn32tab", laid_math_bits_deBruijn32tab), ("math/bits.deBruijn64tab", laid_math_bits_deBruijn64tab), ("internal/strconv.uint64pow10", laid_internal_strconv_uint64pow10), ("strconv.ErrRange", laid_strconv_ErrRange), ("strconv.ErrSyntax", laid_strconv_ErrSyntax), ("ratoon/types.builtins", laid_ratoon_types_builtins)], narrowed := true }
def TypesPrefixUptoSaid : Prop := typesPrefixUptoRow.holds Tryz.pinned (OpenSpec.upto typesPrefixSpec)

/-- 'ratoonlaw49.TypesLogic', WHERE WHAT IT READS IS OF BULK AT MOST 1048576: true; the input reads as it did. -/
def typesLogicUptoRow : OpenClaim := { program := "ytddomeddabfinaagreatdoor", sum := "8d52c508eb4be5c7d9c279ed45cb9d81dd172793ee756dea05b2f1e980267517", func := "ratoon/ratoonlaw49.TypesLogic", spec := "typesLogic", inPlace := ["internal/bytealg.IndexByteString", "internal/abi.NoEscape", "internal/bytealg.MakeNoZero"], unfollowed := true, recurses := true, named := ["strconv.ErrSyntax", "strconv.ErrRange", "internal/strconv.uint64pow10", "math/bits.deBruijn32tab", "math/bits.deBruijn64tab", "ratoon/types.builtins"], apart := false, laid := [("math/bits.deBruijn32tab", laid_math_bits_deBruijn32tab), ("math/bits.deBruijn64tab", laid_math_bits_deBruijn64tab), ("internal/strconv.uint64pow10", laid_internal_strconv_uint64pow10), ("strconv.ErrRange", laid_strconv_ErrRange), ("strconv.ErrSyntax", laid_strconv_ErrSyntax), ("ratoon/types.builtins", laid_ratoon_types_builtins)], narrowed := true }
def TypesLogicUptoSaid : Prop := typesLogicUptoRow.holds Tryz.pinned (OpenSpec.upto typesLogicSpec)

/-- 'ratoonlaw49.TypesArray', WHERE WHAT IT READS IS OF BULK AT MOST 1048576: true; the input reads as it did. -/
def typesArrayUptoRow : OpenClaim := { program := "ytddomeddabfinaagreatdoor", sum := "8d52c508eb4be5c7d9c279ed45cb9d81dd172793ee756dea05b2f1e980267517", func := "ratoon/ratoonlaw49.TypesArray", spec := "typesArray", inPlace := ["internal/bytealg.IndexByteString", "internal/abi.NoEscape", "internal/bytealg.MakeNoZero"], unfollowed := true, recurses := true, named := ["strconv.ErrSyntax", "strconv.ErrRange", "internal/strconv.uint64pow10", "math/bits.deBruijn32tab", "math/bits.deBruijn64tab", "ratoon/types.builtins"], apart := false, laid := [("math/bits.deBruijn32tab", laid_math_bits_deBruijn32tab), ("math/bits.deBruijn64tab", laid_math_bits_deBruijn64tab), ("internal/strconv.uint64pow10", laid_internal_strconv_uint64pow10), ("strconv.ErrRange", laid_strconv_ErrRange), ("strconv.ErrSyntax", laid_strconv_ErrSyntax), ("ratoon/types.builtins", laid_ratoon_types_builtins)], narrowed := true }
def TypesArrayUptoSaid : Prop := typesArrayUptoRow.holds Tryz.pinned (OpenSpec.upto typesArraySpec)

/-- 'ratoonlaw49.TypesStays', WHERE WHAT IT READS IS OF BULK AT MOST 1048576: true; the input reads as it did. -/
def typesStaysUptoRow : OpenClaim := { program := "ytddomeddabfinaagreatdoor", sum := "8d52c508eb4be5c7d9c279ed45cb9d81dd172793ee756dea05b2f1e980267517", func := "ratoon/ratoonlaw49.TypesStays", spec := "typesStays", inPlace := ["internal/bytealg.IndexByteString", "internal/abi.NoEscape", "internal/bytealg.MakeNoZero"], unfollowed := true, recurses := true, named := ["strconv.ErrSyntax", "strconv.ErrRange", "internal/strconv.uint64pow10", "math/bits.deBruijn32tab", "math/bits.deBruijn64tab", "ratoon/types.builtins"], loops := true, apart := false, laid := [("math/bits.deBruijn32tab", laid_math_bits_deBruijn32tab), ("math/bits.deBruijn64tab", laid_math_bits_deBruijn64tab), ("internal/strconv.uint64pow10", laid_internal_strconv_uint64pow10), ("strconv.ErrRange", laid_strconv_ErrRange), ("strconv.ErrSyntax", laid_strconv_ErrSyntax), ("ratoon/types.builtins", laid_ratoon_types_builtins)], narrowed := true }
def TypesStaysUptoSaid : Prop := typesStaysUptoRow.holds Tryz.pinned (OpenSpec.upto typesStaysSpec)

/-- 'ratoonlaw49.TypesArithmetic', WHERE WHAT IT READS IS OF BULK AT MOST 1048576: true; the input reads as it did. -/
def typesArithmeticUptoRow : OpenClaim := { program := "ytddomeddabfinaagreatdoor", sum := "8d52c508eb4be5c7d9c279ed45cb9d81dd172793ee756dea05b2f1e980267517", func := "ratoon/ratoonlaw49.TypesArithmetic", spec := "typesArithmetic", inPlace := ["internal/bytealg.IndexByteString", "internal/abi.NoEscape", "internal/bytealg.MakeNoZero"], unfollowed := true, recurses := true, named := ["strconv.ErrSyntax", "strconv.ErrRange", "internal/strconv.uint64pow10", "math/bits.deBruijn32tab", "math/bits.deBruijn64tab", "ratoon/types.builtins", "ratoon/cpu.formats"], apart := false, laid := [("math/bits.deBruijn32tab", laid_math_bits_deBruijn32tab), ("math/bits.deBruijn64tab", laid_math_bits_deBruijn64tab), ("internal/strconv.uint64pow10", laid_internal_strconv_uint64pow10), ("strconv.ErrRange", laid_strconv_ErrRange), ("strconv.ErrSyntax", laid_strconv_ErrSyntax), ("ratoon/cpu.formats", laid_ratoon_cpu_formats), ("ratoon/types.builtins", laid_ratoon_types_builtins)], narrowed := true }
def TypesArithmeticUptoSaid : Prop := typesArithmeticUptoRow.holds Tryz.pinned (OpenSpec.upto typesArithmeticSpec)

end Rows
end Go.Proofs.YtddomeddabfinaaGreatDoor
