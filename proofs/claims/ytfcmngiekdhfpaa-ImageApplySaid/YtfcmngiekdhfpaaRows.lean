/-
  No cell of these rows narrows 'for every input' (looked for: loops, veiled, ifaces, maps, wideKeys, modest, calm, conditions, laid).
  DERIVED. THE GIVEN ROWS OF THIS SEAT. 11 by the template 'for every input the law returns true; each argument reads behind the call as it read before'; 0 by the template 'total and deterministic' (their statements: YtfcmngiekdhfpaaTotals.lean).
  GIVEN WITH THE SEED: the statements are not yours to turn. If you find one false, say at which input.
  Laid BY PROGRAM, IN A SANDBOX (cutbox-rows.mjs): the forced cells as the released guide's own fill.sh prints them over the translation 35dc123c26e3b572… (all of the seat's roots in one cut). By AI agents, Wed Nov 11 2026. No macro, syntax, notation, axiom, sorry.
-/
import Derived.Test.YtfcmngiekdhfpaaChecked
import GoSem.Claim
import GoSem.ClaimJoined
import GoSem.ClaimMapViews
import Derived.JoinedTies
import Derived.KernelRfl
namespace Go.Proofs.Ytfcmngiekdhfpaa
/- THE CELL 'sum', in the pinned program and in every row, IS THE sha256 OF THE DUMP (.gsa) THAT YtfcmngiekdhfpaaProg.lean LOADS. Nothing in Lean hashes anything: it is a label: what it is worth is what the hold of that sum in a sandbox is worth. -/
noncomputable def Try.pinned : Pinned := { name := "ytfcmngiekdhfpaa", sum := "35dc123c26e3b57266e0b2104668da652bb1856230cd9c6c73b65517466a9e16", checked := Try.checked }
namespace Rows
def none {H : Type} : Left H := { results := [], args := [] }

/-- 'ratoonlaw03.ImagePages': WHATEVER THE INPUT: true; the input reads as it did. -/
def imagePagesSpec : ChangeSpec := { name := "imagePages", fn := fun _ => fun
  | [d1, d2, d3] => { results := [.lit (.bool true)], args := [d1, d2, d3] }
  | _ => none }
def imagePagesRow : OpenClaim := { program := "ytfcmngiekdhfpaa", sum := "35dc123c26e3b57266e0b2104668da652bb1856230cd9c6c73b65517466a9e16", func := "ratoon/ratoonlaw03.ImagePages", spec := "imagePages", unfollowed := true, recurses := true, apart := false }
def ImagePagesSaid : Prop := imagePagesRow.holds Try.pinned (OpenSpec.ofChange imagePagesSpec)

/-- ITS FALSE NEIGHBOUR: 'it returns false'. Refute it at one input. -/
def imagePagesWrong : ChangeSpec := { name := "imagePages", fn := fun _ => fun
  | [d1, d2, d3] => { results := [.lit (.bool false)], args := [d1, d2, d3] }
  | _ => none }
def ImagePagesWrongFalsely : Prop := imagePagesRow.holds Try.pinned (OpenSpec.ofChange imagePagesWrong)

/-- 'ratoonlaw03.ImageDiff': WHATEVER THE INPUT: true; the input reads as it did. -/
def imageDiffSpec : ChangeSpec := { name := "imageDiff", fn := fun _ => fun
  | [d1, d2] => { results := [.lit (.bool true)], args := [d1, d2] }
  | _ => none }
def imageDiffRow : OpenClaim := { program := "ytfcmngiekdhfpaa", sum := "35dc123c26e3b57266e0b2104668da652bb1856230cd9c6c73b65517466a9e16", func := "ratoon/ratoonlaw03.ImageDiff", spec := "imageDiff", unfollowed := true, recurses := true, apart := false }
def ImageDiffSaid : Prop := imageDiffRow.holds Try.pinned (OpenSpec.ofChange imageDiffSpec)

/-- ITS FALSE NEIGHBOUR: 'it returns false'. Refute it at one input. -/
def imageDiffWrong : ChangeSpec := { name := "imageDiff", fn := fun _ => fun
  | [d1, d2] => { results := [.lit (.bool false)], args := [d1, d2] }
  | _ => none }
def ImageDiffWrongFalsely : Prop := imageDiffRow.holds Try.pinned (OpenSpec.ofChange imageDiffWrong)

/-- 'ratoonlaw03.ImageLocal': WHATEVER THE INPUT: true; the input reads as it did. -/
def imageLocalSpec : ChangeSpec := { name := "imageLocal", fn := fun _ => fun
  | [d1, d2, d3] => { results := [.lit (.bool true)], args := [d1, d2, d3] }
  | _ => none }
def imageLocalRow : OpenClaim := { program := "ytfcmngiekdhfpaa", sum := "35dc123c26e3b57266e0b2104668da652bb1856230cd9c6c73b65517466a9e16", func := "ratoon/ratoonlaw03.ImageLocal", spec := "imageLocal", unfollowed := true, recurses := true, apart := false }
def ImageLocalSaid : Prop := imageLocalRow.holds Try.pinned (OpenSpec.ofChange imageLocalSpec)

/-- ITS FALSE NEIGHBOUR: 'it returns false'. Refute it at one input. -/
def imageLocalWrong : ChangeSpec := { name := "imageLocal", fn := fun _ => fun
  | [d1, d2, d3] => { results := [.lit (.bool false)], args := [d1, d2, d3] }
  | _ => none }
def ImageLocalWrongFalsely : Prop := imageLocalRow.holds Try.pinned (OpenSpec.ofChange imageLocalWrong)

/-- 'ratoonlaw03.ImageLimit': WHATEVER THE INPUT: true; the input reads as it did. -/
def imageLimitSpec : ChangeSpec := { name := "imageLimit", fn := fun _ => fun
  | [d] => { results := [.lit (.bool true)], args := [d] }
  | _ => none }
def imageLimitRow : OpenClaim := { program := "ytfcmngiekdhfpaa", sum := "35dc123c26e3b57266e0b2104668da652bb1856230cd9c6c73b65517466a9e16", func := "ratoon/ratoonlaw03.ImageLimit", spec := "imageLimit", unfollowed := true, recurses := true, apart := false }
def ImageLimitSaid : Prop := imageLimitRow.holds Try.pinned (OpenSpec.ofChange imageLimitSpec)

/-- ITS FALSE NEIGHBOUR: 'it returns false'. Refute it at one input. -/
def imageLimitWrong : ChangeSpec := { name := "imageLimit", fn := fun _ => fun
  | [d] => { results := [.lit (.bool false)], args := [d] }
  | _ => none }
def ImageLimitWrongFalsely : Prop := imageLimitRow.holds Try.pinned (OpenSpec.ofChange imageLimitWrong)

/-- 'ratoonlaw03.ImageBack': WHATEVER THE INPUT: true; the input reads as it did. -/
def imageBackSpec : ChangeSpec := { name := "imageBack", fn := fun _ => fun
  | [d1, d2] => { results := [.lit (.bool true)], args := [d1, d2] }
  | _ => none }
def imageBackRow : OpenClaim := { program := "ytfcmngiekdhfpaa", sum := "35dc123c26e3b57266e0b2104668da652bb1856230cd9c6c73b65517466a9e16", func := "ratoon/ratoonlaw03.ImageBack", spec := "imageBack", unfollowed := true, recurses := true, apart := false }
def ImageBackSaid : Prop := imageBackRow.holds Try.pinned (OpenSpec.ofChange imageBackSpec)

/-- ITS FALSE NEIGHBOUR: 'it returns false'. Refute it at one input. -/
def imageBackWrong : ChangeSpec := { name := "imageBack", fn := fun _ => fun
  | [d1, d2] => { results := [.lit (.bool false)], args := [d1, d2] }
  | _ => none }
def ImageBackWrongFalsely : Prop := imageBackRow.holds Try.pinned (OpenSpec.ofChange imageBackWrong)

/-- 'ratoonlaw03.ImageLeast': WHATEVER THE INPUT: true; the input reads as it did. -/
def imageLeastSpec : ChangeSpec := { name := "imageLeast", fn := fun _ => fun
  | [d1, d2, d3] => { results := [.lit (.bool true)], args := [d1, d2, d3] }
  | _ => none }
def imageLeastRow : OpenClaim := { program := "ytfcmngiekdhfpaa", sum := "35dc123c26e3b57266e0b2104668da652bb1856230cd9c6c73b65517466a9e16", func := "ratoon/ratoonlaw03.ImageLeast", spec := "imageLeast", unfollowed := true, recurses := true, apart := false }
def ImageLeastSaid : Prop := imageLeastRow.holds Try.pinned (OpenSpec.ofChange imageLeastSpec)

/-- ITS FALSE NEIGHBOUR: 'it returns false'. Refute it at one input. -/
def imageLeastWrong : ChangeSpec := { name := "imageLeast", fn := fun _ => fun
  | [d1, d2, d3] => { results := [.lit (.bool false)], args := [d1, d2, d3] }
  | _ => none }
def ImageLeastWrongFalsely : Prop := imageLeastRow.holds Try.pinned (OpenSpec.ofChange imageLeastWrong)

/-- 'ratoonlaw28.AttemptCost': WHATEVER THE INPUT: true; the input reads as it did. -/
def attemptCostSpec : ChangeSpec := { name := "attemptCost", fn := fun _ => fun
  | [d1, d2] => { results := [.lit (.bool true)], args := [d1, d2] }
  | _ => none }
def attemptCostRow : OpenClaim := { program := "ytfcmngiekdhfpaa", sum := "35dc123c26e3b57266e0b2104668da652bb1856230cd9c6c73b65517466a9e16", func := "ratoon/ratoonlaw28.AttemptCost", spec := "attemptCost", unfollowed := true, recurses := true, apart := false }
def AttemptCostSaid : Prop := attemptCostRow.holds Try.pinned (OpenSpec.ofChange attemptCostSpec)

/-- ITS FALSE NEIGHBOUR: 'it returns false'. Refute it at one input. -/
def attemptCostWrong : ChangeSpec := { name := "attemptCost", fn := fun _ => fun
  | [d1, d2] => { results := [.lit (.bool false)], args := [d1, d2] }
  | _ => none }
def AttemptCostWrongFalsely : Prop := attemptCostRow.holds Try.pinned (OpenSpec.ofChange attemptCostWrong)

/-- 'ratoonlaw28.AttemptOne': WHATEVER THE INPUT: true; the input reads as it did. -/
def attemptOneSpec : ChangeSpec := { name := "attemptOne", fn := fun _ => fun
  | [d1, d2] => { results := [.lit (.bool true)], args := [d1, d2] }
  | _ => none }
def attemptOneRow : OpenClaim := { program := "ytfcmngiekdhfpaa", sum := "35dc123c26e3b57266e0b2104668da652bb1856230cd9c6c73b65517466a9e16", func := "ratoon/ratoonlaw28.AttemptOne", spec := "attemptOne", unfollowed := true, recurses := true, apart := false }
def AttemptOneSaid : Prop := attemptOneRow.holds Try.pinned (OpenSpec.ofChange attemptOneSpec)

/-- ITS FALSE NEIGHBOUR: 'it returns false'. Refute it at one input. -/
def attemptOneWrong : ChangeSpec := { name := "attemptOne", fn := fun _ => fun
  | [d1, d2] => { results := [.lit (.bool false)], args := [d1, d2] }
  | _ => none }
def AttemptOneWrongFalsely : Prop := attemptOneRow.holds Try.pinned (OpenSpec.ofChange attemptOneWrong)

/-- 'ratoonlaw28.AttemptInput': WHATEVER THE INPUT: true; the input reads as it did. -/
def attemptInputSpec : ChangeSpec := { name := "attemptInput", fn := fun _ => fun
  | [d1, d2, d3] => { results := [.lit (.bool true)], args := [d1, d2, d3] }
  | _ => none }
def attemptInputRow : OpenClaim := { program := "ytfcmngiekdhfpaa", sum := "35dc123c26e3b57266e0b2104668da652bb1856230cd9c6c73b65517466a9e16", func := "ratoon/ratoonlaw28.AttemptInput", spec := "attemptInput", unfollowed := true, recurses := true, apart := false }
def AttemptInputSaid : Prop := attemptInputRow.holds Try.pinned (OpenSpec.ofChange attemptInputSpec)

/-- ITS FALSE NEIGHBOUR: 'it returns false'. Refute it at one input. -/
def attemptInputWrong : ChangeSpec := { name := "attemptInput", fn := fun _ => fun
  | [d1, d2, d3] => { results := [.lit (.bool false)], args := [d1, d2, d3] }
  | _ => none }
def AttemptInputWrongFalsely : Prop := attemptInputRow.holds Try.pinned (OpenSpec.ofChange attemptInputWrong)

/-- 'ratoonlaw03.ImageJoin': WHATEVER THE INPUT: true; the input reads as it did. -/
def imageJoinSpec : ChangeSpec := { name := "imageJoin", fn := fun _ => fun
  | [d1, d2, d3] => { results := [.lit (.bool true)], args := [d1, d2, d3] }
  | _ => none }
def imageJoinRow : OpenClaim := { program := "ytfcmngiekdhfpaa", sum := "35dc123c26e3b57266e0b2104668da652bb1856230cd9c6c73b65517466a9e16", func := "ratoon/ratoonlaw03.ImageJoin", spec := "imageJoin", unfollowed := true, recurses := true, apart := false }
def ImageJoinSaid : Prop := imageJoinRow.holds Try.pinned (OpenSpec.ofChange imageJoinSpec)

/-- ITS FALSE NEIGHBOUR: 'it returns false'. Refute it at one input. -/
def imageJoinWrong : ChangeSpec := { name := "imageJoin", fn := fun _ => fun
  | [d1, d2, d3] => { results := [.lit (.bool false)], args := [d1, d2, d3] }
  | _ => none }
def ImageJoinWrongFalsely : Prop := imageJoinRow.holds Try.pinned (OpenSpec.ofChange imageJoinWrong)

/-- 'ratoonlaw03.ImageApply': WHATEVER THE INPUT: true; the input reads as it did. -/
def imageApplySpec : ChangeSpec := { name := "imageApply", fn := fun _ => fun
  | [d1, d2, d3] => { results := [.lit (.bool true)], args := [d1, d2, d3] }
  | _ => none }
def imageApplyRow : OpenClaim := { program := "ytfcmngiekdhfpaa", sum := "35dc123c26e3b57266e0b2104668da652bb1856230cd9c6c73b65517466a9e16", func := "ratoon/ratoonlaw03.ImageApply", spec := "imageApply", unfollowed := true, recurses := true, apart := false }
def ImageApplySaid : Prop := imageApplyRow.holds Try.pinned (OpenSpec.ofChange imageApplySpec)

/-- ITS FALSE NEIGHBOUR: 'it returns false'. Refute it at one input. -/
def imageApplyWrong : ChangeSpec := { name := "imageApply", fn := fun _ => fun
  | [d1, d2, d3] => { results := [.lit (.bool false)], args := [d1, d2, d3] }
  | _ => none }
def ImageApplyWrongFalsely : Prop := imageApplyRow.holds Try.pinned (OpenSpec.ofChange imageApplyWrong)

/- THE SECOND FORM. 'bulk': how many values and letters a reading holds, each counted each time it is reached (what is shared counts as often as it is met; a slice's spare places count too). A statement '..UptoSaid' is the law's where the arguments, and the package variables that the reading takes, are together of bulk at most 1048576: NARROWER than '..Said'. Prove '..Said' where nothing that the law and all that it calls make is longer than what came in: it says more and counts as full. Else prove '..UptoSaid'. A law counts once. -/
mutual
def uptoBulk {H : Type} : DataW H → Nat
  | .lit (.string bytes) => bytes.length + 1
  | .lit _ => 1
  | .nil => 1
  | .ptr d => uptoBulk d + 1
  | .slice elems spare => uptoBulkAll elems + uptoBulkAll spare + 1
  | .agg parts => uptoBulkAll parts + 1
  | .iface _ d => uptoBulk d + 1
  | .map entries => uptoBulkEntries entries + 1
  | .held _ => 1
def uptoBulkAll {H : Type} : List (DataW H) → Nat
  | [] => 0
  | d :: r => uptoBulk d + uptoBulkAll r
def uptoBulkEntries {H : Type} : List (Lit × DataW H) → Nat
  | [] => 0
  | x :: r => uptoBulkEntry x + uptoBulkEntries r
def uptoBulkEntry {H : Type} : Lit × DataW H → Nat
  | (.string bytes, d) => bytes.length + uptoBulk d + 1
  | (_, d) => uptoBulk d + 1
 end
def uptoSmall : (H : Type) → List (DataW H) → Bool := fun _ ds => decide (uptoBulkAll ds ≤ 1048576)
def OpenSpec.upto (s : _root_.Go.ChangeSpec) : _root_.Go.OpenSpec := { _root_.Go.OpenSpec.ofChange s with cond := some uptoSmall }

/-- 'ratoonlaw03.ImagePages', WHERE WHAT IT READS IS OF BULK AT MOST 1048576: true; the input reads as it did. -/
def imagePagesUptoRow : OpenClaim := { program := "ytfcmngiekdhfpaa", sum := "35dc123c26e3b57266e0b2104668da652bb1856230cd9c6c73b65517466a9e16", func := "ratoon/ratoonlaw03.ImagePages", spec := "imagePages", unfollowed := true, recurses := true, apart := false, narrowed := true }
def ImagePagesUptoSaid : Prop := imagePagesUptoRow.holds Try.pinned (OpenSpec.upto imagePagesSpec)

/-- 'ratoonlaw03.ImageDiff', WHERE WHAT IT READS IS OF BULK AT MOST 1048576: true; the input reads as it did. -/
def imageDiffUptoRow : OpenClaim := { program := "ytfcmngiekdhfpaa", sum := "35dc123c26e3b57266e0b2104668da652bb1856230cd9c6c73b65517466a9e16", func := "ratoon/ratoonlaw03.ImageDiff", spec := "imageDiff", unfollowed := true, recurses := true, apart := false, narrowed := true }
def ImageDiffUptoSaid : Prop := imageDiffUptoRow.holds Try.pinned (OpenSpec.upto imageDiffSpec)

/-- 'ratoonlaw03.ImageLocal', WHERE WHAT IT READS IS OF BULK AT MOST 1048576: true; the input reads as it did. -/
def imageLocalUptoRow : OpenClaim := { program := "ytfcmngiekdhfpaa", sum := "35dc123c26e3b57266e0b2104668da652bb1856230cd9c6c73b65517466a9e16", func := "ratoon/ratoonlaw03.ImageLocal", spec := "imageLocal", unfollowed := true, recurses := true, apart := false, narrowed := true }
def ImageLocalUptoSaid : Prop := imageLocalUptoRow.holds Try.pinned (OpenSpec.upto imageLocalSpec)

/-- 'ratoonlaw03.ImageLimit', WHERE WHAT IT READS IS OF BULK AT MOST 1048576: true; the input reads as it did. -/
def imageLimitUptoRow : OpenClaim := { program := "ytfcmngiekdhfpaa", sum := "35dc123c26e3b57266e0b2104668da652bb1856230cd9c6c73b65517466a9e16", func := "ratoon/ratoonlaw03.ImageLimit", spec := "imageLimit", unfollowed := true, recurses := true, apart := false, narrowed := true }
def ImageLimitUptoSaid : Prop := imageLimitUptoRow.holds Try.pinned (OpenSpec.upto imageLimitSpec)

/-- 'ratoonlaw03.ImageBack', WHERE WHAT IT READS IS OF BULK AT MOST 1048576: true; the input reads as it did. -/
def imageBackUptoRow : OpenClaim := { program := "ytfcmngiekdhfpaa", sum := "35dc123c26e3b57266e0b2104668da652bb1856230cd9c6c73b65517466a9e16", func := "ratoon/ratoonlaw03.ImageBack", spec := "imageBack", unfollowed := true, recurses := true, apart := false, narrowed := true }
def ImageBackUptoSaid : Prop := imageBackUptoRow.holds Try.pinned (OpenSpec.upto imageBackSpec)

/-- 'ratoonlaw03.ImageLeast', WHERE WHAT IT READS IS OF BULK AT MOST 1048576: true; the input reads as it did. -/
def imageLeastUptoRow : OpenClaim := { program := "ytfcmngiekdhfpaa", sum := "35dc123c26e3b57266e0b2104668da652bb1856230cd9c6c73b65517466a9e16", func := "ratoon/ratoonlaw03.ImageLeast", spec := "imageLeast", unfollowed := true, recurses := true, apart := false, narrowed := true }
def ImageLeastUptoSaid : Prop := imageLeastUptoRow.holds Try.pinned (OpenSpec.upto imageLeastSpec)

/-- 'ratoonlaw28.AttemptCost', WHERE WHAT IT READS IS OF BULK AT MOST 1048576: true; the input reads as it did. -/
def attemptCostUptoRow : OpenClaim := { program := "ytfcmngiekdhfpaa", sum := "35dc123c26e3b57266e0b2104668da652bb1856230cd9c6c73b65517466a9e16", func := "ratoon/ratoonlaw28.AttemptCost", spec := "attemptCost", unfollowed := true, recurses := true, apart := false, narrowed := true }
def AttemptCostUptoSaid : Prop := attemptCostUptoRow.holds Try.pinned (OpenSpec.upto attemptCostSpec)

/-- 'ratoonlaw28.AttemptOne', WHERE WHAT IT READS IS OF BULK AT MOST 1048576: true; the input reads as it did. -/
def attemptOneUptoRow : OpenClaim := { program := "ytfcmngiekdhfpaa", sum := "35dc123c26e3b57266e0b2104668da652bb1856230cd9c6c73b65517466a9e16", func := "ratoon/ratoonlaw28.AttemptOne", spec := "attemptOne", unfollowed := true, recurses := true, apart := false, narrowed := true }
def AttemptOneUptoSaid : Prop := attemptOneUptoRow.holds Try.pinned (OpenSpec.upto attemptOneSpec)

/-- 'ratoonlaw28.AttemptInput', WHERE WHAT IT READS IS OF BULK AT MOST 1048576: true; the input reads as it did. -/
def attemptInputUptoRow : OpenClaim := { program := "ytfcmngiekdhfpaa", sum := "35dc123c26e3b57266e0b2104668da652bb1856230cd9c6c73b65517466a9e16", func := "ratoon/ratoonlaw28.AttemptInput", spec := "attemptInput", unfollowed := true, recurses := true, apart := false, narrowed := true }
def AttemptInputUptoSaid : Prop := attemptInputUptoRow.holds Try.pinned (OpenSpec.upto attemptInputSpec)

/-- 'ratoonlaw03.ImageJoin', WHERE WHAT IT READS IS OF BULK AT MOST 1048576: true; the input reads as it did. -/
def imageJoinUptoRow : OpenClaim := { program := "ytfcmngiekdhfpaa", sum := "35dc123c26e3b57266e0b2104668da652bb1856230cd9c6c73b65517466a9e16", func := "ratoon/ratoonlaw03.ImageJoin", spec := "imageJoin", unfollowed := true, recurses := true, apart := false, narrowed := true }
def ImageJoinUptoSaid : Prop := imageJoinUptoRow.holds Try.pinned (OpenSpec.upto imageJoinSpec)

/-- 'ratoonlaw03.ImageApply', WHERE WHAT IT READS IS OF BULK AT MOST 1048576: true; the input reads as it did. -/
def imageApplyUptoRow : OpenClaim := { program := "ytfcmngiekdhfpaa", sum := "35dc123c26e3b57266e0b2104668da652bb1856230cd9c6c73b65517466a9e16", func := "ratoon/ratoonlaw03.ImageApply", spec := "imageApply", unfollowed := true, recurses := true, apart := false, narrowed := true }
def ImageApplyUptoSaid : Prop := imageApplyUptoRow.holds Try.pinned (OpenSpec.upto imageApplySpec)

end Rows
end Go.Proofs.Ytfcmngiekdhfpaa
