/-
  NARROWER THAN 'FOR EVERY INPUT', by the rows' own cells (each row's printed sentence says how): FoldClean: laid · FoldAgain: laid · FoldSmaller: laid · FoldMeans: laid.
  DERIVED. THE GIVEN ROWS OF THIS SEAT. 4 by the template 'for every input the law returns true; each argument reads behind the call as it read before'; 0 by the template 'total and deterministic' (their statements: YtiliboioeieeoaaGreatDoorTotals.lean).
  GIVEN WITH THE SEED: the statements are not yours to turn. If you find one false, say at which input.
  Laid BY PROGRAM, IN A SANDBOX (cutbox-rows.mjs): the forced cells as the released guide's own fill.sh prints them over the translation 5e8b37752513af86… (all of the seat's roots in one cut). By AI agents, Wed Nov 11 2026. No macro, syntax, notation, axiom, sorry.
-/
import Derived.Test.YtiliboioeieeoaaGreatDoorChecked
import GoSem.Claim
import GoSem.ClaimJoined
import GoSem.ClaimMapViews
import Derived.JoinedTies
import Derived.KernelRfl
namespace Go.Proofs.YtiliboioeieeoaaGreatDoor
/- THE CELL 'sum', in the pinned program and in every row, IS THE sha256 OF THE DUMP (.gsa) THAT YtiliboioeieeoaaGreatDoorProg.lean LOADS. Nothing in Lean hashes anything: it is a label: what it is worth is what the hold of that sum in a sandbox is worth. -/
noncomputable def Tryz.pinned : Pinned := { name := "ytiliboioeieeoaagreatdoor", sum := "5e8b37752513af86218d571eada28d204848bf3ecadc76a07b35a32d58a0a654", checked := Tryz.checked }
namespace Rows
def none {H : Type} : Left H := { results := [], args := [] }

/- WHAT THE LISTED PACKAGE-LEVEL VARIABLES READ AS WHEN THE CALL BEGINS. Each datum BY PROGRAM (the guide's laid-datum.mjs) off the statement by which the dump's own 'gosem.cut.vars' lays the variable. In a bare row this is a premise. The card (YtiliboioeieeoaaGreatDoorCards.lean) ties it to the program's text. -/
def laid_octroi_tree_kinds {H : Type} : DataW H := .agg [.agg [.lit (.int .i64 0), .lit (.int .i64 0), .lit (.bool false), .lit (.bool false)], .agg [.lit (.int .i64 0), .lit (.int .i64 1000000000000), .lit (.bool false), .lit (.bool false)], .agg [.lit (.int .i64 0), .lit (.int .i64 1000000000000), .lit (.bool false), .lit (.bool false)], .agg [.lit (.int .i64 0), .lit (.int .i64 (-1)), .lit (.bool false), .lit (.bool false)], .agg [.lit (.int .i64 0), .lit (.int .i64 (-1)), .lit (.bool false), .lit (.bool false)], .agg [.lit (.int .i64 1), .lit (.int .i64 0), .lit (.bool false), .lit (.bool false)], .agg [.lit (.int .i64 2), .lit (.int .i64 0), .lit (.bool false), .lit (.bool false)], .agg [.lit (.int .i64 2), .lit (.int .i64 0), .lit (.bool false), .lit (.bool false)], .agg [.lit (.int .i64 2), .lit (.int .i64 0), .lit (.bool false), .lit (.bool false)], .agg [.lit (.int .i64 (-1)), .lit (.int .i64 0), .lit (.bool false), .lit (.bool false)], .agg [.lit (.int .i64 (-1)), .lit (.int .i64 0), .lit (.bool false), .lit (.bool false)], .agg [.lit (.int .i64 1), .lit (.int .i64 1000000000000), .lit (.bool false), .lit (.bool false)], .agg [.lit (.int .i64 1), .lit (.int .i64 1000000000000), .lit (.bool false), .lit (.bool false)], .agg [.lit (.int .i64 1), .lit (.int .i64 0), .lit (.bool true), .lit (.bool false)], .agg [.lit (.int .i64 1), .lit (.int .i64 0), .lit (.bool true), .lit (.bool false)], .agg [.lit (.int .i64 1), .lit (.int .i64 10000), .lit (.bool false), .lit (.bool false)], .agg [.lit (.int .i64 3), .lit (.int .i64 1000000000000), .lit (.bool false), .lit (.bool true)]]

/-- 'octroilaw14.FoldClean': WHATEVER THE INPUT: true; the input reads as it did. -/
def foldCleanSpec : ChangeSpec := { name := "foldClean", fn := fun _ => fun
  | [d] => { results := [.lit (.bool true)], args := [d] }
  | _ => none }
def foldCleanRow : OpenClaim := { program := "ytiliboioeieeoaagreatdoor", sum := "5e8b37752513af86218d571eada28d204848bf3ecadc76a07b35a32d58a0a654", func := "octroi/octroilaw14.FoldClean", spec := "foldClean", inPlace := ["internal/bytealg.IndexByteString", "internal/bytealg.IndexString", "math/bits.Sub64", "math/bits.Add64"], unfollowed := true, recurses := true, named := ["internal/bytealg.MaxLen", "octroi/tree.kinds", "math/bits.divideError", "math/bits.overflowError"], apart := false, laid := [("octroi/tree.kinds", laid_octroi_tree_kinds)] }
def FoldCleanSaid : Prop := foldCleanRow.holds Tryz.pinned (OpenSpec.ofChange foldCleanSpec)

/-- ITS FALSE NEIGHBOUR: 'it returns false'. Refute it at one input. -/
def foldCleanWrong : ChangeSpec := { name := "foldClean", fn := fun _ => fun
  | [d] => { results := [.lit (.bool false)], args := [d] }
  | _ => none }
def FoldCleanWrongFalsely : Prop := foldCleanRow.holds Tryz.pinned (OpenSpec.ofChange foldCleanWrong)

/-- 'octroilaw14.FoldAgain': WHATEVER THE INPUT: true; the input reads as it did. -/
def foldAgainSpec : ChangeSpec := { name := "foldAgain", fn := fun _ => fun
  | [d] => { results := [.lit (.bool true)], args := [d] }
  | _ => none }
def foldAgainRow : OpenClaim := { program := "ytiliboioeieeoaagreatdoor", sum := "5e8b37752513af86218d571eada28d204848bf3ecadc76a07b35a32d58a0a654", func := "octroi/octroilaw14.FoldAgain", spec := "foldAgain", inPlace := ["internal/bytealg.IndexByteString", "internal/bytealg.IndexString", "math/bits.Sub64", "math/bits.Add64"], unfollowed := true, recurses := true, named := ["internal/bytealg.MaxLen", "octroi/tree.kinds", "math/bits.divideError", "math/bits.overflowError"], apart := false, laid := [("octroi/tree.kinds", laid_octroi_tree_kinds)] }
def FoldAgainSaid : Prop := foldAgainRow.holds Tryz.pinned (OpenSpec.ofChange foldAgainSpec)

/-- ITS FALSE NEIGHBOUR: 'it returns false'. Refute it at one input. -/
def foldAgainWrong : ChangeSpec := { name := "foldAgain", fn := fun _ => fun
  | [d] => { results := [.lit (.bool false)], args := [d] }
  | _ => none }
def FoldAgainWrongFalsely : Prop := foldAgainRow.holds Tryz.pinned (OpenSpec.ofChange foldAgainWrong)

/-- 'octroilaw14.FoldSmaller': WHATEVER THE INPUT: true; the input reads as it did. -/
def foldSmallerSpec : ChangeSpec := { name := "foldSmaller", fn := fun _ => fun
  | [d] => { results := [.lit (.bool true)], args := [d] }
  | _ => none }
def foldSmallerRow : OpenClaim := { program := "ytiliboioeieeoaagreatdoor", sum := "5e8b37752513af86218d571eada28d204848bf3ecadc76a07b35a32d58a0a654", func := "octroi/octroilaw14.FoldSmaller", spec := "foldSmaller", inPlace := ["internal/bytealg.IndexByteString", "internal/bytealg.IndexString", "math/bits.Sub64", "math/bits.Add64"], unfollowed := true, recurses := true, named := ["internal/bytealg.MaxLen", "octroi/tree.kinds", "math/bits.divideError", "math/bits.overflowError"], apart := false, laid := [("octroi/tree.kinds", laid_octroi_tree_kinds)] }
def FoldSmallerSaid : Prop := foldSmallerRow.holds Tryz.pinned (OpenSpec.ofChange foldSmallerSpec)

/-- ITS FALSE NEIGHBOUR: 'it returns false'. Refute it at one input. -/
def foldSmallerWrong : ChangeSpec := { name := "foldSmaller", fn := fun _ => fun
  | [d] => { results := [.lit (.bool false)], args := [d] }
  | _ => none }
def FoldSmallerWrongFalsely : Prop := foldSmallerRow.holds Tryz.pinned (OpenSpec.ofChange foldSmallerWrong)

/-- 'octroilaw14.FoldMeans': WHATEVER THE INPUT: true; the input reads as it did. -/
def foldMeansSpec : ChangeSpec := { name := "foldMeans", fn := fun _ => fun
  | [d1, d2] => { results := [.lit (.bool true)], args := [d1, d2] }
  | _ => none }
def foldMeansRow : OpenClaim := { program := "ytiliboioeieeoaagreatdoor", sum := "5e8b37752513af86218d571eada28d204848bf3ecadc76a07b35a32d58a0a654", func := "octroi/octroilaw14.FoldMeans", spec := "foldMeans", inPlace := ["internal/bytealg.IndexByteString", "internal/bytealg.IndexString", "math/bits.Sub64", "math/bits.Add64"], unfollowed := true, recurses := true, named := ["internal/bytealg.MaxLen", "octroi/tree.kinds", "math/bits.divideError", "math/bits.overflowError"], apart := false, laid := [("octroi/tree.kinds", laid_octroi_tree_kinds)] }
def FoldMeansSaid : Prop := foldMeansRow.holds Tryz.pinned (OpenSpec.ofChange foldMeansSpec)

/-- ITS FALSE NEIGHBOUR: 'it returns false'. Refute it at one input. -/
def foldMeansWrong : ChangeSpec := { name := "foldMeans", fn := fun _ => fun
  | [d1, d2] => { results := [.lit (.bool false)], args := [d1, d2] }
  | _ => none }
def FoldMeansWrongFalsely : Prop := foldMeansRow.holds Tryz.pinned (OpenSpec.ofChange foldMeansWrong)

/- THE SECOND FORM. 'bulk': how many values and letters a reading holds, each counted each time it is reached (what is shared counts as often as it is met; a slice's spare places count too). A statement '..UptoSaid' is the law's where the arguments, and the package variables that the reading takes, are together of bulk at most 1048576: NARROWER than '..Said'. Prove '..Said' where nothing that the law and all that it calls make is longer than what came in: it says more and counts as full. Else prove '..UptoSaid'. A law counts once. -/
mutual
def uptoBulk {H : Type} : DataW H → Nat
  | .lit (.string bytes) => bytes.length + 1
  | .lit _ => 1
  | .nil => 1
  | .ptr d => uptoBulk d + 1
  | .slice elems spare => uptoBulkAll elems + uptoBulkAll spare + 1
  | .agg parts => uptoBulkAll parts + 1
  | .iface _ d => uptoBulk d + 1
  | .map entries => uptoBulkEntries entries + 1
  | .held _ => 1
def uptoBulkAll {H : Type} : List (DataW H) → Nat
  | [] => 0
  | d :: r => uptoBulk d + uptoBulkAll r
def uptoBulkEntries {H : Type} : List (Lit × DataW H) → Nat
  | [] => 0
  | x :: r => uptoBulkEntry x + uptoBulkEntries r
def uptoBulkEntry {H : Type} : Lit × DataW H → Nat
  | (.string bytes, d) => bytes.length + uptoBulk d + 1
  | (_, d) => uptoBulk d + 1
 end
def uptoSmall : (H : Type) → List (DataW H) → Bool := fun _ ds => decide (uptoBulkAll ds ≤ 1048576)
def OpenSpec.upto (s : _root_.Go.ChangeSpec) : _root_.Go.OpenSpec := { _root_.Go.OpenSpec.ofChange s with cond := some uptoSmall }

/-- 'octroilaw14.FoldClean', WHERE WHAT IT READS IS OF BULK AT MOST 1048576: true; the input reads as it did. -/
def foldCleanUptoRow : OpenClaim := { program := "ytiliboioeieeoaagreatdoor", sum := "5e8b37752513af86218d571eada28d204848bf3ecadc76a07b35a32d58a0a654", func := "octroi/octroilaw14.FoldClean", spec := "foldClean", inPlace := ["internal/bytealg.IndexByteString", "internal/bytealg.IndexString", "math/bits.Sub64", "math/bits.Add64"], unfollowed := true, recurses := true, named := ["internal/bytealg.MaxLen", "octroi/tree.kinds", "math/bits.divideError", "math/bits.overflowError"], apart := false, laid := [("octroi/tree.kinds", laid_octroi_tree_kinds)], narrowed := true }
def FoldCleanUptoSaid : Prop := foldCleanUptoRow.holds Tryz.pinned (OpenSpec.upto foldCleanSpec)

/-- 'octroilaw14.FoldAgain', WHERE WHAT IT READS IS OF BULK AT MOST 1048576: true; the input reads as it did. -/
def foldAgainUptoRow : OpenClaim := { program := "ytiliboioeieeoaagreatdoor", sum := "5e8b37752513af86218d571eada28d204848bf3ecadc76a07b35a32d58a0a654", func := "octroi/octroilaw14.FoldAgain", spec := "foldAgain", inPlace := ["internal/bytealg.IndexByteString", "internal/bytealg.IndexString", "math/bits.Sub64", "math/bits.Add64"], unfollowed := true, recurses := true, named := ["internal/bytealg.MaxLen", "octroi/tree.kinds", "math/bits.divideError", "math/bits.overflowError"], apart := false, laid := [("octroi/tree.kinds", laid_octroi_tree_kinds)], narrowed := true }
def FoldAgainUptoSaid : Prop := foldAgainUptoRow.holds Tryz.pinned (OpenSpec.upto foldAgainSpec)

/-- 'octroilaw14.FoldSmaller', WHERE WHAT IT READS IS OF BULK AT MOST 1048576: true; the input reads as it did. -/
def foldSmallerUptoRow : OpenClaim := { program := "ytiliboioeieeoaagreatdoor", sum := "5e8b37752513af86218d571eada28d204848bf3ecadc76a07b35a32d58a0a654", func := "octroi/octroilaw14.FoldSmaller", spec := "foldSmaller", inPlace := ["internal/bytealg.IndexByteString", "internal/bytealg.IndexString", "math/bits.Sub64", "math/bits.Add64"], unfollowed := true, recurses := true, named := ["internal/bytealg.MaxLen", "octroi/tree.kinds", "math/bits.divideError", "math/bits.overflowError"], apart := false, laid := [("octroi/tree.kinds", laid_octroi_tree_kinds)], narrowed := true }
def FoldSmallerUptoSaid : Prop := foldSmallerUptoRow.holds Tryz.pinned (OpenSpec.upto foldSmallerSpec)

/-- 'octroilaw14.FoldMeans', WHERE WHAT IT READS IS OF BULK AT MOST 1048576: true; the input reads as it did. -/
def foldMeansUptoRow : OpenClaim := { program := "ytiliboioeieeoaagreatdoor", sum := "5e8b37752513af86218d571eada28d204848bf3ecadc76a07b35a32d58a0a654", func := "octroi/octroilaw14.FoldMeans", spec := "foldMeans", inPlace := ["internal/bytealg.IndexByteString", "internal/bytealg.IndexString", "math/bits.Sub64", "math/bits.Add64"], unfollowed := true, recurses := true, named := ["internal/bytealg.MaxLen", "octroi/tree.kinds", "math/bits.divideError", "math/bits.overflowError"], apart := false, laid := [("octroi/tree.kinds", laid_octroi_tree_kinds)], narrowed := true }
def FoldMeansUptoSaid : Prop := foldMeansUptoRow.holds Tryz.pinned (OpenSpec.upto foldMeansSpec)

end Rows
end Go.Proofs.YtiliboioeieeoaaGreatDoor
