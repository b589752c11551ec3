/-
  NARROWER THAN 'FOR EVERY INPUT', by the rows' own cells (each row's printed sentence says how): NormalTables: laid · NormalRaw: laid · NormalGrows: laid · NormalMeans: laid.
  DERIVED. THE GIVEN ROWS OF THIS SEAT. 4 by the template 'for every input the law returns true; each argument reads behind the call as it read before'; 0 by the template 'total and deterministic' (their statements: YtepflleaeogafaaGreatDoorTotals.lean).
  GIVEN WITH THE SEED: the statements are not yours to turn. If you find one false, say at which input.
  Laid BY PROGRAM, IN A SANDBOX (cutbox-rows.mjs): the forced cells as the released guide's own fill.sh prints them over the translation 9a123d734adee389… (all of the seat's roots in one cut). By AI agents, Wed Nov 11 2026. No macro, syntax, notation, axiom, sorry.
-/
import Derived.Test.YtepflleaeogafaaGreatDoorChecked
import GoSem.Claim
import GoSem.ClaimJoined
import GoSem.ClaimMapViews
import Derived.JoinedTies
import Derived.KernelRfl
namespace Go.Proofs.YtepflleaeogafaaGreatDoor
/- THE CELL 'sum', in the pinned program and in every row, IS THE sha256 OF THE DUMP (.gsa) THAT YtepflleaeogafaaGreatDoorProg.lean LOADS. Nothing in Lean hashes anything: it is a label: what it is worth is what the hold of that sum in a sandbox is worth. -/
noncomputable def Tryz.pinned : Pinned := { name := "ytepflleaeogafaagreatdoor", sum := "9a123d734adee389ae8043267608247573ee3a92a4c2b0c92a5e040bb497a993", checked := Tryz.checked }
namespace Rows
def none {H : Type} : Left H := { results := [], args := [] }

/- WHAT THE LISTED PACKAGE-LEVEL VARIABLES READ AS WHEN THE CALL BEGINS. Each datum BY PROGRAM (the guide's laid-datum.mjs) off the statement by which the dump's own 'gosem.cut.vars' lays the variable. In a bare row this is a premise. The card (YtepflleaeogafaaGreatDoorCards.lean) ties it to the program's text. -/
def laid_octroi_tree_kinds {H : Type} : DataW H := .agg [.agg [.lit (.int .i64 0), .lit (.int .i64 0), .lit (.bool false), .lit (.bool false)], .agg [.lit (.int .i64 0), .lit (.int .i64 1000000000000), .lit (.bool false), .lit (.bool false)], .agg [.lit (.int .i64 0), .lit (.int .i64 1000000000000), .lit (.bool false), .lit (.bool false)], .agg [.lit (.int .i64 0), .lit (.int .i64 (-1)), .lit (.bool false), .lit (.bool false)], .agg [.lit (.int .i64 0), .lit (.int .i64 (-1)), .lit (.bool false), .lit (.bool false)], .agg [.lit (.int .i64 1), .lit (.int .i64 0), .lit (.bool false), .lit (.bool false)], .agg [.lit (.int .i64 2), .lit (.int .i64 0), .lit (.bool false), .lit (.bool false)], .agg [.lit (.int .i64 2), .lit (.int .i64 0), .lit (.bool false), .lit (.bool false)], .agg [.lit (.int .i64 2), .lit (.int .i64 0), .lit (.bool false), .lit (.bool false)], .agg [.lit (.int .i64 (-1)), .lit (.int .i64 0), .lit (.bool false), .lit (.bool false)], .agg [.lit (.int .i64 (-1)), .lit (.int .i64 0), .lit (.bool false), .lit (.bool false)], .agg [.lit (.int .i64 1), .lit (.int .i64 1000000000000), .lit (.bool false), .lit (.bool false)], .agg [.lit (.int .i64 1), .lit (.int .i64 1000000000000), .lit (.bool false), .lit (.bool false)], .agg [.lit (.int .i64 1), .lit (.int .i64 0), .lit (.bool true), .lit (.bool false)], .agg [.lit (.int .i64 1), .lit (.int .i64 0), .lit (.bool true), .lit (.bool false)], .agg [.lit (.int .i64 1), .lit (.int .i64 10000), .lit (.bool false), .lit (.bool false)], .agg [.lit (.int .i64 3), .lit (.int .i64 1000000000000), .lit (.bool false), .lit (.bool true)]]

/-- 'octroilaw12.NormalTables': WHATEVER THE INPUT: true; the input reads as it did. -/
def normalTablesSpec : ChangeSpec := { name := "normalTables", fn := fun _ => fun
  | [d] => { results := [.lit (.bool true)], args := [d] }
  | _ => none }
def normalTablesRow : OpenClaim := { program := "ytepflleaeogafaagreatdoor", sum := "9a123d734adee389ae8043267608247573ee3a92a4c2b0c92a5e040bb497a993", func := "octroi/octroilaw12.NormalTables", spec := "normalTables", inPlace := ["internal/bytealg.IndexByteString", "internal/bytealg.IndexString", "math/bits.Sub64", "math/bits.Add64"], unfollowed := true, recurses := true, named := ["internal/bytealg.MaxLen", "octroi/tree.kinds", "math/bits.divideError", "math/bits.overflowError"], apart := false, laid := [("octroi/tree.kinds", laid_octroi_tree_kinds)] }
def NormalTablesSaid : Prop := normalTablesRow.holds Tryz.pinned (OpenSpec.ofChange normalTablesSpec)

/-- ITS FALSE NEIGHBOUR: 'it returns false'. Refute it at one input. -/
def normalTablesWrong : ChangeSpec := { name := "normalTables", fn := fun _ => fun
  | [d] => { results := [.lit (.bool false)], args := [d] }
  | _ => none }
def NormalTablesWrongFalsely : Prop := normalTablesRow.holds Tryz.pinned (OpenSpec.ofChange normalTablesWrong)

/-- 'octroilaw12.NormalRaw': WHATEVER THE INPUT: true; the input reads as it did. -/
def normalRawSpec : ChangeSpec := { name := "normalRaw", fn := fun _ => fun
  | [d1, d2] => { results := [.lit (.bool true)], args := [d1, d2] }
  | _ => none }
def normalRawRow : OpenClaim := { program := "ytepflleaeogafaagreatdoor", sum := "9a123d734adee389ae8043267608247573ee3a92a4c2b0c92a5e040bb497a993", func := "octroi/octroilaw12.NormalRaw", spec := "normalRaw", inPlace := ["internal/bytealg.IndexByteString", "internal/bytealg.IndexString", "math/bits.Sub64", "math/bits.Add64"], unfollowed := true, recurses := true, named := ["internal/bytealg.MaxLen", "octroi/tree.kinds", "math/bits.divideError", "math/bits.overflowError"], apart := false, laid := [("octroi/tree.kinds", laid_octroi_tree_kinds)] }
def NormalRawSaid : Prop := normalRawRow.holds Tryz.pinned (OpenSpec.ofChange normalRawSpec)

/-- ITS FALSE NEIGHBOUR: 'it returns false'. Refute it at one input. -/
def normalRawWrong : ChangeSpec := { name := "normalRaw", fn := fun _ => fun
  | [d1, d2] => { results := [.lit (.bool false)], args := [d1, d2] }
  | _ => none }
def NormalRawWrongFalsely : Prop := normalRawRow.holds Tryz.pinned (OpenSpec.ofChange normalRawWrong)

/-- 'octroilaw12.NormalGrows': WHATEVER THE INPUT: true; the input reads as it did. -/
def normalGrowsSpec : ChangeSpec := { name := "normalGrows", fn := fun _ => fun
  | [d1, d2] => { results := [.lit (.bool true)], args := [d1, d2] }
  | _ => none }
def normalGrowsRow : OpenClaim := { program := "ytepflleaeogafaagreatdoor", sum := "9a123d734adee389ae8043267608247573ee3a92a4c2b0c92a5e040bb497a993", func := "octroi/octroilaw12.NormalGrows", spec := "normalGrows", inPlace := ["internal/bytealg.IndexByteString", "internal/bytealg.IndexString", "math/bits.Sub64", "math/bits.Add64"], unfollowed := true, recurses := true, named := ["internal/bytealg.MaxLen", "octroi/tree.kinds", "math/bits.divideError", "math/bits.overflowError"], apart := false, laid := [("octroi/tree.kinds", laid_octroi_tree_kinds)] }
def NormalGrowsSaid : Prop := normalGrowsRow.holds Tryz.pinned (OpenSpec.ofChange normalGrowsSpec)

/-- ITS FALSE NEIGHBOUR: 'it returns false'. Refute it at one input. -/
def normalGrowsWrong : ChangeSpec := { name := "normalGrows", fn := fun _ => fun
  | [d1, d2] => { results := [.lit (.bool false)], args := [d1, d2] }
  | _ => none }
def NormalGrowsWrongFalsely : Prop := normalGrowsRow.holds Tryz.pinned (OpenSpec.ofChange normalGrowsWrong)

/-- 'octroilaw12.NormalMeans': WHATEVER THE INPUT: true; the input reads as it did. -/
def normalMeansSpec : ChangeSpec := { name := "normalMeans", fn := fun _ => fun
  | [d1, d2] => { results := [.lit (.bool true)], args := [d1, d2] }
  | _ => none }
def normalMeansRow : OpenClaim := { program := "ytepflleaeogafaagreatdoor", sum := "9a123d734adee389ae8043267608247573ee3a92a4c2b0c92a5e040bb497a993", func := "octroi/octroilaw12.NormalMeans", spec := "normalMeans", inPlace := ["internal/bytealg.IndexByteString", "internal/bytealg.IndexString", "math/bits.Sub64", "math/bits.Add64"], unfollowed := true, recurses := true, named := ["internal/bytealg.MaxLen", "octroi/tree.kinds", "math/bits.divideError", "math/bits.overflowError"], apart := false, laid := [("octroi/tree.kinds", laid_octroi_tree_kinds)] }
def NormalMeansSaid : Prop := normalMeansRow.holds Tryz.pinned (OpenSpec.ofChange normalMeansSpec)

/-- ITS FALSE NEIGHBOUR: 'it returns false'. Refute it at one input. -/
def normalMeansWrong : ChangeSpec := { name := "normalMeans", fn := fun _ => fun
  | [d1, d2] => { results := [.lit (.bool false)], args := [d1, d2] }
  | _ => none }
def NormalMeansWrongFalsely : Prop := normalMeansRow.holds Tryz.pinned (OpenSpec.ofChange normalMeansWrong)

/- THE SECOND FORM. 'bulk': how many values and letters a reading holds, each counted each time it is reached (what is shared counts as often as it is met; a slice's spare places count too). A statement '..UptoSaid' is the law's where the arguments, and the package variables that the reading takes, are together of bulk at most 1048576: NARROWER than '..Said'. Prove '..Said' where nothing that the law and all that it calls make is longer than what came in: it says more and counts as full. Else prove '..UptoSaid'. A law counts once. -/
mutual
def uptoBulk {H : Type} : DataW H → Nat
  | .lit (.string bytes) => bytes.length + 1
  | .lit _ => 1
  | .nil => 1
  | .ptr d => uptoBulk d + 1
  | .slice elems spare => uptoBulkAll elems + uptoBulkAll spare + 1
  | .agg parts => uptoBulkAll parts + 1
  | .iface _ d => uptoBulk d + 1
  | .map entries => uptoBulkEntries entries + 1
  | .held _ => 1
def uptoBulkAll {H : Type} : List (DataW H) → Nat
  | [] => 0
  | d :: r => uptoBulk d + uptoBulkAll r
def uptoBulkEntries {H : Type} : List (Lit × DataW H) → Nat
  | [] => 0
  | x :: r => uptoBulkEntry x + uptoBulkEntries r
def uptoBulkEntry {H : Type} : Lit × DataW H → Nat
  | (.string bytes, d) => bytes.length + uptoBulk d + 1
  | (_, d) => uptoBulk d + 1
 end
def uptoSmall : (H : Type) → List (DataW H) → Bool := fun _ ds => decide (uptoBulkAll ds ≤ 1048576)
def OpenSpec.upto (s : _root_.Go.ChangeSpec) : _root_.Go.OpenSpec := { _root_.Go.OpenSpec.ofChange s with cond := some uptoSmall }

/-- 'octroilaw12.NormalTables', WHERE WHAT IT READS IS OF BULK AT MOST 1048576: true; the input reads as it did. -/
def normalTablesUptoRow : OpenClaim := { program := "ytepflleaeogafaagreatdoor", sum := "9a123d734adee389ae8043267608247573ee3a92a4c2b0c92a5e040bb497a993", func := "octroi/octroilaw12.NormalTables", spec := "normalTables", inPlace := ["internal/bytealg.IndexByteString", "internal/bytealg.IndexString", "math/bits.Sub64", "math/bits.Add64"], unfollowed := true, recurses := true, named := ["internal/bytealg.MaxLen", "octroi/tree.kinds", "math/bits.divideError", "math/bits.overflowError"], apart := false, laid := [("octroi/tree.kinds", laid_octroi_tree_kinds)], narrowed := true }
def NormalTablesUptoSaid : Prop := normalTablesUptoRow.holds Tryz.pinned (OpenSpec.upto normalTablesSpec)

/-- 'octroilaw12.NormalRaw', WHERE WHAT IT READS IS OF BULK AT MOST 1048576: true; the input reads as it did. -/
def normalRawUptoRow : OpenClaim := { program := "ytepflleaeogafaagreatdoor", sum := "9a123d734adee389ae8043267608247573ee3a92a4c2b0c92a5e040bb497a993", func := "octroi/octroilaw12.NormalRaw", spec := "normalRaw", inPlace := ["internal/bytealg.IndexByteString", "internal/bytealg.IndexString", "math/bits.Sub64", "math/bits.Add64"], unfollowed := true, recurses := true, named := ["internal/bytealg.MaxLen", "octroi/tree.kinds", "math/bits.divideError", "math/bits.overflowError"], apart := false, laid := [("octroi/tree.kinds", laid_octroi_tree_kinds)], narrowed := true }
def NormalRawUptoSaid : Prop := normalRawUptoRow.holds Tryz.pinned (OpenSpec.upto normalRawSpec)

/-- 'octroilaw12.NormalGrows', WHERE WHAT IT READS IS OF BULK AT MOST 1048576: true; the input reads as it did. -/
def normalGrowsUptoRow : OpenClaim := { program := "ytepflleaeogafaagreatdoor", sum := "9a123d734adee389ae8043267608247573ee3a92a4c2b0c92a5e040bb497a993", func := "octroi/octroilaw12.NormalGrows", spec := "normalGrows", inPlace := ["internal/bytealg.IndexByteString", "internal/bytealg.IndexString", "math/bits.Sub64", "math/bits.Add64"], unfollowed := true, recurses := true, named := ["internal/bytealg.MaxLen", "octroi/tree.kinds", "math/bits.divideError", "math/bits.overflowError"], apart := false, laid := [("octroi/tree.kinds", laid_octroi_tree_kinds)], narrowed := true }
def NormalGrowsUptoSaid : Prop := normalGrowsUptoRow.holds Tryz.pinned (OpenSpec.upto normalGrowsSpec)

/-- 'octroilaw12.NormalMeans', WHERE WHAT IT READS IS OF BULK AT MOST 1048576: true; the input reads as it did. -/
def normalMeansUptoRow : OpenClaim := { program := "ytepflleaeogafaagreatdoor", sum := "9a123d734adee389ae8043267608247573ee3a92a4c2b0c92a5e040bb497a993", func := "octroi/octroilaw12.NormalMeans", spec := "normalMeans", inPlace := ["internal/bytealg.IndexByteString", "internal/bytealg.IndexString", "math/bits.Sub64", "math/bits.Add64"], unfollowed := true, recurses := true, named := ["internal/bytealg.MaxLen", "octroi/tree.kinds", "math/bits.divideError", "math/bits.overflowError"], apart := false, laid := [("octroi/tree.kinds", laid_octroi_tree_kinds)], narrowed := true }
def NormalMeansUptoSaid : Prop := normalMeansUptoRow.holds Tryz.pinned (OpenSpec.upto normalMeansSpec)

end Rows
end Go.Proofs.YtepflleaeogafaaGreatDoor
