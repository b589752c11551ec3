/-
  NARROWER THAN 'FOR EVERY INPUT', by the rows' own cells (each row's printed sentence says how): EmitPlain: laid · EmitKeeps: laid.
  DERIVED. THE GIVEN ROWS OF THIS SEAT. 2 by the template 'for every input the law returns true; each argument reads behind the call as it read before'; 0 by the template 'total and deterministic' (their statements: YtmkkoenoplginaaDoorTotals.lean).
  GIVEN WITH THE SEED: the statements are not yours to turn. If you find one false, say at which input.
  Laid BY PROGRAM, IN A SANDBOX (cutbox-rows.mjs): the forced cells as the released guide's own fill.sh prints them over the translation 8948047f0460e4ac… (all of the seat's roots in one cut). By AI agents, Wed Nov 11 2026. No macro, syntax, notation, axiom, sorry.
-/
import Derived.Test.YtmkkoenoplginaaDoorChecked
import GoSem.Claim
import GoSem.ClaimJoined
import GoSem.ClaimMapViews
import Derived.JoinedTies
import Derived.KernelRfl
namespace Go.Proofs.YtmkkoenoplginaaDoor
/- THE CELL 'sum', in the pinned program and in every row, IS THE sha256 OF THE DUMP (.gsa) THAT YtmkkoenoplginaaDoorProg.lean LOADS. Nothing in Lean hashes anything: it is a label: what it is worth is what the hold of that sum in a sandbox is worth. -/
noncomputable def Tryd.pinned : Pinned := { name := "ytmkkoenoplginaadoor", sum := "8948047f0460e4ac89876488845f3e83bb68e585f564601511a847091a8713c4", checked := Tryd.checked }
namespace Rows
def none {H : Type} : Left H := { results := [], args := [] }

/- WHAT THE LISTED PACKAGE-LEVEL VARIABLES READ AS WHEN THE CALL BEGINS. Each datum BY PROGRAM (the guide's laid-datum.mjs) off the statement by which the dump's own 'gosem.cut.vars' lays the variable. In a bare row this is a premise. The card (YtmkkoenoplginaaDoorCards.lean) ties it to the program's text. -/
def laid_octroi_tree_kinds {H : Type} : DataW H := .agg [.agg [.lit (.int .i64 0), .lit (.int .i64 0), .lit (.bool false), .lit (.bool false)], .agg [.lit (.int .i64 0), .lit (.int .i64 1000000000000), .lit (.bool false), .lit (.bool false)], .agg [.lit (.int .i64 0), .lit (.int .i64 1000000000000), .lit (.bool false), .lit (.bool false)], .agg [.lit (.int .i64 0), .lit (.int .i64 (-1)), .lit (.bool false), .lit (.bool false)], .agg [.lit (.int .i64 0), .lit (.int .i64 (-1)), .lit (.bool false), .lit (.bool false)], .agg [.lit (.int .i64 1), .lit (.int .i64 0), .lit (.bool false), .lit (.bool false)], .agg [.lit (.int .i64 2), .lit (.int .i64 0), .lit (.bool false), .lit (.bool false)], .agg [.lit (.int .i64 2), .lit (.int .i64 0), .lit (.bool false), .lit (.bool false)], .agg [.lit (.int .i64 2), .lit (.int .i64 0), .lit (.bool false), .lit (.bool false)], .agg [.lit (.int .i64 (-1)), .lit (.int .i64 0), .lit (.bool false), .lit (.bool false)], .agg [.lit (.int .i64 (-1)), .lit (.int .i64 0), .lit (.bool false), .lit (.bool false)], .agg [.lit (.int .i64 1), .lit (.int .i64 1000000000000), .lit (.bool false), .lit (.bool false)], .agg [.lit (.int .i64 1), .lit (.int .i64 1000000000000), .lit (.bool false), .lit (.bool false)], .agg [.lit (.int .i64 1), .lit (.int .i64 0), .lit (.bool true), .lit (.bool false)], .agg [.lit (.int .i64 1), .lit (.int .i64 0), .lit (.bool true), .lit (.bool false)], .agg [.lit (.int .i64 1), .lit (.int .i64 10000), .lit (.bool false), .lit (.bool false)], .agg [.lit (.int .i64 3), .lit (.int .i64 1000000000000), .lit (.bool false), .lit (.bool true)]]

/-- 'octroilaw17.EmitPlain': WHATEVER THE INPUT: true; the input reads as it did. -/
def emitPlainSpec : ChangeSpec := { name := "emitPlain", fn := fun _ => fun
  | [d] => { results := [.lit (.bool true)], args := [d] }
  | _ => none }
def emitPlainRow : OpenClaim := { program := "ytmkkoenoplginaadoor", sum := "8948047f0460e4ac89876488845f3e83bb68e585f564601511a847091a8713c4", func := "octroi/octroilaw17.EmitPlain", spec := "emitPlain", inPlace := ["internal/bytealg.IndexByteString", "internal/bytealg.IndexString", "math/bits.Sub64", "math/bits.Add64"], unfollowed := true, recurses := true, named := ["internal/bytealg.MaxLen", "octroi/tree.kinds", "math/bits.divideError", "math/bits.overflowError"], apart := false, laid := [("octroi/tree.kinds", laid_octroi_tree_kinds)] }
def EmitPlainSaid : Prop := emitPlainRow.holds Tryd.pinned (OpenSpec.ofChange emitPlainSpec)

/-- ITS FALSE NEIGHBOUR: 'it returns false'. Refute it at one input. -/
def emitPlainWrong : ChangeSpec := { name := "emitPlain", fn := fun _ => fun
  | [d] => { results := [.lit (.bool false)], args := [d] }
  | _ => none }
def EmitPlainWrongFalsely : Prop := emitPlainRow.holds Tryd.pinned (OpenSpec.ofChange emitPlainWrong)

/-- 'octroilaw17.EmitKeeps': WHATEVER THE INPUT: true; the input reads as it did. -/
def emitKeepsSpec : ChangeSpec := { name := "emitKeeps", fn := fun _ => fun
  | [d] => { results := [.lit (.bool true)], args := [d] }
  | _ => none }
def emitKeepsRow : OpenClaim := { program := "ytmkkoenoplginaadoor", sum := "8948047f0460e4ac89876488845f3e83bb68e585f564601511a847091a8713c4", func := "octroi/octroilaw17.EmitKeeps", spec := "emitKeeps", inPlace := ["internal/bytealg.IndexByteString", "internal/bytealg.IndexString", "math/bits.Sub64", "math/bits.Add64"], unfollowed := true, recurses := true, named := ["internal/bytealg.MaxLen", "octroi/tree.kinds", "math/bits.divideError", "math/bits.overflowError"], apart := false, laid := [("octroi/tree.kinds", laid_octroi_tree_kinds)] }
def EmitKeepsSaid : Prop := emitKeepsRow.holds Tryd.pinned (OpenSpec.ofChange emitKeepsSpec)

/-- ITS FALSE NEIGHBOUR: 'it returns false'. Refute it at one input. -/
def emitKeepsWrong : ChangeSpec := { name := "emitKeeps", fn := fun _ => fun
  | [d] => { results := [.lit (.bool false)], args := [d] }
  | _ => none }
def EmitKeepsWrongFalsely : Prop := emitKeepsRow.holds Tryd.pinned (OpenSpec.ofChange emitKeepsWrong)

/- THE SECOND FORM. 'bulk': how many values and letters a reading holds, each counted each time it is reached (what is shared counts as often as it is met; a slice's spare places count too). A statement '..UptoSaid' is the law's where the arguments, and the package variables that the reading takes, are together of bulk at most 1048576: NARROWER than '..Said'. Prove '..Said' where nothing that the law and all that it calls make is longer than what came in: it says more and counts as full. Else prove '..UptoSaid'. A law counts once. -/
mutual
def uptoBulk {H : Type} : DataW H → Nat
  | .lit (.string bytes) => bytes.length + 1
  | .lit _ => 1
  | .nil => 1
  | .ptr d => uptoBulk d + 1
  | .slice elems spare => uptoBulkAll elems + uptoBulkAll spare + 1
  | .agg parts => uptoBulkAll parts + 1
  | .iface _ d => uptoBulk d + 1
  | .map entries => uptoBulkEntries entries + 1
  | .held _ => 1
def uptoBulkAll {H : Type} : List (DataW H) → Nat
  | [] => 0
  | d :: r => uptoBulk d + uptoBulkAll r
def uptoBulkEntries {H : Type} : List (Lit × DataW H) → Nat
  | [] => 0
  | x :: r => uptoBulkEntry x + uptoBulkEntries r
def uptoBulkEntry {H : Type} : Lit × DataW H → Nat
  | (.string bytes, d) => bytes.length + uptoBulk d + 1
  | (_, d) => uptoBulk d + 1
 end
def uptoSmall : (H : Type) → List (DataW H) → Bool := fun _ ds => decide (uptoBulkAll ds ≤ 1048576)
def OpenSpec.upto (s : _root_.Go.ChangeSpec) : _root_.Go.OpenSpec := { _root_.Go.OpenSpec.ofChange s with cond := some uptoSmall }

/-- 'octroilaw17.EmitPlain', WHERE WHAT IT READS IS OF BULK AT MOST 1048576: true; the input reads as it did. -/
def emitPlainUptoRow : OpenClaim := { program := "ytmkkoenoplginaadoor", sum := "8948047f0460e4ac89876488845f3e83bb68e585f564601511a847091a8713c4", func := "octroi/octroilaw17.EmitPlain", spec := "emitPlain", inPlace := ["internal/bytealg.IndexByteString", "internal/bytealg.IndexString", "math/bits.Sub64", "math/bits.Add64"], unfollowed := true, recurses := true, named := ["internal/bytealg.MaxLen", "octroi/tree.kinds", "math/bits.divideError", "math/bits.overflowError"], apart := false, laid := [("octroi/tree.kinds", laid_octroi_tree_kinds)], narrowed := true }
def EmitPlainUptoSaid : Prop := emitPlainUptoRow.holds Tryd.pinned (OpenSpec.upto emitPlainSpec)

/-- 'octroilaw17.EmitKeeps', WHERE WHAT IT READS IS OF BULK AT MOST 1048576: true; the input reads as it did. -/
def emitKeepsUptoRow : OpenClaim := { program := "ytmkkoenoplginaadoor", sum := "8948047f0460e4ac89876488845f3e83bb68e585f564601511a847091a8713c4", func := "octroi/octroilaw17.EmitKeeps", spec := "emitKeeps", inPlace := ["internal/bytealg.IndexByteString", "internal/bytealg.IndexString", "math/bits.Sub64", "math/bits.Add64"], unfollowed := true, recurses := true, named := ["internal/bytealg.MaxLen", "octroi/tree.kinds", "math/bits.divideError", "math/bits.overflowError"], apart := false, laid := [("octroi/tree.kinds", laid_octroi_tree_kinds)], narrowed := true }
def EmitKeepsUptoSaid : Prop := emitKeepsUptoRow.holds Tryd.pinned (OpenSpec.upto emitKeepsSpec)

end Rows
end Go.Proofs.YtmkkoenoplginaaDoor
