import Derived.Test.YtmkkoenoplginaaDoorCards
import Derived.Test.YtmkkoenoplginaaDoorTie
import Derived.WalkKit
import Derived.ProofKit
import Derived.OpenShut
import Derived.Deep.DeepHandedRow
import Derived.Lib.LaidTab
import Derived.Shelf.Vars
import Derived.Test.YtmkkoenoplginaaDoorQKa
import Derived.Test.YtmkkoenoplginaaDoorQC1
set_option linter.unusedVariables false
set_option linter.unusedSimpArgs false
set_option linter.unusedSectionVars false
set_option maxRecDepth 100000
namespace Go.Proofs.YtmkkoenoplginaaDoor
open Go Go.VS Go.ChangeShapes Go.WideShapes Go.ChangeAt Go.RowKit
theorem own:ownKnob Tryd.prog.godebug=none:=by kernel_rfl
theorem laidOut:laidOutB Tryd.prog=true:=by kernel_rfl
theorem bulkLike (H:Type):qT (H:=H) Rows.uptoBulk Rows.uptoBulkAll where
 lit:=fun b=>by simp[Rows.uptoBulk]
 one:=fun d=>by
  cases d with
  | lit l=>cases l<;>simp[Rows.uptoBulk]
  | _=>simp[Rows.uptoBulk]
 slice:=fun es sp=>by simp[Rows.uptoBulk]
 agg:=fun ps=>by simp[Rows.uptoBulk]
 cons:=fun d r=>by simp[Rows.uptoBulkAll]
theorem maxLenCell (W:World) (h:W.ShapedOpen Tryd.prog):∃m,W.cell? ⟨3,0,none⟩=some (.int .i64 m) :=
 Go.Proofs.cell_of_shapedOpen_int (zero:=#[.int .i64 0]) (t:=3) h (of_decide_eq_true (by kernel_rfl)) (by kernel_rfl) rfl (by kernel_rfl) (by kernel_rfl) Tryd.underlying3
theorem globs {W:World} (h:laidMet Tryd.prog [("octroi/tree.kinds",Rows.laid_octroi_tree_kinds)] W) (hs:W.ShapedOpen Tryd.prog):∃ m,uU (G m) W noX:=by
 obtain ⟨m,hm⟩:=maxLenCell W hs;refine ⟨m,?_⟩;have hk:uU (fun k=>lk none k [(0,some ⟨yE,x6⟩)]) W noX :=
  glob_of (t:=99) (e:=98) (m:=17) (n:=20) (c:=yE) (l:=x6) (by kernel_rfl) (by kernel_rfl) (by kernel_rfl) (by kernel_rfl) (by kernel_rfl) (by kernel_rfl) (by kernel_rfl) (by kernel_rfl) h
 have:=Rl (g:=3) hm hk;intro g o hg;refine this g o ?_;unfold G at hg;simp only[lk] at hg ⊢;cases h1:Nat.beq g 0 with
 | true =>
  have:g=0:=Nat.eq_of_beq_eq_true h1;subst this;exact hg
 | false =>
  rw[h1] at hg;cases h2:Nat.beq g 3 with
  | true=>rw[h2] at hg; exact hg
  | false=>rw[h2] at hg; simp at hg
noncomputable def laidWorld (os:Os):World :=
 {World.holding Tryd.prog os ⟨#[],#[],[]⟩ with heap:=(World.holding Tryd.prog os ⟨#[],#[],[]⟩).heap.modify 0 fun
   | .cells _ t frozen=>.cells (x6.flatMap (qe yE)).toArray t frozen
   | o=>o}
end Go.Proofs.YtmkkoenoplginaaDoor
