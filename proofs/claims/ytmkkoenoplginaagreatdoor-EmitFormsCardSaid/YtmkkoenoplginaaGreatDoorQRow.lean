import Derived.Test.YtmkkoenoplginaaGreatDoorCards
import Derived.Test.YtmkkoenoplginaaGreatDoorTie
import Derived.WalkKit
import Derived.ProofKit
import Derived.OpenShut
import Derived.Deep.DeepHandedRow
import Derived.Lib.LaidTab
import Derived.Shelf.Vars
import Derived.Test.YtmkkoenoplginaaGreatDoorQKb
import Derived.Test.YtmkkoenoplginaaGreatDoorQC1
set_option linter.unusedVariables false
set_option linter.unusedSimpArgs false
set_option linter.unusedSectionVars false
set_option maxRecDepth 100000
namespace Go.Proofs.YtmkkoenoplginaaGreatDoor
open Go Go.VS Go.ChangeShapes Go.WideShapes Go.ChangeAt Go.RowKit
theorem own:ownKnob Tryz.prog.godebug=none:=by kernel_rfl
theorem laidOut:laidOutB Tryz.prog=true:=by kernel_rfl
theorem bulkLike (H:Type):Ze (H:=H) Rows.uptoBulk Rows.uptoBulkAll where
 lit:=fun b=>by simp[Rows.uptoBulk]
 one:=fun d=>by
  cases d with
  | lit l=>cases l<;>simp[Rows.uptoBulk]
  | _=>simp[Rows.uptoBulk]
 slice:=fun es sp=>by simp[Rows.uptoBulk]
 agg:=fun ps=>by simp[Rows.uptoBulk]
 cons:=fun d r=>by simp[Rows.uptoBulkAll]
theorem maxLenCell (W:World) (h:W.ShapedOpen Tryz.prog):∃m,W.cell? ⟨3,0,none⟩=some (.int .i64 m) :=
 Go.Proofs.cell_of_shapedOpen_int (zero:=#[.int .i64 0]) (t:=3) h (of_decide_eq_true (by kernel_rfl)) (by kernel_rfl) rfl (by kernel_rfl) (by kernel_rfl) Tryz.underlying3
theorem globs {W:World} (h:laidMet Tryz.prog [("octroi/tree.kinds",Rows.laid_octroi_tree_kinds)] W) (hs:W.ShapedOpen Tryz.prog):∃ m,tg (G m) W noX:=by
 obtain ⟨m,hm⟩:=maxLenCell W hs;refine ⟨m,?_⟩;have hk:tg (fun k=>lk none k [(0,some ⟨yG,we⟩)]) W noX :=
  glob_of (t:=91) (e:=90) (m:=17) (n:=20) (c:=yG) (l:=we) (by kernel_rfl) (by kernel_rfl) (by kernel_rfl) (by kernel_rfl) (by kernel_rfl) (by kernel_rfl) (by kernel_rfl) (by kernel_rfl) h
 have:=R5 (g:=3) hm hk;intro g o hg;refine this g o ?_;unfold G at hg;simp only[lk] at hg ⊢;cases h1:Nat.beq g 0 with
 | true =>
  have:g=0:=Nat.eq_of_beq_eq_true h1;subst this;exact hg
 | false =>
  rw[h1] at hg;cases h2:Nat.beq g 3 with
  | true=>rw[h2] at hg; exact hg
  | false=>rw[h2] at hg; simp at hg
noncomputable def laidWorld (os:Os):World :=
 {World.holding Tryz.prog os ⟨#[],#[],[]⟩ with heap:=(World.holding Tryz.prog os ⟨#[],#[],[]⟩).heap.modify 0 fun
   | .cells _ t frozen=>.cells (we.flatMap (qr yG)).toArray t frozen
   | o=>o}
end Go.Proofs.YtmkkoenoplginaaGreatDoor
