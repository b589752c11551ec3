import Derived.Test.YthekefnghiaocaaGreatDoorC1
set_option linter.unusedVariables false
set_option linter.unusedSimpArgs false
set_option linter.unusedSectionVars false
set_option linter.unusedVariables false
set_option maxRecDepth 100000
namespace Go.VS
open Go
def octroilaw10_EvalPrices.te:List (Nat×KS):=[(1,.b (.sl (.int .i64))),(2,.loc 2),(4,.c .bool),(5,.c (.int .i64)),(6,.c (.int .i64)),(7,.c (.int .i64)),(8,.c (.int .i64)),(9,.c (.int .i64)),(11,.c .bool),(19,.c .bool),(47,.c .bool)]
def octroilaw10_EvalPrices.tb:List (Nat×KS):=[(2,.g tPlan)]
def octroilaw10_EvalPrices.h:Nat→Shape:=shN octroilaw10_EvalPrices.te octroilaw10_EvalPrices.tb [] [(0,3,1,0),(1,259,1,0),(2,4,0,0),(3,11,1,0),(4,523,1,0),(5,11,1,0),(6,59,1,0),(7,251,1,0),(8,1035,1,0),(9,4,0,0),(10,4,0,0)]
def octroilaw10_EvalPrices.hl:Nat→Shape:=shN octroilaw10_EvalPrices.te octroilaw10_EvalPrices.tb [] [(4,11,1,0)]
def octroilaw10_EvalPrices.L4 (F:Nat) (R:Type) (K:Ex→St→Option R) (n:Nat) (x:((List (List Int))×Unit×Int×Unit)×(tPlan.T×Unit)×(Unit)):Option R :=
 octroilaw10_EvalPrices.l4 F (fun r4=>K .ret (encS (octroilaw10_EvalPrices.h 9) ((r4,()),(),()))) (fun list i t19 p=>K (.exit 0) (encS (octroilaw10_EvalPrices.h 4) ((list,(),i,t19,()),(p,()),()))) n x.1.1 x.1.2.2.1 x.2.1.1
def octroilaw10_EvalPrices.X (m:Int) (F:Nat):FX TI (G m) Sg:={hn:={na:=2},lv:=[⟨5,octroilaw10_awake.sp F⟩,⟨11,eval_Price.sp F⟩,⟨12,octroiref10_Price.sp F⟩],N:=48,H:=octroilaw10_EvalPrices.h,HL:=octroilaw10_EvalPrices.hl,L:=mkL octroilaw10_EvalPrices.hl [⟨4,fun x R K=>octroilaw10_EvalPrices.L4 F R K F x⟩]}
theorem octroilaw10_EvalPrices.a0 (m:Int) (F:Nat):(octroilaw10_EvalPrices.X m F).lp (loopsOf (bd Go.Proofs.Tryz.f4)) 0:=FX.loop _ _ 0 4 F (by kernel_rfl) (octroilaw10_EvalPrices.L4 F) (fun _ _ _=>by kernel_rfl) (fun _ _ _ _=>by kernel_rfl) (fun _ _ _=>by kernel_rfl)
theorem octroilaw10_EvalPrices.ok (m:Int) (F:Nat):OK Go.Proofs.Tryz.prog (G m) 4 octroilaw10_EvalPrices.sg (octroilaw10_EvalPrices.sp F) :=
 func_x (octroilaw10_EvalPrices.X m F) mixed tsOK ⟨octroilaw10_awake.ok m F,eval_Price.ok m F,octroiref10_Price.ok m F,trivial⟩ trivial Go.Proofs.Tryz.func4 1 0 (by kernel_rfl) (at_cons (octroilaw10_EvalPrices.a0 m F) at_nil) at_nil (fun _=>by kernel_rfl)
end Go.VS
