import Derived.Test.YtepflleaeogafaaGreatDoorQC1
set_option linter.unusedVariables false
set_option linter.unusedSimpArgs false
set_option linter.unusedSectionVars false
set_option linter.unusedVariables false
set_option maxRecDepth 100000
namespace Go.VS
open Go
def bound_Mags.te:List (Nat×KS):=[(1,.loc 1),(2,.c (.sl tWide)),(3,.c (.int .i64)),(4,.c (.int .i64)),(5,.loc 5),(6,.c (.int .i64)),(7,.c (.int .i64)),(8,.c (.sl tWide)),(16,.c .bool),(26,.c .bool)]
def bound_Mags.tb:List (Nat×KS):=[(1,.g tPlan),(5,.g tWide)]
def bound_Mags.h:Nat→Shape:=shN bound_Mags.te bound_Mags.tb [] [(0,1,1,0),(1,113,3,0),(2,369,3,0),(3,14,0,0),(4,160,0,0),(5,672,0,0),(6,14,0,0),(7,14,0,0)]
def bound_Mags.X (m:Int) (F:Nat):FX TI (G m) Sg:={hn:={na:=1},lv:=[⟨23,bound_Unit.sp F⟩,⟨40,bound_measured.sp F⟩],N:=29,H:=bound_Mags.h}
theorem bound_Mags.ok (m:Int) (F:Nat):OK Go.Proofs.Tryz.prog (G m) 18 bound_Mags.sg (bound_Mags.sp F) :=
 func_x (bound_Mags.X m F) mixed tsOK ⟨bound_Unit.ok m F,bound_measured.ok m F,trivial⟩ trivial Go.Proofs.Tryz.func18 0 0 (by kernel_rfl) at_nil at_nil (fun _=>by kernel_rfl)
def eval_kids.te:List (Nat×KS):=[(1,.loc 1),(2,.c (.int .i64)),(4,.c (.int .i64)),(5,.c .bool),(10,.c .bool),(14,.c .bool),(19,.c .bool)]
def eval_kids.tb:List (Nat×KS):=[(1,.g tNode)]
def eval_kids.h:Nat→Shape:=shN eval_kids.te eval_kids.tb [] [(0,1,1,0),(1,5,1,0),(2,13,1,0),(3,13,1,0),(4,13,1,0),(5,13,1,0),(6,2,0,0),(7,21,1,0),(8,21,1,0),(9,21,1,0),(10,2,0,0),(11,37,1,0),(12,37,1,0),(13,2,0,0),(14,64,0,0),(15,2,0,0),(16,2,0,0)]
def eval_kids.hj:Nat→Option Shape:=shO eval_kids.te eval_kids.tb [] [(6,13,1,0),(10,21,1,0)]
def eval_kids.J10 (F:Nat) (R:Type) (K:Ex→St→Option R) (x:(Unit×Int×Bool×Unit)×(tNode.T×Unit)×(Unit)):Option R :=
 eval_kids.j10 F (fun r2=>K .ret (encS (eval_kids.h 10) ((r2,()),(),()))) (fun r2=>K .ret (encS (eval_kids.h 13) ((r2,()),(),()))) (fun r2=>K .ret (encS (eval_kids.h 15) ((r2,()),(),()))) (fun t19=>K .normal (encS (eval_kids.h 14) ((t19,()),(),()))) x.1.2.1 x.1.2.2.1 x.2.1.1
def eval_kids.J6 (F:Nat) (R:Type) (K:Ex→St→Option R) (x:(Unit×Int×Bool×Unit)×(tNode.T×Unit)×(Unit)):Option R :=
 eval_kids.j6 F (fun r2=>K .ret (encS (eval_kids.h 6) ((r2,()),(),()))) (fun r2=>K .ret (encS (eval_kids.h 10) ((r2,()),(),()))) (fun r2=>K .ret (encS (eval_kids.h 13) ((r2,()),(),()))) (fun r2=>K .ret (encS (eval_kids.h 15) ((r2,()),(),()))) (fun t19=>K .normal (encS (eval_kids.h 14) ((t19,()),(),()))) x.1.2.1 x.1.2.2.1 x.2.1.1
def eval_kids.X (m:Int) (F:Nat):FX TI (G m) Sg:={hn:={na:=1},N:=21,H:=eval_kids.h,HJ:=eval_kids.hj,J:=mkJ eval_kids.hj [⟨10,fun x R K=>eval_kids.J10 F R K x⟩,⟨6,fun x R K=>eval_kids.J6 F R K x⟩]}
theorem eval_kids.c0 (m:Int) (F:Nat):(eval_kids.X m F).ct (cutsOf (eval_kids.X m F).HJ (bd Go.Proofs.Tryz.f76)) 0:=FX.cut _ _ 0 6 (by kernel_rfl) (fun _ _ _=>by kernel_rfl)
theorem eval_kids.c1 (m:Int) (F:Nat):(eval_kids.X m F).ct (cutsOf (eval_kids.X m F).HJ (bd Go.Proofs.Tryz.f76)) 1:=FX.cut _ _ 1 10 (by kernel_rfl) (fun _ _ _=>by kernel_rfl)
theorem eval_kids.ok (m:Int) (F:Nat):OK Go.Proofs.Tryz.prog (G m) 76 eval_kids.sg (eval_kids.sp F) :=
 func_x (eval_kids.X m F) mixed tsOK trivial trivial Go.Proofs.Tryz.func76 0 2 (by kernel_rfl) at_nil (at_cons (eval_kids.c1 m F) (at_cons (eval_kids.c0 m F) at_nil)) (fun _=>by kernel_rfl)
def eval_sub.te:List (Nat×KS):=[(2,.loc 2),(3,.loc 3),(4,.loc 4),(5,.loc 5)]
def eval_sub.tb:List (Nat×KS):=[(2,.g tWide),(3,.g tWide),(4,.g tWide),(5,.g tWide)]
def eval_sub.h:Nat→Shape:=shN eval_sub.te eval_sub.tb [] [(0,7,7,0),(1,12,12,0),(2,4,4,0)]
def eval_sub.X (m:Int) (F:Nat):FX TI (G m) Sg:={hn:={na:=2},lv:=[⟨16,wide_Sub.sp F⟩],N:=14,H:=eval_sub.h}
theorem eval_sub.ok (m:Int) (F:Nat):OK Go.Proofs.Tryz.prog (G m) 120 eval_sub.sg (eval_sub.sp F) :=
 func_x (eval_sub.X m F) mixed tsOK ⟨wide_Sub.ok m F,trivial⟩ trivial Go.Proofs.Tryz.func120 0 0 (by kernel_rfl) at_nil at_nil (fun _=>by kernel_rfl)
def eval_add.te:List (Nat×KS):=[(2,.loc 2),(3,.loc 3),(4,.loc 4),(5,.loc 5)]
def eval_add.tb:List (Nat×KS):=[(2,.g tWide),(3,.g tWide),(4,.g tWide),(5,.g tWide)]
def eval_add.h:Nat→Shape:=shN eval_add.te eval_add.tb [] [(0,7,7,0),(1,12,12,0),(2,4,4,0)]
def eval_add.X (m:Int) (F:Nat):FX TI (G m) Sg:={hn:={na:=2},lv:=[⟨15,wide_Add.sp F⟩],N:=14,H:=eval_add.h}
theorem eval_add.ok (m:Int) (F:Nat):OK Go.Proofs.Tryz.prog (G m) 121 eval_add.sg (eval_add.sp F) :=
 func_x (eval_add.X m F) mixed tsOK ⟨wide_Add.ok m F,trivial⟩ trivial Go.Proofs.Tryz.func121 0 0 (by kernel_rfl) at_nil at_nil (fun _=>by kernel_rfl)
def eval_mul.te:List (Nat×KS):=[(2,.loc 2),(3,.loc 3),(4,.loc 4),(5,.loc 5)]
def eval_mul.tb:List (Nat×KS):=[(2,.g tWide),(3,.g tWide),(4,.g tWide),(5,.g tWide)]
def eval_mul.h:Nat→Shape:=shN eval_mul.te eval_mul.tb [] [(0,7,7,0),(1,12,12,0),(2,4,4,0)]
def eval_mul.X (m:Int) (F:Nat):FX TI (G m) Sg:={hn:={na:=2},lv:=[⟨47,times_Mul.sp F⟩],N:=14,H:=eval_mul.h}
theorem eval_mul.ok (m:Int) (F:Nat):OK Go.Proofs.Tryz.prog (G m) 122 eval_mul.sg (eval_mul.sp F) :=
 func_x (eval_mul.X m F) mixed tsOK ⟨times_Mul.ok m F,trivial⟩ trivial Go.Proofs.Tryz.func122 0 0 (by kernel_rfl) at_nil at_nil (fun _=>by kernel_rfl)
def slices_MinFunc_Wide.te:List (Nat×KS):=[(0,.b tWide),(1,.c .fn),(4,.loc 4),(5,.loc 5),(6,.c (.int .i64)),(9,.c .bool),(17,.c .bool),(27,.c .bool)]
def slices_MinFunc_Wide.tb:List (Nat×KS):=[(4,.g tWide),(5,.g tWide)]
def slices_MinFunc_Wide.h:Nat→Shape:=shN slices_MinFunc_Wide.te slices_MinFunc_Wide.tb [] [(0,7,1,0),(1,39,1,0),(3,15,3,0),(4,31,3,0),(5,95,3,0),(6,31,3,0),(7,159,3,0),(8,31,3,0),(9,4,1,0)]
def slices_MinFunc_Wide.hl:Nat→Shape:=shN slices_MinFunc_Wide.te slices_MinFunc_Wide.tb [] [(5,31,3,0)]
def slices_MinFunc_Wide.L5 (F:Nat) (R:Type) (K:Ex→St→Option R) (n:Nat) (x:((List tWide.T)×Nat×Unit×Unit×Int×Unit)×(tWide.T×tWide.T×Unit)×(Unit)):Option R :=
 slices_MinFunc_Wide.l5 F (fun x cmp i t17 r4 m=>K (.exit 0) (encS (slices_MinFunc_Wide.h 5) ((x,cmp,(),(),i,t17,()),(r4,m,()),()))) n x.1.1 x.1.2.1 x.1.2.2.2.2.1 x.2.1.1 x.2.1.2.1
def slices_MinFunc_Wide.X (m:Int) (F:Nat):FX TI (G m) Sg:={hn:={DS:=fun d=>lk none d [(26,some slices_MinFunc_Wide.ds26)],na:=2},ld:=[⟨26,slices_MinFunc_Wide.d26 F⟩],N:=33,H:=slices_MinFunc_Wide.h,HL:=slices_MinFunc_Wide.hl,L:=mkL slices_MinFunc_Wide.hl [⟨5,fun x R K=>slices_MinFunc_Wide.L5 F R K F x⟩]}
theorem slices_MinFunc_Wide.a0 (m:Int) (F:Nat):(slices_MinFunc_Wide.X m F).lp (loopsOf (bd Go.Proofs.Tryz.f123)) 0:=FX.loop _ _ 0 5 F (by kernel_rfl) (slices_MinFunc_Wide.L5 F) (fun _ _ _=>by kernel_rfl) (fun _ _ _ _=>by kernel_rfl) (fun _ _ _=>by kernel_rfl)
theorem slices_MinFunc_Wide.ok (m:Int) (F:Nat):OK Go.Proofs.Tryz.prog (G m) 123 slices_MinFunc_Wide.sg (slices_MinFunc_Wide.sp F) :=
 func_x (slices_MinFunc_Wide.X m F) mixed tsOK trivial ⟨mkT_ok ⟨⟨119,by kernel_rfl,wide_Cmp.ok m F⟩,trivial⟩,trivial⟩ Go.Proofs.Tryz.func123 1 0 (by kernel_rfl) (at_cons (slices_MinFunc_Wide.a0 m F) at_nil) at_nil (fun _=>by kernel_rfl)
def slices_MaxFunc_Wide.te:List (Nat×KS):=[(0,.b tWide),(1,.c .fn),(4,.loc 4),(5,.loc 5),(6,.c (.int .i64)),(9,.c .bool),(17,.c .bool),(27,.c .bool)]
def slices_MaxFunc_Wide.tb:List (Nat×KS):=[(4,.g tWide),(5,.g tWide)]
def slices_MaxFunc_Wide.h:Nat→Shape:=shN slices_MaxFunc_Wide.te slices_MaxFunc_Wide.tb [] [(0,7,1,0),(1,39,1,0),(3,15,3,0),(4,31,3,0),(5,95,3,0),(6,31,3,0),(7,159,3,0),(8,31,3,0),(9,4,1,0)]
def slices_MaxFunc_Wide.hl:Nat→Shape:=shN slices_MaxFunc_Wide.te slices_MaxFunc_Wide.tb [] [(5,31,3,0)]
def slices_MaxFunc_Wide.L5 (F:Nat) (R:Type) (K:Ex→St→Option R) (n:Nat) (x:((List tWide.T)×Nat×Unit×Unit×Int×Unit)×(tWide.T×tWide.T×Unit)×(Unit)):Option R :=
 slices_MaxFunc_Wide.l5 F (fun x cmp i t17 r4 m=>K (.exit 0) (encS (slices_MaxFunc_Wide.h 5) ((x,cmp,(),(),i,t17,()),(r4,m,()),()))) n x.1.1 x.1.2.1 x.1.2.2.2.2.1 x.2.1.1 x.2.1.2.1
def slices_MaxFunc_Wide.X (m:Int) (F:Nat):FX TI (G m) Sg:={hn:={DS:=fun d=>lk none d [(26,some slices_MaxFunc_Wide.ds26)],na:=2},ld:=[⟨26,slices_MaxFunc_Wide.d26 F⟩],N:=33,H:=slices_MaxFunc_Wide.h,HL:=slices_MaxFunc_Wide.hl,L:=mkL slices_MaxFunc_Wide.hl [⟨5,fun x R K=>slices_MaxFunc_Wide.L5 F R K F x⟩]}
theorem slices_MaxFunc_Wide.a0 (m:Int) (F:Nat):(slices_MaxFunc_Wide.X m F).lp (loopsOf (bd Go.Proofs.Tryz.f124)) 0:=FX.loop _ _ 0 5 F (by kernel_rfl) (slices_MaxFunc_Wide.L5 F) (fun _ _ _=>by kernel_rfl) (fun _ _ _ _=>by kernel_rfl) (fun _ _ _=>by kernel_rfl)
theorem slices_MaxFunc_Wide.ok (m:Int) (F:Nat):OK Go.Proofs.Tryz.prog (G m) 124 slices_MaxFunc_Wide.sg (slices_MaxFunc_Wide.sp F) :=
 func_x (slices_MaxFunc_Wide.X m F) mixed tsOK trivial ⟨mkT_ok ⟨⟨119,by kernel_rfl,wide_Cmp.ok m F⟩,trivial⟩,trivial⟩ Go.Proofs.Tryz.func124 1 0 (by kernel_rfl) (at_cons (slices_MaxFunc_Wide.a0 m F) at_nil) at_nil (fun _=>by kernel_rfl)
def eval_tier.te:List (Nat×KS):=[(1,.b tTier),(2,.loc 2),(4,.c (.int .i64)),(5,.c (.int .i64)),(22,.c .bool)]
def eval_tier.tb:List (Nat×KS):=[(2,.g tWide)]
def eval_tier.h:Nat→Shape:=shN eval_tier.te eval_tier.tb [] [(0,3,1,0),(1,11,1,0),(2,27,1,0),(3,11,1,0),(4,4,0,0)]
def eval_tier.hl:Nat→Shape:=shN eval_tier.te eval_tier.tb [] [(2,11,1,0)]
def eval_tier.L2 (F:Nat) (R:Type) (K:Ex→St→Option R) (n:Nat) (x:((List tTier.T)×Unit×Int×Unit)×(tWide.T×Unit)×(Unit)):Option R :=
 eval_tier.l2 F (fun tiers k t22 x=>K (.exit 0) (encS (eval_tier.h 2) ((tiers,(),k,t22,()),(x,()),()))) n x.1.1 x.1.2.2.1 x.2.1.1
def eval_tier.X (m:Int) (F:Nat):FX TI (G m) Sg:={hn:={na:=2},lv:=[⟨22,wide_Of.sp F⟩,⟨119,wide_Cmp.sp F⟩],N:=26,H:=eval_tier.h,HL:=eval_tier.hl,L:=mkL eval_tier.hl [⟨2,fun x R K=>eval_tier.L2 F R K F x⟩]}
theorem eval_tier.a0 (m:Int) (F:Nat):(eval_tier.X m F).lp (loopsOf (bd Go.Proofs.Tryz.f178)) 0:=FX.loop _ _ 0 2 F (by kernel_rfl) (eval_tier.L2 F) (fun _ _ _=>by kernel_rfl) (fun _ _ _ _=>by kernel_rfl) (fun _ _ _=>by kernel_rfl)
theorem eval_tier.ok (m:Int) (F:Nat):OK Go.Proofs.Tryz.prog (G m) 178 eval_tier.sg (eval_tier.sp F) :=
 func_x (eval_tier.X m F) mixed tsOK ⟨wide_Of.ok m F,wide_Cmp.ok m F,trivial⟩ trivial Go.Proofs.Tryz.func178 1 0 (by kernel_rfl) (at_cons (eval_tier.a0 m F) at_nil) at_nil (fun _=>by kernel_rfl)
def eval_graduated.te:List (Nat×KS):=[(1,.b tTier),(2,.loc 2),(4,.loc 4),(5,.loc 5),(6,.c (.int .i64)),(7,.c (.int .i64)),(14,.c .bool),(40,.c .bool)]
def eval_graduated.tb:List (Nat×KS):=[(2,.g tWide),(4,.g tWide),(5,.g tWide)]
def eval_graduated.h:Nat→Shape:=shN eval_graduated.te eval_graduated.tb [] [(0,7,3,0),(1,31,7,0),(2,63,7,0),(3,127,7,0),(4,63,7,0),(5,63,7,0),(6,159,7,0),(7,12,6,0),(8,4,2,0)]
def eval_graduated.hl:Nat→Shape:=shN eval_graduated.te eval_graduated.tb [] [(3,63,7,0)]
def eval_graduated.L3 (F:Nat) (R:Type) (K:Ex→St→Option R) (n:Nat) (x:((List tTier.T)×Unit×Unit×Unit×Int×Int×Unit)×(tWide.T×tWide.T×tWide.T×Unit)×(Unit)):Option R :=
 eval_graduated.l3 F (fun tiers k i t14 x r4 sum=>K (.exit 0) (encS (eval_graduated.h 3) ((tiers,(),(),(),k,i,t14,()),(x,r4,sum,()),()))) n x.1.1 x.1.2.2.2.2.1 x.1.2.2.2.2.2.1 x.2.1.1 x.2.1.2.1 x.2.1.2.2.1
def eval_graduated.X (m:Int) (F:Nat):FX TI (G m) Sg:={hn:={na:=2},lv:=[⟨178,eval_tier.sp F⟩,⟨22,wide_Of.sp F⟩,⟨122,eval_mul.sp F⟩,⟨121,eval_add.sp F⟩,⟨120,eval_sub.sp F⟩],N:=59,H:=eval_graduated.h,HL:=eval_graduated.hl,L:=mkL eval_graduated.hl [⟨3,fun x R K=>eval_graduated.L3 F R K F x⟩]}
theorem eval_graduated.a0 (m:Int) (F:Nat):(eval_graduated.X m F).lp (loopsOf (bd Go.Proofs.Tryz.f125)) 0:=FX.loop _ _ 0 3 F (by kernel_rfl) (eval_graduated.L3 F) (fun _ _ _=>by kernel_rfl) (fun _ _ _ _=>by kernel_rfl) (fun _ _ _=>by kernel_rfl)
theorem eval_graduated.ok (m:Int) (F:Nat):OK Go.Proofs.Tryz.prog (G m) 125 eval_graduated.sg (eval_graduated.sp F) :=
 func_x (eval_graduated.X m F) mixed tsOK ⟨eval_tier.ok m F,wide_Of.ok m F,eval_mul.ok m F,eval_add.ok m F,eval_sub.ok m F,trivial⟩ trivial Go.Proofs.Tryz.func125 1 0 (by kernel_rfl) (at_cons (eval_graduated.a0 m F) at_nil) at_nil (fun _=>by kernel_rfl)
def eval_volume.te:List (Nat×KS):=[(1,.b tTier),(2,.loc 2),(4,.loc 4),(5,.c (.int .i64)),(10,.c .bool)]
def eval_volume.tb:List (Nat×KS):=[(2,.g tWide),(4,.g tWide)]
def eval_volume.h:Nat→Shape:=shN eval_volume.te eval_volume.tb [] [(0,7,3,0),(1,15,3,0),(2,31,3,0),(3,4,2,0),(4,4,2,0)]
def eval_volume.X (m:Int) (F:Nat):FX TI (G m) Sg:={hn:={na:=2},lv:=[⟨178,eval_tier.sp F⟩,⟨22,wide_Of.sp F⟩,⟨122,eval_mul.sp F⟩],N:=20,H:=eval_volume.h}
theorem eval_volume.ok (m:Int) (F:Nat):OK Go.Proofs.Tryz.prog (G m) 126 eval_volume.sg (eval_volume.sp F) :=
 func_x (eval_volume.X m F) mixed tsOK ⟨eval_tier.ok m F,wide_Of.ok m F,eval_mul.ok m F,trivial⟩ trivial Go.Proofs.Tryz.func126 0 0 (by kernel_rfl) at_nil at_nil (fun _=>by kernel_rfl)
def eval_holds.te:List (Nat×KS):=[(2,.c (.int .i64)),(3,.loc 3),(4,.loc 4),(6,.c .bool),(7,.c (.int .i64)),(11,.c (.int .i64)),(12,.c .bool),(16,.c .bool),(20,.c .bool),(24,.c .bool),(28,.c .bool)]
def eval_holds.tb:List (Nat×KS):=[(3,.g tWide),(4,.g tWide)]
def eval_holds.h:Nat→Shape:=shN eval_holds.te eval_holds.tb [] [(0,7,3,0),(1,17,0,0),(2,48,0,0),(3,112,0,0),(4,8,0,0),(5,176,0,0),(6,8,0,0),(7,304,0,0),(8,8,0,0),(9,560,0,0),(10,8,0,0),(11,1040,0,0),(12,8,0,0),(13,8,0,0)]
def eval_holds.X (m:Int) (F:Nat):FX TI (G m) Sg:={hn:={na:=3},lv:=[⟨119,wide_Cmp.sp F⟩],N:=34,H:=eval_holds.h}
theorem eval_holds.ok (m:Int) (F:Nat):OK Go.Proofs.Tryz.prog (G m) 127 eval_holds.sg (eval_holds.sp F) :=
 func_x (eval_holds.X m F) mixed tsOK ⟨wide_Cmp.ok m F,trivial⟩ trivial Go.Proofs.Tryz.func127 0 0 (by kernel_rfl) at_nil at_nil (fun _=>by kernel_rfl)
def eval_inner.te:List (Nat×KS):=[(2,.b tWide),(3,.loc 3),(4,.loc 4),(6,.loc 6),(7,.loc 7),(8,.loc 8),(9,.loc 9),(18,.c (.int .i64)),(19,.c .bool),(24,.c .bool),(31,.c .bool),(38,.c .bool),(45,.c .bool),(49,.c .bool),(53,.c .bool),(61,.c .bool),(67,.c .bool),(75,.c .bool),(83,.c .bool),(101,.c .bool)]
def eval_inner.tb:List (Nat×KS):=[(3,.g tNode),(4,.g tWide),(6,.g tWide),(7,.g tWide),(8,.g tWide),(9,.g tWide)]
def eval_inner.h:Nat→Shape:=shN eval_inner.te eval_inner.tb [] [(0,15,7,0),(1,63,31,0),(2,191,31,0),(3,447,31,0),(4,8,4,0),(5,703,31,0),(6,8,4,0),(7,1215,31,0),(8,8,4,0),(9,2239,31,0),(10,8,4,0),(11,4287,31,0),(12,8,4,0),(13,8383,31,0),(14,8,4,0),(15,16575,31,0),(16,8,4,0),(17,32959,31,0),(18,8,4,0),(19,65727,31,0),(20,8,4,0),(21,131263,31,0),(22,8,4,0),(23,262203,29,0),(24,72,36,0),(25,8,4,0),(26,524297,4,0),(27,8,4,0),(28,8,4,0)]
def eval_inner.X (m:Int) (F:Nat):FX TI (G m) Sg:={hn:={na:=3},lv:=[⟨22,wide_Of.sp F⟩,⟨120,eval_sub.sp F⟩,⟨121,eval_add.sp F⟩,⟨122,eval_mul.sp F⟩,⟨123,slices_MinFunc_Wide.sp F⟩,⟨124,slices_MaxFunc_Wide.sp F⟩,⟨125,eval_graduated.sp F⟩,⟨126,eval_volume.sp F⟩,⟨95,times_Div.sp F⟩,⟨127,eval_holds.sp F⟩],N:=108,H:=eval_inner.h}
theorem eval_inner.ok (m:Int) (F:Nat):OK Go.Proofs.Tryz.prog (G m) 77 eval_inner.sg (eval_inner.sp F) :=
 func_x (eval_inner.X m F) mixed tsOK ⟨wide_Of.ok m F,eval_sub.ok m F,eval_add.ok m F,eval_mul.ok m F,slices_MinFunc_Wide.ok m F,slices_MaxFunc_Wide.ok m F,eval_graduated.ok m F,eval_volume.ok m F,times_Div.ok m F,eval_holds.ok m F,trivial⟩ trivial Go.Proofs.Tryz.func77 0 0 (by kernel_rfl) at_nil at_nil (fun _=>by kernel_rfl)
def eval_leaf.te:List (Nat×KS):=[(3,.b (.int .i64)),(4,.loc 4),(5,.loc 5),(6,.loc 6),(8,.loc 8),(9,.c (.int .i64)),(11,.c (.int .i64)),(12,.c .bool),(17,.c .bool),(24,.c .bool)]
def eval_leaf.tb:List (Nat×KS):=[(4,.g tPlan),(5,.g tNode),(6,.g tWide),(8,.g tWide)]
def eval_leaf.h:Nat→Shape:=shN eval_leaf.te eval_leaf.tb [] [(0,31,15,0),(1,95,15,0),(2,223,15,0),(3,16,8,0),(4,351,15,0),(5,16,8,0),(6,535,11,0),(7,16,8,0),(8,53,10,0),(9,16,8,0)]
def eval_leaf.X (m:Int) (F:Nat):FX TI (G m) Sg:={hn:={na:=4},lv:=[⟨22,wide_Of.sp F⟩,⟨122,eval_mul.sp F⟩],N:=56,H:=eval_leaf.h}
theorem eval_leaf.ok (m:Int) (F:Nat):OK Go.Proofs.Tryz.prog (G m) 78 eval_leaf.sg (eval_leaf.sp F) :=
 func_x (eval_leaf.X m F) mixed tsOK ⟨wide_Of.ok m F,eval_mul.ok m F,trivial⟩ trivial Go.Proofs.Tryz.func78 0 0 (by kernel_rfl) at_nil at_nil (fun _=>by kernel_rfl)
def eval_Values.te:List (Nat×KS):=[(1,.b (.int .i64)),(2,.loc 2),(4,.c (.sl tWide)),(5,.c (.int .i64)),(6,.loc 6),(8,.c (.int .i64)),(10,.c (.int .i64)),(11,.c (.sl tWide)),(11,.ow 11),(12,.ow 12),(14,.loc 14),(15,.loc 15),(16,.c (.int .i64)),(24,.c .bool),(31,.c .bool),(32,.b (.int .i64)),(33,.c (.int .i64)),(34,.c (.int .i64)),(35,.c .bool),(43,.c .bool),(46,.c (.sl tNode)),(47,.c (.int .i64)),(48,.c (.int .i64)),(49,.c .bool),(61,.c .bool)]
def eval_Values.tb:List (Nat×KS):=[(2,.g tPlan),(6,.g tWide),(14,.g tNode),(15,.g tWide)]
def eval_Values.tp:List OwnE:=[⟨11,.env 11,tWide⟩,⟨12,.env 12,tWide⟩]
def eval_Values.h:Nat→Shape:=shN eval_Values.te eval_Values.tb eval_Values.tp [(0,3,1,0),(1,51,3,0),(2,8243,3,0),(3,12,0,0),(4,16403,3,0),(5,12,0,0),(6,229395,3,0),(7,491539,3,0),(8,229459,3,0),(9,753683,3,0),(10,12,0,0),(11,229395,3,0),(12,787,3,3),(13,7340819,3,3),(14,15729427,3,3),(15,7341843,7,3),(16,7343891,15,3),(17,7347987,15,3),(18,24125203,15,3),(19,7346963,11,3),(20,7346963,11,3),(21,7346963,11,3),(22,7340819,3,3),(23,7340819,3,3),(24,12,0,0)]
def eval_Values.hl:Nat→Shape:=shN eval_Values.te eval_Values.tb eval_Values.tp [(7,229395,3,0),(14,7340819,3,3)]
def eval_Values.hj:Nat→Option Shape:=shO eval_Values.te eval_Values.tb eval_Values.tp [(24,128,0,0)]
def eval_Values.L7 (F:Nat) (R:Type) (K:Ex→St→Option R) (n:Nat) (x:((List Int)×Unit×Unit×(List Int)×Int×Int×Unit)×(tPlan.T×tWide.T×Unit)×(Unit)):Option R :=
 eval_Values.l7 F (fun r4 r5=>K .ret (encS (eval_Values.h 10) ((r4,r5,()),(),()))) (fun q t32 t33 t34 t35 p unit=>K (.exit 0) (encS (eval_Values.h 7) ((q,(),(),t32,t33,t34,t35,()),(p,unit,()),()))) n x.1.1 x.1.2.2.2.1 x.1.2.2.2.2.1 x.1.2.2.2.2.2.1 x.2.1.1 x.2.1.2.1
def eval_Values.L14 (F:Nat) (R:Type) (K:Ex→St→Option R) (n:Nat) (x:((List Int)×Unit×Unit×Unit×Unit×(List tNode.T)×Int×Int×Unit)×(tPlan.T×tWide.T×Unit)×((List tWide.T)×(List tWide.T)×Unit)):Option R :=
 eval_Values.l14 F (fun q t46 t47 t48 t49 p unit values pile=>K (.exit 2) (encS (eval_Values.h 14) ((q,(),(),(),(),t46,t47,t48,t49,()),(p,unit,()),(values,pile,())))) n x.1.1 x.1.2.2.2.2.2.1 x.1.2.2.2.2.2.2.1 x.1.2.2.2.2.2.2.2.1 x.2.1.1 x.2.1.2.1 x.2.2.1 x.2.2.2.1
def eval_Values.J24 (F:Nat) (R:Type) (K:Ex→St→Option R) (x:((List tWide.T)×Unit)×(Unit)×(Unit)):Option R :=
 eval_Values.j24 F (fun r4 r5=>K .ret (encS (eval_Values.h 24) ((r4,r5,()),(),()))) x.1.1
def eval_Values.X (m:Int) (F:Nat):FX TI (G m) Sg:={hn:={MU:=fun s=>lk false s [(76,true),(82,true)],na:=2,fzJ:=fun r=>lk [] r [(24,[11])]},lv:=[⟨23,bound_Unit.sp F⟩,⟨76,eval_kids.sp F⟩,⟨77,eval_inner.sp F⟩,⟨78,eval_leaf.sp F⟩],N:=85,H:=eval_Values.h,HL:=eval_Values.hl,HJ:=eval_Values.hj,L:=mkL eval_Values.hl [⟨7,fun x R K=>eval_Values.L7 F R K F x⟩,⟨14,fun x R K=>eval_Values.L14 F R K F x⟩],J:=mkJ eval_Values.hj [⟨24,fun x R K=>eval_Values.J24 F R K x⟩]}
theorem eval_Values.a0 (m:Int) (F:Nat):(eval_Values.X m F).lp (loopsOf (bd Go.Proofs.Tryz.f41)) 0:=FX.loop _ _ 0 7 F (by kernel_rfl) (eval_Values.L7 F) (fun _ _ _=>by kernel_rfl) (fun _ _ _ _=>by kernel_rfl) (fun _ _ _=>by kernel_rfl)
theorem eval_Values.a1 (m:Int) (F:Nat):(eval_Values.X m F).lp (loopsOf (bd Go.Proofs.Tryz.f41)) 1:=FX.loop _ _ 1 14 F (by kernel_rfl) (eval_Values.L14 F) (fun _ _ _=>by kernel_rfl) (fun _ _ _ _=>by kernel_rfl) (fun _ _ _=>by kernel_rfl)
theorem eval_Values.c0 (m:Int) (F:Nat):(eval_Values.X m F).ct (cutsOf (eval_Values.X m F).HJ (bd Go.Proofs.Tryz.f41)) 0:=FX.cut _ _ 0 24 (by kernel_rfl) (fun _ _ _=>by kernel_rfl)
theorem eval_Values.ok (m:Int) (F:Nat):OK Go.Proofs.Tryz.prog (G m) 41 eval_Values.sg (eval_Values.sp F) :=
 func_x (eval_Values.X m F) mixed tsOK ⟨bound_Unit.ok m F,eval_kids.ok m F,eval_inner.ok m F,eval_leaf.ok m F,trivial⟩ trivial Go.Proofs.Tryz.func41 2 1 (by kernel_rfl) (at_cons (eval_Values.a1 m F) (at_cons (eval_Values.a0 m F) at_nil)) (at_cons (eval_Values.c0 m F) at_nil) (fun _=>by kernel_rfl)
def eval_Exact.te:List (Nat×KS):=[(1,.b (.int .i64)),(2,.loc 2),(4,.loc 4),(5,.c (.int .i64)),(6,.c (.sl tWide)),(7,.c (.int .i64)),(15,.c .bool)]
def eval_Exact.tb:List (Nat×KS):=[(2,.g tPlan),(4,.g tWide)]
def eval_Exact.h:Nat→Shape:=shN eval_Exact.te eval_Exact.tb [] [(0,7,3,0),(1,52,2,0),(2,116,2,0),(3,12,2,0),(4,12,2,0)]
def eval_Exact.X (m:Int) (F:Nat):FX TI (G m) Sg:={hn:={na:=2},lv:=[⟨41,eval_Values.sp F⟩],N:=24,H:=eval_Exact.h}
theorem eval_Exact.ok (m:Int) (F:Nat):OK Go.Proofs.Tryz.prog (G m) 19 eval_Exact.sg (eval_Exact.sp F) :=
 func_x (eval_Exact.X m F) mixed tsOK ⟨eval_Values.ok m F,trivial⟩ trivial Go.Proofs.Tryz.func19 0 0 (by kernel_rfl) at_nil at_nil (fun _=>by kernel_rfl)
def octroilaw12_NormalMeans.te:List (Nat×KS):=[(1,.b (.int .i64)),(2,.loc 2),(4,.c .bool),(5,.loc 5),(6,.c (.int .i64)),(7,.c (.int .i64)),(9,.c (.int .i64)),(10,.c (.int .i64)),(11,.c (.sl (.int .i64))),(11,.ow 11),(12,.c (.int .i64)),(13,.c (.int .i64)),(14,.loc 14),(15,.c (.int .i64)),(16,.loc 16),(17,.c (.int .i64)),(19,.c .bool),(27,.c .bool),(35,.c .bool),(107,.c .bool),(115,.c .bool),(141,.c .bool),(174,.c .bool),(180,.c .bool),(191,.c .bool)]
def octroilaw12_NormalMeans.tb:List (Nat×KS):=[(2,.g tPlan),(5,.g tTable),(14,.g tWide),(16,.g tWide)]
def octroilaw12_NormalMeans.tp:List OwnE:=[⟨11,.env 11,(.int .i64)⟩]
def octroilaw12_NormalMeans.h:Nat→Shape:=shN octroilaw12_NormalMeans.te octroilaw12_NormalMeans.tb octroilaw12_NormalMeans.tp [(0,3,1,0),(1,65539,1,0),(2,4,0,0),(3,59,3,0),(4,131131,3,0),(5,250,3,0),(6,262394,3,0),(7,4,0,0),(8,4,0,0),(9,524299,3,0),(10,4,0,0),(11,522,3,1),(12,1546,3,1),(13,1050122,3,1),(14,1546,3,1),(15,1546,3,1),(16,2314,3,0),(17,2099466,3,0),(18,2314,3,0),(19,14602,7,0),(20,63754,15,0),(21,4258058,15,0),(22,8390922,3,0),(23,4,0,0),(24,16779530,3,0),(25,4,0,0),(26,4,0,0)]
def octroilaw12_NormalMeans.hl:Nat→Shape:=shN octroilaw12_NormalMeans.te octroilaw12_NormalMeans.tb octroilaw12_NormalMeans.tp [(13,1546,3,1),(17,2314,3,0)]
def octroilaw12_NormalMeans.hj:Nat→Option Shape:=shO octroilaw12_NormalMeans.te octroilaw12_NormalMeans.tb octroilaw12_NormalMeans.tp [(16,266,3,0)]
def octroilaw12_NormalMeans.L13 (F:Nat) (R:Type) (K:Ex→St→Option R) (n:Nat) (x:(Unit×Unit×Unit×Int×Unit)×(tPlan.T×tTable.T×Unit)×((List Int)×Unit)):Option R :=
 octroilaw12_NormalMeans.l13 F (fun i t115 p t all=>K (.exit 0) (encS (octroilaw12_NormalMeans.h 13) (((),(),(),i,t115,()),(p,t,()),(all,())))) n x.1.2.2.2.1 x.2.1.1 x.2.1.2.1 x.2.2.1
def octroilaw12_NormalMeans.L17 (F:Nat) (R:Type) (K:Ex→St→Option R) (n:Nat) (x:(Unit×Unit×(List Int)×Int×Unit)×(tPlan.T×tTable.T×Unit)×(Unit)):Option R :=
 octroilaw12_NormalMeans.l17 F (fun r4=>K .ret (encS (octroilaw12_NormalMeans.h 23) ((r4,()),(),()))) (fun r4=>K .ret (encS (octroilaw12_NormalMeans.h 25) ((r4,()),(),()))) (fun all i t141 p t=>K (.exit 2) (encS (octroilaw12_NormalMeans.h 17) (((),(),all,i,t141,()),(p,t,()),()))) n x.1.2.2.1 x.1.2.2.2.1 x.2.1.1 x.2.1.2.1
def octroilaw12_NormalMeans.J16 (F:Nat) (R:Type) (K:Ex→St→Option R) (x:(Unit×Unit×(List Int)×Unit)×(tPlan.T×tTable.T×Unit)×(Unit)):Option R :=
 octroilaw12_NormalMeans.j16 F (fun r4=>K .ret (encS (octroilaw12_NormalMeans.h 23) ((r4,()),(),()))) (fun r4=>K .ret (encS (octroilaw12_NormalMeans.h 25) ((r4,()),(),()))) (fun r4=>K .ret (encS (octroilaw12_NormalMeans.h 26) ((r4,()),(),()))) x.1.2.2.1 x.2.1.1 x.2.1.2.1
def octroilaw12_NormalMeans.X (m:Int) (F:Nat):FX TI (G m) Sg:={hn:={MU:=fun s=>lk false s [(108,true),(110,true),(133,true)],na:=2,fzJ:=fun r=>lk [] r [(16,[11])]},lv:=[⟨7,octroilaw12_awake.sp F⟩,⟨8,normal_Table.sp F⟩,⟨18,bound_Mags.sp F⟩,⟨11,normal_Check.sp F⟩,⟨13,normal_At.sp F⟩,⟨19,eval_Exact.sp F⟩],N:=192,H:=octroilaw12_NormalMeans.h,HL:=octroilaw12_NormalMeans.hl,HJ:=octroilaw12_NormalMeans.hj,L:=mkL octroilaw12_NormalMeans.hl [⟨13,fun x R K=>octroilaw12_NormalMeans.L13 F R K F x⟩,⟨17,fun x R K=>octroilaw12_NormalMeans.L17 F R K F x⟩],J:=mkJ octroilaw12_NormalMeans.hj [⟨16,fun x R K=>octroilaw12_NormalMeans.J16 F R K x⟩]}
theorem octroilaw12_NormalMeans.a0 (m:Int) (F:Nat):(octroilaw12_NormalMeans.X m F).lp (loopsOf (bd Go.Proofs.Tryz.f6)) 0:=FX.loop _ _ 0 13 F (by kernel_rfl) (octroilaw12_NormalMeans.L13 F) (fun _ _ _=>by kernel_rfl) (fun _ _ _ _=>by kernel_rfl) (fun _ _ _=>by kernel_rfl)
theorem octroilaw12_NormalMeans.a1 (m:Int) (F:Nat):(octroilaw12_NormalMeans.X m F).lp (loopsOf (bd Go.Proofs.Tryz.f6)) 1:=FX.loop _ _ 1 17 F (by kernel_rfl) (octroilaw12_NormalMeans.L17 F) (fun _ _ _=>by kernel_rfl) (fun _ _ _ _=>by kernel_rfl) (fun _ _ _=>by kernel_rfl)
theorem octroilaw12_NormalMeans.c0 (m:Int) (F:Nat):(octroilaw12_NormalMeans.X m F).ct (cutsOf (octroilaw12_NormalMeans.X m F).HJ (bd Go.Proofs.Tryz.f6)) 0:=FX.cut _ _ 0 16 (by kernel_rfl) (fun _ _ _=>by kernel_rfl)
theorem octroilaw12_NormalMeans.ok (m:Int) (F:Nat):OK Go.Proofs.Tryz.prog (G m) 6 octroilaw12_NormalMeans.sg (octroilaw12_NormalMeans.sp F) :=
 func_x (octroilaw12_NormalMeans.X m F) mixed tsOK ⟨octroilaw12_awake.ok m F,normal_Table.ok m F,bound_Mags.ok m F,normal_Check.ok m F,normal_At.ok m F,eval_Exact.ok m F,trivial⟩ trivial Go.Proofs.Tryz.func6 2 1 (by kernel_rfl) (at_cons (octroilaw12_NormalMeans.a1 m F) (at_cons (octroilaw12_NormalMeans.a0 m F) at_nil)) (at_cons (octroilaw12_NormalMeans.c0 m F) at_nil) (fun _=>by kernel_rfl)
end Go.VS
