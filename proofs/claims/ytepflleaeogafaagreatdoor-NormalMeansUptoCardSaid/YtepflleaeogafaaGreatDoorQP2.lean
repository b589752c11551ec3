import Derived.Test.YtepflleaeogafaaGreatDoorQP1
set_option linter.unusedVariables false
set_option linter.unusedSimpArgs false
set_option linter.unusedSectionVars false
set_option linter.unusedVariables false
set_option maxRecDepth 100000
namespace Go.VS
open Go
@[reducible] def octroiref01_Plus.sg:Sig:={args:=[.d (.a .u64),.d (.a .u64)],res:=[.a .u64]}
@[reducible] def octroiref01_Turned.sg:Sig:={args:=[.d (.a .u64)],res:=[.a .u64]}
@[reducible] def octroiref01_Abs.sg:Sig:={args:=[.d (.g tWide)],res:=[.c (.int .u64),.c (.int .u64)]}
@[reducible] def octroiref02_digits.sg:Sig:={args:=[.d (.c (.int .u64)),.d (.c (.int .u64))],res:=[.a .u64]}
@[reducible] def octroiref01_Wide.sg:Sig:={args:=[.d (.a .u64)],res:=[.g tWide,.c .bool]}
@[reducible] def octroiref01_told.sg:Sig:={args:=[.d (.a .u64)],res:=[.g tWide,.c (.int .i64)]}
@[reducible] def octroiref01_Join.sg:Sig:={args:=[.d (.c .bool),.d (.c (.int .u64)),.d (.c (.int .u64))],res:=[.g tWide,.c (.int .i64)]}
@[reducible] def octroiref02_Mul.sg:Sig:={args:=[.d (.g tWide),.d (.g tWide)],res:=[.g tWide,.c (.int .i64)]}
@[reducible] def octroiref02_Power.sg:Sig:={args:=[.d (.c (.int .i64))],res:=[.g tWide,.c (.int .i64)]}
@[reducible] def octroiref09_Of.sg:Sig:={args:=[.d (.c (.int .i64))],res:=[.g tBound_meter]}
@[reducible] def octroiref09_By.sg:Sig:={args:=[.d (.g tBound_meter),.d (.g tBound_meter)],res:=[.g tBound_meter]}
@[reducible] def octroiref09_Blocks.sg:Sig:={args:=[.d (.c (.int .i64)),.d (.c (.int .i64))],res:=[.c (.int .i64)]}
@[reducible] def octroiref09_far.sg:Sig:={args:=[.d (.c (.int .i64))],res:=[.c (.int .i64)]}
@[reducible] def octroiref01_Add.sg:Sig:={args:=[.d (.g tWide),.d (.g tWide)],res:=[.g tWide,.c (.int .i64)]}
@[reducible] def octroiref09_Plus.sg:Sig:={args:=[.d (.g tBound_meter),.d (.g tBound_meter)],res:=[.g tBound_meter]}
@[reducible] def octroiref09_scale.sg:Sig:={args:=[.d (.g tBound_meter),.d (.g tBound_meter),.d (.b tTier)],res:=[.g tBound_meter]}
@[reducible] def octroiref09_mag.sg:Sig:={args:=[.d (.g tPlan),.d (.g tNode),.d (.g tBound_meter),.d (.b tBound_meter)],res:=[.g tBound_meter]}
@[reducible] def octroiref09_Bound.sg:Sig:={args:=[],res:=[.g tWide]}
@[reducible] def octroiref01_Cmp.sg:Sig:={args:=[.d (.g tWide),.d (.g tWide)],res:=[.c (.int .i64)]}
@[reducible] def octroiref09_Mags.sg:Sig:={args:=[.d (.g tPlan)],res:=[.c (.sl tWide),.c (.int .i64),.c (.int .i64)]}
@[reducible] def octroiref09_Unit.sg:Sig:={args:=[.d (.g tPlan)],res:=[.g tWide,.c (.int .i64),.c (.int .i64)]}
@[reducible] def octroiref12_leaf.sg:Sig:={args:=[.d (.g tNode),.d (.g tWide)],res:=[.c (.sl tPiece)]}
@[reducible] def octroiref12_Find.sg:Sig:={args:=[.d (.b tPiece),.d (.c (.int .i64))],res:=[.c (.int .i64)]}
def octroiref12_Find.l2.body {R:Type} (F:Nat) (k0:(List tPiece.T)→Int→Int→Bool→Option R) (rec:(List tPiece.T)→Int→Int→Option R) (l:List tPiece.T) (q:Int) (i:Int):Option R :=
 bif decide (i < (IntKind.i64.wrap ((l.length:Int) - 1))) then bif idx (IntKind.i64.wrap (i + 1)) l.length then bif decide ((get tPiece l ((IntKind.i64.wrap (i + 1)).toNat)).1 ≤ q) then rec l q (IntKind.i64.wrap (i + 1))
   else k0 l q i (decide ((get tPiece l ((IntKind.i64.wrap (i + 1)).toNat)).1 ≤ q))
  else none
 else k0 l q i false
def octroiref12_Find.l2 {R:Type} (F:Nat) (k0:(List tPiece.T)→Int→Int→Bool→Option R):Nat→(List tPiece.T)→Int→Int→Option R
 | 0,_,_,_=>none
 | fu + 1,l,q,i=>octroiref12_Find.l2.body F k0 (octroiref12_Find.l2 F k0 fu) l q i
def octroiref12_Find.sh (F:Nat) (l:List tPiece.T) (q:Int):Option octroiref12_Find.sg.R :=
 octroiref12_Find.l2 F (fun l1 q1 i1 t201=>some ((i1,()),())) F l q 0
@[reducible] def octroiref11_three.sg:Sig:={args:=[.d (.g tWide),.d (.g tWide),.d (.g tWide),.d (.c .bool)],res:=[.g tLine,.c (.int .i64)]}
@[reducible] def octroiref11_Scale.sg:Sig:={args:=[.d (.g tLine),.d (.g tWide)],res:=[.g tLine,.c (.int .i64)]}
@[reducible] def octroiref12_by.sg:Sig:={args:=[.d (.g tLine),.d (.g tWide)],res:=[.g tLine]}
@[reducible] def octroiref11_Add.sg:Sig:={args:=[.d (.g tLine),.d (.g tLine)],res:=[.g tLine,.c (.int .i64)]}
@[reducible] def octroiref01_Sub.sg:Sig:={args:=[.d (.g tWide),.d (.g tWide)],res:=[.g tWide,.c (.int .i64)]}
@[reducible] def octroiref11_Sub.sg:Sig:={args:=[.d (.g tLine),.d (.g tLine)],res:=[.g tLine,.c (.int .i64)]}
@[reducible] def octroiref12_fixed.sg:Sig:={args:=[.d (.g tWide)],res:=[.g tLine]}
@[reducible] def octroiref11_fits.sg:Sig:={args:=[.d (.c (.int .i64)),.d (.c (.int .i64))],res:=[.c .bool]}
@[reducible] def octroiref11_Value.sg:Sig:={args:=[.d (.g tLine),.d (.c (.int .i64)),.d (.c (.int .i64))],res:=[.g tWide,.c (.int .i64)]}
@[reducible] def octroiref01_Sign.sg:Sig:={args:=[.d (.g tWide)],res:=[.c (.int .i64)]}
@[reducible] def octroiref11_Above.sg:Sig:={args:=[.d (.g tLine),.d (.c (.int .i64)),.d (.c (.int .i64))],res:=[.c .bool]}
@[reducible] def octroiref12_less.sg:Sig:={args:=[.d (.g tLine),.d (.c (.int .i64))],res:=[.g tLine]}
@[reducible] def octroiref12_Made_tiered.sg:Sig:={args:=[.d (.g tNormal_maker),.d (.g tLine),.d (.c (.int .i64))],res:=[.g (.pair tLine (.sl tLine))]}
@[reducible] def octroiref02_twice.sg:Sig:={args:=[.d (.c (.int .u64)),.d (.c (.int .u64)),.d (.c (.int .u64))],res:=[.c (.int .u64),.c (.int .u64)]}
@[reducible] def octroiref02_atLeast.sg:Sig:={args:=[.d (.c (.int .u64)),.d (.c (.int .u64)),.d (.c (.int .u64)),.d (.c (.int .u64))],res:=[.c .bool]}
@[reducible] def octroiref02_less.sg:Sig:={args:=[.d (.c (.int .u64)),.d (.c (.int .u64)),.d (.c (.int .u64)),.d (.c (.int .u64))],res:=[.c (.int .u64),.c (.int .u64)]}
@[reducible] def octroiref02_QuoRem.sg:Sig:={args:=[.d (.g tWide),.d (.g tWide)],res:=[.g tWide,.g tWide,.c (.int .i64)]}
@[reducible] def octroiref02_nearer.sg:Sig:={args:=[.d (.g tWide),.d (.g tWide),.d (.g tWide),.d (.c (.int .i64))],res:=[.c .bool]}
@[reducible] def octroiref02_Div.sg:Sig:={args:=[.d (.g tWide),.d (.g tWide),.d (.c (.int .i64))],res:=[.g tWide,.c (.int .i64)]}
@[reducible] def octroiref12_Made_part.sg:Sig:={args:=[.d (.g tNormal_maker),.d (.g tWide)],res:=[.g tWide]}
@[reducible] def octroiref12_Made_test.sg:Sig:={args:=[.d (.g tNormal_maker),.d (.b tLine),.d (.c (.int .i64))],res:=[.g (.pair tLine (.sl tLine))]}
@[reducible] def octroiref12_Made_got.sg:Sig:={args:=[.d (.g tNormal_maker),.d (.b tLine),.d (.c (.int .i64))],res:=[.g (.pair tLine (.sl tLine))]}
@[reducible] def octroiref01_Neg.sg:Sig:={args:=[.d (.g tWide)],res:=[.g tWide,.c (.int .i64)]}
@[reducible] def octroiref11_far.sg:Sig:={args:=[.d (.g tWide)],res:=[.g tWide,.c (.int .i64)]}
@[reducible] def octroiref11_Span.sg:Sig:={args:=[.d (.g tLine),.d (.c (.int .i64))],res:=[.g tWide,.c (.int .i64)]}
@[reducible] def octroiref11_ends.sg:Sig:={args:=[.d (.c (.int .i64)),.d (.c (.int .i64))],res:=[.c (.int .i64),.c (.int .i64)]}
@[reducible] def octroiref11_first.sg:Sig:={args:=[.d (.g tLine),.d (.c (.int .i64)),.d (.c (.int .i64)),.d (.c (.int .i64)),.d (.c .bool)],res:=[.c (.int .i64)]}
@[reducible] def octroiref11_turns.sg:Sig:={args:=[.d (.g tLine),.d (.c (.int .i64)),.d (.c (.int .i64)),.d (.c .bool)],res:=[.c .bool]}
@[reducible] def octroiref11_Flip.sg:Sig:={args:=[.d (.g tLine),.d (.c (.int .i64)),.d (.c (.int .i64))],res:=[.c (.int .i64),.c (.int .i64)]}
@[reducible] def octroiref12_Made_making.sg:Sig:={args:=[.d (.g tNormal_maker),.d (.b (.sl tPiece))],res:=[.c (.sl tPiece),.c .bool]}
@[reducible] def octroiref12_Made_node.sg:Sig:={args:=[.d (.g tNormal_maker),.d (.b (.sl tPiece))],res:=[.c (.sl tPiece),.c .bool]}
@[reducible] def octroiref12_Table.sg:Sig:={args:=[.d (.g tPlan)],res:=[.g tTable,.c (.int .i64),.c (.int .i64)]}
@[reducible] def octroilaw12_NormalTables.sg:Sig:={args:=[.d (.g tPlan)],res:=[.c .bool]}
@[reducible] def octroiref12_Check.sg:Sig:={args:=[.d (.g tTable)],res:=[.c .bool]}
@[reducible] def octroiref12_At.sg:Sig:={args:=[.d (.g tTable),.d (.c (.int .i64))],res:=[.g tWide,.c (.int .i64)]}
@[reducible] def octroilaw12_NormalRaw.sg:Sig:={args:=[.d (.g tTable),.d (.b (.int .i64))],res:=[.c .bool]}
@[reducible] def octroilaw12_NormalGrows.sg:Sig:={args:=[.d (.g tPlan),.d (.c (.int .i64))],res:=[.c .bool]}
@[reducible] def bound_Mags.sg:Sig:={args:=[.d (.g tPlan)],res:=[.c (.sl tWide),.c (.int .i64),.c (.int .i64)]}
def bound_Mags.sh (F:Nat) (p:tPlan.T):Option bound_Mags.sg.R :=
 oB (bound_Unit.sh F p) fun c_1 =>
 bif (c_1.1.2.2.1 != 0) then some (([],c_1.1.2.1,c_1.1.2.2.1,()),())
 else oB (bound_measured.sh F p c_1.1.1) fun c_2 =>
 bif decide (c_2.1.2.1 ≥ 0) then some (([],c_2.1.2.1,90,()),())
 else some ((c_2.1.1,0,0,()),())
def bound_Mags.sp (F:Nat):TA bound_Mags.sg.args→Option bound_Mags.sg.R:=fun x=>bound_Mags.sh F x.1
@[reducible] def eval_kids.sg:Sig:={args:=[.d (.g tNode)],res:=[.c (.int .i64)]}
def eval_kids.j10 {R:Type} (F:Nat) (k0:Int→Option R) (k1:Int→Option R) (k2:Int→Option R) (k3:Bool→Option R) (t4:Int) (t10:Bool) (n:tNode.T):Option R :=
 bif t10 then k0 2
 else bif (t4 == 9) then bif (t4 == 9) then k1 n.2.2.2.1
  else bif (t4 == 16) then k2 3
  else k3 (t4 == 16)
 else bif (t4 == 10) then k1 n.2.2.2.1
 else bif (t4 == 16) then k2 3
 else k3 (t4 == 16)
def eval_kids.j6 {R:Type} (F:Nat) (k0:Int→Option R) (k1:Int→Option R) (k2:Int→Option R) (k3:Int→Option R) (k4:Bool→Option R) (t4:Int) (t5:Bool) (n:tNode.T):Option R :=
 bif t5 then k0 0
 else bif (t4 == 6) then eval_kids.j10 F (fun r21=>k1 r21) (fun r22=>k2 r22) (fun r23=>k3 r23) (fun t194=>k4 t194) t4 (t4 == 6) n
 else bif (t4 == 7) then eval_kids.j10 F (fun r25=>k1 r25) (fun r26=>k2 r26) (fun r27=>k3 r27) (fun t198=>k4 t198) t4 (t4 == 7) n
 else eval_kids.j10 F (fun r29=>k1 r29) (fun r210=>k2 r210) (fun r211=>k3 r211) (fun t1912=>k4 t1912) t4 (t4 == 8) n
def eval_kids.sh (F:Nat) (n:tNode.T):Option eval_kids.sg.R :=
 bif (n.1 == 1) then eval_kids.j6 F (fun r213=>some ((r213,()),())) (fun r214=>some ((r214,()),())) (fun r215=>some ((r215,()),())) (fun r216=>some ((r216,()),())) (fun t1917=>some ((1,()),())) n.1 (n.1 == 1) n
 else bif (n.1 == 2) then eval_kids.j6 F (fun r218=>some ((r218,()),())) (fun r219=>some ((r219,()),())) (fun r220=>some ((r220,()),())) (fun r221=>some ((r221,()),())) (fun t1922=>some ((1,()),())) n.1 (n.1 == 2) n
 else bif (n.1 == 3) then eval_kids.j6 F (fun r223=>some ((r223,()),())) (fun r224=>some ((r224,()),())) (fun r225=>some ((r225,()),())) (fun r226=>some ((r226,()),())) (fun t1927=>some ((1,()),())) n.1 (n.1 == 3) n
 else eval_kids.j6 F (fun r228=>some ((r228,()),())) (fun r229=>some ((r229,()),())) (fun r230=>some ((r230,()),())) (fun r231=>some ((r231,()),())) (fun t1932=>some ((1,()),())) n.1 (n.1 == 4) n
def eval_kids.sp (F:Nat):TA eval_kids.sg.args→Option eval_kids.sg.R:=fun x=>eval_kids.sh F x.1
@[reducible] def eval_sub.sg:Sig:={args:=[.d (.g tWide),.d (.g tWide)],res:=[.g tWide]}
def eval_sub.sh (F:Nat) (a:tWide.T) (b:tWide.T):Option eval_sub.sg.R :=
 oB (wide_Sub.sh F a b) fun c_1 =>
 some ((c_1.1.1,()),())
def eval_sub.sp (F:Nat):TA eval_sub.sg.args→Option eval_sub.sg.R:=fun x=>eval_sub.sh F x.1 x.2.1
@[reducible] def eval_add.sg:Sig:={args:=[.d (.g tWide),.d (.g tWide)],res:=[.g tWide]}
def eval_add.sh (F:Nat) (a:tWide.T) (b:tWide.T):Option eval_add.sg.R :=
 oB (wide_Add.sh F a b) fun c_1 =>
 some ((c_1.1.1,()),())
def eval_add.sp (F:Nat):TA eval_add.sg.args→Option eval_add.sg.R:=fun x=>eval_add.sh F x.1 x.2.1
@[reducible] def eval_mul.sg:Sig:={args:=[.d (.g tWide),.d (.g tWide)],res:=[.g tWide]}
def eval_mul.sh (F:Nat) (a:tWide.T) (b:tWide.T):Option eval_mul.sg.R :=
 oB (times_Mul.sh F a b) fun c_1 =>
 some ((c_1.1.1,()),())
def eval_mul.sp (F:Nat):TA eval_mul.sg.args→Option eval_mul.sg.R:=fun x=>eval_mul.sh F x.1 x.2.1
@[reducible] def slices_MinFunc_Wide.sg:Sig:={args:=[.d (.b tWide),.d (.c .fn)],res:=[.g tWide]}
@[reducible] def slices_MinFunc_Wide.ds26:Sig:={args:=[.d (.g tWide),.d (.g tWide)],res:=[.c (.int .i64)]}
def slices_MinFunc_Wide.d26 (F:Nat):Nat→TA slices_MinFunc_Wide.ds26.args→Option slices_MinFunc_Wide.ds26.R:=mkT slices_MinFunc_Wide.ds26 [(fn_wide_Cmp,wide_Cmp.sp F)]
def slices_MinFunc_Wide.l5.body {R:Type} (F:Nat) (k0:(List tWide.T)→Nat→Int→Bool→tWide.T→tWide.T→Option R) (rec:(List tWide.T)→Nat→Int→tWide.T→tWide.T→Option R) (x:List tWide.T) (cmp:Nat) (i:Int) (r4:tWide.T) (m:tWide.T):Option R :=
 bif decide (i < (x.length:Int)) then bif idx i x.length then oB (slices_MinFunc_Wide.d26 F cmp ((get tWide x i.toNat),m,())) fun c_1 =>
   bif decide (c_1.1.1 < 0) then bif idx i x.length then rec x cmp (IntKind.i64.wrap (i + 1)) r4 (get tWide x i.toNat)
    else none
   else rec x cmp (IntKind.i64.wrap (i + 1)) r4 m
  else none
 else k0 x cmp i (decide (i < (x.length:Int))) r4 m
def slices_MinFunc_Wide.l5 {R:Type} (F:Nat) (k0:(List tWide.T)→Nat→Int→Bool→tWide.T→tWide.T→Option R):Nat→(List tWide.T)→Nat→Int→tWide.T→tWide.T→Option R
 | 0,_,_,_,_,_=>none
 | fu + 1,x,cmp,i,r4,m=>slices_MinFunc_Wide.l5.body F k0 (slices_MinFunc_Wide.l5 F k0 fu) x cmp i r4 m
def slices_MinFunc_Wide.sh (F:Nat) (x:List tWide.T) (cmp:Nat):Option slices_MinFunc_Wide.sg.R :=
 bif decide ((x.length:Int) < 1) then none
 else bif idx 0 x.length then slices_MinFunc_Wide.l5 F (fun x2 cmp2 i2 t172 r42 m2=>some ((m2,()),())) F x cmp 1 (0,0) (get tWide x 0)
 else none
def slices_MinFunc_Wide.sp (F:Nat):TA slices_MinFunc_Wide.sg.args→Option slices_MinFunc_Wide.sg.R:=fun x=>slices_MinFunc_Wide.sh F x.1 x.2.1
@[reducible] def slices_MaxFunc_Wide.sg:Sig:={args:=[.d (.b tWide),.d (.c .fn)],res:=[.g tWide]}
@[reducible] def slices_MaxFunc_Wide.ds26:Sig:={args:=[.d (.g tWide),.d (.g tWide)],res:=[.c (.int .i64)]}
def slices_MaxFunc_Wide.d26 (F:Nat):Nat→TA slices_MaxFunc_Wide.ds26.args→Option slices_MaxFunc_Wide.ds26.R:=mkT slices_MaxFunc_Wide.ds26 [(fn_wide_Cmp,wide_Cmp.sp F)]
def slices_MaxFunc_Wide.l5.body {R:Type} (F:Nat) (k0:(List tWide.T)→Nat→Int→Bool→tWide.T→tWide.T→Option R) (rec:(List tWide.T)→Nat→Int→tWide.T→tWide.T→Option R) (x:List tWide.T) (cmp:Nat) (i:Int) (r4:tWide.T) (m:tWide.T):Option R :=
 bif decide (i < (x.length:Int)) then bif idx i x.length then oB (slices_MaxFunc_Wide.d26 F cmp ((get tWide x i.toNat),m,())) fun c_1 =>
   bif decide (c_1.1.1 > 0) then bif idx i x.length then rec x cmp (IntKind.i64.wrap (i + 1)) r4 (get tWide x i.toNat)
    else none
   else rec x cmp (IntKind.i64.wrap (i + 1)) r4 m
  else none
 else k0 x cmp i (decide (i < (x.length:Int))) r4 m
def slices_MaxFunc_Wide.l5 {R:Type} (F:Nat) (k0:(List tWide.T)→Nat→Int→Bool→tWide.T→tWide.T→Option R):Nat→(List tWide.T)→Nat→Int→tWide.T→tWide.T→Option R
 | 0,_,_,_,_,_=>none
 | fu + 1,x,cmp,i,r4,m=>slices_MaxFunc_Wide.l5.body F k0 (slices_MaxFunc_Wide.l5 F k0 fu) x cmp i r4 m
def slices_MaxFunc_Wide.sh (F:Nat) (x:List tWide.T) (cmp:Nat):Option slices_MaxFunc_Wide.sg.R :=
 bif decide ((x.length:Int) < 1) then none
 else bif idx 0 x.length then slices_MaxFunc_Wide.l5 F (fun x2 cmp2 i2 t172 r42 m2=>some ((m2,()),())) F x cmp 1 (0,0) (get tWide x 0)
 else none
def slices_MaxFunc_Wide.sp (F:Nat):TA slices_MaxFunc_Wide.sg.args→Option slices_MaxFunc_Wide.sg.R:=fun x=>slices_MaxFunc_Wide.sh F x.1 x.2.1
@[reducible] def eval_tier.sg:Sig:={args:=[.d (.g tWide),.d (.b tTier)],res:=[.c (.int .i64)]}
def eval_tier.l2.body {R:Type} (F:Nat) (k0:(List tTier.T)→Int→Bool→tWide.T→Option R) (rec:(List tTier.T)→Int→tWide.T→Option R) (tiers:List tTier.T) (k:Int) (x:tWide.T):Option R :=
 bif decide ((IntKind.i64.wrap (k + 1)) < (tiers.length:Int)) then bif idx (IntKind.i64.wrap (k + 1)) tiers.length then oB (wide_Of.sh F (get tTier tiers ((IntKind.i64.wrap (k + 1)).toNat)).1) fun c_1 =>
   oB (wide_Cmp.sh F c_1.1.1 x) fun c_2 =>
   bif decide (c_2.1.1 < 0) then rec tiers (IntKind.i64.wrap (k + 1)) x
   else k0 tiers k (decide (c_2.1.1 < 0)) x
  else none
 else k0 tiers k false x
def eval_tier.l2 {R:Type} (F:Nat) (k0:(List tTier.T)→Int→Bool→tWide.T→Option R):Nat→(List tTier.T)→Int→tWide.T→Option R
 | 0,_,_,_=>none
 | fu + 1,tiers,k,x=>eval_tier.l2.body F k0 (eval_tier.l2 F k0 fu) tiers k x
def eval_tier.sh (F:Nat) (x:tWide.T) (tiers:List tTier.T):Option eval_tier.sg.R :=
 eval_tier.l2 F (fun tiers3 k3 t223 x3=>some ((k3,()),())) F tiers (-1) x
def eval_tier.sp (F:Nat):TA eval_tier.sg.args→Option eval_tier.sg.R:=fun x=>eval_tier.sh F x.1 x.2.1
@[reducible] def eval_graduated.sg:Sig:={args:=[.d (.g tWide),.d (.b tTier)],res:=[.g tWide]}
def eval_graduated.l3.body {R:Type} (F:Nat) (k0:(List tTier.T)→Int→Int→Bool→tWide.T→tWide.T→tWide.T→Option R) (rec:(List tTier.T)→Int→Int→tWide.T→tWide.T→tWide.T→Option R) (tiers:List tTier.T) (k:Int) (i:Int) (x:tWide.T) (r4:tWide.T) (sum:tWide.T):Option R :=
 bif decide (i < k) then bif idx i tiers.length then oB (wide_Of.sh F (get tTier tiers i.toNat).2) fun c_2 =>
   bif idx (IntKind.i64.wrap (i + 1)) tiers.length then bif idx i tiers.length then oB (wide_Of.sh F (IntKind.i64.wrap ((get tTier tiers ((IntKind.i64.wrap (i + 1)).toNat)).1 - (get tTier tiers i.toNat).1))) fun c_3 =>
     oB (eval_mul.sh F c_2.1.1 c_3.1.1) fun c_4 =>
     oB (eval_add.sh F sum c_4.1.1) fun c_5 =>
     rec tiers k (IntKind.i64.wrap (i + 1)) x r4 c_5.1.1
    else none
   else none
  else none
 else k0 tiers k i (decide (i < k)) x r4 sum
def eval_graduated.l3 {R:Type} (F:Nat) (k0:(List tTier.T)→Int→Int→Bool→tWide.T→tWide.T→tWide.T→Option R):Nat→(List tTier.T)→Int→Int→tWide.T→tWide.T→tWide.T→Option R
 | 0,_,_,_,_,_,_=>none
 | fu + 1,tiers,k,i,x,r4,sum=>eval_graduated.l3.body F k0 (eval_graduated.l3 F k0 fu) tiers k i x r4 sum
def eval_graduated.sh (F:Nat) (x:tWide.T) (tiers:List tTier.T):Option eval_graduated.sg.R :=
 oB (eval_tier.sh F x tiers) fun c_1 =>
 eval_graduated.l3 F (fun tiers6 k6 i6 t146 x6 r46 sum6=>bif decide (k6 ≥ 0) then bif idx k6 tiers6.length then oB (wide_Of.sh F (get tTier tiers6 k6.toNat).2) fun c_7 =>
   bif idx k6 tiers6.length then oB (wide_Of.sh F (get tTier tiers6 k6.toNat).1) fun c_8 =>
    oB (eval_sub.sh F x6 c_8.1.1) fun c_9 =>
    oB (eval_mul.sh F c_7.1.1 c_9.1.1) fun c_10 =>
    oB (eval_add.sh F sum6 c_10.1.1) fun c_11 =>
    some ((c_11.1.1,()),())
   else none
  else none
 else some ((sum6,()),())) F tiers c_1.1.1 0 x (0,0) (0,0)
def eval_graduated.sp (F:Nat):TA eval_graduated.sg.args→Option eval_graduated.sg.R:=fun x=>eval_graduated.sh F x.1 x.2.1
@[reducible] def eval_volume.sg:Sig:={args:=[.d (.g tWide),.d (.b tTier)],res:=[.g tWide]}
def eval_volume.sh (F:Nat) (x:tWide.T) (tiers:List tTier.T):Option eval_volume.sg.R :=
 oB (eval_tier.sh F x tiers) fun c_1 =>
 bif decide (c_1.1.1 ≥ 0) then bif idx c_1.1.1 tiers.length then oB (wide_Of.sh F (get tTier tiers c_1.1.1.toNat).2) fun c_2 =>
   oB (eval_mul.sh F x c_2.1.1) fun c_3 =>
   some ((c_3.1.1,()),())
  else none
 else some (((0,0),()),())
def eval_volume.sp (F:Nat):TA eval_volume.sg.args→Option eval_volume.sg.R:=fun x=>eval_volume.sh F x.1 x.2.1
@[reducible] def eval_holds.sg:Sig:={args:=[.d (.g tWide),.d (.g tWide),.d (.c (.int .i64))],res:=[.c .bool]}
def eval_holds.sh (F:Nat) (x:tWide.T) (n:tWide.T) (op:Int):Option eval_holds.sg.R :=
 oB (wide_Cmp.sh F x n) fun c_1 =>
 bif (op == 1) then some ((decide (c_1.1.1 < 0),()),())
 else bif (op == 2) then some ((decide (c_1.1.1 ≤ 0),()),())
 else bif (op == 3) then some ((decide (c_1.1.1 > 0),()),())
 else bif (op == 4) then some ((decide (c_1.1.1 ≥ 0),()),())
 else bif (op == 5) then some (((c_1.1.1 == 0),()),())
 else some (((c_1.1.1 != 0),()),())
def eval_holds.sp (F:Nat):TA eval_holds.sg.args→Option eval_holds.sg.R:=fun x=>eval_holds.sh F x.1 x.2.1 x.2.2.1
@[reducible] def eval_inner.sg:Sig:={args:=[.d (.g tNode),.d (.g tWide),.d (.b tWide)],res:=[.g tWide]}
def eval_inner.sh (F:Nat) (n:tNode.T) (unit:tWide.T) (k:List tWide.T):Option eval_inner.sg.R :=
 bif idx 0 k.length then oB (wide_Of.sh F n.2.1) fun c_1 =>
  bif (n.1 == 5) then oB (eval_sub.sh F (0,0) (get tWide k 0)) fun c_2 =>
   some ((c_2.1.1,()),())
  else bif (n.1 == 6) then bif idx 1 k.length then oB (eval_add.sh F (get tWide k 0) (get tWide k 1)) fun c_3 =>
    some ((c_3.1.1,()),())
   else none
  else bif (n.1 == 7) then bif idx 1 k.length then oB (eval_sub.sh F (get tWide k 0) (get tWide k 1)) fun c_4 =>
    some ((c_4.1.1,()),())
   else none
  else bif (n.1 == 8) then bif idx 1 k.length then oB (eval_mul.sh F (get tWide k 0) (get tWide k 1)) fun c_5 =>
    some ((c_5.1.1,()),())
   else none
  else bif (n.1 == 9) then oB (slices_MinFunc_Wide.sh F k fn_wide_Cmp) fun c_6 =>
   some ((c_6.1.1,()),())
  else bif (n.1 == 10) then oB (slices_MaxFunc_Wide.sh F k fn_wide_Cmp) fun c_7 =>
   some ((c_7.1.1,()),())
  else bif (n.1 == 11) then oB (eval_sub.sh F (get tWide k 0) c_1.1.1) fun c_8 =>
   oB (slices_MaxFunc_Wide.sh F ([(0,0),c_8.1.1]:List tWide.T) fn_wide_Cmp) fun c_9 =>
   some ((c_9.1.1,()),())
  else bif (n.1 == 12) then oB (slices_MinFunc_Wide.sh F ([c_1.1.1,(get tWide k 0)]:List tWide.T) fn_wide_Cmp) fun c_10 =>
   some ((c_10.1.1,()),())
  else bif (n.1 == 13) then oB (eval_graduated.sh F (get tWide k 0) n.2.2.2.2.1) fun c_11 =>
   oB (eval_mul.sh F unit c_11.1.1) fun c_12 =>
   some ((c_12.1.1,()),())
  else bif (n.1 == 14) then oB (eval_volume.sh F (get tWide k 0) n.2.2.2.2.1) fun c_13 =>
   oB (eval_mul.sh F unit c_13.1.1) fun c_14 =>
   some ((c_14.1.1,()),())
  else bif (n.1 == 15) then oB (wide_Of.sh F (IntKind.i64.wrap (10000 - n.2.1))) fun c_15 =>
   oB (eval_mul.sh F (get tWide k 0) c_15.1.1) fun c_16 =>
   oB (wide_Of.sh F 10000) fun c_17 =>
   oB (times_Div.sh F c_16.1.1 c_17.1.1 2) fun c_18 =>
   some ((c_18.1.1,()),())
  else oB (eval_holds.sh F (get tWide k 0) c_1.1.1 n.2.2.1) fun c_19 =>
  bif c_19.1.1 then bif idx 1 k.length then some (((get tWide k 1),()),())
   else none
  else bif idx 2 k.length then some (((get tWide k 2),()),())
  else none
 else none
def eval_inner.sp (F:Nat):TA eval_inner.sg.args→Option eval_inner.sg.R:=fun x=>eval_inner.sh F x.1 x.2.1 x.2.2.1
@[reducible] def eval_leaf.sg:Sig:={args:=[.d (.g tPlan),.d (.g tNode),.d (.g tWide),.d (.b (.int .i64))],res:=[.g tWide]}
def eval_leaf.sh (F:Nat) (p:tPlan.T) (n:tNode.T) (unit:tWide.T) (q:List Int):Option eval_leaf.sg.R :=
 bif (n.1 == 1) then oB (wide_Of.sh F n.2.1) fun c_1 =>
  some ((c_1.1.1,()),())
 else bif (n.1 == 2) then oB (wide_Of.sh F n.2.1) fun c_2 =>
  oB (eval_mul.sh F c_2.1.1 unit) fun c_3 =>
  some ((c_3.1.1,()),())
 else bif (n.1 == 3) then bif idx n.2.1 q.length then oB (wide_Of.sh F (get (.int .i64) q n.2.1.toNat)) fun c_4 =>
   some ((c_4.1.1,()),())
  else none
 else bif idx n.2.1 p.2.1.length then bif idx n.2.1 q.length then bif ((get tDim p.2.1 n.2.1.toNat).2 != 0) then bif idx n.2.1 q.length then bif ((get tDim p.2.1 n.2.1.toNat).2 != 0) then oB (wide_Of.sh F (IntKind.i64.wrap ((IntKind.i64.wrap ((get (.int .i64) q n.2.1.toNat).tdiv (get tDim p.2.1 n.2.1.toNat).2)) + (if 1 < (get (.int .i64) q n.2.1.toNat).tmod (get tDim p.2.1 n.2.1.toNat).2 then 1 else (get (.int .i64) q n.2.1.toNat).tmod (get tDim p.2.1 n.2.1.toNat).2)))) fun c_5 =>
      some ((c_5.1.1,()),())
     else none
    else none
   else none
  else none
 else none
def eval_leaf.sp (F:Nat):TA eval_leaf.sg.args→Option eval_leaf.sg.R:=fun x=>eval_leaf.sh F x.1 x.2.1 x.2.2.1 x.2.2.2.1
@[reducible] def eval_Values.sg:Sig:={args:=[.d (.g tPlan),.d (.b (.int .i64))],res:=[.c (.sl tWide),.c (.int .i64)]}
def eval_Values.l7.body {R:Type} (F:Nat) (k0:(List tWide.T)→Int→Option R) (k1:(List Int)→(List Int)→Int→Int→Bool→tPlan.T→tWide.T→Option R) (rec:(List Int)→(List Int)→Int→Int→tPlan.T→tWide.T→Option R) (q:List Int) (t32:List Int) (t33:Int) (t34:Int) (p:tPlan.T) (unit:tWide.T):Option R :=
 bif decide (t34 < t33) then bif idx t34 t32.length then bif decide ((get (.int .i64) t32 t34.toNat) < 0) then k0 ([]) 101
   else bif decide ((get (.int .i64) t32 t34.toNat) > 1099511627776) then k0 ([]) 101
   else rec q t32 t33 (IntKind.i64.wrap (t34 + 1)) p unit
  else none
 else k1 q t32 t33 t34 (decide (t34 < t33)) p unit
def eval_Values.l7 {R:Type} (F:Nat) (k0:(List tWide.T)→Int→Option R) (k1:(List Int)→(List Int)→Int→Int→Bool→tPlan.T→tWide.T→Option R):Nat→(List Int)→(List Int)→Int→Int→tPlan.T→tWide.T→Option R
 | 0,_,_,_,_,_,_=>none
 | fu + 1,q,t32,t33,t34,p,unit=>eval_Values.l7.body F k0 k1 (eval_Values.l7 F k0 k1 fu) q t32 t33 t34 p unit
def eval_Values.l14.body {R:Type} (F:Nat) (k0:(List Int)→(List tNode.T)→Int→Int→Bool→tPlan.T→tWide.T→(List tWide.T)→(List tWide.T)→Option R) (rec:(List Int)→(List tNode.T)→Int→Int→tPlan.T→tWide.T→(List tWide.T)→(List tWide.T)→Option R) (q:List Int) (t46:List tNode.T) (t47:Int) (t48:Int) (p:tPlan.T) (unit:tWide.T) (values:List tWide.T) (pile:List tWide.T):Option R :=
 bif decide (t48 < t47) then bif idx t48 t46.length then oB (eval_kids.sh F (get tNode t46 t48.toNat)) fun c_4 =>
   bif decide ((IntKind.i64.wrap ((pile.length:Int) - c_4.1.1)) < (pile.length:Int)) then bif (bounds pile.length (some (IntKind.i64.wrap ((pile.length:Int) - c_4.1.1))) none).1 then oB (eval_inner.sh F (get tNode t46 t48.toNat) unit ((List.take (bounds pile.length (some (IntKind.i64.wrap ((pile.length:Int) - c_4.1.1))) none).2.2 pile).drop (bounds pile.length (some (IntKind.i64.wrap ((pile.length:Int) - c_4.1.1))) none).2.1)) fun c_5 =>
     bif Nat.ble (values.length + ([c_5.1.1]:List tWide.T).length) maxN then bif (bounds pile.length none (some (IntKind.i64.wrap ((pile.length:Int) - c_4.1.1)))).1 then bif Nat.ble ((bounds pile.length none (some (IntKind.i64.wrap ((pile.length:Int) - c_4.1.1)))).2.2 + ([c_5.1.1]:List tWide.T).length) maxN then rec q t46 t47 (IntKind.i64.wrap (t48 + 1)) p unit (values ++ ([c_5.1.1]:List tWide.T)) (pile.take (bounds pile.length none (some (IntKind.i64.wrap ((pile.length:Int) - c_4.1.1)))).2.2 ++ ([c_5.1.1]:List tWide.T))
       else none
      else none
     else none
    else none
   else oB (eval_leaf.sh F p (get tNode t46 t48.toNat) unit q) fun c_6 =>
   bif Nat.ble (values.length + ([c_6.1.1]:List tWide.T).length) maxN then bif (bounds pile.length none (some (IntKind.i64.wrap ((pile.length:Int) - c_4.1.1)))).1 then bif Nat.ble ((bounds pile.length none (some (IntKind.i64.wrap ((pile.length:Int) - c_4.1.1)))).2.2 + ([c_6.1.1]:List tWide.T).length) maxN then rec q t46 t47 (IntKind.i64.wrap (t48 + 1)) p unit (values ++ ([c_6.1.1]:List tWide.T)) (pile.take (bounds pile.length none (some (IntKind.i64.wrap ((pile.length:Int) - c_4.1.1)))).2.2 ++ ([c_6.1.1]:List tWide.T))
     else none
    else none
   else none
  else none
 else k0 q t46 t47 t48 (decide (t48 < t47)) p unit values pile
def eval_Values.l14 {R:Type} (F:Nat) (k0:(List Int)→(List tNode.T)→Int→Int→Bool→tPlan.T→tWide.T→(List tWide.T)→(List tWide.T)→Option R):Nat→(List Int)→(List tNode.T)→Int→Int→tPlan.T→tWide.T→(List tWide.T)→(List tWide.T)→Option R
 | 0,_,_,_,_,_,_,_,_=>none
 | fu + 1,q,t46,t47,t48,p,unit,values,pile=>eval_Values.l14.body F k0 (eval_Values.l14 F k0 fu) q t46 t47 t48 p unit values pile
def eval_Values.j24 {R:Type} (F:Nat) (k0:(List tWide.T)→Int→Option R) (values:List tWide.T):Option R :=
 k0 values 0
def eval_Values.sh (F:Nat) (p:tPlan.T) (q:List Int):Option eval_Values.sg.R :=
 oB (bound_Unit.sh F p) fun c_1 =>
 bif (c_1.1.2.2.1 != 0) then some (([],c_1.1.2.2.1,()),())
 else bif ((q.length:Int) != (p.2.1.length:Int)) then some (([],100,()),())
 else eval_Values.l7 F (fun r42 r52=>some ((r42,r52,()),())) (fun q3 t323 t333 t343 t353 p3 unit3=>eval_Values.l14 F (fun q7 t467 t477 t487 t497 p7 unit7 values7 pile7=>eval_Values.j24 F (fun r48 r58=>some ((r48,r58,()),())) values7) F q3 p3.2.2.2 (p3.2.2.2.length:Int) 0 p3 unit3 ([]) ([])) F q q (q.length:Int) 0 p c_1.1.1
def eval_Values.sp (F:Nat):TA eval_Values.sg.args→Option eval_Values.sg.R:=fun x=>eval_Values.sh F x.1 x.2.1
@[reducible] def eval_Exact.sg:Sig:={args:=[.d (.g tPlan),.d (.b (.int .i64))],res:=[.g tWide,.c (.int .i64)]}
def eval_Exact.sh (F:Nat) (p:tPlan.T) (q:List Int):Option eval_Exact.sg.R :=
 oB (eval_Values.sh F p q) fun c_1 =>
 bif (c_1.1.2.1 != 0) then some (((0,0),c_1.1.2.1,()),())
 else bif idx (IntKind.i64.wrap ((c_1.1.1.length:Int) - 1)) c_1.1.1.length then some (((get tWide c_1.1.1 ((IntKind.i64.wrap ((c_1.1.1.length:Int) - 1)).toNat)),0,()),())
 else none
def eval_Exact.sp (F:Nat):TA eval_Exact.sg.args→Option eval_Exact.sg.R:=fun x=>eval_Exact.sh F x.1 x.2.1
@[reducible] def octroilaw12_NormalMeans.sg:Sig:={args:=[.d (.g tPlan),.d (.b (.int .i64))],res:=[.c .bool]}
def octroilaw12_NormalMeans.l13.body {R:Type} (F:Nat) (k0:Int→Bool→tPlan.T→tTable.T→(List Int)→Option R) (rec:Int→tPlan.T→tTable.T→(List Int)→Option R) (i:Int) (p:tPlan.T) (t:tTable.T) (all:List Int):Option R :=
 bif decide (i < (t.2.2.length:Int)) then bif idx i t.2.2.length then bif idx i t.2.2.length then bif Nat.ble (all.length + ([(get tPiece t.2.2 i.toNat).1,IntKind.i64.wrap ((get tPiece t.2.2 i.toNat).1 - 1)]:List Int).length) maxN then rec (IntKind.i64.wrap (i + 1)) p t (all ++ ([(get tPiece t.2.2 i.toNat).1,IntKind.i64.wrap ((get tPiece t.2.2 i.toNat).1 - 1)]:List Int))
    else none
   else none
  else none
 else k0 i (decide (i < (t.2.2.length:Int))) p t all
def octroilaw12_NormalMeans.l13 {R:Type} (F:Nat) (k0:Int→Bool→tPlan.T→tTable.T→(List Int)→Option R):Nat→Int→tPlan.T→tTable.T→(List Int)→Option R
 | 0,_,_,_,_=>none
 | fu + 1,i,p,t,all=>octroilaw12_NormalMeans.l13.body F k0 (octroilaw12_NormalMeans.l13 F k0 fu) i p t all
def octroilaw12_NormalMeans.l17.body {R:Type} (F:Nat) (k0:Bool→Option R) (k1:Bool→Option R) (k2:(List Int)→Int→Bool→tPlan.T→tTable.T→Option R) (rec:(List Int)→Int→tPlan.T→tTable.T→Option R) (all:List Int) (i:Int) (p:tPlan.T) (t:tTable.T):Option R :=
 bif decide (i < (all.length:Int)) then bif decide (i < 1024) then bif idx i all.length then oB (normal_At.sh F t (get (.int .i64) all i.toNat)) fun c_6 =>
    bif idx i all.length then oB (eval_Exact.sh F p ([get (.int .i64) all i.toNat]:List Int)) fun c_7 =>
     bif idx i all.length then bif decide ((get (.int .i64) all i.toNat) < 0) then bif (c_6.1.2.1 != 1) then k0 false
       else bif (c_7.1.2.1 != 101) then k0 false
       else rec all (IntKind.i64.wrap (i + 1)) p t
      else bif idx i all.length then bif decide ((get (.int .i64) all i.toNat) > 1099511627776) then bif (c_6.1.2.1 != 1) then k0 false
        else bif (c_7.1.2.1 != 101) then k0 false
        else rec all (IntKind.i64.wrap (i + 1)) p t
       else bif (c_6.1.2.1 != 0) then k1 false
       else bif (c_7.1.2.1 != 0) then k1 false
       else bif !((c_6.1.1.1 == c_7.1.1.1) && ((c_6.1.1.2 == c_7.1.1.2) && true)) then k1 false
       else rec all (IntKind.i64.wrap (i + 1)) p t
      else none
     else none
    else none
   else none
  else k2 all i (decide (i < 1024)) p t
 else k2 all i false p t
def octroilaw12_NormalMeans.l17 {R:Type} (F:Nat) (k0:Bool→Option R) (k1:Bool→Option R) (k2:(List Int)→Int→Bool→tPlan.T→tTable.T→Option R):Nat→(List Int)→Int→tPlan.T→tTable.T→Option R
 | 0,_,_,_,_=>none
 | fu + 1,all,i,p,t=>octroilaw12_NormalMeans.l17.body F k0 k1 k2 (octroilaw12_NormalMeans.l17 F k0 k1 k2 fu) all i p t
def octroilaw12_NormalMeans.j16 {R:Type} (F:Nat) (k0:Bool→Option R) (k1:Bool→Option R) (k2:Bool→Option R) (all:List Int) (p:tPlan.T) (t:tTable.T):Option R :=
 octroilaw12_NormalMeans.l17 F (fun r48=>k0 r48) (fun r49=>k1 r49) (fun all10 i10 t14110 p10 t10=>k2 true) F all 0 p t
def octroilaw12_NormalMeans.sh (F:Nat) (p:tPlan.T) (list:List Int):Option octroilaw12_NormalMeans.sg.R :=
 oB (octroilaw12_awake.sh F) fun c_1 =>
 bif !c_1.1.1 then some ((false,()),())
 else oB (normal_Table.sh F p) fun c_2 =>
 bif (c_2.1.2.2.1 != 0) then oB (bound_Mags.sh F p) fun c_3 =>
  bif (c_3.1.2.2.1 != 0) then bif (c_2.1.2.2.1 == c_3.1.2.2.1) then bif (c_2.1.2.1 == c_3.1.2.1) then some ((((c_2.1.1.2.2.length:Int) == 0),()),())
    else some ((false,()),())
   else some ((false,()),())
  else bif ((c_2.1.1.2.2.length:Int) == 0) then bif (c_2.1.2.2.1 == 100) then bif (c_2.1.2.1 == (-1)) then bif decide ((p.2.1.length:Int) > 1) then some ((true,()),())
     else bif (c_2.1.2.2.1 == 120) then bif decide (c_2.1.2.1 ≥ 0) then bif decide (c_2.1.2.1 < (p.2.2.2.length:Int)) then some ((((p.2.1.length:Int) == 1),()),())
       else some ((false,()),())
      else some ((false,()),())
     else some ((false,()),())
    else bif (c_2.1.2.2.1 == 120) then bif decide (c_2.1.2.1 ≥ 0) then bif decide (c_2.1.2.1 < (p.2.2.2.length:Int)) then some ((((p.2.1.length:Int) == 1),()),())
      else some ((false,()),())
     else some ((false,()),())
    else some ((false,()),())
   else bif (c_2.1.2.2.1 == 120) then bif decide (c_2.1.2.1 ≥ 0) then bif decide (c_2.1.2.1 < (p.2.2.2.length:Int)) then some ((((p.2.1.length:Int) == 1),()),())
     else some ((false,()),())
    else some ((false,()),())
   else some ((false,()),())
  else some ((false,()),())
 else oB (normal_Check.sh F c_2.1.1) fun c_4 =>
 bif !c_4.1.1 then some ((false,()),())
 else bif ((p.2.1.length:Int) != 1) then some ((false,()),())
 else bif idx 0 p.2.1.length then bif (c_2.1.1.1 != (get tDim p.2.1 0).2) then some ((false,()),())
  else bif Nat.ble (([0,1099511627776]:List Int).length + list.length) maxN then octroilaw12_NormalMeans.l13 F (fun i5 t1155 p5 t5 all5=>octroilaw12_NormalMeans.j16 F (fun r411=>some ((r411,()),())) (fun r412=>some ((r412,()),())) (fun r413=>some ((r413,()),())) all5 p5 t5) F 0 p c_2.1.1 (([0,1099511627776]:List Int) ++ list)
  else none
 else none
def octroilaw12_NormalMeans.sp (F:Nat):TA octroilaw12_NormalMeans.sg.args→Option octroilaw12_NormalMeans.sg.R:=fun x=>octroilaw12_NormalMeans.sh F x.1 x.2.1
end Go.VS
