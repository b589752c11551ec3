import Derived.Test.YtepflleaeogafaaGreatDoorQP1
set_option linter.unusedVariables false
set_option linter.unusedSimpArgs false
set_option linter.unusedSectionVars false
set_option linter.unusedVariables false
set_option maxRecDepth 100000
namespace Go.VS
open Go
@[reducible] def octroiref01_Plus.sg:Sig:={args:=[.d (.a .u64),.d (.a .u64)],res:=[.a .u64]}
@[reducible] def octroiref01_Turned.sg:Sig:={args:=[.d (.a .u64)],res:=[.a .u64]}
@[reducible] def octroiref01_Abs.sg:Sig:={args:=[.d (.g tWide)],res:=[.c (.int .u64),.c (.int .u64)]}
@[reducible] def octroiref02_digits.sg:Sig:={args:=[.d (.c (.int .u64)),.d (.c (.int .u64))],res:=[.a .u64]}
@[reducible] def octroiref01_Wide.sg:Sig:={args:=[.d (.a .u64)],res:=[.g tWide,.c .bool]}
@[reducible] def octroiref01_told.sg:Sig:={args:=[.d (.a .u64)],res:=[.g tWide,.c (.int .i64)]}
@[reducible] def octroiref01_Join.sg:Sig:={args:=[.d (.c .bool),.d (.c (.int .u64)),.d (.c (.int .u64))],res:=[.g tWide,.c (.int .i64)]}
@[reducible] def octroiref02_Mul.sg:Sig:={args:=[.d (.g tWide),.d (.g tWide)],res:=[.g tWide,.c (.int .i64)]}
@[reducible] def octroiref02_Power.sg:Sig:={args:=[.d (.c (.int .i64))],res:=[.g tWide,.c (.int .i64)]}
@[reducible] def octroiref09_Of.sg:Sig:={args:=[.d (.c (.int .i64))],res:=[.g tBound_meter]}
@[reducible] def octroiref09_By.sg:Sig:={args:=[.d (.g tBound_meter),.d (.g tBound_meter)],res:=[.g tBound_meter]}
@[reducible] def octroiref09_Blocks.sg:Sig:={args:=[.d (.c (.int .i64)),.d (.c (.int .i64))],res:=[.c (.int .i64)]}
@[reducible] def octroiref09_far.sg:Sig:={args:=[.d (.c (.int .i64))],res:=[.c (.int .i64)]}
@[reducible] def octroiref01_Add.sg:Sig:={args:=[.d (.g tWide),.d (.g tWide)],res:=[.g tWide,.c (.int .i64)]}
@[reducible] def octroiref09_Plus.sg:Sig:={args:=[.d (.g tBound_meter),.d (.g tBound_meter)],res:=[.g tBound_meter]}
@[reducible] def octroiref09_scale.sg:Sig:={args:=[.d (.g tBound_meter),.d (.g tBound_meter),.d (.b tTier)],res:=[.g tBound_meter]}
@[reducible] def octroiref09_mag.sg:Sig:={args:=[.d (.g tPlan),.d (.g tNode),.d (.g tBound_meter),.d (.b tBound_meter)],res:=[.g tBound_meter]}
@[reducible] def octroiref09_Bound.sg:Sig:={args:=[],res:=[.g tWide]}
@[reducible] def octroiref01_Cmp.sg:Sig:={args:=[.d (.g tWide),.d (.g tWide)],res:=[.c (.int .i64)]}
@[reducible] def octroiref09_Mags.sg:Sig:={args:=[.d (.g tPlan)],res:=[.c (.sl tWide),.c (.int .i64),.c (.int .i64)]}
@[reducible] def octroiref09_Unit.sg:Sig:={args:=[.d (.g tPlan)],res:=[.g tWide,.c (.int .i64),.c (.int .i64)]}
@[reducible] def octroiref12_leaf.sg:Sig:={args:=[.d (.g tNode),.d (.g tWide)],res:=[.c (.sl tPiece)]}
@[reducible] def octroiref12_Find.sg:Sig:={args:=[.d (.b tPiece),.d (.c (.int .i64))],res:=[.c (.int .i64)]}
@[reducible] def octroiref11_three.sg:Sig:={args:=[.d (.g tWide),.d (.g tWide),.d (.g tWide),.d (.c .bool)],res:=[.g tLine,.c (.int .i64)]}
@[reducible] def octroiref11_Scale.sg:Sig:={args:=[.d (.g tLine),.d (.g tWide)],res:=[.g tLine,.c (.int .i64)]}
@[reducible] def octroiref12_by.sg:Sig:={args:=[.d (.g tLine),.d (.g tWide)],res:=[.g tLine]}
@[reducible] def octroiref11_Add.sg:Sig:={args:=[.d (.g tLine),.d (.g tLine)],res:=[.g tLine,.c (.int .i64)]}
@[reducible] def octroiref01_Sub.sg:Sig:={args:=[.d (.g tWide),.d (.g tWide)],res:=[.g tWide,.c (.int .i64)]}
@[reducible] def octroiref11_Sub.sg:Sig:={args:=[.d (.g tLine),.d (.g tLine)],res:=[.g tLine,.c (.int .i64)]}
@[reducible] def octroiref12_fixed.sg:Sig:={args:=[.d (.g tWide)],res:=[.g tLine]}
@[reducible] def octroiref11_fits.sg:Sig:={args:=[.d (.c (.int .i64)),.d (.c (.int .i64))],res:=[.c .bool]}
@[reducible] def octroiref11_Value.sg:Sig:={args:=[.d (.g tLine),.d (.c (.int .i64)),.d (.c (.int .i64))],res:=[.g tWide,.c (.int .i64)]}
@[reducible] def octroiref01_Sign.sg:Sig:={args:=[.d (.g tWide)],res:=[.c (.int .i64)]}
@[reducible] def octroiref11_Above.sg:Sig:={args:=[.d (.g tLine),.d (.c (.int .i64)),.d (.c (.int .i64))],res:=[.c .bool]}
@[reducible] def octroiref12_less.sg:Sig:={args:=[.d (.g tLine),.d (.c (.int .i64))],res:=[.g tLine]}
@[reducible] def octroiref12_Made_tiered.sg:Sig:={args:=[.d (.g tNormal_maker),.d (.g tLine),.d (.c (.int .i64))],res:=[.g (.pair tLine (.sl tLine))]}
@[reducible] def octroiref02_twice.sg:Sig:={args:=[.d (.c (.int .u64)),.d (.c (.int .u64)),.d (.c (.int .u64))],res:=[.c (.int .u64),.c (.int .u64)]}
@[reducible] def octroiref02_atLeast.sg:Sig:={args:=[.d (.c (.int .u64)),.d (.c (.int .u64)),.d (.c (.int .u64)),.d (.c (.int .u64))],res:=[.c .bool]}
@[reducible] def octroiref02_less.sg:Sig:={args:=[.d (.c (.int .u64)),.d (.c (.int .u64)),.d (.c (.int .u64)),.d (.c (.int .u64))],res:=[.c (.int .u64),.c (.int .u64)]}
@[reducible] def octroiref02_QuoRem.sg:Sig:={args:=[.d (.g tWide),.d (.g tWide)],res:=[.g tWide,.g tWide,.c (.int .i64)]}
@[reducible] def octroiref02_nearer.sg:Sig:={args:=[.d (.g tWide),.d (.g tWide),.d (.g tWide),.d (.c (.int .i64))],res:=[.c .bool]}
@[reducible] def octroiref02_Div.sg:Sig:={args:=[.d (.g tWide),.d (.g tWide),.d (.c (.int .i64))],res:=[.g tWide,.c (.int .i64)]}
@[reducible] def octroiref12_Made_part.sg:Sig:={args:=[.d (.g tNormal_maker),.d (.g tWide)],res:=[.g tWide]}
@[reducible] def octroiref12_Made_test.sg:Sig:={args:=[.d (.g tNormal_maker),.d (.b tLine),.d (.c (.int .i64))],res:=[.g (.pair tLine (.sl tLine))]}
@[reducible] def octroiref12_Made_got.sg:Sig:={args:=[.d (.g tNormal_maker),.d (.b tLine),.d (.c (.int .i64))],res:=[.g (.pair tLine (.sl tLine))]}
@[reducible] def octroiref01_Neg.sg:Sig:={args:=[.d (.g tWide)],res:=[.g tWide,.c (.int .i64)]}
@[reducible] def octroiref11_far.sg:Sig:={args:=[.d (.g tWide)],res:=[.g tWide,.c (.int .i64)]}
@[reducible] def octroiref11_Span.sg:Sig:={args:=[.d (.g tLine),.d (.c (.int .i64))],res:=[.g tWide,.c (.int .i64)]}
@[reducible] def octroiref11_ends.sg:Sig:={args:=[.d (.c (.int .i64)),.d (.c (.int .i64))],res:=[.c (.int .i64),.c (.int .i64)]}
@[reducible] def octroiref11_first.sg:Sig:={args:=[.d (.g tLine),.d (.c (.int .i64)),.d (.c (.int .i64)),.d (.c (.int .i64)),.d (.c .bool)],res:=[.c (.int .i64)]}
@[reducible] def octroiref11_turns.sg:Sig:={args:=[.d (.g tLine),.d (.c (.int .i64)),.d (.c (.int .i64)),.d (.c .bool)],res:=[.c .bool]}
@[reducible] def octroiref11_Flip.sg:Sig:={args:=[.d (.g tLine),.d (.c (.int .i64)),.d (.c (.int .i64))],res:=[.c (.int .i64),.c (.int .i64)]}
@[reducible] def octroiref12_Made_making.sg:Sig:={args:=[.d (.g tNormal_maker),.d (.b (.sl tPiece))],res:=[.c (.sl tPiece),.c .bool]}
@[reducible] def octroiref12_Made_node.sg:Sig:={args:=[.d (.g tNormal_maker),.d (.b (.sl tPiece))],res:=[.c (.sl tPiece),.c .bool]}
@[reducible] def octroiref12_Table.sg:Sig:={args:=[.d (.g tPlan)],res:=[.g tTable,.c (.int .i64),.c (.int .i64)]}
@[reducible] def octroilaw12_NormalTables.sg:Sig:={args:=[.d (.g tPlan)],res:=[.c .bool]}
@[reducible] def octroiref12_Check.sg:Sig:={args:=[.d (.g tTable)],res:=[.c .bool]}
@[reducible] def octroiref12_At.sg:Sig:={args:=[.d (.g tTable),.d (.c (.int .i64))],res:=[.g tWide,.c (.int .i64)]}
@[reducible] def octroilaw12_NormalRaw.sg:Sig:={args:=[.d (.g tTable),.d (.b (.int .i64))],res:=[.c .bool]}
@[reducible] def octroilaw12_NormalGrows.sg:Sig:={args:=[.d (.g tPlan),.d (.c (.int .i64))],res:=[.c .bool]}
def octroilaw12_NormalGrows.l22.body {R:Type} (F:Nat) (k0:Bool→Option R) (k1:Int→Int→Int→Bool→tTable.T→tTable.T→tTable.T→Option R) (rec:Int→Int→Int→tTable.T→tTable.T→tTable.T→Option R) (fee:Int) (g:Int) (i:Int) (t:tTable.T) (u:tTable.T) (v:tTable.T):Option R :=
 bif decide (i < (t.2.2.length:Int)) then bif idx i t.2.2.length then bif idx i v.2.2.length then oB (wide_Add.sh F (get tPiece t.2.2 i.toNat).2.1 (get tPiece v.2.2 i.toNat).2.1) fun c_7 =>
    bif idx i t.2.2.length then bif idx i v.2.2.length then oB (wide_Add.sh F (get tPiece t.2.2 i.toNat).2.2.1 (get tPiece v.2.2 i.toNat).2.2.1) fun c_8 =>
      bif idx i t.2.2.length then bif idx i v.2.2.length then oB (wide_Add.sh F (get tPiece t.2.2 i.toNat).2.2.2 (get tPiece v.2.2 i.toNat).2.2.2) fun c_9 =>
        bif (c_7.1.2.1 != 0) then k0 false
        else bif (c_8.1.2.1 != 0) then k0 false
        else bif (c_9.1.2.1 != 0) then k0 false
        else bif !((c_7.1.1.1 == 0) && ((c_7.1.1.2 == 0) && true)) then k0 false
        else bif !((c_8.1.1.1 == 0) && ((c_8.1.1.2 == 0) && true)) then k0 false
        else bif !((c_9.1.1.1 == 0) && ((c_9.1.1.2 == 0) && true)) then k0 false
        else bif idx i t.2.2.length then bif idx i v.2.2.length then bif ((get tPiece t.2.2 i.toNat).1 != (get tPiece v.2.2 i.toNat).1) then k0 false
          else rec fee g (IntKind.i64.wrap (i + 1)) t u v
         else none
        else none
       else none
      else none
     else none
    else none
   else none
  else none
 else k1 fee g i (decide (i < (t.2.2.length:Int))) t u v
def octroilaw12_NormalGrows.l22 {R:Type} (F:Nat) (k0:Bool→Option R) (k1:Int→Int→Int→Bool→tTable.T→tTable.T→tTable.T→Option R):Nat→Int→Int→Int→tTable.T→tTable.T→tTable.T→Option R
 | 0,_,_,_,_,_,_=>none
 | fu + 1,fee,g,i,t,u,v=>octroilaw12_NormalGrows.l22.body F k0 k1 (octroilaw12_NormalGrows.l22 F k0 k1 fu) fee g i t u v
def octroilaw12_NormalGrows.l35.body {R:Type} (F:Nat) (k0:Bool→Option R) (k1:Int→Int→Int→Bool→tTable.T→tTable.T→tWide.T→Option R) (rec:Int→Int→Int→tTable.T→tTable.T→tWide.T→Option R) (fee:Int) (x:Int) (i:Int) (t:tTable.T) (u:tTable.T) (d:tWide.T):Option R :=
 bif decide (i < (t.2.2.length:Int)) then bif idx i u.2.2.length then bif idx i t.2.2.length then oB (wide_Sub.sh F (get tPiece u.2.2 i.toNat).2.1 (get tPiece t.2.2 i.toNat).2.1) fun c_13 =>
    bif (x != 0) then k0 false
    else bif (c_13.1.2.1 != 0) then k0 false
    else bif !((c_13.1.1.1 == d.1) && ((c_13.1.1.2 == d.2) && true)) then k0 false
    else bif idx i u.2.2.length then bif idx i t.2.2.length then bif !(((get tPiece u.2.2 i.toNat).2.2.1.1 == (get tPiece t.2.2 i.toNat).2.2.1.1) && (((get tPiece u.2.2 i.toNat).2.2.1.2 == (get tPiece t.2.2 i.toNat).2.2.1.2) && true)) then k0 false
      else bif idx i u.2.2.length then bif idx i t.2.2.length then bif !(((get tPiece u.2.2 i.toNat).2.2.2.1 == (get tPiece t.2.2 i.toNat).2.2.2.1) && (((get tPiece u.2.2 i.toNat).2.2.2.2 == (get tPiece t.2.2 i.toNat).2.2.2.2) && true)) then k0 false
        else bif idx i u.2.2.length then bif idx i t.2.2.length then bif ((get tPiece u.2.2 i.toNat).1 != (get tPiece t.2.2 i.toNat).1) then k0 false
          else rec fee x (IntKind.i64.wrap (i + 1)) t u d
         else none
        else none
       else none
      else none
     else none
    else none
   else none
  else none
 else k1 fee x i (decide (i < (t.2.2.length:Int))) t u d
def octroilaw12_NormalGrows.l35 {R:Type} (F:Nat) (k0:Bool→Option R) (k1:Int→Int→Int→Bool→tTable.T→tTable.T→tWide.T→Option R):Nat→Int→Int→Int→tTable.T→tTable.T→tWide.T→Option R
 | 0,_,_,_,_,_,_=>none
 | fu + 1,fee,x,i,t,u,d=>octroilaw12_NormalGrows.l35.body F k0 k1 (octroilaw12_NormalGrows.l35 F k0 k1 fu) fee x i t u d
def octroilaw12_NormalGrows.j21 {R:Type} (F:Nat) (k0:Bool→Option R) (k1:Bool→Option R) (k2:Bool→Option R) (k3:Bool→Option R) (k4:Bool→Option R) (fee:Int) (g:Int) (t:tTable.T) (u:tTable.T) (v:tTable.T):Option R :=
 octroilaw12_NormalGrows.l22 F (fun r410=>k0 r410) (fun fee11 g11 i11 t15011 t11 u11 v11=>bif (g11 != 0) then k1 true
 else bif ((u11.2.2.length:Int) != (t11.2.2.length:Int)) then k2 false
 else bif (u11.2.1 != t11.2.1) then k2 false
 else bif idx 0 u11.2.2.length then bif idx 0 t11.2.2.length then oB (wide_Sub.sh F (get tPiece u11.2.2 0).2.1 (get tPiece t11.2.2 0).2.1) fun c_12 =>
   octroilaw12_NormalGrows.l35 F (fun r414=>k3 r414) (fun fee15 x15 i15 t28315 t15 u15 d15=>oB (wide_Sign.sh F d15) fun c_16 =>
   bif (decide (c_16.1.1 > 0) == decide (fee15 > 0)) then oB (wide_Sign.sh F d15) fun c_17 =>
    k4 (decide (c_17.1.1 ≥ 0))
   else k4 false) F fee11 c_12.1.2.1 0 t11 u11 c_12.1.1
  else none
 else none) F fee g 0 t u v
def octroilaw12_NormalGrows.sh (F:Nat) (p:tPlan.T) (fee:Int):Option octroilaw12_NormalGrows.sg.R :=
 oB (octroilaw12_awake.sh F) fun c_1 =>
 bif !c_1.1.1 then some ((false,()),())
 else bif decide (fee < 0) then some ((true,()),())
 else bif decide (fee > 1000000000000) then some ((true,()),())
 else bif decide ((IntKind.i64.wrap ((p.2.2.2.length:Int) + 3)) > 1024) then some ((true,()),())
 else oB (normal_Table.sh F p) fun c_2 =>
 oB (normal_Table.sh F p) fun c_3 =>
 bif (c_2.1.2.2.1 != c_3.1.2.2.1) then some ((false,()),())
 else oB (octroiref12_Same.sh F c_2.1.1 c_3.1.1) fun c_4 =>
 bif !c_4.1.1 then some ((false,()),())
 else bif Nat.ble (0 + p.2.2.2.length) maxN then bif Nat.ble (p.2.2.2.length + ([(2,fee,0,0,[],0),(6,0,0,0,[],0)]:List tNode.T).length) maxN then oB (normal_Table.sh F (p.1,p.2.1,p.2.2.1,p.2.2.2 ++ ([(2,fee,0,0,[],0),(6,0,0,0,[],0)]:List tNode.T))) fun c_5 =>
   bif Nat.ble (0 + p.2.2.2.length) maxN then bif Nat.ble (p.2.2.2.length + ([(5,0,0,0,[],0)]:List tNode.T).length) maxN then oB (normal_Table.sh F (p.1,p.2.1,p.2.2.1,p.2.2.2 ++ ([(5,0,0,0,[],0)]:List tNode.T))) fun c_6 =>
     bif (c_2.1.2.2.1 != 0) then bif (c_5.1.2.2.1 == c_2.1.2.2.1) then some (((c_6.1.2.2.1 == c_2.1.2.2.1),()),())
      else bif (c_5.1.2.2.1 == 90) then bif (c_2.1.2.2.1 == 100) then some (((c_6.1.2.2.1 == c_2.1.2.2.1),()),())
       else bif (c_2.1.2.2.1 == 120) then some (((c_6.1.2.2.1 == c_2.1.2.2.1),()),())
       else some ((false,()),())
      else some ((false,()),())
     else bif (c_6.1.2.2.1 != 0) then some ((false,()),())
     else bif ((c_6.1.1.2.2.length:Int) != (c_2.1.1.2.2.length:Int)) then some ((false,()),())
     else bif (c_5.1.2.2.1 != 0) then bif (c_5.1.2.2.1 != 90) then some ((false,()),())
      else octroilaw12_NormalGrows.j21 F (fun r418=>some ((r418,()),())) (fun r419=>some ((r419,()),())) (fun r420=>some ((r420,()),())) (fun r421=>some ((r421,()),())) (fun r422=>some ((r422,()),())) fee c_5.1.2.2.1 c_2.1.1 c_5.1.1 c_6.1.1
     else octroilaw12_NormalGrows.j21 F (fun r423=>some ((r423,()),())) (fun r424=>some ((r424,()),())) (fun r425=>some ((r425,()),())) (fun r426=>some ((r426,()),())) (fun r427=>some ((r427,()),())) fee c_5.1.2.2.1 c_2.1.1 c_5.1.1 c_6.1.1
    else none
   else none
  else none
 else none
def octroilaw12_NormalGrows.sp (F:Nat):TA octroilaw12_NormalGrows.sg.args→Option octroilaw12_NormalGrows.sg.R:=fun x=>octroilaw12_NormalGrows.sh F x.1 x.2.1
@[reducible] def bound_Mags.sg:Sig:={args:=[.d (.g tPlan)],res:=[.c (.sl tWide),.c (.int .i64),.c (.int .i64)]}
@[reducible] def eval_kids.sg:Sig:={args:=[.d (.g tNode)],res:=[.c (.int .i64)]}
@[reducible] def eval_sub.sg:Sig:={args:=[.d (.g tWide),.d (.g tWide)],res:=[.g tWide]}
@[reducible] def eval_add.sg:Sig:={args:=[.d (.g tWide),.d (.g tWide)],res:=[.g tWide]}
@[reducible] def eval_mul.sg:Sig:={args:=[.d (.g tWide),.d (.g tWide)],res:=[.g tWide]}
@[reducible] def slices_MinFunc_Wide.sg:Sig:={args:=[.d (.b tWide),.d (.c .fn)],res:=[.g tWide]}
@[reducible] def slices_MaxFunc_Wide.sg:Sig:={args:=[.d (.b tWide),.d (.c .fn)],res:=[.g tWide]}
@[reducible] def eval_tier.sg:Sig:={args:=[.d (.g tWide),.d (.b tTier)],res:=[.c (.int .i64)]}
@[reducible] def eval_graduated.sg:Sig:={args:=[.d (.g tWide),.d (.b tTier)],res:=[.g tWide]}
@[reducible] def eval_volume.sg:Sig:={args:=[.d (.g tWide),.d (.b tTier)],res:=[.g tWide]}
@[reducible] def eval_holds.sg:Sig:={args:=[.d (.g tWide),.d (.g tWide),.d (.c (.int .i64))],res:=[.c .bool]}
@[reducible] def eval_inner.sg:Sig:={args:=[.d (.g tNode),.d (.g tWide),.d (.b tWide)],res:=[.g tWide]}
@[reducible] def eval_leaf.sg:Sig:={args:=[.d (.g tPlan),.d (.g tNode),.d (.g tWide),.d (.b (.int .i64))],res:=[.g tWide]}
@[reducible] def eval_Values.sg:Sig:={args:=[.d (.g tPlan),.d (.b (.int .i64))],res:=[.c (.sl tWide),.c (.int .i64)]}
@[reducible] def eval_Exact.sg:Sig:={args:=[.d (.g tPlan),.d (.b (.int .i64))],res:=[.g tWide,.c (.int .i64)]}
@[reducible] def octroilaw12_NormalMeans.sg:Sig:={args:=[.d (.g tPlan),.d (.b (.int .i64))],res:=[.c .bool]}
end Go.VS
