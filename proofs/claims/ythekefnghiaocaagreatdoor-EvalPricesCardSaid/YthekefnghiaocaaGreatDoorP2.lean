import Derived.Test.YthekefnghiaocaaGreatDoorP1
set_option linter.unusedVariables false
set_option linter.unusedSimpArgs false
set_option linter.unusedSectionVars false
set_option linter.unusedVariables false
set_option maxRecDepth 100000
namespace Go.VS
open Go
@[reducible] def octroiref10_Charge.sg:Sig:={args:=[.d (.c (.int .i64)),.d (.b tTier),.d (.g tWide)],res:=[.g tWide]}
def octroiref10_Charge.l8.body {R:Type} (F:Nat) (k0:(List tTier.T)→Int→Int→Bool→tWide.T→tWide.T→Option R) (rec:(List tTier.T)→Int→Int→tWide.T→tWide.T→Option R) (l:List tTier.T) (k:Int) (i:Int) (r6:tWide.T) (s:tWide.T):Option R :=
 bif decide (i < k) then bif idx i l.length then oB (octroiref01_Of.sh F (get tTier l i.toNat).2) fun c_9 =>
   bif idx (IntKind.i64.wrap (i + 1)) l.length then bif idx i l.length then oB (octroiref01_Of.sh F (IntKind.i64.wrap ((get tTier l ((IntKind.i64.wrap (i + 1)).toNat)).1 - (get tTier l i.toNat).1))) fun c_10 =>
     oB (octroiref10_By.sh F c_9.1.1 c_10.1.1) fun c_11 =>
     oB (octroiref10_Plus.sh F s c_11.1.1) fun c_12 =>
     rec l k (IntKind.i64.wrap (i + 1)) r6 c_12.1.1
    else none
   else none
  else none
 else k0 l k i (decide (i < k)) r6 s
def octroiref10_Charge.l8 {R:Type} (F:Nat) (k0:(List tTier.T)→Int→Int→Bool→tWide.T→tWide.T→Option R):Nat→(List tTier.T)→Int→Int→tWide.T→tWide.T→Option R
 | 0,_,_,_,_,_=>none
 | fu + 1,l,k,i,r6,s=>octroiref10_Charge.l8.body F k0 (octroiref10_Charge.l8 F k0 fu) l k i r6 s
def octroiref10_Charge.sh (F:Nat) (kind:Int) (l:List tTier.T) (x:tWide.T):Option octroiref10_Charge.sg.R :=
 oB (octroiref10_Tier.sh F l x) fun c_1 =>
 bif decide (c_1.1.1 < 0) then oB (octroiref01_Of.sh F 0) fun c_2 =>
  some ((c_2.1.1,()),())
 else bif (kind == 14) then bif idx c_1.1.1 l.length then oB (octroiref01_Of.sh F (get tTier l c_1.1.1.toNat).2) fun c_3 =>
   oB (octroiref10_By.sh F x c_3.1.1) fun c_4 =>
   some ((c_4.1.1,()),())
  else none
 else bif idx c_1.1.1 l.length then oB (octroiref01_Of.sh F (get tTier l c_1.1.1.toNat).2) fun c_5 =>
  bif idx c_1.1.1 l.length then oB (octroiref01_Of.sh F (get tTier l c_1.1.1.toNat).1) fun c_6 =>
   oB (octroiref10_Less.sh F x c_6.1.1) fun c_7 =>
   oB (octroiref10_By.sh F c_5.1.1 c_7.1.1) fun c_8 =>
   octroiref10_Charge.l8 F (fun l13 k13 i13 t4313 r613 s13=>some ((s13,()),())) F l c_1.1.1 0 (0,0) c_8.1.1
  else none
 else none
def octroiref10_Charge.sp (F:Nat):TA octroiref10_Charge.sg.args→Option octroiref10_Charge.sg.R:=fun x=>octroiref10_Charge.sh F x.1 x.2.1 x.2.2.1
@[reducible] def octroiref02_twice.sg:Sig:={args:=[.d (.c (.int .u64)),.d (.c (.int .u64)),.d (.c (.int .u64))],res:=[.c (.int .u64),.c (.int .u64)]}
def octroiref02_twice.sh (F:Nat) (hi:Int) (lo:Int) (bit:Int):Option octroiref02_twice.sg.R :=
 some ((IntKind.u64.wrap ((IntKind.u64.wrap (hi * 2)) + (lo.fdiv (2 ^ (min (63:Int).toNat IntKind.u64.bits)))),IntKind.u64.wrap ((IntKind.u64.wrap (lo * 2)) + bit),()),())
def octroiref02_twice.sp (F:Nat):TA octroiref02_twice.sg.args→Option octroiref02_twice.sg.R:=fun x=>octroiref02_twice.sh F x.1 x.2.1 x.2.2.1
@[reducible] def octroiref02_atLeast.sg:Sig:={args:=[.d (.c (.int .u64)),.d (.c (.int .u64)),.d (.c (.int .u64)),.d (.c (.int .u64))],res:=[.c .bool]}
def octroiref02_atLeast.sh (F:Nat) (ah:Int) (al:Int) (bh:Int) (bl:Int):Option octroiref02_atLeast.sg.R :=
 bif decide (ah > bh) then some ((true,()),())
 else bif (ah == bh) then some ((decide (al ≥ bl),()),())
 else some ((false,()),())
def octroiref02_atLeast.sp (F:Nat):TA octroiref02_atLeast.sg.args→Option octroiref02_atLeast.sg.R:=fun x=>octroiref02_atLeast.sh F x.1 x.2.1 x.2.2.1 x.2.2.2.1
@[reducible] def octroiref02_less.sg:Sig:={args:=[.d (.c (.int .u64)),.d (.c (.int .u64)),.d (.c (.int .u64)),.d (.c (.int .u64))],res:=[.c (.int .u64),.c (.int .u64)]}
def octroiref02_less.sh (F:Nat) (ah:Int) (al:Int) (bh:Int) (bl:Int):Option octroiref02_less.sg.R :=
 bif decide (al < bl) then some ((IntKind.u64.wrap ((IntKind.u64.wrap (ah - bh)) - 1),IntKind.u64.wrap (al - bl),()),())
 else some ((IntKind.u64.wrap (ah - bh),IntKind.u64.wrap (al - bl),()),())
def octroiref02_less.sp (F:Nat):TA octroiref02_less.sg.args→Option octroiref02_less.sg.R:=fun x=>octroiref02_less.sh F x.1 x.2.1 x.2.2.1 x.2.2.2.1
@[reducible] def octroiref02_QuoRem.sg:Sig:={args:=[.d (.g tWide),.d (.g tWide)],res:=[.g tWide,.g tWide,.c (.int .i64)]}
def octroiref02_QuoRem.l10.body {R:Type} (F:Nat) (k0:Int→Int→Int→Int→Int→Int→Int→Int→Int→Bool→tWide.T→tWide.T→tWide.T→tWide.T→Option R) (rec:Int→Int→Int→Int→Int→Int→Int→Int→Int→tWide.T→tWide.T→tWide.T→tWide.T→Option R) (ah:Int) (al:Int) (bh:Int) (bl:Int) (qh:Int) (ql:Int) (rh:Int) (rl:Int) (i:Int) (a:tWide.T) (b:tWide.T) (r4:tWide.T) (r5:tWide.T):Option R :=
 bif decide (i ≥ 0) then bif decide (0 ≤ (IntKind.u64.wrap (i.tmod 64))) then bif decide (i ≥ 64) then bif decide (0 ≤ (IntKind.u64.wrap (i.tmod 64))) then oB (octroiref02_twice.sh F rh rl ((ah.fdiv (2 ^ (min (IntKind.u64.wrap (i.tmod 64)).toNat IntKind.u64.bits))).tmod 2)) fun c_3 =>
     oB (octroiref02_atLeast.sh F c_3.1.1 c_3.1.2.1 bh bl) fun c_4 =>
     bif c_4.1.1 then oB (octroiref02_less.sh F c_3.1.1 c_3.1.2.1 bh bl) fun c_5 =>
      oB (octroiref02_twice.sh F qh ql 1) fun c_6 =>
      rec ah al bh bl c_6.1.1 c_6.1.2.1 c_5.1.1 c_5.1.2.1 (IntKind.i64.wrap (i - 1)) a b r4 r5
     else oB (octroiref02_twice.sh F qh ql 0) fun c_7 =>
     rec ah al bh bl c_7.1.1 c_7.1.2.1 c_3.1.1 c_3.1.2.1 (IntKind.i64.wrap (i - 1)) a b r4 r5
    else none
   else oB (octroiref02_twice.sh F rh rl ((al.fdiv (2 ^ (min (IntKind.u64.wrap (i.tmod 64)).toNat IntKind.u64.bits))).tmod 2)) fun c_8 =>
   oB (octroiref02_atLeast.sh F c_8.1.1 c_8.1.2.1 bh bl) fun c_9 =>
   bif c_9.1.1 then oB (octroiref02_less.sh F c_8.1.1 c_8.1.2.1 bh bl) fun c_10 =>
    oB (octroiref02_twice.sh F qh ql 1) fun c_11 =>
    rec ah al bh bl c_11.1.1 c_11.1.2.1 c_10.1.1 c_10.1.2.1 (IntKind.i64.wrap (i - 1)) a b r4 r5
   else oB (octroiref02_twice.sh F qh ql 0) fun c_12 =>
   rec ah al bh bl c_12.1.1 c_12.1.2.1 c_8.1.1 c_8.1.2.1 (IntKind.i64.wrap (i - 1)) a b r4 r5
  else none
 else k0 ah al bh bl qh ql rh rl i (decide (i ≥ 0)) a b r4 r5
def octroiref02_QuoRem.l10 {R:Type} (F:Nat) (k0:Int→Int→Int→Int→Int→Int→Int→Int→Int→Bool→tWide.T→tWide.T→tWide.T→tWide.T→Option R):Nat→Int→Int→Int→Int→Int→Int→Int→Int→Int→tWide.T→tWide.T→tWide.T→tWide.T→Option R
 | 0,_,_,_,_,_,_,_,_,_,_,_,_,_=>none
 | fu + 1,ah,al,bh,bl,qh,ql,rh,rl,i,a,b,r4,r5=>octroiref02_QuoRem.l10.body F k0 (octroiref02_QuoRem.l10 F k0 fu) ah al bh bl qh ql rh rl i a b r4 r5
def octroiref02_QuoRem.j3 {R:Type} (F:Nat) (k0:Int→tWide.T→tWide.T→Option R) (k1:Int→tWide.T→tWide.T→Option R) (a:tWide.T) (b:tWide.T) (r4:tWide.T) (r5:tWide.T):Option R :=
 oB (octroiref01_Abs.sh F a) fun c_1 =>
 oB (octroiref01_Abs.sh F b) fun c_2 =>
 octroiref02_QuoRem.l10 F (fun ah13 al13 bh13 bl13 qh13 ql13 rh13 rl13 i13 t4213 a13 b13 r413 r513=>oB (octroiref01_Join.sh F (!(decide (a13.1 < 0) == decide (b13.1 < 0))) qh13 ql13) fun c_14 =>
 bif (c_14.1.2.1 != 0) then k0 c_14.1.2.1 (0,0) (0,0)
 else oB (octroiref01_Join.sh F (decide (a13.1 < 0)) rh13 rl13) fun c_15 =>
 k1 0 c_14.1.1 c_15.1.1) F c_1.1.1 c_1.1.2.1 c_2.1.1 c_2.1.2.1 0 0 0 0 127 a b r4 r5
def octroiref02_QuoRem.sh (F:Nat) (a:tWide.T) (b:tWide.T):Option octroiref02_QuoRem.sg.R :=
 bif (b.1 == 0) then bif (b.2 == 0) then some (((0,0),(0,0),20,()),())
  else octroiref02_QuoRem.j3 F (fun r616 r416 r516=>some ((r416,r516,r616,()),())) (fun r617 r417 r517=>some ((r417,r517,r617,()),())) a b (0,0) (0,0)
 else octroiref02_QuoRem.j3 F (fun r618 r418 r518=>some ((r418,r518,r618,()),())) (fun r619 r419 r519=>some ((r419,r519,r619,()),())) a b (0,0) (0,0)
def octroiref02_QuoRem.sp (F:Nat):TA octroiref02_QuoRem.sg.args→Option octroiref02_QuoRem.sg.R:=fun x=>octroiref02_QuoRem.sh F x.1 x.2.1
@[reducible] def octroiref02_nearer.sg:Sig:={args:=[.d (.g tWide),.d (.g tWide),.d (.g tWide),.d (.c (.int .i64))],res:=[.c .bool]}
def octroiref02_nearer.sh (F:Nat) (q:tWide.T) (r:tWide.T) (b:tWide.T) (mode:Int):Option octroiref02_nearer.sg.R :=
 oB (octroiref01_Abs.sh F r) fun c_1 =>
 oB (octroiref01_Abs.sh F b) fun c_2 =>
 oB (octroiref02_less.sh F c_2.1.1 c_2.1.2.1 c_1.1.1 c_1.1.2.1) fun c_3 =>
 bif (c_1.1.1 == c_3.1.1) then bif (c_1.1.2.1 == c_3.1.2.1) then bif (mode == 3) then some ((true,()),())
   else some ((((q.2.tmod 2) == 1),()),())
  else oB (octroiref02_atLeast.sh F c_1.1.1 c_1.1.2.1 c_3.1.1 c_3.1.2.1) fun c_4 =>
  some ((c_4.1.1,()),())
 else oB (octroiref02_atLeast.sh F c_1.1.1 c_1.1.2.1 c_3.1.1 c_3.1.2.1) fun c_5 =>
 some ((c_5.1.1,()),())
def octroiref02_nearer.sp (F:Nat):TA octroiref02_nearer.sg.args→Option octroiref02_nearer.sg.R:=fun x=>octroiref02_nearer.sh F x.1 x.2.1 x.2.2.1 x.2.2.2.1
@[reducible] def octroiref02_Div.sg:Sig:={args:=[.d (.g tWide),.d (.g tWide),.d (.c (.int .i64))],res:=[.g tWide,.c (.int .i64)]}
def octroiref02_Div.j18 {R:Type} (F:Nat) (k0:Int→tWide.T→Option R) (k1:Int→tWide.T→Option R) (k2:Int→tWide.T→Option R) (below:Bool) (further:Bool) (r6:tWide.T) (q:tWide.T):Option R :=
 bif !further then k0 0 q
 else bif below then oB (octroiref01_Of.sh F 1) fun c_2 =>
  oB (octroiref01_Sub.sh F q c_2.1.1) fun c_3 =>
  k1 c_3.1.2.1 c_3.1.1
 else oB (octroiref01_Of.sh F 1) fun c_4 =>
 oB (octroiref01_Add.sh F q c_4.1.1) fun c_5 =>
 k2 c_5.1.2.1 c_5.1.1
def octroiref02_Div.j8 {R:Type} (F:Nat) (k0:Int→tWide.T→Option R) (k1:Int→tWide.T→Option R) (k2:Int→tWide.T→Option R) (mode:Int) (a:tWide.T) (b:tWide.T) (r6:tWide.T) (q:tWide.T) (r:tWide.T):Option R :=
 bif (mode == 0) then octroiref02_Div.j18 F (fun r76 r66=>k0 r76 r66) (fun r77 r67=>k1 r77 r67) (fun r78 r68=>k2 r78 r68) (!(decide (a.1 < 0) == decide (b.1 < 0))) (!(decide (a.1 < 0) == decide (b.1 < 0))) r6 q
 else bif (mode == 1) then octroiref02_Div.j18 F (fun r79 r69=>k0 r79 r69) (fun r710 r610=>k1 r710 r610) (fun r711 r611=>k2 r711 r611) (!(decide (a.1 < 0) == decide (b.1 < 0))) (!(!(decide (a.1 < 0) == decide (b.1 < 0)))) r6 q
 else bif (mode == 3) then bif (mode == 3) then oB (octroiref02_nearer.sh F q r b mode) fun c_12 =>
   octroiref02_Div.j18 F (fun r713 r613=>k0 r713 r613) (fun r714 r614=>k1 r714 r614) (fun r715 r615=>k2 r715 r615) (!(decide (a.1 < 0) == decide (b.1 < 0))) c_12.1.1 r6 q
  else octroiref02_Div.j18 F (fun r716 r616=>k0 r716 r616) (fun r717 r617=>k1 r717 r617) (fun r718 r618=>k2 r718 r618) (!(decide (a.1 < 0) == decide (b.1 < 0))) false r6 q
 else bif (mode == 4) then oB (octroiref02_nearer.sh F q r b mode) fun c_19 =>
  octroiref02_Div.j18 F (fun r720 r620=>k0 r720 r620) (fun r721 r621=>k1 r721 r621) (fun r722 r622=>k2 r722 r622) (!(decide (a.1 < 0) == decide (b.1 < 0))) c_19.1.1 r6 q
 else octroiref02_Div.j18 F (fun r723 r623=>k0 r723 r623) (fun r724 r624=>k1 r724 r624) (fun r725 r625=>k2 r725 r625) (!(decide (a.1 < 0) == decide (b.1 < 0))) false r6 q
def octroiref02_Div.sh (F:Nat) (a:tWide.T) (b:tWide.T) (mode:Int):Option octroiref02_Div.sg.R :=
 bif decide (mode < 0) then some (((0,0),1,()),())
 else bif decide (mode > 4) then some (((0,0),1,()),())
 else oB (octroiref02_QuoRem.sh F a b) fun c_1 =>
 bif (c_1.1.2.2.1 != 0) then some (((0,0),c_1.1.2.2.1,()),())
 else bif (c_1.1.2.1.1 == 0) then bif (c_1.1.2.1.2 == 0) then some ((c_1.1.1,0,()),())
  else octroiref02_Div.j8 F (fun r726 r626=>some ((r626,r726,()),())) (fun r727 r627=>some ((r627,r727,()),())) (fun r728 r628=>some ((r628,r728,()),())) mode a b (0,0) c_1.1.1 c_1.1.2.1
 else octroiref02_Div.j8 F (fun r729 r629=>some ((r629,r729,()),())) (fun r730 r630=>some ((r630,r730,()),())) (fun r731 r631=>some ((r631,r731,()),())) mode a b (0,0) c_1.1.1 c_1.1.2.1
def octroiref02_Div.sp (F:Nat):TA octroiref02_Div.sg.args→Option octroiref02_Div.sg.R:=fun x=>octroiref02_Div.sh F x.1 x.2.1 x.2.2.1
@[reducible] def octroiref10_Holds.sg:Sig:={args:=[.d (.g tWide),.d (.c (.int .i64)),.d (.c (.int .i64))],res:=[.c .bool]}
def octroiref10_Holds.sh (F:Nat) (x:tWide.T) (n:Int) (op:Int):Option octroiref10_Holds.sg.R :=
 oB (octroiref01_Of.sh F n) fun c_1 =>
 oB (octroiref01_Cmp.sh F x c_1.1.1) fun c_2 =>
 bif (op == 1) then some ((decide (c_2.1.1 < 0),()),())
 else bif (op == 2) then some ((decide (c_2.1.1 ≤ 0),()),())
 else bif (op == 3) then some ((decide (c_2.1.1 > 0),()),())
 else bif (op == 4) then some ((decide (c_2.1.1 ≥ 0),()),())
 else bif (op == 5) then some (((c_2.1.1 == 0),()),())
 else some (((c_2.1.1 != 0),()),())
def octroiref10_Holds.sp (F:Nat):TA octroiref10_Holds.sg.args→Option octroiref10_Holds.sg.R:=fun x=>octroiref10_Holds.sh F x.1 x.2.1 x.2.2.1
@[reducible] def octroiref10_inner.sg:Sig:={args:=[.d (.g tNode),.d (.g tWide),.d (.b tWide)],res:=[.g tWide]}
def octroiref10_inner.j26 {R:Type} (F:Nat) (k0:tWide.T→Option R) (k1:tWide.T→Option R) (k:List tWide.T) (n:tNode.T) (r6:tWide.T):Option R :=
 bif idx 0 k.length then oB (octroiref10_Holds.sh F (get tWide k 0) n.2.1 n.2.2.1) fun c_18 =>
  bif c_18.1.1 then bif idx 1 k.length then k0 (get tWide k 1)
   else none
  else bif idx 2 k.length then k1 (get tWide k 2)
  else none
 else none
def octroiref10_inner.sh (F:Nat) (n:tNode.T) (unit:tWide.T) (k:List tWide.T):Option octroiref10_inner.sg.R :=
 oB (octroiref01_Of.sh F 0) fun c_1 =>
 oB (octroiref01_Of.sh F n.2.1) fun c_2 =>
 bif (n.1 == 5) then bif idx 0 k.length then oB (octroiref10_Less.sh F c_1.1.1 (get tWide k 0)) fun c_3 =>
   some ((c_3.1.1,()),())
  else none
 else bif (n.1 == 6) then bif idx 0 k.length then bif idx 1 k.length then oB (octroiref10_Plus.sh F (get tWide k 0) (get tWide k 1)) fun c_4 =>
    some ((c_4.1.1,()),())
   else none
  else none
 else bif (n.1 == 7) then bif idx 0 k.length then bif idx 1 k.length then oB (octroiref10_Less.sh F (get tWide k 0) (get tWide k 1)) fun c_5 =>
    some ((c_5.1.1,()),())
   else none
  else none
 else bif (n.1 == 8) then bif idx 0 k.length then bif idx 1 k.length then oB (octroiref10_By.sh F (get tWide k 0) (get tWide k 1)) fun c_6 =>
    some ((c_6.1.1,()),())
   else none
  else none
 else bif (n.1 == 9) then oB (octroiref10_best.sh F k (-1)) fun c_7 =>
  some ((c_7.1.1,()),())
 else bif (n.1 == 10) then oB (octroiref10_best.sh F k 1) fun c_8 =>
  some ((c_8.1.1,()),())
 else bif (n.1 == 11) then bif idx 0 k.length then oB (octroiref10_Less.sh F (get tWide k 0) c_2.1.1) fun c_9 =>
   oB (octroiref10_best.sh F ([c_9.1.1,c_1.1.1]:List tWide.T) 1) fun c_10 =>
   some ((c_10.1.1,()),())
  else none
 else bif (n.1 == 12) then bif idx 0 k.length then oB (octroiref10_best.sh F ([(get tWide k 0),c_2.1.1]:List tWide.T) (-1)) fun c_11 =>
   some ((c_11.1.1,()),())
  else none
 else bif (n.1 == 13) then bif (n.1 == 13) then bif idx 0 k.length then oB (octroiref10_Charge.sh F n.1 n.2.2.2.2.1 (get tWide k 0)) fun c_12 =>
    oB (octroiref10_By.sh F unit c_12.1.1) fun c_13 =>
    some ((c_13.1.1,()),())
   else none
  else bif (n.1 == 15) then bif idx 0 k.length then oB (octroiref01_Of.sh F (IntKind.i64.wrap (10000 - n.2.1))) fun c_14 =>
    oB (octroiref10_By.sh F (get tWide k 0) c_14.1.1) fun c_15 =>
    oB (octroiref01_Of.sh F 10000) fun c_16 =>
    oB (octroiref02_Div.sh F c_15.1.1 c_16.1.1 0) fun c_17 =>
    some ((c_17.1.1,()),())
   else none
  else octroiref10_inner.j26 F (fun r619=>some ((r619,()),())) (fun r620=>some ((r620,()),())) k n (0,0)
 else bif (n.1 == 14) then bif idx 0 k.length then oB (octroiref10_Charge.sh F n.1 n.2.2.2.2.1 (get tWide k 0)) fun c_21 =>
   oB (octroiref10_By.sh F unit c_21.1.1) fun c_22 =>
   some ((c_22.1.1,()),())
  else none
 else bif (n.1 == 15) then bif idx 0 k.length then oB (octroiref01_Of.sh F (IntKind.i64.wrap (10000 - n.2.1))) fun c_23 =>
   oB (octroiref10_By.sh F (get tWide k 0) c_23.1.1) fun c_24 =>
   oB (octroiref01_Of.sh F 10000) fun c_25 =>
   oB (octroiref02_Div.sh F c_24.1.1 c_25.1.1 0) fun c_26 =>
   some ((c_26.1.1,()),())
  else none
 else octroiref10_inner.j26 F (fun r627=>some ((r627,()),())) (fun r628=>some ((r628,()),())) k n (0,0)
def octroiref10_inner.sp (F:Nat):TA octroiref10_inner.sg.args→Option octroiref10_inner.sg.R:=fun x=>octroiref10_inner.sh F x.1 x.2.1 x.2.2.1
@[reducible] def octroiref10_Values.sg:Sig:={args:=[.d (.g tPlan),.d (.b (.int .i64))],res:=[.c (.sl tWide),.c (.int .i64)]}
def octroiref10_Values.l7.body {R:Type} (F:Nat) (k0:(List tWide.T)→Int→Option R) (k1:(List Int)→Int→Bool→tPlan.T→tWide.T→Option R) (rec:(List Int)→Int→tPlan.T→tWide.T→Option R) (q:List Int) (i:Int) (p:tPlan.T) (unit:tWide.T):Option R :=
 bif decide (i < (q.length:Int)) then bif idx i q.length then bif decide ((get (.int .i64) q i.toNat) < 0) then k0 ([]) 101
   else bif idx i q.length then bif decide ((get (.int .i64) q i.toNat) > 1099511627776) then k0 ([]) 101
    else rec q (IntKind.i64.wrap (i + 1)) p unit
   else none
  else none
 else k1 q i (decide (i < (q.length:Int))) p unit
def octroiref10_Values.l7 {R:Type} (F:Nat) (k0:(List tWide.T)→Int→Option R) (k1:(List Int)→Int→Bool→tPlan.T→tWide.T→Option R):Nat→(List Int)→Int→tPlan.T→tWide.T→Option R
 | 0,_,_,_,_=>none
 | fu + 1,q,i,p,unit=>octroiref10_Values.l7.body F k0 k1 (octroiref10_Values.l7 F k0 k1 fu) q i p unit
def octroiref10_Values.l14.body {R:Type} (F:Nat) (k0:(List Int)→Int→Bool→tPlan.T→tWide.T→(List tWide.T)→(List tWide.T)→Option R) (rec:(List Int)→Int→tPlan.T→tWide.T→(List tWide.T)→(List tWide.T)→Option R) (q:List Int) (i:Int) (p:tPlan.T) (unit:tWide.T) (out:List tWide.T) (pile:List tWide.T):Option R :=
 bif decide (i < (p.2.2.2.length:Int)) then bif idx i p.2.2.2.length then oB (octroiref05_Takes.sh F (get tNode p.2.2.2 i.toNat)) fun c_4 =>
   bif ((IntKind.i64.wrap ((pile.length:Int) - c_4.1.1)) == (pile.length:Int)) then oB (octroiref10_leaf.sh F p (get tNode p.2.2.2 i.toNat) unit q) fun c_5 =>
    bif Nat.ble (out.length + ([c_5.1.1]:List tWide.T).length) maxN then bif (bounds pile.length none (some (IntKind.i64.wrap ((pile.length:Int) - c_4.1.1)))).1 then bif Nat.ble ((bounds pile.length none (some (IntKind.i64.wrap ((pile.length:Int) - c_4.1.1)))).2.2 + ([c_5.1.1]:List tWide.T).length) maxN then rec q (IntKind.i64.wrap (i + 1)) p unit (out ++ ([c_5.1.1]:List tWide.T)) (pile.take (bounds pile.length none (some (IntKind.i64.wrap ((pile.length:Int) - c_4.1.1)))).2.2 ++ ([c_5.1.1]:List tWide.T))
      else none
     else none
    else none
   else bif (bounds pile.length (some (IntKind.i64.wrap ((pile.length:Int) - c_4.1.1))) none).1 then oB (octroiref10_inner.sh F (get tNode p.2.2.2 i.toNat) unit ((List.take (bounds pile.length (some (IntKind.i64.wrap ((pile.length:Int) - c_4.1.1))) none).2.2 pile).drop (bounds pile.length (some (IntKind.i64.wrap ((pile.length:Int) - c_4.1.1))) none).2.1)) fun c_6 =>
    bif Nat.ble (out.length + ([c_6.1.1]:List tWide.T).length) maxN then bif (bounds pile.length none (some (IntKind.i64.wrap ((pile.length:Int) - c_4.1.1)))).1 then bif Nat.ble ((bounds pile.length none (some (IntKind.i64.wrap ((pile.length:Int) - c_4.1.1)))).2.2 + ([c_6.1.1]:List tWide.T).length) maxN then rec q (IntKind.i64.wrap (i + 1)) p unit (out ++ ([c_6.1.1]:List tWide.T)) (pile.take (bounds pile.length none (some (IntKind.i64.wrap ((pile.length:Int) - c_4.1.1)))).2.2 ++ ([c_6.1.1]:List tWide.T))
      else none
     else none
    else none
   else none
  else none
 else k0 q i (decide (i < (p.2.2.2.length:Int))) p unit out pile
def octroiref10_Values.l14 {R:Type} (F:Nat) (k0:(List Int)→Int→Bool→tPlan.T→tWide.T→(List tWide.T)→(List tWide.T)→Option R):Nat→(List Int)→Int→tPlan.T→tWide.T→(List tWide.T)→(List tWide.T)→Option R
 | 0,_,_,_,_,_,_=>none
 | fu + 1,q,i,p,unit,out,pile=>octroiref10_Values.l14.body F k0 (octroiref10_Values.l14 F k0 fu) q i p unit out pile
def octroiref10_Values.j24 {R:Type} (F:Nat) (k0:(List tWide.T)→Int→Option R) (out:List tWide.T):Option R :=
 k0 out 0
def octroiref10_Values.sh (F:Nat) (p:tPlan.T) (q:List Int):Option octroiref10_Values.sg.R :=
 oB (octroiref09_Unit.sh F p) fun c_1 =>
 bif (c_1.1.2.2.1 != 0) then some (([],c_1.1.2.2.1,()),())
 else bif ((q.length:Int) != (p.2.1.length:Int)) then some (([],100,()),())
 else octroiref10_Values.l7 F (fun r42 r52=>some ((r42,r52,()),())) (fun q3 i3 t343 p3 unit3=>octroiref10_Values.l14 F (fun q7 i7 t537 p7 unit7 out7 pile7=>octroiref10_Values.j24 F (fun r48 r58=>some ((r48,r58,()),())) out7) F q3 0 p3 unit3 ([]) ([])) F q 0 p c_1.1.1
def octroiref10_Values.sp (F:Nat):TA octroiref10_Values.sg.args→Option octroiref10_Values.sg.R:=fun x=>octroiref10_Values.sh F x.1 x.2.1
@[reducible] def octroiref10_Exact.sg:Sig:={args:=[.d (.g tPlan),.d (.b (.int .i64))],res:=[.g tWide,.c (.int .i64)]}
def octroiref10_Exact.sh (F:Nat) (p:tPlan.T) (q:List Int):Option octroiref10_Exact.sg.R :=
 oB (octroiref10_Values.sh F p q) fun c_1 =>
 bif (c_1.1.2.1 != 0) then some (((0,0),c_1.1.2.1,()),())
 else bif idx (IntKind.i64.wrap ((c_1.1.1.length:Int) - 1)) c_1.1.1.length then some (((get tWide c_1.1.1 ((IntKind.i64.wrap ((c_1.1.1.length:Int) - 1)).toNat)),0,()),())
 else none
def octroiref10_Exact.sp (F:Nat):TA octroiref10_Exact.sg.args→Option octroiref10_Exact.sg.R:=fun x=>octroiref10_Exact.sh F x.1 x.2.1
@[reducible] def octroilaw10_EvalValues.sg:Sig:={args:=[.d (.g tPlan),.d (.b (.int .i64))],res:=[.c .bool]}
@[reducible] def octroiref01_Int.sg:Sig:={args:=[.d (.g tWide)],res:=[.c (.int .i64),.c .bool]}
def octroiref01_Int.sh (F:Nat) (w:tWide.T):Option octroiref01_Int.sg.R :=
 oB (octroiref01_Of.sh F (IntKind.i64.wrap w.2)) fun c_1 =>
 bif !((c_1.1.1.1 == w.1) && ((c_1.1.1.2 == w.2) && true)) then some ((0,false,()),())
 else some ((IntKind.i64.wrap w.2,true,()),())
def octroiref01_Int.sp (F:Nat):TA octroiref01_Int.sg.args→Option octroiref01_Int.sg.R:=fun x=>octroiref01_Int.sh F x.1
@[reducible] def octroiref10_Rounded.sg:Sig:={args:=[.d (.g tWide),.d (.g tWide),.d (.c (.int .i64))],res:=[.c (.int .i64),.c (.int .i64)]}
def octroiref10_Rounded.sh (F:Nat) (exact:tWide.T) (unit:tWide.T) (mode:Int):Option octroiref10_Rounded.sg.R :=
 oB (octroiref02_Div.sh F exact unit mode) fun c_1 =>
 bif (c_1.1.2.1 != 0) then some ((0,c_1.1.2.1,()),())
 else oB (octroiref01_Int.sh F c_1.1.1) fun c_2 =>
 bif !c_2.1.2.1 then some ((0,102,()),())
 else bif decide (c_2.1.1 < (-1000000000000000)) then some ((0,102,()),())
 else bif decide (c_2.1.1 > 1000000000000000) then some ((0,102,()),())
 else some ((c_2.1.1,0,()),())
def octroiref10_Rounded.sp (F:Nat):TA octroiref10_Rounded.sg.args→Option octroiref10_Rounded.sg.R:=fun x=>octroiref10_Rounded.sh F x.1 x.2.1 x.2.2.1
@[reducible] def octroiref10_Price.sg:Sig:={args:=[.d (.g tPlan),.d (.b (.int .i64))],res:=[.c (.int .i64),.c (.int .i64)]}
def octroiref10_Price.sh (F:Nat) (p:tPlan.T) (q:List Int):Option octroiref10_Price.sg.R :=
 oB (octroiref10_Exact.sh F p q) fun c_1 =>
 bif (c_1.1.2.1 != 0) then some ((0,c_1.1.2.1,()),())
 else oB (octroiref09_Unit.sh F p) fun c_2 =>
 oB (octroiref10_Rounded.sh F c_1.1.1 c_2.1.1 p.2.2.1) fun c_3 =>
 some ((c_3.1.1,c_3.1.2.1,()),())
def octroiref10_Price.sp (F:Nat):TA octroiref10_Price.sg.args→Option octroiref10_Price.sg.R:=fun x=>octroiref10_Price.sh F x.1 x.2.1
@[reducible] def octroilaw10_EvalPrices.sg:Sig:={args:=[.d (.g tPlan),.d (.b (.sl (.int .i64)))],res:=[.c .bool]}
def octroilaw10_EvalPrices.l4.body {R:Type} (F:Nat) (k0:Bool→Option R) (k1:(List (List Int))→Int→Bool→tPlan.T→Option R) (rec:(List (List Int))→Int→tPlan.T→Option R) (list:List (List Int)) (i:Int) (p:tPlan.T):Option R :=
 bif decide (i < (list.length:Int)) then bif decide (i < 64) then bif idx i list.length then oB (eval_Price.sh F p (get (.sl (.int .i64)) list i.toNat)) fun c_2 =>
    bif idx i list.length then oB (octroiref10_Price.sh F p (get (.sl (.int .i64)) list i.toNat)) fun c_3 =>
     bif (c_2.1.1 != c_3.1.1) then k0 false
     else bif (c_2.1.2.1 != c_3.1.2.1) then k0 false
     else rec list (IntKind.i64.wrap (i + 1)) p
    else none
   else none
  else k1 list i (decide (i < 64)) p
 else k1 list i false p
def octroilaw10_EvalPrices.l4 {R:Type} (F:Nat) (k0:Bool→Option R) (k1:(List (List Int))→Int→Bool→tPlan.T→Option R):Nat→(List (List Int))→Int→tPlan.T→Option R
 | 0,_,_,_=>none
 | fu + 1,list,i,p=>octroilaw10_EvalPrices.l4.body F k0 k1 (octroilaw10_EvalPrices.l4 F k0 k1 fu) list i p
def octroilaw10_EvalPrices.sh (F:Nat) (p:tPlan.T) (list:List (List Int)):Option octroilaw10_EvalPrices.sg.R :=
 oB (octroilaw10_awake.sh F) fun c_1 =>
 bif !c_1.1.1 then some ((false,()),())
 else octroilaw10_EvalPrices.l4 F (fun r44=>some ((r44,()),())) (fun list5 i5 t195 p5=>some ((true,()),())) F list 0 p
def octroilaw10_EvalPrices.sp (F:Nat):TA octroilaw10_EvalPrices.sg.args→Option octroilaw10_EvalPrices.sg.R:=fun x=>octroilaw10_EvalPrices.sh F x.1 x.2.1
end Go.VS
