import Derived.Test.YtepflleaeogafaaGreatDoorP1
set_option linter.unusedVariables false
set_option linter.unusedSimpArgs false
set_option linter.unusedSectionVars false
set_option linter.unusedVariables false
set_option maxRecDepth 100000
namespace Go.VS
open Go
@[reducible] def octroiref01_Plus.sg:Sig:={args:=[.d (.a .u64),.d (.a .u64)],res:=[.a .u64]}
def octroiref01_Plus.l3.body {R:Type} (F:Nat) (k0:Int→Int→Bool→(List Int)→(List Int)→(List Int)→Option R) (rec:Int→Int→(List Int)→(List Int)→(List Int)→Option R) (c:Int) (i:Int) (a:List Int) (b:List Int) (r4:List Int):Option R :=
 bif decide (i < 12) then bif (idx i 12 && Nat.beq 12 a.length) then bif (idx i 12 && Nat.beq 12 b.length) then bif (idx i 12 && Nat.beq 12 a.length) then rec (IntKind.u64.wrap ((IntKind.u64.wrap ((IntKind.u64.wrap (c + (a.getD i.toNat 0))) + (b.getD i.toNat 0))).tdiv 65536)) (IntKind.i64.wrap (i + 1)) (a.set i.toNat ((IntKind.u64.wrap ((IntKind.u64.wrap (c + (a.getD i.toNat 0))) + (b.getD i.toNat 0))).tmod 65536)) b r4
    else none
   else none
  else none
 else k0 c i (decide (i < 12)) a b r4
def octroiref01_Plus.l3 {R:Type} (F:Nat) (k0:Int→Int→Bool→(List Int)→(List Int)→(List Int)→Option R):Nat→Int→Int→(List Int)→(List Int)→(List Int)→Option R
 | 0,_,_,_,_,_=>none
 | fu + 1,c,i,a,b,r4=>octroiref01_Plus.l3.body F k0 (octroiref01_Plus.l3 F k0 fu) c i a b r4
def octroiref01_Plus.sh (F:Nat) (a:List Int) (b:List Int):Option octroiref01_Plus.sg.R :=
 octroiref01_Plus.l3 F (fun c1 i1 t81 a1 b1 r41=>bif Nat.beq 12 a1.length then bif (Nat.beq a1.length r41.length && Nat.beq 12 r41.length) then bif (Nat.beq 12 a1.length && true) then some ((a1,()),())
   else none
  else none
 else none) F 0 0 a b (List.replicate 12 0)
def octroiref01_Plus.sp (F:Nat):TA octroiref01_Plus.sg.args→Option octroiref01_Plus.sg.R:=fun x=>octroiref01_Plus.sh F x.1 x.2.1
@[reducible] def octroiref01_Turned.sg:Sig:={args:=[.d (.a .u64)],res:=[.a .u64]}
def octroiref01_Turned.l2.body {R:Type} (F:Nat) (k0:Int→Bool→(List Int)→(List Int)→Option R) (rec:Int→(List Int)→(List Int)→Option R) (i:Int) (a:List Int) (r2:List Int):Option R :=
 bif decide (i < 12) then bif (idx i 12 && Nat.beq 12 a.length) then bif (idx i 12 && Nat.beq 12 a.length) then rec (IntKind.i64.wrap (i + 1)) (a.set i.toNat (IntKind.u64.wrap (65535 - (a.getD i.toNat 0)))) r2
   else none
  else none
 else k0 i (decide (i < 12)) a r2
def octroiref01_Turned.l2 {R:Type} (F:Nat) (k0:Int→Bool→(List Int)→(List Int)→Option R):Nat→Int→(List Int)→(List Int)→Option R
 | 0,_,_,_=>none
 | fu + 1,i,a,r2=>octroiref01_Turned.l2.body F k0 (octroiref01_Turned.l2 F k0 fu) i a r2
def octroiref01_Turned.sh (F:Nat) (a:List Int):Option octroiref01_Turned.sg.R :=
 octroiref01_Turned.l2 F (fun i1 t51 a1 r21=>bif Nat.beq 12 a1.length then oB (octroiref01_Plus.sh F a1 ((List.replicate 12 0).set 0 1)) fun c_2 =>
  bif (Nat.beq c_2.1.1.length r21.length && Nat.beq 12 r21.length) then bif (Nat.beq 12 c_2.1.1.length && true) then some ((c_2.1.1,()),())
   else none
  else none
 else none) F 0 a (List.replicate 12 0)
def octroiref01_Turned.sp (F:Nat):TA octroiref01_Turned.sg.args→Option octroiref01_Turned.sg.R:=fun x=>octroiref01_Turned.sh F x.1
@[reducible] def octroiref01_Abs.sg:Sig:={args:=[.d (.g tWide)],res:=[.c (.int .u64),.c (.int .u64)]}
def octroiref01_Abs.l7.body {R:Type} (F:Nat) (k0:Int→Int→Int→Bool→(List Int)→Option R) (rec:Int→Int→Int→(List Int)→Option R) (hi:Int) (lo:Int) (i:Int) (l:List Int):Option R :=
 bif decide (i ≥ 0) then bif (idx i 12 && Nat.beq 12 l.length) then bif (idx (IntKind.i64.wrap (i + 4)) 12 && Nat.beq 12 l.length) then rec (IntKind.u64.wrap ((IntKind.u64.wrap (hi * 65536)) + (l.getD ((IntKind.i64.wrap (i + 4)).toNat) 0))) (IntKind.u64.wrap ((IntKind.u64.wrap (lo * 65536)) + (l.getD i.toNat 0))) (IntKind.i64.wrap (i - 1)) l
   else none
  else none
 else k0 hi lo i (decide (i ≥ 0)) l
def octroiref01_Abs.l7 {R:Type} (F:Nat) (k0:Int→Int→Int→Bool→(List Int)→Option R):Nat→Int→Int→Int→(List Int)→Option R
 | 0,_,_,_,_=>none
 | fu + 1,hi,lo,i,l=>octroiref01_Abs.l7.body F k0 (octroiref01_Abs.l7 F k0 fu) hi lo i l
def octroiref01_Abs.j4 {R:Type} (F:Nat) (k0:Int→Int→Option R) (l:List Int):Option R :=
 octroiref01_Abs.l7 F (fun hi4 lo4 i4 t154 l4=>k0 hi4 lo4) F 0 0 3 l
def octroiref01_Abs.sh (F:Nat) (w:tWide.T):Option octroiref01_Abs.sg.R :=
 oB (octroiref01_Digits.sh F w) fun c_1 =>
 bif (Nat.beq c_1.1.1.length (List.replicate 12 0).length && Nat.beq 12 (List.replicate 12 0).length) then bif Nat.beq 12 c_1.1.1.length then oB (octroiref01_Below.sh F c_1.1.1) fun c_2 =>
   bif c_2.1.1 then bif Nat.beq 12 c_1.1.1.length then oB (octroiref01_Turned.sh F c_1.1.1) fun c_3 =>
     bif (Nat.beq c_3.1.1.length c_1.1.1.length && Nat.beq 12 c_1.1.1.length) then octroiref01_Abs.j4 F (fun r25 r35=>some ((r25,r35,()),())) c_3.1.1
     else none
    else none
   else octroiref01_Abs.j4 F (fun r26 r36=>some ((r26,r36,()),())) c_1.1.1
  else none
 else none
def octroiref01_Abs.sp (F:Nat):TA octroiref01_Abs.sg.args→Option octroiref01_Abs.sg.R:=fun x=>octroiref01_Abs.sh F x.1
@[reducible] def octroiref02_digits.sg:Sig:={args:=[.d (.c (.int .u64)),.d (.c (.int .u64))],res:=[.a .u64]}
def octroiref02_digits.l3.body {R:Type} (F:Nat) (k0:Int→Int→Int→Bool→(List Int)→(List Int)→Option R) (rec:Int→Int→Int→(List Int)→(List Int)→Option R) (hi:Int) (lo:Int) (i:Int) (r4:List Int) (d:List Int):Option R :=
 bif decide (i < 4) then bif decide (0 ≤ (IntKind.u64.wrap (IntKind.i64.wrap (16 * i)))) then bif (idx i 8 && Nat.beq 8 d.length) then bif decide (0 ≤ (IntKind.u64.wrap (IntKind.i64.wrap (16 * i)))) then bif (idx (IntKind.i64.wrap (i + 4)) 8 && Nat.beq 8 (d.set i.toNat ((lo.fdiv (2 ^ (min (IntKind.u64.wrap (IntKind.i64.wrap (16 * i))).toNat IntKind.u64.bits))).tmod 65536)).length) then rec hi lo (IntKind.i64.wrap (i + 1)) r4 ((d.set i.toNat ((lo.fdiv (2 ^ (min (IntKind.u64.wrap (IntKind.i64.wrap (16 * i))).toNat IntKind.u64.bits))).tmod 65536)).set ((IntKind.i64.wrap (i + 4)).toNat) ((hi.fdiv (2 ^ (min (IntKind.u64.wrap (IntKind.i64.wrap (16 * i))).toNat IntKind.u64.bits))).tmod 65536))
     else none
    else none
   else none
  else none
 else k0 hi lo i (decide (i < 4)) r4 d
def octroiref02_digits.l3 {R:Type} (F:Nat) (k0:Int→Int→Int→Bool→(List Int)→(List Int)→Option R):Nat→Int→Int→Int→(List Int)→(List Int)→Option R
 | 0,_,_,_,_,_=>none
 | fu + 1,hi,lo,i,r4,d=>octroiref02_digits.l3.body F k0 (octroiref02_digits.l3 F k0 fu) hi lo i r4 d
def octroiref02_digits.sh (F:Nat) (hi:Int) (lo:Int):Option octroiref02_digits.sg.R :=
 octroiref02_digits.l3 F (fun hi1 lo1 i1 t81 r41 d1=>bif Nat.beq 8 d1.length then bif (Nat.beq d1.length r41.length && Nat.beq 8 r41.length) then bif (Nat.beq 8 d1.length && true) then some ((d1,()),())
   else none
  else none
 else none) F hi lo 0 (List.replicate 8 0) (List.replicate 8 0)
def octroiref02_digits.sp (F:Nat):TA octroiref02_digits.sg.args→Option octroiref02_digits.sg.R:=fun x=>octroiref02_digits.sh F x.1 x.2.1
@[reducible] def octroiref01_Wide.sg:Sig:={args:=[.d (.a .u64)],res:=[.g tWide,.c .bool]}
def octroiref01_Wide.l5.body {R:Type} (F:Nat) (k0:Bool→tWide.T→Option R) (k1:Int→Int→Bool→(List Int)→tWide.T→Option R) (rec:Int→Int→(List Int)→tWide.T→Option R) (top:Int) (i:Int) (l:List Int) (r2:tWide.T):Option R :=
 bif decide (i < 12) then bif (idx i 12 && Nat.beq 12 l.length) then bif ((l.getD i.toNat 0) != top) then k0 false (0,0)
   else rec top (IntKind.i64.wrap (i + 1)) l r2
  else none
 else k1 top i (decide (i < 12)) l r2
def octroiref01_Wide.l5 {R:Type} (F:Nat) (k0:Bool→tWide.T→Option R) (k1:Int→Int→Bool→(List Int)→tWide.T→Option R):Nat→Int→Int→(List Int)→tWide.T→Option R
 | 0,_,_,_,_=>none
 | fu + 1,top,i,l,r2=>octroiref01_Wide.l5.body F k0 k1 (octroiref01_Wide.l5 F k0 k1 fu) top i l r2
def octroiref01_Wide.l12.body {R:Type} (F:Nat) (k0:Int→Int→Int→Bool→(List Int)→tWide.T→Option R) (rec:Int→Int→Int→(List Int)→tWide.T→Option R) (lo:Int) (hi:Int) (i:Int) (l:List Int) (r2:tWide.T):Option R :=
 bif decide (i ≥ 0) then bif (idx i 12 && Nat.beq 12 l.length) then bif (idx (IntKind.i64.wrap (i + 4)) 12 && Nat.beq 12 l.length) then rec (IntKind.u64.wrap ((IntKind.u64.wrap (lo * 65536)) + (l.getD i.toNat 0))) (IntKind.u64.wrap ((IntKind.u64.wrap (hi * 65536)) + (l.getD ((IntKind.i64.wrap (i + 4)).toNat) 0))) (IntKind.i64.wrap (i - 1)) l r2
   else none
  else none
 else k0 lo hi i (decide (i ≥ 0)) l r2
def octroiref01_Wide.l12 {R:Type} (F:Nat) (k0:Int→Int→Int→Bool→(List Int)→tWide.T→Option R):Nat→Int→Int→Int→(List Int)→tWide.T→Option R
 | 0,_,_,_,_,_=>none
 | fu + 1,lo,hi,i,l,r2=>octroiref01_Wide.l12.body F k0 (octroiref01_Wide.l12 F k0 fu) lo hi i l r2
def octroiref01_Wide.j4 {R:Type} (F:Nat) (k0:Bool→tWide.T→Option R) (k1:Bool→tWide.T→Option R) (top:Int) (l:List Int) (r2:tWide.T):Option R :=
 octroiref01_Wide.l5 F (fun r31 r21=>k0 r31 r21) (fun top2 i2 t132 l2 r22=>octroiref01_Wide.l12 F (fun lo3 hi3 i3 t233 l3 r23=>k1 true (IntKind.i64.wrap hi3,lo3)) F 0 0 3 l2 r22) F top 8 l r2
def octroiref01_Wide.sh (F:Nat) (l:List Int):Option octroiref01_Wide.sg.R :=
 bif (idx 7 12 && Nat.beq 12 l.length) then bif decide ((l.getD 7 0) ≥ 32768) then octroiref01_Wide.j4 F (fun r34 r24=>some ((r24,r34,()),())) (fun r35 r25=>some ((r25,r35,()),())) 65535 l (0,0)
  else octroiref01_Wide.j4 F (fun r36 r26=>some ((r26,r36,()),())) (fun r37 r27=>some ((r27,r37,()),())) 0 l (0,0)
 else none
def octroiref01_Wide.sp (F:Nat):TA octroiref01_Wide.sg.args→Option octroiref01_Wide.sg.R:=fun x=>octroiref01_Wide.sh F x.1
@[reducible] def octroiref01_told.sg:Sig:={args:=[.d (.a .u64)],res:=[.g tWide,.c (.int .i64)]}
def octroiref01_told.sh (F:Nat) (l:List Int):Option octroiref01_told.sg.R :=
 bif Nat.beq 12 l.length then oB (octroiref01_Wide.sh F l) fun c_1 =>
  bif !c_1.1.2.1 then some (((0,0),10,()),())
  else some ((c_1.1.1,0,()),())
 else none
def octroiref01_told.sp (F:Nat):TA octroiref01_told.sg.args→Option octroiref01_told.sg.R:=fun x=>octroiref01_told.sh F x.1
@[reducible] def octroiref01_Join.sg:Sig:={args:=[.d (.c .bool),.d (.c (.int .u64)),.d (.c (.int .u64))],res:=[.g tWide,.c (.int .i64)]}
def octroiref01_Join.l3.body {R:Type} (F:Nat) (k0:Bool→Int→Int→Int→Bool→tWide.T→(List Int)→Option R) (rec:Bool→Int→Int→Int→tWide.T→(List Int)→Option R) (below:Bool) (hi:Int) (lo:Int) (i:Int) (r6:tWide.T) (l:List Int):Option R :=
 bif decide (i < 4) then bif decide (0 ≤ (IntKind.u64.wrap (IntKind.i64.wrap (16 * i)))) then bif (idx i 12 && Nat.beq 12 l.length) then bif decide (0 ≤ (IntKind.u64.wrap (IntKind.i64.wrap (16 * i)))) then bif (idx (IntKind.i64.wrap (i + 4)) 12 && Nat.beq 12 (l.set i.toNat ((lo.fdiv (2 ^ (min (IntKind.u64.wrap (IntKind.i64.wrap (16 * i))).toNat IntKind.u64.bits))).tmod 65536)).length) then rec below hi lo (IntKind.i64.wrap (i + 1)) r6 ((l.set i.toNat ((lo.fdiv (2 ^ (min (IntKind.u64.wrap (IntKind.i64.wrap (16 * i))).toNat IntKind.u64.bits))).tmod 65536)).set ((IntKind.i64.wrap (i + 4)).toNat) ((hi.fdiv (2 ^ (min (IntKind.u64.wrap (IntKind.i64.wrap (16 * i))).toNat IntKind.u64.bits))).tmod 65536))
     else none
    else none
   else none
  else none
 else k0 below hi lo i (decide (i < 4)) r6 l
def octroiref01_Join.l3 {R:Type} (F:Nat) (k0:Bool→Int→Int→Int→Bool→tWide.T→(List Int)→Option R):Nat→Bool→Int→Int→Int→tWide.T→(List Int)→Option R
 | 0,_,_,_,_,_,_=>none
 | fu + 1,below,hi,lo,i,r6,l=>octroiref01_Join.l3.body F k0 (octroiref01_Join.l3 F k0 fu) below hi lo i r6 l
def octroiref01_Join.sh (F:Nat) (below:Bool) (hi:Int) (lo:Int):Option octroiref01_Join.sg.R :=
 octroiref01_Join.l3 F (fun below1 hi1 lo1 i1 t111 r61 l1=>bif below1 then bif Nat.beq 12 l1.length then oB (octroiref01_Turned.sh F l1) fun c_2 =>
   bif (Nat.beq c_2.1.1.length l1.length && Nat.beq 12 l1.length) then bif Nat.beq 12 c_2.1.1.length then oB (octroiref01_told.sh F c_2.1.1) fun c_3 =>
     some ((c_3.1.1,c_3.1.2.1,()),())
    else none
   else none
  else none
 else bif Nat.beq 12 l1.length then oB (octroiref01_told.sh F l1) fun c_4 =>
  some ((c_4.1.1,c_4.1.2.1,()),())
 else none) F below hi lo 0 (0,0) (List.replicate 12 0)
def octroiref01_Join.sp (F:Nat):TA octroiref01_Join.sg.args→Option octroiref01_Join.sg.R:=fun x=>octroiref01_Join.sh F x.1 x.2.1 x.2.2.1
@[reducible] def octroiref02_Mul.sg:Sig:={args:=[.d (.g tWide),.d (.g tWide)],res:=[.g tWide,.c (.int .i64)]}
def octroiref02_Mul.l9.body {R:Type} (F:Nat) (k0:Int→Int→Int→Bool→tWide.T→tWide.T→tWide.T→(List Int)→(List Int)→(List Int)→Option R) (rec:Int→Int→Int→tWide.T→tWide.T→tWide.T→(List Int)→(List Int)→(List Int)→Option R) (i:Int) (c:Int) (j:Int) (a:tWide.T) (b:tWide.T) (r4:tWide.T) (x:List Int) (y:List Int) (p:List Int):Option R :=
 bif decide (j < 8) then bif (idx (IntKind.i64.wrap (i + j)) 17 && Nat.beq 17 p.length) then bif (idx i 8 && Nat.beq 8 x.length) then bif (idx j 8 && Nat.beq 8 y.length) then bif (idx (IntKind.i64.wrap (i + j)) 17 && Nat.beq 17 p.length) then rec i (IntKind.u64.wrap ((IntKind.u64.wrap ((IntKind.u64.wrap (c + (p.getD ((IntKind.i64.wrap (i + j)).toNat) 0))) + (IntKind.u64.wrap ((x.getD i.toNat 0) * (y.getD j.toNat 0))))).tdiv 65536)) (IntKind.i64.wrap (j + 1)) a b r4 x y (p.set ((IntKind.i64.wrap (i + j)).toNat) ((IntKind.u64.wrap ((IntKind.u64.wrap (c + (p.getD ((IntKind.i64.wrap (i + j)).toNat) 0))) + (IntKind.u64.wrap ((x.getD i.toNat 0) * (y.getD j.toNat 0))))).tmod 65536))
     else none
    else none
   else none
  else none
 else k0 i c j (decide (j < 8)) a b r4 x y p
def octroiref02_Mul.l9 {R:Type} (F:Nat) (k0:Int→Int→Int→Bool→tWide.T→tWide.T→tWide.T→(List Int)→(List Int)→(List Int)→Option R):Nat→Int→Int→Int→tWide.T→tWide.T→tWide.T→(List Int)→(List Int)→(List Int)→Option R
 | 0,_,_,_,_,_,_,_,_,_=>none
 | fu + 1,i,c,j,a,b,r4,x,y,p=>octroiref02_Mul.l9.body F k0 (octroiref02_Mul.l9 F k0 fu) i c j a b r4 x y p
def octroiref02_Mul.l5.body {R:Type} (F:Nat) (k0:Int→Bool→tWide.T→tWide.T→tWide.T→(List Int)→(List Int)→(List Int)→Option R) (rec:Int→tWide.T→tWide.T→tWide.T→(List Int)→(List Int)→(List Int)→Option R) (i:Int) (a:tWide.T) (b:tWide.T) (r4:tWide.T) (x:List Int) (y:List Int) (p:List Int):Option R :=
 bif decide (i < 8) then octroiref02_Mul.l9 F (fun i5 c5 j5 t315 a5 b5 r45 x5 y5 p5=>bif (idx (IntKind.i64.wrap (i5 + 8)) 17 && Nat.beq 17 p5.length) then rec (IntKind.i64.wrap (i5 + 1)) a5 b5 r45 x5 y5 (p5.set ((IntKind.i64.wrap (i5 + 8)).toNat) c5)
  else none) F i 0 0 a b r4 x y p
 else k0 i (decide (i < 8)) a b r4 x y p
def octroiref02_Mul.l5 {R:Type} (F:Nat) (k0:Int→Bool→tWide.T→tWide.T→tWide.T→(List Int)→(List Int)→(List Int)→Option R):Nat→Int→tWide.T→tWide.T→tWide.T→(List Int)→(List Int)→(List Int)→Option R
 | 0,_,_,_,_,_,_,_=>none
 | fu + 1,i,a,b,r4,x,y,p=>octroiref02_Mul.l5.body F k0 (octroiref02_Mul.l5 F k0 fu) i a b r4 x y p
def octroiref02_Mul.l16.body {R:Type} (F:Nat) (k0:Int→tWide.T→Option R) (k1:Int→Bool→tWide.T→tWide.T→tWide.T→(List Int)→Option R) (rec:Int→tWide.T→tWide.T→tWide.T→(List Int)→Option R) (i:Int) (a:tWide.T) (b:tWide.T) (r4:tWide.T) (p:List Int):Option R :=
 bif decide (i < 17) then bif (idx i 17 && Nat.beq 17 p.length) then bif ((p.getD i.toNat 0) != 0) then k0 10 (0,0)
   else rec (IntKind.i64.wrap (i + 1)) a b r4 p
  else none
 else k1 i (decide (i < 17)) a b r4 p
def octroiref02_Mul.l16 {R:Type} (F:Nat) (k0:Int→tWide.T→Option R) (k1:Int→Bool→tWide.T→tWide.T→tWide.T→(List Int)→Option R):Nat→Int→tWide.T→tWide.T→tWide.T→(List Int)→Option R
 | 0,_,_,_,_,_=>none
 | fu + 1,i,a,b,r4,p=>octroiref02_Mul.l16.body F k0 k1 (octroiref02_Mul.l16 F k0 k1 fu) i a b r4 p
def octroiref02_Mul.l23.body {R:Type} (F:Nat) (k0:Int→Int→Int→Bool→tWide.T→tWide.T→tWide.T→(List Int)→Option R) (rec:Int→Int→Int→tWide.T→tWide.T→tWide.T→(List Int)→Option R) (hi:Int) (lo:Int) (i:Int) (a:tWide.T) (b:tWide.T) (r4:tWide.T) (p:List Int):Option R :=
 bif decide (i ≥ 0) then bif (idx i 17 && Nat.beq 17 p.length) then bif (idx (IntKind.i64.wrap (i + 4)) 17 && Nat.beq 17 p.length) then rec (IntKind.u64.wrap ((IntKind.u64.wrap (hi * 65536)) + (p.getD ((IntKind.i64.wrap (i + 4)).toNat) 0))) (IntKind.u64.wrap ((IntKind.u64.wrap (lo * 65536)) + (p.getD i.toNat 0))) (IntKind.i64.wrap (i - 1)) a b r4 p
   else none
  else none
 else k0 hi lo i (decide (i ≥ 0)) a b r4 p
def octroiref02_Mul.l23 {R:Type} (F:Nat) (k0:Int→Int→Int→Bool→tWide.T→tWide.T→tWide.T→(List Int)→Option R):Nat→Int→Int→Int→tWide.T→tWide.T→tWide.T→(List Int)→Option R
 | 0,_,_,_,_,_,_,_=>none
 | fu + 1,hi,lo,i,a,b,r4,p=>octroiref02_Mul.l23.body F k0 (octroiref02_Mul.l23 F k0 fu) hi lo i a b r4 p
def octroiref02_Mul.sh (F:Nat) (a:tWide.T) (b:tWide.T):Option octroiref02_Mul.sg.R :=
 oB (octroiref01_Abs.sh F a) fun c_1 =>
 oB (octroiref02_digits.sh F c_1.1.1 c_1.1.2.1) fun c_2 =>
 bif (Nat.beq c_2.1.1.length (List.replicate 8 0).length && Nat.beq 8 (List.replicate 8 0).length) then oB (octroiref01_Abs.sh F b) fun c_3 =>
  oB (octroiref02_digits.sh F c_3.1.1 c_3.1.2.1) fun c_4 =>
  bif (Nat.beq c_4.1.1.length (List.replicate 8 0).length && Nat.beq 8 (List.replicate 8 0).length) then octroiref02_Mul.l5 F (fun i6 t276 a6 b6 r46 x6 y6 p6=>octroiref02_Mul.l16 F (fun r57 r47=>some ((r47,r57,()),())) (fun i8 t628 a8 b8 r48 p8=>octroiref02_Mul.l23 F (fun hi9 lo9 i9 t719 a9 b9 r49 p9=>oB (octroiref01_Join.sh F (!(decide (a9.1 < 0) == decide (b9.1 < 0))) hi9 lo9) fun c_10 =>
   some ((c_10.1.1,c_10.1.2.1,()),())) F 0 0 3 a8 b8 r48 p8) F 8 a6 b6 r46 p6) F 0 a b (0,0) c_2.1.1 c_4.1.1 (List.replicate 17 0)
  else none
 else none
def octroiref02_Mul.sp (F:Nat):TA octroiref02_Mul.sg.args→Option octroiref02_Mul.sg.R:=fun x=>octroiref02_Mul.sh F x.1 x.2.1
@[reducible] def octroiref02_Power.sg:Sig:={args:=[.d (.c (.int .i64))],res:=[.g tWide,.c (.int .i64)]}
def octroiref02_Power.l7.body {R:Type} (F:Nat) (k0:Int→Int→Bool→tWide.T→tWide.T→Option R) (rec:Int→Int→tWide.T→tWide.T→Option R) (k:Int) (i:Int) (r2:tWide.T) (p:tWide.T):Option R :=
 bif decide (i < k) then oB (octroiref01_Of.sh F 10000) fun c_2 =>
  oB (octroiref02_Mul.sh F p c_2.1.1) fun c_3 =>
  rec k (IntKind.i64.wrap (i + 1)) r2 c_3.1.1
 else k0 k i (decide (i < k)) r2 p
def octroiref02_Power.l7 {R:Type} (F:Nat) (k0:Int→Int→Bool→tWide.T→tWide.T→Option R):Nat→Int→Int→tWide.T→tWide.T→Option R
 | 0,_,_,_,_=>none
 | fu + 1,k,i,r2,p=>octroiref02_Power.l7.body F k0 (octroiref02_Power.l7 F k0 fu) k i r2 p
def octroiref02_Power.sh (F:Nat) (k:Int):Option octroiref02_Power.sg.R :=
 bif decide (k < 0) then some (((0,0),1,()),())
 else bif decide (k > 9) then some (((0,0),10,()),())
 else oB (octroiref01_Of.sh F 1) fun c_1 =>
 octroiref02_Power.l7 F (fun k4 i4 t154 r24 p4=>some ((p4,0,()),())) F k 0 (0,0) c_1.1.1
def octroiref02_Power.sp (F:Nat):TA octroiref02_Power.sg.args→Option octroiref02_Power.sg.R:=fun x=>octroiref02_Power.sh F x.1
@[reducible] def octroiref09_Of.sg:Sig:={args:=[.d (.c (.int .i64))],res:=[.g tBound_meter]}
def octroiref09_Of.sh (F:Nat) (v:Int):Option octroiref09_Of.sg.R :=
 oB (octroiref01_Of.sh F v) fun c_1 =>
 some (((c_1.1.1,false),()),())
def octroiref09_Of.sp (F:Nat):TA octroiref09_Of.sg.args→Option octroiref09_Of.sg.R:=fun x=>octroiref09_Of.sh F x.1
@[reducible] def octroiref09_By.sg:Sig:={args:=[.d (.g tBound_meter),.d (.g tBound_meter)],res:=[.g tBound_meter]}
def octroiref09_By.sh (F:Nat) (a:tBound_meter.T) (b:tBound_meter.T):Option octroiref09_By.sg.R :=
 oB (octroiref02_Mul.sh F a.1 b.1) fun c_1 =>
 bif a.2 then some (((c_1.1.1,true),()),())
 else bif b.2 then some (((c_1.1.1,true),()),())
 else some (((c_1.1.1,(c_1.1.2.1 != 0)),()),())
def octroiref09_By.sp (F:Nat):TA octroiref09_By.sg.args→Option octroiref09_By.sg.R:=fun x=>octroiref09_By.sh F x.1 x.2.1
@[reducible] def octroiref09_Blocks.sg:Sig:={args:=[.d (.c (.int .i64)),.d (.c (.int .i64))],res:=[.c (.int .i64)]}
def octroiref09_Blocks.sh (F:Nat) (q:Int) (size:Int):Option octroiref09_Blocks.sg.R :=
 bif (size != 0) then bif (size != 0) then bif ((q.tmod size) != 0) then some ((IntKind.i64.wrap ((IntKind.i64.wrap (q.tdiv size)) + 1),()),())
   else some ((IntKind.i64.wrap (q.tdiv size),()),())
  else none
 else none
def octroiref09_Blocks.sp (F:Nat):TA octroiref09_Blocks.sg.args→Option octroiref09_Blocks.sg.R:=fun x=>octroiref09_Blocks.sh F x.1 x.2.1
@[reducible] def octroiref09_far.sg:Sig:={args:=[.d (.c (.int .i64))],res:=[.c (.int .i64)]}
def octroiref09_far.sh (F:Nat) (v:Int):Option octroiref09_far.sg.R :=
 bif decide (v < 0) then some ((IntKind.i64.wrap (0 - v),()),())
 else some ((v,()),())
@[reducible] def octroiref01_Add.sg:Sig:={args:=[.d (.g tWide),.d (.g tWide)],res:=[.g tWide,.c (.int .i64)]}
def octroiref01_Add.sh (F:Nat) (a:tWide.T) (b:tWide.T):Option octroiref01_Add.sg.R :=
 oB (octroiref01_Digits.sh F a) fun c_1 =>
 oB (octroiref01_Digits.sh F b) fun c_2 =>
 oB (octroiref01_Plus.sh F c_1.1.1 c_2.1.1) fun c_3 =>
 oB (octroiref01_told.sh F c_3.1.1) fun c_4 =>
 some ((c_4.1.1,c_4.1.2.1,()),())
def octroiref01_Add.sp (F:Nat):TA octroiref01_Add.sg.args→Option octroiref01_Add.sg.R:=fun x=>octroiref01_Add.sh F x.1 x.2.1
@[reducible] def octroiref09_Plus.sg:Sig:={args:=[.d (.g tBound_meter),.d (.g tBound_meter)],res:=[.g tBound_meter]}
def octroiref09_Plus.sh (F:Nat) (a:tBound_meter.T) (b:tBound_meter.T):Option octroiref09_Plus.sg.R :=
 oB (octroiref01_Add.sh F a.1 b.1) fun c_1 =>
 bif a.2 then some (((c_1.1.1,true),()),())
 else bif b.2 then some (((c_1.1.1,true),()),())
 else some (((c_1.1.1,(c_1.1.2.1 != 0)),()),())
def octroiref09_Plus.sp (F:Nat):TA octroiref09_Plus.sg.args→Option octroiref09_Plus.sg.R:=fun x=>octroiref09_Plus.sh F x.1 x.2.1
@[reducible] def octroiref09_scale.sg:Sig:={args:=[.d (.g tBound_meter),.d (.g tBound_meter),.d (.b tTier)],res:=[.g tBound_meter]}
def octroiref09_scale.l4.body {R:Type} (F:Nat) (k0:(List tTier.T)→Int→Int→Bool→tBound_meter.T→tBound_meter.T→tBound_meter.T→tBound_meter.T→Option R) (rec:(List tTier.T)→Int→Int→tBound_meter.T→tBound_meter.T→tBound_meter.T→tBound_meter.T→Option R) (l:List tTier.T) (r:Int) (i:Int) (unit:tBound_meter.T) (x:tBound_meter.T) (r6:tBound_meter.T) (w:tBound_meter.T):Option R :=
 bif decide (i < (l.length:Int)) then bif idx i l.length then oB (octroiref09_far.sh F (get tTier l i.toNat).2) fun c_2 =>
   bif decide (c_2.1.1 > r) then bif idx i l.length then oB (octroiref09_far.sh F (get tTier l i.toNat).2) fun c_3 =>
     bif decide (i < (IntKind.i64.wrap ((l.length:Int) - 1))) then bif idx i l.length then oB (octroiref09_far.sh F (get tTier l i.toNat).2) fun c_4 =>
       oB (octroiref09_Of.sh F c_4.1.1) fun c_5 =>
       bif idx (IntKind.i64.wrap (i + 1)) l.length then bif idx i l.length then oB (octroiref09_Of.sh F (IntKind.i64.wrap ((get tTier l ((IntKind.i64.wrap (i + 1)).toNat)).1 - (get tTier l i.toNat).1))) fun c_6 =>
         oB (octroiref09_By.sh F c_5.1.1 c_6.1.1) fun c_7 =>
         oB (octroiref09_Plus.sh F w c_7.1.1) fun c_8 =>
         rec l c_3.1.1 (IntKind.i64.wrap (i + 1)) unit x r6 c_8.1.1
        else none
       else none
      else none
     else rec l c_3.1.1 (IntKind.i64.wrap (i + 1)) unit x r6 w
    else none
   else bif decide (i < (IntKind.i64.wrap ((l.length:Int) - 1))) then bif idx i l.length then oB (octroiref09_far.sh F (get tTier l i.toNat).2) fun c_9 =>
     oB (octroiref09_Of.sh F c_9.1.1) fun c_10 =>
     bif idx (IntKind.i64.wrap (i + 1)) l.length then bif idx i l.length then oB (octroiref09_Of.sh F (IntKind.i64.wrap ((get tTier l ((IntKind.i64.wrap (i + 1)).toNat)).1 - (get tTier l i.toNat).1))) fun c_11 =>
       oB (octroiref09_By.sh F c_10.1.1 c_11.1.1) fun c_12 =>
       oB (octroiref09_Plus.sh F w c_12.1.1) fun c_13 =>
       rec l r (IntKind.i64.wrap (i + 1)) unit x r6 c_13.1.1
      else none
     else none
    else none
   else rec l r (IntKind.i64.wrap (i + 1)) unit x r6 w
  else none
 else k0 l r i (decide (i < (l.length:Int))) unit x r6 w
def octroiref09_scale.l4 {R:Type} (F:Nat) (k0:(List tTier.T)→Int→Int→Bool→tBound_meter.T→tBound_meter.T→tBound_meter.T→tBound_meter.T→Option R):Nat→(List tTier.T)→Int→Int→tBound_meter.T→tBound_meter.T→tBound_meter.T→tBound_meter.T→Option R
 | 0,_,_,_,_,_,_,_=>none
 | fu + 1,l,r,i,unit,x,r6,w=>octroiref09_scale.l4.body F k0 (octroiref09_scale.l4 F k0 fu) l r i unit x r6 w
def octroiref09_scale.sh (F:Nat) (unit:tBound_meter.T) (x:tBound_meter.T) (l:List tTier.T):Option octroiref09_scale.sg.R :=
 oB (octroiref09_Of.sh F 0) fun c_1 =>
 octroiref09_scale.l4 F (fun l14 r14 i14 t1414 unit14 x14 r614 w14=>oB (octroiref09_Of.sh F r14) fun c_15 =>
 bif idx (IntKind.i64.wrap ((l14.length:Int) - 1)) l14.length then oB (octroiref09_Of.sh F (get tTier l14 ((IntKind.i64.wrap ((l14.length:Int) - 1)).toNat)).1) fun c_16 =>
  oB (octroiref09_Plus.sh F x14 c_16.1.1) fun c_17 =>
  oB (octroiref09_By.sh F c_15.1.1 c_17.1.1) fun c_18 =>
  oB (octroiref09_Plus.sh F c_18.1.1 w14) fun c_19 =>
  oB (octroiref09_By.sh F unit14 c_19.1.1) fun c_20 =>
  some ((c_20.1.1,()),())
 else none) F l 0 0 unit x ((0,0),false) c_1.1.1
def octroiref09_scale.sp (F:Nat):TA octroiref09_scale.sg.args→Option octroiref09_scale.sg.R:=fun x=>octroiref09_scale.sh F x.1 x.2.1 x.2.2.1
@[reducible] def octroiref09_mag.sg:Sig:={args:=[.d (.g tPlan),.d (.g tNode),.d (.g tBound_meter),.d (.b tBound_meter)],res:=[.g tBound_meter]}
def octroiref09_mag.l20.body {R:Type} (F:Nat) (k0:(List tBound_meter.T)→Int→Bool→tNode.T→tBound_meter.T→tBound_meter.T→Option R) (rec:(List tBound_meter.T)→Int→tNode.T→tBound_meter.T→tBound_meter.T→Option R) (l:List tBound_meter.T) (i:Int) (n:tNode.T) (r8:tBound_meter.T) (s:tBound_meter.T):Option R :=
 bif decide (i < (l.length:Int)) then bif idx i l.length then oB (octroiref09_Plus.sh F s (get tBound_meter l i.toNat)) fun c_10 =>
   rec l (IntKind.i64.wrap (i + 1)) n r8 c_10.1.1
  else none
 else k0 l i (decide (i < (l.length:Int))) n r8 s
def octroiref09_mag.l20 {R:Type} (F:Nat) (k0:(List tBound_meter.T)→Int→Bool→tNode.T→tBound_meter.T→tBound_meter.T→Option R):Nat→(List tBound_meter.T)→Int→tNode.T→tBound_meter.T→tBound_meter.T→Option R
 | 0,_,_,_,_,_=>none
 | fu + 1,l,i,n,r8,s=>octroiref09_mag.l20.body F k0 (octroiref09_mag.l20 F k0 fu) l i n r8 s
def octroiref09_mag.j18 {R:Type} (F:Nat) (k0:tBound_meter.T→Option R) (l:List tBound_meter.T) (n:tNode.T) (r8:tBound_meter.T):Option R :=
 oB (octroiref09_Of.sh F 0) fun c_9 =>
 octroiref09_mag.l20 F (fun l11 i11 t6811 n11 r811 s11=>bif (n11.1 == 11) then oB (octroiref09_Of.sh F n11.2.1) fun c_12 =>
  oB (octroiref09_Plus.sh F s11 c_12.1.1) fun c_13 =>
  k0 c_13.1.1
 else bif (n11.1 == 12) then oB (octroiref09_Of.sh F n11.2.1) fun c_14 =>
  oB (octroiref09_Plus.sh F s11 c_14.1.1) fun c_15 =>
  k0 c_15.1.1
 else bif (n11.1 == 16) then oB (octroiref09_Of.sh F n11.2.1) fun c_16 =>
  oB (octroiref09_Plus.sh F s11 c_16.1.1) fun c_17 =>
  k0 c_17.1.1
 else k0 s11) F l 0 n r8 c_9.1.1
def octroiref09_mag.sh (F:Nat) (p:tPlan.T) (n:tNode.T) (unit:tBound_meter.T) (l:List tBound_meter.T):Option octroiref09_mag.sg.R :=
 bif (n.1 == 1) then oB (octroiref09_Of.sh F n.2.1) fun c_1 =>
  some ((c_1.1.1,()),())
 else bif (n.1 == 2) then oB (octroiref09_Of.sh F n.2.1) fun c_2 =>
  oB (octroiref09_By.sh F c_2.1.1 unit) fun c_3 =>
  some ((c_3.1.1,()),())
 else bif (n.1 == 3) then oB (octroiref09_Of.sh F 1099511627776) fun c_4 =>
  some ((c_4.1.1,()),())
 else bif (n.1 == 4) then bif idx n.2.1 p.2.1.length then oB (octroiref09_Blocks.sh F 1099511627776 (get tDim p.2.1 n.2.1.toNat).2) fun c_5 =>
   oB (octroiref09_Of.sh F c_5.1.1) fun c_6 =>
   some ((c_6.1.1,()),())
  else none
 else bif (n.1 == 5) then bif (n.1 == 5) then bif idx 0 l.length then some (((get tBound_meter l 0),()),())
   else none
  else bif (n.1 == 8) then bif idx 0 l.length then bif idx 1 l.length then oB (octroiref09_By.sh F (get tBound_meter l 0) (get tBound_meter l 1)) fun c_7 =>
     some ((c_7.1.1,()),())
    else none
   else none
  else bif (n.1 == 13) then bif (n.1 == 13) then bif idx 0 l.length then oB (octroiref09_scale.sh F unit (get tBound_meter l 0) n.2.2.2.2.1) fun c_8 =>
     some ((c_8.1.1,()),())
    else none
   else octroiref09_mag.j18 F (fun r818=>some ((r818,()),())) l n ((0,0),false)
  else bif (n.1 == 14) then bif idx 0 l.length then oB (octroiref09_scale.sh F unit (get tBound_meter l 0) n.2.2.2.2.1) fun c_19 =>
    some ((c_19.1.1,()),())
   else none
  else octroiref09_mag.j18 F (fun r820=>some ((r820,()),())) l n ((0,0),false)
 else bif (n.1 == 15) then bif idx 0 l.length then some (((get tBound_meter l 0),()),())
  else none
 else bif (n.1 == 8) then bif idx 0 l.length then bif idx 1 l.length then oB (octroiref09_By.sh F (get tBound_meter l 0) (get tBound_meter l 1)) fun c_21 =>
    some ((c_21.1.1,()),())
   else none
  else none
 else bif (n.1 == 13) then bif (n.1 == 13) then bif idx 0 l.length then oB (octroiref09_scale.sh F unit (get tBound_meter l 0) n.2.2.2.2.1) fun c_22 =>
    some ((c_22.1.1,()),())
   else none
  else octroiref09_mag.j18 F (fun r823=>some ((r823,()),())) l n ((0,0),false)
 else bif (n.1 == 14) then bif idx 0 l.length then oB (octroiref09_scale.sh F unit (get tBound_meter l 0) n.2.2.2.2.1) fun c_24 =>
   some ((c_24.1.1,()),())
  else none
 else octroiref09_mag.j18 F (fun r825=>some ((r825,()),())) l n ((0,0),false)
def octroiref09_mag.sp (F:Nat):TA octroiref09_mag.sg.args→Option octroiref09_mag.sg.R:=fun x=>octroiref09_mag.sh F x.1 x.2.1 x.2.2.1 x.2.2.2.1
@[reducible] def octroiref09_Bound.sg:Sig:={args:=[],res:=[.g tWide]}
def octroiref09_Bound.sh (F:Nat):Option octroiref09_Bound.sg.R :=
 some (((72057594037927936,0),()),())
def octroiref09_Bound.sp (F:Nat):TA octroiref09_Bound.sg.args→Option octroiref09_Bound.sg.R:=fun x=>octroiref09_Bound.sh F
@[reducible] def octroiref01_Cmp.sg:Sig:={args:=[.d (.g tWide),.d (.g tWide)],res:=[.c (.int .i64)]}
def octroiref01_Cmp.sh (F:Nat) (a:tWide.T) (b:tWide.T):Option octroiref01_Cmp.sg.R :=
 oB (octroiref01_Digits.sh F a) fun c_1 =>
 oB (octroiref01_Digits.sh F b) fun c_2 =>
 oB (octroiref01_Turned.sh F c_2.1.1) fun c_3 =>
 oB (octroiref01_Plus.sh F c_1.1.1 c_3.1.1) fun c_4 =>
 bif (Nat.beq c_4.1.1.length (List.replicate 12 0).length && Nat.beq 12 (List.replicate 12 0).length) then bif Nat.beq 12 c_4.1.1.length then oB (octroiref01_Below.sh F c_4.1.1) fun c_5 =>
   bif c_5.1.1 then some (((-1),()),())
   else bif Nat.beq 12 c_4.1.1.length then bif (Nat.beq c_4.1.1.length (List.replicate 12 0).length && Nat.beq c_4.1.1.length 12) then bif (c_4.1.1 == List.replicate 12 0) then some ((0,()),())
     else some ((1,()),())
    else none
   else none
  else none
 else none
def octroiref01_Cmp.sp (F:Nat):TA octroiref01_Cmp.sg.args→Option octroiref01_Cmp.sg.R:=fun x=>octroiref01_Cmp.sh F x.1 x.2.1
@[reducible] def octroiref09_Mags.sg:Sig:={args:=[.d (.g tPlan)],res:=[.c (.sl tWide),.c (.int .i64),.c (.int .i64)]}
def octroiref09_Mags.l11.body {R:Type} (F:Nat) (k0:(List tWide.T)→Int→Int→Option R) (k1:Int→Bool→tPlan.T→tWide.T→(List tWide.T)→(List tBound_meter.T)→Option R) (rec:Int→tPlan.T→tWide.T→(List tWide.T)→(List tBound_meter.T)→Option R) (i:Int) (p:tPlan.T) (s:tWide.T) (out:List tWide.T) (pile:List tBound_meter.T):Option R :=
 bif decide (i < (p.2.2.2.length:Int)) then bif idx i p.2.2.2.length then oB (octroiref05_Takes.sh F (get tNode p.2.2.2 i.toNat)) fun c_4 =>
   bif idx i p.2.2.2.length then bif (bounds pile.length (some (IntKind.i64.wrap ((pile.length:Int) - c_4.1.1))) none).1 then oB (octroiref09_mag.sh F p (get tNode p.2.2.2 i.toNat) (s,false) ((List.take (bounds pile.length (some (IntKind.i64.wrap ((pile.length:Int) - c_4.1.1))) none).2.2 pile).drop (bounds pile.length (some (IntKind.i64.wrap ((pile.length:Int) - c_4.1.1))) none).2.1)) fun c_5 =>
     bif idx i p.2.2.2.length then bif ((get tNode p.2.2.2 i.toNat).1 == 15) then oB (octroiref09_Of.sh F 10000) fun c_6 =>
       oB (octroiref09_By.sh F c_5.1.1 c_6.1.1) fun c_7 =>
       bif c_7.1.1.2 then k0 ([]) i 90
       else oB (octroiref09_Bound.sh F) fun c_8 =>
       oB (octroiref01_Cmp.sh F c_7.1.1.1 c_8.1.1) fun c_9 =>
       bif decide (c_9.1.1 > 0) then k0 ([]) i 90
       else bif Nat.ble (out.length + ([c_5.1.1.1]:List tWide.T).length) maxN then bif (bounds pile.length none (some (IntKind.i64.wrap ((pile.length:Int) - c_4.1.1)))).1 then bif Nat.ble ((bounds pile.length none (some (IntKind.i64.wrap ((pile.length:Int) - c_4.1.1)))).2.2 + ([c_5.1.1]:List tBound_meter.T).length) maxN then rec (IntKind.i64.wrap (i + 1)) p s (out ++ ([c_5.1.1.1]:List tWide.T)) (pile.take (bounds pile.length none (some (IntKind.i64.wrap ((pile.length:Int) - c_4.1.1)))).2.2 ++ ([c_5.1.1]:List tBound_meter.T))
         else none
        else none
       else none
      else bif c_5.1.1.2 then k0 ([]) i 90
      else oB (octroiref09_Bound.sh F) fun c_10 =>
      oB (octroiref01_Cmp.sh F c_5.1.1.1 c_10.1.1) fun c_11 =>
      bif decide (c_11.1.1 > 0) then k0 ([]) i 90
      else bif Nat.ble (out.length + ([c_5.1.1.1]:List tWide.T).length) maxN then bif (bounds pile.length none (some (IntKind.i64.wrap ((pile.length:Int) - c_4.1.1)))).1 then bif Nat.ble ((bounds pile.length none (some (IntKind.i64.wrap ((pile.length:Int) - c_4.1.1)))).2.2 + ([c_5.1.1]:List tBound_meter.T).length) maxN then rec (IntKind.i64.wrap (i + 1)) p s (out ++ ([c_5.1.1.1]:List tWide.T)) (pile.take (bounds pile.length none (some (IntKind.i64.wrap ((pile.length:Int) - c_4.1.1)))).2.2 ++ ([c_5.1.1]:List tBound_meter.T))
        else none
       else none
      else none
     else none
    else none
   else none
  else none
 else k1 i (decide (i < (p.2.2.2.length:Int))) p s out pile
def octroiref09_Mags.l11 {R:Type} (F:Nat) (k0:(List tWide.T)→Int→Int→Option R) (k1:Int→Bool→tPlan.T→tWide.T→(List tWide.T)→(List tBound_meter.T)→Option R):Nat→Int→tPlan.T→tWide.T→(List tWide.T)→(List tBound_meter.T)→Option R
 | 0,_,_,_,_,_=>none
 | fu + 1,i,p,s,out,pile=>octroiref09_Mags.l11.body F k0 k1 (octroiref09_Mags.l11 F k0 k1 fu) i p s out pile
def octroiref09_Mags.j22 {R:Type} (F:Nat) (k0:(List tWide.T)→Int→Int→Option R) (out:List tWide.T):Option R :=
 k0 out 0 0
def octroiref09_Mags.sh (F:Nat) (p:tPlan.T):Option octroiref09_Mags.sg.R :=
 oB (octroiref08_Types.sh F p) fun c_1 =>
 bif (c_1.1.2.2.1 != 0) then some (([],c_1.1.2.1,c_1.1.2.2.1,()),())
 else oB (octroiref05_Scale.sh F p) fun c_2 =>
 bif decide (c_2.1.1 > 6) then some (([],IntKind.i64.wrap ((p.2.2.2.length:Int) - 1),90,()),())
 else oB (octroiref02_Power.sh F c_2.1.1) fun c_3 =>
 octroiref09_Mags.l11 F (fun r212 r312 r412=>some ((r212,r312,r412,()),())) (fun i13 t4813 p13 s13 out13 pile13=>octroiref09_Mags.j22 F (fun r214 r314 r414=>some ((r214,r314,r414,()),())) out13) F 0 p c_3.1.1 ([]) ([])
@[reducible] def octroiref09_Unit.sg:Sig:={args:=[.d (.g tPlan)],res:=[.g tWide,.c (.int .i64),.c (.int .i64)]}
def octroiref09_Unit.sh (F:Nat) (p:tPlan.T):Option octroiref09_Unit.sg.R :=
 oB (octroiref09_Mags.sh F p) fun c_1 =>
 bif (c_1.1.2.2.1 != 0) then some (((0,0),c_1.1.2.1,c_1.1.2.2.1,()),())
 else oB (octroiref05_Scale.sh F p) fun c_2 =>
 oB (octroiref02_Power.sh F c_2.1.1) fun c_3 =>
 some ((c_3.1.1,0,0,()),())
def octroiref09_Unit.sp (F:Nat):TA octroiref09_Unit.sg.args→Option octroiref09_Unit.sg.R:=fun x=>octroiref09_Unit.sh F x.1
@[reducible] def octroiref12_leaf.sg:Sig:={args:=[.d (.g tNode),.d (.g tWide)],res:=[.c (.sl tPiece)]}
def octroiref12_leaf.sh (F:Nat) (n:tNode.T) (unit:tWide.T):Option octroiref12_leaf.sg.R :=
 bif (n.1 == 1) then oB (octroiref01_Of.sh F n.2.1) fun c_1 =>
  some ((([(0,c_1.1.1,(0,0),0,0)]:List tPiece.T),()),())
 else bif (n.1 == 2) then oB (octroiref01_Of.sh F n.2.1) fun c_2 =>
  oB (octroiref02_Mul.sh F c_2.1.1 unit) fun c_3 =>
  some ((([(0,c_3.1.1,(0,0),0,0)]:List tPiece.T),()),())
 else bif (n.1 == 3) then oB (octroiref01_Of.sh F 1) fun c_4 =>
  some ((([(0,(0,0),c_4.1.1,0,0)]:List tPiece.T),()),())
 else bif (n.1 == 4) then oB (octroiref01_Of.sh F 1) fun c_5 =>
  some ((([(0,(0,0),(0,0),c_5.1.1)]:List tPiece.T),()),())
 else some ((([(0,(0,0),(0,0),0,0)]:List tPiece.T),()),())
def octroiref12_leaf.sp (F:Nat):TA octroiref12_leaf.sg.args→Option octroiref12_leaf.sg.R:=fun x=>octroiref12_leaf.sh F x.1 x.2.1
@[reducible] def octroiref12_Find.sg:Sig:={args:=[.d (.b tPiece),.d (.c (.int .i64))],res:=[.c (.int .i64)]}
def octroiref12_Find.l2.body {R:Type} (F:Nat) (k0:(List tPiece.T)→Int→Int→Bool→Option R) (rec:(List tPiece.T)→Int→Int→Option R) (l:List tPiece.T) (q:Int) (i:Int):Option R :=
 bif decide (i < (IntKind.i64.wrap ((l.length:Int) - 1))) then bif idx (IntKind.i64.wrap (i + 1)) l.length then bif decide ((get tPiece l ((IntKind.i64.wrap (i + 1)).toNat)).1 ≤ q) then rec l q (IntKind.i64.wrap (i + 1))
   else k0 l q i (decide ((get tPiece l ((IntKind.i64.wrap (i + 1)).toNat)).1 ≤ q))
  else none
 else k0 l q i false
def octroiref12_Find.l2 {R:Type} (F:Nat) (k0:(List tPiece.T)→Int→Int→Bool→Option R):Nat→(List tPiece.T)→Int→Int→Option R
 | 0,_,_,_=>none
 | fu + 1,l,q,i=>octroiref12_Find.l2.body F k0 (octroiref12_Find.l2 F k0 fu) l q i
def octroiref12_Find.sh (F:Nat) (l:List tPiece.T) (q:Int):Option octroiref12_Find.sg.R :=
 octroiref12_Find.l2 F (fun l1 q1 i1 t201=>some ((i1,()),())) F l q 0
def octroiref12_Find.sp (F:Nat):TA octroiref12_Find.sg.args→Option octroiref12_Find.sg.R:=fun x=>octroiref12_Find.sh F x.1 x.2.1
@[reducible] def octroiref11_three.sg:Sig:={args:=[.d (.g tWide),.d (.g tWide),.d (.g tWide),.d (.c .bool)],res:=[.g tLine,.c (.int .i64)]}
def octroiref11_three.sh (F:Nat) (a:tWide.T) (b:tWide.T) (c:tWide.T) (bad:Bool):Option octroiref11_three.sg.R :=
 bif bad then some ((((0,0),(0,0),0,0),10,()),())
 else some (((a,b,c),0,()),())
@[reducible] def octroiref11_Scale.sg:Sig:={args:=[.d (.g tLine),.d (.g tWide)],res:=[.g tLine,.c (.int .i64)]}
def octroiref11_Scale.sh (F:Nat) (l:tLine.T) (k:tWide.T):Option octroiref11_Scale.sg.R :=
 oB (octroiref02_Mul.sh F l.1 k) fun c_1 =>
 oB (octroiref02_Mul.sh F l.2.1 k) fun c_2 =>
 oB (octroiref02_Mul.sh F l.2.2 k) fun c_3 =>
 bif (c_1.1.2.1 != 0) then oB (octroiref11_three.sh F c_1.1.1 c_2.1.1 c_3.1.1 true) fun c_4 =>
  some ((c_4.1.1,c_4.1.2.1,()),())
 else bif (c_2.1.2.1 != 0) then oB (octroiref11_three.sh F c_1.1.1 c_2.1.1 c_3.1.1 true) fun c_5 =>
  some ((c_5.1.1,c_5.1.2.1,()),())
 else oB (octroiref11_three.sh F c_1.1.1 c_2.1.1 c_3.1.1 (c_3.1.2.1 != 0)) fun c_6 =>
 some ((c_6.1.1,c_6.1.2.1,()),())
@[reducible] def octroiref12_by.sg:Sig:={args:=[.d (.g tLine),.d (.g tWide)],res:=[.g tLine]}
def octroiref12_by.sh (F:Nat) (l:tLine.T) (w:tWide.T):Option octroiref12_by.sg.R :=
 oB (octroiref11_Scale.sh F l w) fun c_1 =>
 some ((c_1.1.1,()),())
def octroiref12_by.sp (F:Nat):TA octroiref12_by.sg.args→Option octroiref12_by.sg.R:=fun x=>octroiref12_by.sh F x.1 x.2.1
@[reducible] def octroiref11_Add.sg:Sig:={args:=[.d (.g tLine),.d (.g tLine)],res:=[.g tLine,.c (.int .i64)]}
def octroiref11_Add.sh (F:Nat) (l:tLine.T) (m:tLine.T):Option octroiref11_Add.sg.R :=
 oB (octroiref01_Add.sh F l.1 m.1) fun c_1 =>
 oB (octroiref01_Add.sh F l.2.1 m.2.1) fun c_2 =>
 oB (octroiref01_Add.sh F l.2.2 m.2.2) fun c_3 =>
 bif (c_1.1.2.1 != 0) then oB (octroiref11_three.sh F c_1.1.1 c_2.1.1 c_3.1.1 true) fun c_4 =>
  some ((c_4.1.1,c_4.1.2.1,()),())
 else bif (c_2.1.2.1 != 0) then oB (octroiref11_three.sh F c_1.1.1 c_2.1.1 c_3.1.1 true) fun c_5 =>
  some ((c_5.1.1,c_5.1.2.1,()),())
 else oB (octroiref11_three.sh F c_1.1.1 c_2.1.1 c_3.1.1 (c_3.1.2.1 != 0)) fun c_6 =>
 some ((c_6.1.1,c_6.1.2.1,()),())
@[reducible] def octroiref01_Sub.sg:Sig:={args:=[.d (.g tWide),.d (.g tWide)],res:=[.g tWide,.c (.int .i64)]}
def octroiref01_Sub.sh (F:Nat) (a:tWide.T) (b:tWide.T):Option octroiref01_Sub.sg.R :=
 oB (octroiref01_Digits.sh F a) fun c_1 =>
 oB (octroiref01_Digits.sh F b) fun c_2 =>
 oB (octroiref01_Turned.sh F c_2.1.1) fun c_3 =>
 oB (octroiref01_Plus.sh F c_1.1.1 c_3.1.1) fun c_4 =>
 oB (octroiref01_told.sh F c_4.1.1) fun c_5 =>
 some ((c_5.1.1,c_5.1.2.1,()),())
def octroiref01_Sub.sp (F:Nat):TA octroiref01_Sub.sg.args→Option octroiref01_Sub.sg.R:=fun x=>octroiref01_Sub.sh F x.1 x.2.1
@[reducible] def octroiref11_Sub.sg:Sig:={args:=[.d (.g tLine),.d (.g tLine)],res:=[.g tLine,.c (.int .i64)]}
def octroiref11_Sub.sh (F:Nat) (l:tLine.T) (m:tLine.T):Option octroiref11_Sub.sg.R :=
 oB (octroiref01_Sub.sh F l.1 m.1) fun c_1 =>
 oB (octroiref01_Sub.sh F l.2.1 m.2.1) fun c_2 =>
 oB (octroiref01_Sub.sh F l.2.2 m.2.2) fun c_3 =>
 bif (c_1.1.2.1 != 0) then oB (octroiref11_three.sh F c_1.1.1 c_2.1.1 c_3.1.1 true) fun c_4 =>
  some ((c_4.1.1,c_4.1.2.1,()),())
 else bif (c_2.1.2.1 != 0) then oB (octroiref11_three.sh F c_1.1.1 c_2.1.1 c_3.1.1 true) fun c_5 =>
  some ((c_5.1.1,c_5.1.2.1,()),())
 else oB (octroiref11_three.sh F c_1.1.1 c_2.1.1 c_3.1.1 (c_3.1.2.1 != 0)) fun c_6 =>
 some ((c_6.1.1,c_6.1.2.1,()),())
@[reducible] def octroiref12_fixed.sg:Sig:={args:=[.d (.g tWide)],res:=[.g tLine]}
def octroiref12_fixed.sh (F:Nat) (w:tWide.T):Option octroiref12_fixed.sg.R :=
 some (((w,(0,0),0,0),()),())
@[reducible] def octroiref11_fits.sg:Sig:={args:=[.d (.c (.int .i64)),.d (.c (.int .i64))],res:=[.c .bool]}
def octroiref11_fits.sh (F:Nat) (size:Int) (q:Int):Option octroiref11_fits.sg.R :=
 bif decide (size ≥ 1) then bif decide (size ≤ 1000000000000) then bif decide (q ≥ 0) then some ((decide (q ≤ 1099511627776),()),())
   else some ((false,()),())
  else some ((false,()),())
 else some ((false,()),())
def octroiref11_fits.sp (F:Nat):TA octroiref11_fits.sg.args→Option octroiref11_fits.sg.R:=fun x=>octroiref11_fits.sh F x.1 x.2.1
@[reducible] def octroiref11_Value.sg:Sig:={args:=[.d (.g tLine),.d (.c (.int .i64)),.d (.c (.int .i64))],res:=[.g tWide,.c (.int .i64)]}
def octroiref11_Value.sh (F:Nat) (l:tLine.T) (size:Int) (q:Int):Option octroiref11_Value.sg.R :=
 oB (octroiref11_fits.sh F size q) fun c_1 =>
 bif !c_1.1.1 then some (((0,0),1,()),())
 else oB (octroiref01_Of.sh F q) fun c_2 =>
 oB (octroiref02_Mul.sh F l.2.1 c_2.1.1) fun c_3 =>
 oB (octroiref09_Blocks.sh F q size) fun c_4 =>
 oB (octroiref01_Of.sh F c_4.1.1) fun c_5 =>
 oB (octroiref02_Mul.sh F l.2.2 c_5.1.1) fun c_6 =>
 bif (c_3.1.2.1 != 0) then some (((0,0),10,()),())
 else bif (c_6.1.2.1 != 0) then some (((0,0),10,()),())
 else oB (octroiref01_Add.sh F l.1 c_3.1.1) fun c_7 =>
 bif (c_7.1.2.1 != 0) then some (((0,0),10,()),())
 else oB (octroiref01_Add.sh F c_7.1.1 c_6.1.1) fun c_8 =>
 some ((c_8.1.1,c_8.1.2.1,()),())
def octroiref11_Value.sp (F:Nat):TA octroiref11_Value.sg.args→Option octroiref11_Value.sg.R:=fun x=>octroiref11_Value.sh F x.1 x.2.1 x.2.2.1
@[reducible] def octroiref01_Sign.sg:Sig:={args:=[.d (.g tWide)],res:=[.c (.int .i64)]}
def octroiref01_Sign.sh (F:Nat) (w:tWide.T):Option octroiref01_Sign.sg.R :=
 oB (octroiref01_Digits.sh F w) fun c_1 =>
 oB (octroiref01_Below.sh F c_1.1.1) fun c_2 =>
 bif c_2.1.1 then some (((-1),()),())
 else bif (w.1 == 0) then bif (w.2 == 0) then some ((0,()),())
  else some ((1,()),())
 else some ((1,()),())
@[reducible] def octroiref11_Above.sg:Sig:={args:=[.d (.g tLine),.d (.c (.int .i64)),.d (.c (.int .i64))],res:=[.c .bool]}
def octroiref11_Above.sh (F:Nat) (l:tLine.T) (size:Int) (q:Int):Option octroiref11_Above.sg.R :=
 oB (octroiref11_Value.sh F l size q) fun c_1 =>
 oB (octroiref01_Sign.sh F c_1.1.1) fun c_2 =>
 some ((decide (c_2.1.1 > 0),()),())
def octroiref11_Above.sp (F:Nat):TA octroiref11_Above.sg.args→Option octroiref11_Above.sg.R:=fun x=>octroiref11_Above.sh F x.1 x.2.1 x.2.2.1
@[reducible] def octroiref12_less.sg:Sig:={args:=[.d (.g tLine),.d (.c (.int .i64))],res:=[.g tLine]}
def octroiref12_less.sh (F:Nat) (l:tLine.T) (n:Int):Option octroiref12_less.sg.R :=
 oB (octroiref01_Of.sh F n) fun c_1 =>
 oB (octroiref12_fixed.sh F c_1.1.1) fun c_2 =>
 oB (octroiref11_Sub.sh F l c_2.1.1) fun c_3 =>
 some ((c_3.1.1,()),())
def octroiref12_less.sp (F:Nat):TA octroiref12_less.sg.args→Option octroiref12_less.sg.R:=fun x=>octroiref12_less.sh F x.1 x.2.1
@[reducible] def octroiref12_Made_tiered.sg:Sig:={args:=[.d (.g tNormal_maker),.d (.g tLine),.d (.c (.int .i64))],res:=[.g (.pair tLine (.sl tLine))]}
def octroiref12_Made_tiered.l4.body {R:Type} (F:Nat) (k0:Int→Int→(List tTier.T)→Bool→tNormal_maker.T→tLine.T→(tLine.T×List tLine.T)→(tLine.T×List tLine.T)→(List tLine.T)→Option R) (rec:Int→Int→(List tTier.T)→tNormal_maker.T→tLine.T→(tLine.T×List tLine.T)→(tLine.T×List tLine.T)→(List tLine.T)→Option R) (q:Int) (k:Int) (t:List tTier.T) (m:tNormal_maker.T) (x:tLine.T) (r6:tLine.T×List tLine.T) (g:tLine.T×List tLine.T) (g_6:List tLine.T):Option R :=
 bif decide (k < (t.length:Int)) then bif idx k t.length then oB (octroiref12_less.sh F x (get tTier t k.toNat).1) fun c_1 =>
   oB (octroiref11_Above.sh F c_1.1.1 m.2.2 q) fun c_2 =>
   bif c_2.1.1 then rec q (IntKind.i64.wrap (k + 1)) t m x r6 (g.1,[]) g_6
   else k0 q k t c_2.1.1 m x r6 (g.1,[]) g_6
  else none
 else k0 q k t false m x r6 (g.1,[]) g_6
def octroiref12_Made_tiered.l4 {R:Type} (F:Nat) (k0:Int→Int→(List tTier.T)→Bool→tNormal_maker.T→tLine.T→(tLine.T×List tLine.T)→(tLine.T×List tLine.T)→(List tLine.T)→Option R):Nat→Int→Int→(List tTier.T)→tNormal_maker.T→tLine.T→(tLine.T×List tLine.T)→(tLine.T×List tLine.T)→(List tLine.T)→Option R
 | 0,_,_,_,_,_,_,_,_=>none
 | fu + 1,q,k,t,m,x,r6,g,g_6=>octroiref12_Made_tiered.l4.body F k0 (octroiref12_Made_tiered.l4 F k0 fu) q k t m x r6 g g_6
def octroiref12_Made_tiered.l18.body {R:Type} (F:Nat) (k0:Int→(List tTier.T)→Int→Bool→tNormal_maker.T→(tLine.T×List tLine.T)→(tLine.T×List tLine.T)→tLine.T→Option R) (rec:Int→(List tTier.T)→Int→tNormal_maker.T→(tLine.T×List tLine.T)→(tLine.T×List tLine.T)→tLine.T→Option R) (k:Int) (t:List tTier.T) (i:Int) (m:tNormal_maker.T) (r6:tLine.T×List tLine.T) (g:tLine.T×List tLine.T) (l:tLine.T):Option R :=
 bif decide (i < (IntKind.i64.wrap (k - 1))) then bif idx i t.length then oB (octroiref01_Of.sh F (get tTier t i.toNat).2) fun c_11 =>
   bif idx (IntKind.i64.wrap (i + 1)) t.length then bif idx i t.length then oB (octroiref01_Of.sh F (IntKind.i64.wrap ((get tTier t ((IntKind.i64.wrap (i + 1)).toNat)).1 - (get tTier t i.toNat).1))) fun c_12 =>
     oB (octroiref02_Mul.sh F c_11.1.1 c_12.1.1) fun c_13 =>
     oB (octroiref01_Add.sh F l.1 c_13.1.1) fun c_14 =>
     rec k t (IntKind.i64.wrap (i + 1)) m r6 g (c_14.1.1,l.2)
    else none
   else none
  else none
 else k0 k t i (decide (i < (IntKind.i64.wrap (k - 1)))) m r6 g l
def octroiref12_Made_tiered.l18 {R:Type} (F:Nat) (k0:Int→(List tTier.T)→Int→Bool→tNormal_maker.T→(tLine.T×List tLine.T)→(tLine.T×List tLine.T)→tLine.T→Option R):Nat→Int→(List tTier.T)→Int→tNormal_maker.T→(tLine.T×List tLine.T)→(tLine.T×List tLine.T)→tLine.T→Option R
 | 0,_,_,_,_,_,_,_=>none
 | fu + 1,k,t,i,m,r6,g,l=>octroiref12_Made_tiered.l18.body F k0 (octroiref12_Made_tiered.l18 F k0 fu) k t i m r6 g l
def octroiref12_Made_tiered.j10 {R:Type} (F:Nat) (k0:(tLine.T×List tLine.T)→Option R) (k1:(tLine.T×List tLine.T)→Option R) (k2:(tLine.T×List tLine.T)→Option R) (k:Int) (t:List tTier.T) (m:tNormal_maker.T) (x:tLine.T) (r6:tLine.T×List tLine.T) (g:tLine.T×List tLine.T):Option R :=
 bif (k == 0) then k0 g
 else bif idx (IntKind.i64.wrap (k - 1)) t.length then oB (octroiref01_Of.sh F (get tTier t ((IntKind.i64.wrap (k - 1)).toNat)).2) fun c_6 =>
  bif (m.1.1 == 14) then oB (octroiref12_by.sh F x c_6.1.1) fun c_7 =>
   oB (octroiref12_by.sh F c_7.1.1 m.2.1) fun c_8 =>
   k1 (c_8.1.1,g.2)
  else bif idx (IntKind.i64.wrap (k - 1)) t.length then oB (octroiref12_less.sh F x (get tTier t ((IntKind.i64.wrap (k - 1)).toNat)).1) fun c_9 =>
   oB (octroiref12_by.sh F c_9.1.1 c_6.1.1) fun c_10 =>
   octroiref12_Made_tiered.l18 F (fun k15 t15 i15 t10515 m15 r615 g15 l15=>oB (octroiref12_by.sh F l15 m15.2.1) fun c_16 =>
   k2 (c_16.1.1,g15.2)) F k t 0 m r6 g c_10.1.1
  else none
 else none
def octroiref12_Made_tiered.j8 {R:Type} (F:Nat) (k0:(tLine.T×List tLine.T)→Option R) (k1:(tLine.T×List tLine.T)→Option R) (k2:(tLine.T×List tLine.T)→Option R) (k:Int) (t:List tTier.T) (m:tNormal_maker.T) (x:tLine.T) (r6:tLine.T×List tLine.T) (g:tLine.T×List tLine.T) (g_6:List tLine.T):Option R :=
 bif decide (k < (t.length:Int)) then bif idx k t.length then oB (octroiref12_less.sh F x (get tTier t k.toNat).1) fun c_5 =>
   bif Nat.ble (g_6.length + ([c_5.1.1]:List tLine.T).length) maxN then octroiref12_Made_tiered.j10 F (fun r617=>k0 r617) (fun r618=>k1 r618) (fun r619=>k2 r619) k t m x r6 (g.1,g_6 ++ ([c_5.1.1]:List tLine.T))
   else none
  else none
 else octroiref12_Made_tiered.j10 F (fun r620=>k0 r620) (fun r621=>k1 r621) (fun r622=>k2 r622) k t m x r6 (g.1,g_6)
def octroiref12_Made_tiered.sh (F:Nat) (m:tNormal_maker.T) (x:tLine.T) (q:Int):Option octroiref12_Made_tiered.sg.R :=
 octroiref12_Made_tiered.l4 F (fun q3 k3 t3 t363 m3 x3 r63 g3 g_63=>bif decide (k3 > 0) then bif idx (IntKind.i64.wrap (k3 - 1)) t3.length then oB (octroiref12_less.sh F x3 (get tTier t3 ((IntKind.i64.wrap (k3 - 1)).toNat)).1) fun c_4 =>
   bif Nat.ble (g_63.length + ([c_4.1.1]:List tLine.T).length) maxN then octroiref12_Made_tiered.j8 F (fun r623=>some ((r623,()),())) (fun r624=>some ((r624,()),())) (fun r625=>some ((r625,()),())) k3 t3 m3 x3 r63 (g3.1,[]) (g_63 ++ ([c_4.1.1]:List tLine.T))
   else none
  else none
 else octroiref12_Made_tiered.j8 F (fun r626=>some ((r626,()),())) (fun r627=>some ((r627,()),())) (fun r628=>some ((r628,()),())) k3 t3 m3 x3 r63 (g3.1,[]) g_63) F q 0 m.1.2.2.2.2.1 m x (((0,0),(0,0),0,0),[]) (((0,0),(0,0),0,0),[]) ([])
@[reducible] def octroiref02_twice.sg:Sig:={args:=[.d (.c (.int .u64)),.d (.c (.int .u64)),.d (.c (.int .u64))],res:=[.c (.int .u64),.c (.int .u64)]}
def octroiref02_twice.sh (F:Nat) (hi:Int) (lo:Int) (bit:Int):Option octroiref02_twice.sg.R :=
 some ((IntKind.u64.wrap ((IntKind.u64.wrap (hi * 2)) + (lo.fdiv (2 ^ (min (63:Int).toNat IntKind.u64.bits)))),IntKind.u64.wrap ((IntKind.u64.wrap (lo * 2)) + bit),()),())
def octroiref02_twice.sp (F:Nat):TA octroiref02_twice.sg.args→Option octroiref02_twice.sg.R:=fun x=>octroiref02_twice.sh F x.1 x.2.1 x.2.2.1
@[reducible] def octroiref02_atLeast.sg:Sig:={args:=[.d (.c (.int .u64)),.d (.c (.int .u64)),.d (.c (.int .u64)),.d (.c (.int .u64))],res:=[.c .bool]}
def octroiref02_atLeast.sh (F:Nat) (ah:Int) (al:Int) (bh:Int) (bl:Int):Option octroiref02_atLeast.sg.R :=
 bif decide (ah > bh) then some ((true,()),())
 else bif (ah == bh) then some ((decide (al ≥ bl),()),())
 else some ((false,()),())
def octroiref02_atLeast.sp (F:Nat):TA octroiref02_atLeast.sg.args→Option octroiref02_atLeast.sg.R:=fun x=>octroiref02_atLeast.sh F x.1 x.2.1 x.2.2.1 x.2.2.2.1
@[reducible] def octroiref02_less.sg:Sig:={args:=[.d (.c (.int .u64)),.d (.c (.int .u64)),.d (.c (.int .u64)),.d (.c (.int .u64))],res:=[.c (.int .u64),.c (.int .u64)]}
def octroiref02_less.sh (F:Nat) (ah:Int) (al:Int) (bh:Int) (bl:Int):Option octroiref02_less.sg.R :=
 bif decide (al < bl) then some ((IntKind.u64.wrap ((IntKind.u64.wrap (ah - bh)) - 1),IntKind.u64.wrap (al - bl),()),())
 else some ((IntKind.u64.wrap (ah - bh),IntKind.u64.wrap (al - bl),()),())
def octroiref02_less.sp (F:Nat):TA octroiref02_less.sg.args→Option octroiref02_less.sg.R:=fun x=>octroiref02_less.sh F x.1 x.2.1 x.2.2.1 x.2.2.2.1
@[reducible] def octroiref02_QuoRem.sg:Sig:={args:=[.d (.g tWide),.d (.g tWide)],res:=[.g tWide,.g tWide,.c (.int .i64)]}
def octroiref02_QuoRem.l10.body {R:Type} (F:Nat) (k0:Int→Int→Int→Int→Int→Int→Int→Int→Int→Bool→tWide.T→tWide.T→tWide.T→tWide.T→Option R) (rec:Int→Int→Int→Int→Int→Int→Int→Int→Int→tWide.T→tWide.T→tWide.T→tWide.T→Option R) (ah:Int) (al:Int) (bh:Int) (bl:Int) (qh:Int) (ql:Int) (rh:Int) (rl:Int) (i:Int) (a:tWide.T) (b:tWide.T) (r4:tWide.T) (r5:tWide.T):Option R :=
 bif decide (i ≥ 0) then bif decide (0 ≤ (IntKind.u64.wrap (i.tmod 64))) then bif decide (i ≥ 64) then bif decide (0 ≤ (IntKind.u64.wrap (i.tmod 64))) then oB (octroiref02_twice.sh F rh rl ((ah.fdiv (2 ^ (min (IntKind.u64.wrap (i.tmod 64)).toNat IntKind.u64.bits))).tmod 2)) fun c_3 =>
     oB (octroiref02_atLeast.sh F c_3.1.1 c_3.1.2.1 bh bl) fun c_4 =>
     bif c_4.1.1 then oB (octroiref02_less.sh F c_3.1.1 c_3.1.2.1 bh bl) fun c_5 =>
      oB (octroiref02_twice.sh F qh ql 1) fun c_6 =>
      rec ah al bh bl c_6.1.1 c_6.1.2.1 c_5.1.1 c_5.1.2.1 (IntKind.i64.wrap (i - 1)) a b r4 r5
     else oB (octroiref02_twice.sh F qh ql 0) fun c_7 =>
     rec ah al bh bl c_7.1.1 c_7.1.2.1 c_3.1.1 c_3.1.2.1 (IntKind.i64.wrap (i - 1)) a b r4 r5
    else none
   else oB (octroiref02_twice.sh F rh rl ((al.fdiv (2 ^ (min (IntKind.u64.wrap (i.tmod 64)).toNat IntKind.u64.bits))).tmod 2)) fun c_8 =>
   oB (octroiref02_atLeast.sh F c_8.1.1 c_8.1.2.1 bh bl) fun c_9 =>
   bif c_9.1.1 then oB (octroiref02_less.sh F c_8.1.1 c_8.1.2.1 bh bl) fun c_10 =>
    oB (octroiref02_twice.sh F qh ql 1) fun c_11 =>
    rec ah al bh bl c_11.1.1 c_11.1.2.1 c_10.1.1 c_10.1.2.1 (IntKind.i64.wrap (i - 1)) a b r4 r5
   else oB (octroiref02_twice.sh F qh ql 0) fun c_12 =>
   rec ah al bh bl c_12.1.1 c_12.1.2.1 c_8.1.1 c_8.1.2.1 (IntKind.i64.wrap (i - 1)) a b r4 r5
  else none
 else k0 ah al bh bl qh ql rh rl i (decide (i ≥ 0)) a b r4 r5
def octroiref02_QuoRem.l10 {R:Type} (F:Nat) (k0:Int→Int→Int→Int→Int→Int→Int→Int→Int→Bool→tWide.T→tWide.T→tWide.T→tWide.T→Option R):Nat→Int→Int→Int→Int→Int→Int→Int→Int→Int→tWide.T→tWide.T→tWide.T→tWide.T→Option R
 | 0,_,_,_,_,_,_,_,_,_,_,_,_,_=>none
 | fu + 1,ah,al,bh,bl,qh,ql,rh,rl,i,a,b,r4,r5=>octroiref02_QuoRem.l10.body F k0 (octroiref02_QuoRem.l10 F k0 fu) ah al bh bl qh ql rh rl i a b r4 r5
def octroiref02_QuoRem.j3 {R:Type} (F:Nat) (k0:Int→tWide.T→tWide.T→Option R) (k1:Int→tWide.T→tWide.T→Option R) (a:tWide.T) (b:tWide.T) (r4:tWide.T) (r5:tWide.T):Option R :=
 oB (octroiref01_Abs.sh F a) fun c_1 =>
 oB (octroiref01_Abs.sh F b) fun c_2 =>
 octroiref02_QuoRem.l10 F (fun ah13 al13 bh13 bl13 qh13 ql13 rh13 rl13 i13 t4213 a13 b13 r413 r513=>oB (octroiref01_Join.sh F (!(decide (a13.1 < 0) == decide (b13.1 < 0))) qh13 ql13) fun c_14 =>
 bif (c_14.1.2.1 != 0) then k0 c_14.1.2.1 (0,0) (0,0)
 else oB (octroiref01_Join.sh F (decide (a13.1 < 0)) rh13 rl13) fun c_15 =>
 k1 0 c_14.1.1 c_15.1.1) F c_1.1.1 c_1.1.2.1 c_2.1.1 c_2.1.2.1 0 0 0 0 127 a b r4 r5
def octroiref02_QuoRem.sh (F:Nat) (a:tWide.T) (b:tWide.T):Option octroiref02_QuoRem.sg.R :=
 bif (b.1 == 0) then bif (b.2 == 0) then some (((0,0),(0,0),20,()),())
  else octroiref02_QuoRem.j3 F (fun r616 r416 r516=>some ((r416,r516,r616,()),())) (fun r617 r417 r517=>some ((r417,r517,r617,()),())) a b (0,0) (0,0)
 else octroiref02_QuoRem.j3 F (fun r618 r418 r518=>some ((r418,r518,r618,()),())) (fun r619 r419 r519=>some ((r419,r519,r619,()),())) a b (0,0) (0,0)
def octroiref02_QuoRem.sp (F:Nat):TA octroiref02_QuoRem.sg.args→Option octroiref02_QuoRem.sg.R:=fun x=>octroiref02_QuoRem.sh F x.1 x.2.1
@[reducible] def octroiref02_nearer.sg:Sig:={args:=[.d (.g tWide),.d (.g tWide),.d (.g tWide),.d (.c (.int .i64))],res:=[.c .bool]}
def octroiref02_nearer.sh (F:Nat) (q:tWide.T) (r:tWide.T) (b:tWide.T) (mode:Int):Option octroiref02_nearer.sg.R :=
 oB (octroiref01_Abs.sh F r) fun c_1 =>
 oB (octroiref01_Abs.sh F b) fun c_2 =>
 oB (octroiref02_less.sh F c_2.1.1 c_2.1.2.1 c_1.1.1 c_1.1.2.1) fun c_3 =>
 bif (c_1.1.1 == c_3.1.1) then bif (c_1.1.2.1 == c_3.1.2.1) then bif (mode == 3) then some ((true,()),())
   else some ((((q.2.tmod 2) == 1),()),())
  else oB (octroiref02_atLeast.sh F c_1.1.1 c_1.1.2.1 c_3.1.1 c_3.1.2.1) fun c_4 =>
  some ((c_4.1.1,()),())
 else oB (octroiref02_atLeast.sh F c_1.1.1 c_1.1.2.1 c_3.1.1 c_3.1.2.1) fun c_5 =>
 some ((c_5.1.1,()),())
def octroiref02_nearer.sp (F:Nat):TA octroiref02_nearer.sg.args→Option octroiref02_nearer.sg.R:=fun x=>octroiref02_nearer.sh F x.1 x.2.1 x.2.2.1 x.2.2.2.1
@[reducible] def octroiref02_Div.sg:Sig:={args:=[.d (.g tWide),.d (.g tWide),.d (.c (.int .i64))],res:=[.g tWide,.c (.int .i64)]}
def octroiref02_Div.j18 {R:Type} (F:Nat) (k0:Int→tWide.T→Option R) (k1:Int→tWide.T→Option R) (k2:Int→tWide.T→Option R) (below:Bool) (further:Bool) (r6:tWide.T) (q:tWide.T):Option R :=
 bif !further then k0 0 q
 else bif below then oB (octroiref01_Of.sh F 1) fun c_2 =>
  oB (octroiref01_Sub.sh F q c_2.1.1) fun c_3 =>
  k1 c_3.1.2.1 c_3.1.1
 else oB (octroiref01_Of.sh F 1) fun c_4 =>
 oB (octroiref01_Add.sh F q c_4.1.1) fun c_5 =>
 k2 c_5.1.2.1 c_5.1.1
def octroiref02_Div.j8 {R:Type} (F:Nat) (k0:Int→tWide.T→Option R) (k1:Int→tWide.T→Option R) (k2:Int→tWide.T→Option R) (mode:Int) (a:tWide.T) (b:tWide.T) (r6:tWide.T) (q:tWide.T) (r:tWide.T):Option R :=
 bif (mode == 0) then octroiref02_Div.j18 F (fun r76 r66=>k0 r76 r66) (fun r77 r67=>k1 r77 r67) (fun r78 r68=>k2 r78 r68) (!(decide (a.1 < 0) == decide (b.1 < 0))) (!(decide (a.1 < 0) == decide (b.1 < 0))) r6 q
 else bif (mode == 1) then octroiref02_Div.j18 F (fun r79 r69=>k0 r79 r69) (fun r710 r610=>k1 r710 r610) (fun r711 r611=>k2 r711 r611) (!(decide (a.1 < 0) == decide (b.1 < 0))) (!(!(decide (a.1 < 0) == decide (b.1 < 0)))) r6 q
 else bif (mode == 3) then bif (mode == 3) then oB (octroiref02_nearer.sh F q r b mode) fun c_12 =>
   octroiref02_Div.j18 F (fun r713 r613=>k0 r713 r613) (fun r714 r614=>k1 r714 r614) (fun r715 r615=>k2 r715 r615) (!(decide (a.1 < 0) == decide (b.1 < 0))) c_12.1.1 r6 q
  else octroiref02_Div.j18 F (fun r716 r616=>k0 r716 r616) (fun r717 r617=>k1 r717 r617) (fun r718 r618=>k2 r718 r618) (!(decide (a.1 < 0) == decide (b.1 < 0))) false r6 q
 else bif (mode == 4) then oB (octroiref02_nearer.sh F q r b mode) fun c_19 =>
  octroiref02_Div.j18 F (fun r720 r620=>k0 r720 r620) (fun r721 r621=>k1 r721 r621) (fun r722 r622=>k2 r722 r622) (!(decide (a.1 < 0) == decide (b.1 < 0))) c_19.1.1 r6 q
 else octroiref02_Div.j18 F (fun r723 r623=>k0 r723 r623) (fun r724 r624=>k1 r724 r624) (fun r725 r625=>k2 r725 r625) (!(decide (a.1 < 0) == decide (b.1 < 0))) false r6 q
def octroiref02_Div.sh (F:Nat) (a:tWide.T) (b:tWide.T) (mode:Int):Option octroiref02_Div.sg.R :=
 bif decide (mode < 0) then some (((0,0),1,()),())
 else bif decide (mode > 4) then some (((0,0),1,()),())
 else oB (octroiref02_QuoRem.sh F a b) fun c_1 =>
 bif (c_1.1.2.2.1 != 0) then some (((0,0),c_1.1.2.2.1,()),())
 else bif (c_1.1.2.1.1 == 0) then bif (c_1.1.2.1.2 == 0) then some ((c_1.1.1,0,()),())
  else octroiref02_Div.j8 F (fun r726 r626=>some ((r626,r726,()),())) (fun r727 r627=>some ((r627,r727,()),())) (fun r728 r628=>some ((r628,r728,()),())) mode a b (0,0) c_1.1.1 c_1.1.2.1
 else octroiref02_Div.j8 F (fun r729 r629=>some ((r629,r729,()),())) (fun r730 r630=>some ((r630,r730,()),())) (fun r731 r631=>some ((r631,r731,()),())) mode a b (0,0) c_1.1.1 c_1.1.2.1
@[reducible] def octroiref12_Made_part.sg:Sig:={args:=[.d (.g tNormal_maker),.d (.g tWide)],res:=[.g tWide]}
def octroiref12_Made_part.sh (F:Nat) (m:tNormal_maker.T) (w:tWide.T):Option octroiref12_Made_part.sg.R :=
 oB (octroiref01_Of.sh F (IntKind.i64.wrap (10000 - m.1.2.1))) fun c_1 =>
 oB (octroiref02_Mul.sh F w c_1.1.1) fun c_2 =>
 oB (octroiref01_Of.sh F 10000) fun c_3 =>
 oB (octroiref02_Div.sh F c_2.1.1 c_3.1.1 0) fun c_4 =>
 some ((c_4.1.1,()),())
@[reducible] def octroiref12_Made_test.sg:Sig:={args:=[.d (.g tNormal_maker),.d (.b tLine),.d (.c (.int .i64))],res:=[.g (.pair tLine (.sl tLine))]}
def octroiref12_Made_test.j17 {R:Type} (F:Nat) (k0:(tLine.T×List tLine.T)→Option R) (k:List tLine.T) (is:Bool) (m:tNormal_maker.T) (r6:tLine.T×List tLine.T):Option R :=
 bif idx 2 k.length then bif idx 0 k.length then oB (octroiref12_less.sh F (get tLine k 0) m.1.2.1) fun c_4 =>
   bif idx 0 k.length then oB (octroiref12_less.sh F (get tLine k 0) (IntKind.i64.wrap (m.1.2.1 - 1))) fun c_5 =>
    bif is then bif idx 1 k.length then k0 ((get tLine k 1),([c_4.1.1,c_5.1.1]:List tLine.T))
     else none
    else k0 ((get tLine k 2),([c_4.1.1,c_5.1.1]:List tLine.T))
   else none
  else none
 else none
def octroiref12_Made_test.sh (F:Nat) (m:tNormal_maker.T) (k:List tLine.T) (q:Int):Option octroiref12_Made_test.sg.R :=
 bif idx 0 k.length then oB (octroiref11_Value.sh F (get tLine k 0) m.2.2 q) fun c_1 =>
  oB (octroiref01_Of.sh F m.1.2.1) fun c_2 =>
  oB (octroiref01_Cmp.sh F c_1.1.1 c_2.1.1) fun c_3 =>
  bif (m.1.2.2.1 == 1) then octroiref12_Made_test.j17 F (fun r66=>some ((r66,()),())) k (decide (c_3.1.1 < 0)) m (((0,0),(0,0),0,0),[])
  else bif (m.1.2.2.1 == 2) then octroiref12_Made_test.j17 F (fun r67=>some ((r67,()),())) k (decide (c_3.1.1 ≤ 0)) m (((0,0),(0,0),0,0),[])
  else bif (m.1.2.2.1 == 3) then octroiref12_Made_test.j17 F (fun r68=>some ((r68,()),())) k (decide (c_3.1.1 > 0)) m (((0,0),(0,0),0,0),[])
  else bif (m.1.2.2.1 == 4) then octroiref12_Made_test.j17 F (fun r69=>some ((r69,()),())) k (decide (c_3.1.1 ≥ 0)) m (((0,0),(0,0),0,0),[])
  else bif (m.1.2.2.1 == 5) then octroiref12_Made_test.j17 F (fun r610=>some ((r610,()),())) k (c_3.1.1 == 0) m (((0,0),(0,0),0,0),[])
  else bif (m.1.2.2.1 == 6) then octroiref12_Made_test.j17 F (fun r611=>some ((r611,()),())) k (c_3.1.1 != 0) m (((0,0),(0,0),0,0),[])
  else octroiref12_Made_test.j17 F (fun r612=>some ((r612,()),())) k false m (((0,0),(0,0),0,0),[])
 else none
@[reducible] def octroiref12_Made_got.sg:Sig:={args:=[.d (.g tNormal_maker),.d (.b tLine),.d (.c (.int .i64))],res:=[.g (.pair tLine (.sl tLine))]}
def octroiref12_Made_got.sh (F:Nat) (m:tNormal_maker.T) (k:List tLine.T) (q:Int):Option octroiref12_Made_got.sg.R :=
 bif (m.1.1 == 5) then bif idx 0 k.length then oB (octroiref01_Of.sh F (-1)) fun c_1 =>
   oB (octroiref12_by.sh F (get tLine k 0) c_1.1.1) fun c_2 =>
   some (((c_2.1.1,[]),()),())
  else none
 else bif (m.1.1 == 6) then bif idx 0 k.length then bif idx 1 k.length then oB (octroiref11_Add.sh F (get tLine k 0) (get tLine k 1)) fun c_3 =>
    some (((c_3.1.1,[]),()),())
   else none
  else none
 else bif (m.1.1 == 7) then bif idx 0 k.length then bif idx 1 k.length then oB (octroiref11_Sub.sh F (get tLine k 0) (get tLine k 1)) fun c_4 =>
    some (((c_4.1.1,[]),()),())
   else none
  else none
 else bif (m.1.1 == 8) then bif idx 0 k.length then bif idx 0 k.length then oB (octroiref12_fixed.sh F (get tLine k 0).1) fun c_5 =>
    bif (((get tLine k 0).1.1 == c_5.1.1.1.1) && (((get tLine k 0).1.2 == c_5.1.1.1.2) && (((get tLine k 0).2.1.1 == c_5.1.1.2.1.1) && (((get tLine k 0).2.1.2 == c_5.1.1.2.1.2) && (((get tLine k 0).2.2.1 == c_5.1.1.2.2.1) && (((get tLine k 0).2.2.2 == c_5.1.1.2.2.2) && true)))))) then bif idx 1 k.length then bif idx 0 k.length then oB (octroiref12_by.sh F (get tLine k 1) (get tLine k 0).1) fun c_6 =>
       some (((c_6.1.1,[]),()),())
      else none
     else none
    else bif idx 0 k.length then bif idx 1 k.length then oB (octroiref12_by.sh F (get tLine k 0) (get tLine k 1).1) fun c_7 =>
      some (((c_7.1.1,[]),()),())
     else none
    else none
   else none
  else none
 else bif (m.1.1 == 9) then bif (m.1.1 == 9) then bif idx 0 k.length then bif idx 1 k.length then oB (octroiref11_Sub.sh F (get tLine k 0) (get tLine k 1)) fun c_8 =>
     bif (m.1.1 == 10) then oB (octroiref01_Of.sh F (-1)) fun c_9 =>
      oB (octroiref12_by.sh F c_8.1.1 c_9.1.1) fun c_10 =>
      oB (octroiref11_Above.sh F c_10.1.1 m.2.2 q) fun c_11 =>
      bif c_11.1.1 then bif idx 1 k.length then some ((((get tLine k 1),([c_10.1.1]:List tLine.T)),()),())
       else none
      else bif idx 0 k.length then some ((((get tLine k 0),([c_10.1.1]:List tLine.T)),()),())
      else none
     else oB (octroiref11_Above.sh F c_8.1.1 m.2.2 q) fun c_12 =>
     bif c_12.1.1 then bif idx 1 k.length then some ((((get tLine k 1),([c_8.1.1]:List tLine.T)),()),())
      else none
     else bif idx 0 k.length then some ((((get tLine k 0),([c_8.1.1]:List tLine.T)),()),())
     else none
    else none
   else none
  else bif (m.1.1 == 11) then bif (m.1.1 == 11) then bif idx 0 k.length then oB (octroiref12_less.sh F (get tLine k 0) m.1.2.1) fun c_13 =>
     oB (octroiref11_Above.sh F c_13.1.1 m.2.2 q) fun c_14 =>
     bif (m.1.1 == 11) then bif c_14.1.1 then bif (m.1.1 == 12) then bif idx 0 k.length then bif c_14.1.1 then oB (octroiref01_Of.sh F m.1.2.1) fun c_15 =>
          oB (octroiref12_fixed.sh F c_15.1.1) fun c_16 =>
          some (((c_16.1.1,([c_13.1.1]:List tLine.T)),()),())
         else some ((((get tLine k 0),([c_13.1.1]:List tLine.T)),()),())
        else none
       else some (((c_13.1.1,([c_13.1.1]:List tLine.T)),()),())
      else bif (m.1.1 == 12) then bif idx 0 k.length then bif c_14.1.1 then oB (octroiref01_Of.sh F m.1.2.1) fun c_17 =>
         oB (octroiref12_fixed.sh F c_17.1.1) fun c_18 =>
         some (((c_18.1.1,([c_13.1.1]:List tLine.T)),()),())
        else some ((((get tLine k 0),([c_13.1.1]:List tLine.T)),()),())
       else none
      else some (((((0,0),(0,0),0,0),([c_13.1.1]:List tLine.T)),()),())
     else bif (m.1.1 == 12) then bif idx 0 k.length then bif c_14.1.1 then oB (octroiref01_Of.sh F m.1.2.1) fun c_19 =>
        oB (octroiref12_fixed.sh F c_19.1.1) fun c_20 =>
        some (((c_20.1.1,([c_13.1.1]:List tLine.T)),()),())
       else some ((((get tLine k 0),([c_13.1.1]:List tLine.T)),()),())
      else none
     else some (((((0,0),(0,0),0,0),([c_13.1.1]:List tLine.T)),()),())
    else none
   else bif (m.1.1 == 13) then bif (m.1.1 == 13) then bif idx 0 k.length then oB (octroiref12_Made_tiered.sh F m (get tLine k 0) q) fun c_21 =>
      some ((c_21.1.1,()),())
     else none
    else bif (m.1.1 == 15) then bif idx 0 k.length then oB (octroiref12_Made_part.sh F m (get tLine k 0).1) fun c_22 =>
      bif idx 0 k.length then oB (octroiref12_Made_part.sh F m (get tLine k 0).2.1) fun c_23 =>
       bif idx 0 k.length then oB (octroiref12_Made_part.sh F m (get tLine k 0).2.2) fun c_24 =>
        some ((((c_22.1.1,c_23.1.1,c_24.1.1),[]),()),())
       else none
      else none
     else none
    else oB (octroiref12_Made_test.sh F m k q) fun c_25 =>
    some ((c_25.1.1,()),())
   else bif (m.1.1 == 14) then bif idx 0 k.length then oB (octroiref12_Made_tiered.sh F m (get tLine k 0) q) fun c_26 =>
     some ((c_26.1.1,()),())
    else none
   else bif (m.1.1 == 15) then bif idx 0 k.length then oB (octroiref12_Made_part.sh F m (get tLine k 0).1) fun c_27 =>
     bif idx 0 k.length then oB (octroiref12_Made_part.sh F m (get tLine k 0).2.1) fun c_28 =>
      bif idx 0 k.length then oB (octroiref12_Made_part.sh F m (get tLine k 0).2.2) fun c_29 =>
       some ((((c_27.1.1,c_28.1.1,c_29.1.1),[]),()),())
      else none
     else none
    else none
   else oB (octroiref12_Made_test.sh F m k q) fun c_30 =>
   some ((c_30.1.1,()),())
  else bif (m.1.1 == 12) then bif idx 0 k.length then oB (octroiref12_less.sh F (get tLine k 0) m.1.2.1) fun c_31 =>
    oB (octroiref11_Above.sh F c_31.1.1 m.2.2 q) fun c_32 =>
    bif (m.1.1 == 11) then bif c_32.1.1 then bif (m.1.1 == 12) then bif idx 0 k.length then bif c_32.1.1 then oB (octroiref01_Of.sh F m.1.2.1) fun c_33 =>
         oB (octroiref12_fixed.sh F c_33.1.1) fun c_34 =>
         some (((c_34.1.1,([c_31.1.1]:List tLine.T)),()),())
        else some ((((get tLine k 0),([c_31.1.1]:List tLine.T)),()),())
       else none
      else some (((c_31.1.1,([c_31.1.1]:List tLine.T)),()),())
     else bif (m.1.1 == 12) then bif idx 0 k.length then bif c_32.1.1 then oB (octroiref01_Of.sh F m.1.2.1) fun c_35 =>
        oB (octroiref12_fixed.sh F c_35.1.1) fun c_36 =>
        some (((c_36.1.1,([c_31.1.1]:List tLine.T)),()),())
       else some ((((get tLine k 0),([c_31.1.1]:List tLine.T)),()),())
      else none
     else some (((((0,0),(0,0),0,0),([c_31.1.1]:List tLine.T)),()),())
    else bif (m.1.1 == 12) then bif idx 0 k.length then bif c_32.1.1 then oB (octroiref01_Of.sh F m.1.2.1) fun c_37 =>
       oB (octroiref12_fixed.sh F c_37.1.1) fun c_38 =>
       some (((c_38.1.1,([c_31.1.1]:List tLine.T)),()),())
      else some ((((get tLine k 0),([c_31.1.1]:List tLine.T)),()),())
     else none
    else some (((((0,0),(0,0),0,0),([c_31.1.1]:List tLine.T)),()),())
   else none
  else bif (m.1.1 == 13) then bif (m.1.1 == 13) then bif idx 0 k.length then oB (octroiref12_Made_tiered.sh F m (get tLine k 0) q) fun c_39 =>
     some ((c_39.1.1,()),())
    else none
   else bif (m.1.1 == 15) then bif idx 0 k.length then oB (octroiref12_Made_part.sh F m (get tLine k 0).1) fun c_40 =>
     bif idx 0 k.length then oB (octroiref12_Made_part.sh F m (get tLine k 0).2.1) fun c_41 =>
      bif idx 0 k.length then oB (octroiref12_Made_part.sh F m (get tLine k 0).2.2) fun c_42 =>
       some ((((c_40.1.1,c_41.1.1,c_42.1.1),[]),()),())
      else none
     else none
    else none
   else oB (octroiref12_Made_test.sh F m k q) fun c_43 =>
   some ((c_43.1.1,()),())
  else bif (m.1.1 == 14) then bif idx 0 k.length then oB (octroiref12_Made_tiered.sh F m (get tLine k 0) q) fun c_44 =>
    some ((c_44.1.1,()),())
   else none
  else bif (m.1.1 == 15) then bif idx 0 k.length then oB (octroiref12_Made_part.sh F m (get tLine k 0).1) fun c_45 =>
    bif idx 0 k.length then oB (octroiref12_Made_part.sh F m (get tLine k 0).2.1) fun c_46 =>
     bif idx 0 k.length then oB (octroiref12_Made_part.sh F m (get tLine k 0).2.2) fun c_47 =>
      some ((((c_45.1.1,c_46.1.1,c_47.1.1),[]),()),())
     else none
    else none
   else none
  else oB (octroiref12_Made_test.sh F m k q) fun c_48 =>
  some ((c_48.1.1,()),())
 else bif (m.1.1 == 10) then bif idx 0 k.length then bif idx 1 k.length then oB (octroiref11_Sub.sh F (get tLine k 0) (get tLine k 1)) fun c_49 =>
    bif (m.1.1 == 10) then oB (octroiref01_Of.sh F (-1)) fun c_50 =>
     oB (octroiref12_by.sh F c_49.1.1 c_50.1.1) fun c_51 =>
     oB (octroiref11_Above.sh F c_51.1.1 m.2.2 q) fun c_52 =>
     bif c_52.1.1 then bif idx 1 k.length then some ((((get tLine k 1),([c_51.1.1]:List tLine.T)),()),())
      else none
     else bif idx 0 k.length then some ((((get tLine k 0),([c_51.1.1]:List tLine.T)),()),())
     else none
    else oB (octroiref11_Above.sh F c_49.1.1 m.2.2 q) fun c_53 =>
    bif c_53.1.1 then bif idx 1 k.length then some ((((get tLine k 1),([c_49.1.1]:List tLine.T)),()),())
     else none
    else bif idx 0 k.length then some ((((get tLine k 0),([c_49.1.1]:List tLine.T)),()),())
    else none
   else none
  else none
 else bif (m.1.1 == 11) then bif (m.1.1 == 11) then bif idx 0 k.length then oB (octroiref12_less.sh F (get tLine k 0) m.1.2.1) fun c_54 =>
    oB (octroiref11_Above.sh F c_54.1.1 m.2.2 q) fun c_55 =>
    bif (m.1.1 == 11) then bif c_55.1.1 then bif (m.1.1 == 12) then bif idx 0 k.length then bif c_55.1.1 then oB (octroiref01_Of.sh F m.1.2.1) fun c_56 =>
         oB (octroiref12_fixed.sh F c_56.1.1) fun c_57 =>
         some (((c_57.1.1,([c_54.1.1]:List tLine.T)),()),())
        else some ((((get tLine k 0),([c_54.1.1]:List tLine.T)),()),())
       else none
      else some (((c_54.1.1,([c_54.1.1]:List tLine.T)),()),())
     else bif (m.1.1 == 12) then bif idx 0 k.length then bif c_55.1.1 then oB (octroiref01_Of.sh F m.1.2.1) fun c_58 =>
        oB (octroiref12_fixed.sh F c_58.1.1) fun c_59 =>
        some (((c_59.1.1,([c_54.1.1]:List tLine.T)),()),())
       else some ((((get tLine k 0),([c_54.1.1]:List tLine.T)),()),())
      else none
     else some (((((0,0),(0,0),0,0),([c_54.1.1]:List tLine.T)),()),())
    else bif (m.1.1 == 12) then bif idx 0 k.length then bif c_55.1.1 then oB (octroiref01_Of.sh F m.1.2.1) fun c_60 =>
       oB (octroiref12_fixed.sh F c_60.1.1) fun c_61 =>
       some (((c_61.1.1,([c_54.1.1]:List tLine.T)),()),())
      else some ((((get tLine k 0),([c_54.1.1]:List tLine.T)),()),())
     else none
    else some (((((0,0),(0,0),0,0),([c_54.1.1]:List tLine.T)),()),())
   else none
  else bif (m.1.1 == 13) then bif (m.1.1 == 13) then bif idx 0 k.length then oB (octroiref12_Made_tiered.sh F m (get tLine k 0) q) fun c_62 =>
     some ((c_62.1.1,()),())
    else none
   else bif (m.1.1 == 15) then bif idx 0 k.length then oB (octroiref12_Made_part.sh F m (get tLine k 0).1) fun c_63 =>
     bif idx 0 k.length then oB (octroiref12_Made_part.sh F m (get tLine k 0).2.1) fun c_64 =>
      bif idx 0 k.length then oB (octroiref12_Made_part.sh F m (get tLine k 0).2.2) fun c_65 =>
       some ((((c_63.1.1,c_64.1.1,c_65.1.1),[]),()),())
      else none
     else none
    else none
   else oB (octroiref12_Made_test.sh F m k q) fun c_66 =>
   some ((c_66.1.1,()),())
  else bif (m.1.1 == 14) then bif idx 0 k.length then oB (octroiref12_Made_tiered.sh F m (get tLine k 0) q) fun c_67 =>
    some ((c_67.1.1,()),())
   else none
  else bif (m.1.1 == 15) then bif idx 0 k.length then oB (octroiref12_Made_part.sh F m (get tLine k 0).1) fun c_68 =>
    bif idx 0 k.length then oB (octroiref12_Made_part.sh F m (get tLine k 0).2.1) fun c_69 =>
     bif idx 0 k.length then oB (octroiref12_Made_part.sh F m (get tLine k 0).2.2) fun c_70 =>
      some ((((c_68.1.1,c_69.1.1,c_70.1.1),[]),()),())
     else none
    else none
   else none
  else oB (octroiref12_Made_test.sh F m k q) fun c_71 =>
  some ((c_71.1.1,()),())
 else bif (m.1.1 == 12) then bif idx 0 k.length then oB (octroiref12_less.sh F (get tLine k 0) m.1.2.1) fun c_72 =>
   oB (octroiref11_Above.sh F c_72.1.1 m.2.2 q) fun c_73 =>
   bif (m.1.1 == 11) then bif c_73.1.1 then bif (m.1.1 == 12) then bif idx 0 k.length then bif c_73.1.1 then oB (octroiref01_Of.sh F m.1.2.1) fun c_74 =>
        oB (octroiref12_fixed.sh F c_74.1.1) fun c_75 =>
        some (((c_75.1.1,([c_72.1.1]:List tLine.T)),()),())
       else some ((((get tLine k 0),([c_72.1.1]:List tLine.T)),()),())
      else none
     else some (((c_72.1.1,([c_72.1.1]:List tLine.T)),()),())
    else bif (m.1.1 == 12) then bif idx 0 k.length then bif c_73.1.1 then oB (octroiref01_Of.sh F m.1.2.1) fun c_76 =>
       oB (octroiref12_fixed.sh F c_76.1.1) fun c_77 =>
       some (((c_77.1.1,([c_72.1.1]:List tLine.T)),()),())
      else some ((((get tLine k 0),([c_72.1.1]:List tLine.T)),()),())
     else none
    else some (((((0,0),(0,0),0,0),([c_72.1.1]:List tLine.T)),()),())
   else bif (m.1.1 == 12) then bif idx 0 k.length then bif c_73.1.1 then oB (octroiref01_Of.sh F m.1.2.1) fun c_78 =>
      oB (octroiref12_fixed.sh F c_78.1.1) fun c_79 =>
      some (((c_79.1.1,([c_72.1.1]:List tLine.T)),()),())
     else some ((((get tLine k 0),([c_72.1.1]:List tLine.T)),()),())
    else none
   else some (((((0,0),(0,0),0,0),([c_72.1.1]:List tLine.T)),()),())
  else none
 else bif (m.1.1 == 13) then bif (m.1.1 == 13) then bif idx 0 k.length then oB (octroiref12_Made_tiered.sh F m (get tLine k 0) q) fun c_80 =>
    some ((c_80.1.1,()),())
   else none
  else bif (m.1.1 == 15) then bif idx 0 k.length then oB (octroiref12_Made_part.sh F m (get tLine k 0).1) fun c_81 =>
    bif idx 0 k.length then oB (octroiref12_Made_part.sh F m (get tLine k 0).2.1) fun c_82 =>
     bif idx 0 k.length then oB (octroiref12_Made_part.sh F m (get tLine k 0).2.2) fun c_83 =>
      some ((((c_81.1.1,c_82.1.1,c_83.1.1),[]),()),())
     else none
    else none
   else none
  else oB (octroiref12_Made_test.sh F m k q) fun c_84 =>
  some ((c_84.1.1,()),())
 else bif (m.1.1 == 14) then bif idx 0 k.length then oB (octroiref12_Made_tiered.sh F m (get tLine k 0) q) fun c_85 =>
   some ((c_85.1.1,()),())
  else none
 else bif (m.1.1 == 15) then bif idx 0 k.length then oB (octroiref12_Made_part.sh F m (get tLine k 0).1) fun c_86 =>
   bif idx 0 k.length then oB (octroiref12_Made_part.sh F m (get tLine k 0).2.1) fun c_87 =>
    bif idx 0 k.length then oB (octroiref12_Made_part.sh F m (get tLine k 0).2.2) fun c_88 =>
     some ((((c_86.1.1,c_87.1.1,c_88.1.1),[]),()),())
    else none
   else none
  else none
 else oB (octroiref12_Made_test.sh F m k q) fun c_89 =>
 some ((c_89.1.1,()),())
def octroiref12_Made_got.sp (F:Nat):TA octroiref12_Made_got.sg.args→Option octroiref12_Made_got.sg.R:=fun x=>octroiref12_Made_got.sh F x.1 x.2.1 x.2.2.1
@[reducible] def octroiref01_Neg.sg:Sig:={args:=[.d (.g tWide)],res:=[.g tWide,.c (.int .i64)]}
def octroiref01_Neg.sh (F:Nat) (a:tWide.T):Option octroiref01_Neg.sg.R :=
 oB (octroiref01_Digits.sh F a) fun c_1 =>
 oB (octroiref01_Turned.sh F c_1.1.1) fun c_2 =>
 oB (octroiref01_told.sh F c_2.1.1) fun c_3 =>
 some ((c_3.1.1,c_3.1.2.1,()),())
@[reducible] def octroiref11_far.sg:Sig:={args:=[.d (.g tWide)],res:=[.g tWide,.c (.int .i64)]}
def octroiref11_far.sh (F:Nat) (w:tWide.T):Option octroiref11_far.sg.R :=
 bif decide (w.1 < 0) then oB (octroiref01_Neg.sh F w) fun c_1 =>
  some ((c_1.1.1,c_1.1.2.1,()),())
 else some ((w,0,()),())
@[reducible] def octroiref11_Span.sg:Sig:={args:=[.d (.g tLine),.d (.c (.int .i64))],res:=[.g tWide,.c (.int .i64)]}
def octroiref11_Span.sh (F:Nat) (l:tLine.T) (size:Int):Option octroiref11_Span.sg.R :=
 oB (octroiref11_fits.sh F size 0) fun c_1 =>
 bif !c_1.1.1 then some (((0,0),1,()),())
 else oB (octroiref11_far.sh F l.1) fun c_2 =>
 oB (octroiref11_far.sh F l.2.1) fun c_3 =>
 oB (octroiref11_far.sh F l.2.2) fun c_4 =>
 bif (c_2.1.2.1 != 0) then some (((0,0),10,()),())
 else bif (c_3.1.2.1 != 0) then some (((0,0),10,()),())
 else bif (c_4.1.2.1 != 0) then some (((0,0),10,()),())
 else oB (octroiref11_Value.sh F (c_2.1.1,c_3.1.1,c_4.1.1) size 1099511627776) fun c_5 =>
 some ((c_5.1.1,c_5.1.2.1,()),())
def octroiref11_Span.sp (F:Nat):TA octroiref11_Span.sg.args→Option octroiref11_Span.sg.R:=fun x=>octroiref11_Span.sh F x.1 x.2.1
@[reducible] def octroiref11_ends.sg:Sig:={args:=[.d (.c (.int .i64)),.d (.c (.int .i64))],res:=[.c (.int .i64),.c (.int .i64)]}
def octroiref11_ends.sh (F:Nat) (size:Int) (k:Int):Option octroiref11_ends.sg.R :=
 bif (size != 0) then bif decide (k ≤ (IntKind.i64.wrap ((1099511627776:Int).tdiv size))) then some ((IntKind.i64.wrap ((IntKind.i64.wrap ((IntKind.i64.wrap (k - 1)) * size)) + 1),IntKind.i64.wrap (k * size),()),())
  else some ((IntKind.i64.wrap ((IntKind.i64.wrap ((IntKind.i64.wrap (k - 1)) * size)) + 1),1099511627776,()),())
 else none
def octroiref11_ends.sp (F:Nat):TA octroiref11_ends.sg.args→Option octroiref11_ends.sg.R:=fun x=>octroiref11_ends.sh F x.1 x.2.1
@[reducible] def octroiref11_first.sg:Sig:={args:=[.d (.g tLine),.d (.c (.int .i64)),.d (.c (.int .i64)),.d (.c (.int .i64)),.d (.c .bool)],res:=[.c (.int .i64)]}
def octroiref11_first.l1.body {R:Type} (F:Nat) (k0:Int→Int→Int→Bool→Bool→tLine.T→Option R) (rec:Int→Int→Int→Bool→tLine.T→Option R) (size:Int) (lo:Int) (hi:Int) (was:Bool) (l:tLine.T):Option R :=
 bif decide (lo < hi) then oB (octroiref11_Above.sh F l size (IntKind.i64.wrap (lo + (IntKind.i64.wrap ((IntKind.i64.wrap (hi - lo)).tdiv 2))))) fun c_1 =>
  bif (!(c_1.1.1 == was)) then rec size lo (IntKind.i64.wrap (lo + (IntKind.i64.wrap ((IntKind.i64.wrap (hi - lo)).tdiv 2)))) was l
  else rec size (IntKind.i64.wrap ((IntKind.i64.wrap (lo + (IntKind.i64.wrap ((IntKind.i64.wrap (hi - lo)).tdiv 2)))) + 1)) hi was l
 else k0 size lo hi was (decide (lo < hi)) l
def octroiref11_first.l1 {R:Type} (F:Nat) (k0:Int→Int→Int→Bool→Bool→tLine.T→Option R):Nat→Int→Int→Int→Bool→tLine.T→Option R
 | 0,_,_,_,_,_=>none
 | fu + 1,size,lo,hi,was,l=>octroiref11_first.l1.body F k0 (octroiref11_first.l1 F k0 fu) size lo hi was l
def octroiref11_first.sh (F:Nat) (l:tLine.T) (size:Int) (lo:Int) (hi:Int) (was:Bool):Option octroiref11_first.sg.R :=
 octroiref11_first.l1 F (fun size2 lo2 hi2 was2 t142 l2=>some ((lo2,()),())) F size lo hi was l
def octroiref11_first.sp (F:Nat):TA octroiref11_first.sg.args→Option octroiref11_first.sg.R:=fun x=>octroiref11_first.sh F x.1 x.2.1 x.2.2.1 x.2.2.2.1 x.2.2.2.2.1
@[reducible] def octroiref11_turns.sg:Sig:={args:=[.d (.g tLine),.d (.c (.int .i64)),.d (.c (.int .i64)),.d (.c .bool)],res:=[.c .bool]}
def octroiref11_turns.sh (F:Nat) (l:tLine.T) (size:Int) (k:Int) (was:Bool):Option octroiref11_turns.sg.R :=
 oB (octroiref11_ends.sh F size k) fun c_1 =>
 oB (octroiref11_Above.sh F l size c_1.1.1) fun c_2 =>
 bif (!(c_2.1.1 == was)) then some ((true,()),())
 else oB (octroiref11_Above.sh F l size c_1.1.2.1) fun c_3 =>
 some (((!(c_3.1.1 == was)),()),())
def octroiref11_turns.sp (F:Nat):TA octroiref11_turns.sg.args→Option octroiref11_turns.sg.R:=fun x=>octroiref11_turns.sh F x.1 x.2.1 x.2.2.1 x.2.2.2.1
@[reducible] def octroiref11_Flip.sg:Sig:={args:=[.d (.g tLine),.d (.c (.int .i64)),.d (.c (.int .i64))],res:=[.c (.int .i64),.c (.int .i64)]}
def octroiref11_Flip.l18.body {R:Type} (F:Nat) (k0:Int→Bool→Int→Int→Int→Bool→tLine.T→Option R) (rec:Int→Bool→Int→Int→Int→tLine.T→Option R) (size:Int) (was:Bool) (last:Int) (j:Int) (lo:Int) (l:tLine.T):Option R :=
 bif decide (lo < j) then oB (octroiref11_turns.sh F l size (IntKind.i64.wrap (lo + (IntKind.i64.wrap ((IntKind.i64.wrap (j - lo)).tdiv 2)))) was) fun c_12 =>
  bif c_12.1.1 then rec size was last (IntKind.i64.wrap (lo + (IntKind.i64.wrap ((IntKind.i64.wrap (j - lo)).tdiv 2)))) lo l
  else rec size was last j (IntKind.i64.wrap ((IntKind.i64.wrap (lo + (IntKind.i64.wrap ((IntKind.i64.wrap (j - lo)).tdiv 2)))) + 1)) l
 else k0 size was last j lo (decide (lo < j)) l
def octroiref11_Flip.l18 {R:Type} (F:Nat) (k0:Int→Bool→Int→Int→Int→Bool→tLine.T→Option R):Nat→Int→Bool→Int→Int→Int→tLine.T→Option R
 | 0,_,_,_,_,_,_=>none
 | fu + 1,size,was,last,j,lo,l=>octroiref11_Flip.l18.body F k0 (octroiref11_Flip.l18 F k0 fu) size was last j lo l
def octroiref11_Flip.j24 {R:Type} (F:Nat) (k0:Int→Int→Option R) (k1:Int→Int→Option R) (k2:Int→Int→Option R) (size:Int) (was:Bool) (last:Int) (j:Int) (l:tLine.T):Option R :=
 bif decide (j > last) then k0 1099511627777 0
 else oB (octroiref11_turns.sh F l size j was) fun c_14 =>
 bif !c_14.1.1 then k0 1099511627777 0
 else oB (octroiref11_ends.sh F size j) fun c_15 =>
 oB (octroiref11_Above.sh F l size c_15.1.1) fun c_16 =>
 bif (!(c_16.1.1 == was)) then k1 c_15.1.1 0
 else oB (octroiref11_first.sh F l size c_15.1.1 c_15.1.2.1 was) fun c_17 =>
 k2 c_17.1.1 0
def octroiref11_Flip.j13 {R:Type} (F:Nat) (k0:Int→Int→Option R) (k1:Int→Int→Option R) (k2:Int→Int→Option R) (size:Int) (was:Bool) (last:Int) (k:Int) (l:tLine.T):Option R :=
 bif decide ((IntKind.i64.wrap (k + 1)) < last) then oB (octroiref11_turns.sh F l size (IntKind.i64.wrap (k + 1)) was) fun c_10 =>
  bif !c_10.1.1 then oB (octroiref11_turns.sh F l size (IntKind.i64.wrap (last - 1)) was) fun c_11 =>
   bif c_11.1.1 then octroiref11_Flip.l18 F (fun size13 was13 last13 j13 lo13 t9713 l13=>octroiref11_Flip.j24 F (fun r618 r718=>k0 r618 r718) (fun r619 r719=>k1 r619 r719) (fun r620 r720=>k2 r620 r720) size13 was13 last13 j13 l13) F size was last (IntKind.i64.wrap (last - 1)) (IntKind.i64.wrap (k + 1)) l
   else octroiref11_Flip.j24 F (fun r621 r721=>k0 r621 r721) (fun r622 r722=>k1 r622 r722) (fun r623 r723=>k2 r623 r723) size was last last l
  else octroiref11_Flip.j24 F (fun r624 r724=>k0 r624 r724) (fun r625 r725=>k1 r625 r725) (fun r626 r726=>k2 r626 r726) size was last (IntKind.i64.wrap (k + 1)) l
 else octroiref11_Flip.j24 F (fun r627 r727=>k0 r627 r727) (fun r628 r728=>k1 r628 r728) (fun r629 r729=>k2 r629 r729) size was last (IntKind.i64.wrap (k + 1)) l
def octroiref11_Flip.sh (F:Nat) (l:tLine.T) (size:Int) (q:Int):Option octroiref11_Flip.sg.R :=
 oB (octroiref11_fits.sh F size q) fun c_1 =>
 bif !c_1.1.1 then some ((0,1,()),())
 else oB (octroiref11_Span.sh F l size) fun c_2 =>
 bif (c_2.1.2.1 != 0) then some ((0,10,()),())
 else oB (octroiref01_Cmp.sh F c_2.1.1 (4611686018427387904,0)) fun c_3 =>
 bif decide (c_3.1.1 > 0) then some ((0,10,()),())
 else oB (octroiref11_Above.sh F l size q) fun c_4 =>
 oB (octroiref09_Blocks.sh F 1099511627776 size) fun c_5 =>
 oB (octroiref09_Blocks.sh F q size) fun c_6 =>
 bif decide (c_6.1.1 > 0) then oB (octroiref11_ends.sh F size c_6.1.1) fun c_7 =>
  bif decide (q < c_7.1.2.1) then oB (octroiref11_Above.sh F l size c_7.1.2.1) fun c_8 =>
   bif (!(c_8.1.1 == c_4.1.1)) then oB (octroiref11_first.sh F l size (IntKind.i64.wrap (q + 1)) c_7.1.2.1 c_4.1.1) fun c_9 =>
    some ((c_9.1.1,0,()),())
   else octroiref11_Flip.j13 F (fun r630 r730=>some ((r630,r730,()),())) (fun r631 r731=>some ((r631,r731,()),())) (fun r632 r732=>some ((r632,r732,()),())) size c_4.1.1 c_5.1.1 c_6.1.1 l
  else octroiref11_Flip.j13 F (fun r633 r733=>some ((r633,r733,()),())) (fun r634 r734=>some ((r634,r734,()),())) (fun r635 r735=>some ((r635,r735,()),())) size c_4.1.1 c_5.1.1 c_6.1.1 l
 else octroiref11_Flip.j13 F (fun r636 r736=>some ((r636,r736,()),())) (fun r637 r737=>some ((r637,r737,()),())) (fun r638 r738=>some ((r638,r738,()),())) size c_4.1.1 c_5.1.1 c_6.1.1 l
def octroiref11_Flip.sp (F:Nat):TA octroiref11_Flip.sg.args→Option octroiref11_Flip.sg.R:=fun x=>octroiref11_Flip.sh F x.1 x.2.1 x.2.2.1
@[reducible] def octroiref12_Made_making.sg:Sig:={args:=[.d (.g tNormal_maker),.d (.b (.sl tPiece))],res:=[.c (.sl tPiece),.c .bool]}
def octroiref12_Made_making.l8.body {R:Type} (F:Nat) (k0:(List (List tPiece.T))→Int→Int→Int→Int→Bool→tNormal_maker.T→(List tPiece.T)→(List tLine.T)→Option R) (rec:(List (List tPiece.T))→Int→Int→Int→Int→tNormal_maker.T→(List tPiece.T)→(List tLine.T)→Option R) (kids:List (List tPiece.T)) (q:Int) (runs:Int) (next:Int) (i:Int) (m:tNormal_maker.T) (out:List tPiece.T) (k:List tLine.T):Option R :=
 bif decide (i < (kids.length:Int)) then bif idx i kids.length then oB (octroiref12_Find.sh F (get (.sl tPiece) kids i.toNat) q) fun c_1 =>
   bif idx i kids.length then bif idx c_1.1.1 ((get (.sl tPiece) kids i.toNat).length) then bif Nat.ble (k.length + ([(get tPiece (get (.sl tPiece) kids i.toNat) c_1.1.1.toNat).2]:List tLine.T).length) maxN then bif idx i kids.length then bif decide (c_1.1.1 < (IntKind.i64.wrap (((get (.sl tPiece) kids i.toNat).length:Int) - 1))) then bif idx i kids.length then bif idx (IntKind.i64.wrap (c_1.1.1 + 1)) ((get (.sl tPiece) kids i.toNat).length) then bif decide ((get tPiece (get (.sl tPiece) kids i.toNat) ((IntKind.i64.wrap (c_1.1.1 + 1)).toNat)).1 < next) then bif idx i kids.length then bif idx (IntKind.i64.wrap (c_1.1.1 + 1)) ((get (.sl tPiece) kids i.toNat).length) then rec kids q runs (get tPiece (get (.sl tPiece) kids i.toNat) ((IntKind.i64.wrap (c_1.1.1 + 1)).toNat)).1 (IntKind.i64.wrap (i + 1)) m out (k ++ ([(get tPiece (get (.sl tPiece) kids i.toNat) c_1.1.1.toNat).2]:List tLine.T))
            else none
           else none
          else rec kids q runs next (IntKind.i64.wrap (i + 1)) m out (k ++ ([(get tPiece (get (.sl tPiece) kids i.toNat) c_1.1.1.toNat).2]:List tLine.T))
         else none
        else none
       else rec kids q runs next (IntKind.i64.wrap (i + 1)) m out (k ++ ([(get tPiece (get (.sl tPiece) kids i.toNat) c_1.1.1.toNat).2]:List tLine.T))
      else none
     else none
    else none
   else none
  else none
 else k0 kids q runs next i (decide (i < (kids.length:Int))) m out k
def octroiref12_Made_making.l8 {R:Type} (F:Nat) (k0:(List (List tPiece.T))→Int→Int→Int→Int→Bool→tNormal_maker.T→(List tPiece.T)→(List tLine.T)→Option R):Nat→(List (List tPiece.T))→Int→Int→Int→Int→tNormal_maker.T→(List tPiece.T)→(List tLine.T)→Option R
 | 0,_,_,_,_,_,_,_,_=>none
 | fu + 1,kids,q,runs,next,i,m,out,k=>octroiref12_Made_making.l8.body F k0 (octroiref12_Made_making.l8 F k0 fu) kids q runs next i m out k
def octroiref12_Made_making.l16.body {R:Type} (F:Nat) (k0:(List (List tPiece.T))→Int→Int→Int→Int→Bool→tNormal_maker.T→(tLine.T×List tLine.T)→(List tPiece.T)→Option R) (rec:(List (List tPiece.T))→Int→Int→Int→Int→tNormal_maker.T→(tLine.T×List tLine.T)→(List tPiece.T)→Option R) (kids:List (List tPiece.T)) (q:Int) (runs:Int) (next:Int) (i:Int) (m:tNormal_maker.T) (g:tLine.T×List tLine.T) (out:List tPiece.T):Option R :=
 bif decide (i < (g.2.length:Int)) then bif idx i g.2.length then oB (octroiref11_Flip.sh F (get tLine g.2 i.toNat) m.2.2 q) fun c_4 =>
   bif decide (c_4.1.1 < next) then rec kids q runs c_4.1.1 (IntKind.i64.wrap (i + 1)) m g out
   else rec kids q runs next (IntKind.i64.wrap (i + 1)) m g out
  else none
 else k0 kids q runs next i (decide (i < (g.2.length:Int))) m g out
def octroiref12_Made_making.l16 {R:Type} (F:Nat) (k0:(List (List tPiece.T))→Int→Int→Int→Int→Bool→tNormal_maker.T→(tLine.T×List tLine.T)→(List tPiece.T)→Option R):Nat→(List (List tPiece.T))→Int→Int→Int→Int→tNormal_maker.T→(tLine.T×List tLine.T)→(List tPiece.T)→Option R
 | 0,_,_,_,_,_,_,_,_=>none
 | fu + 1,kids,q,runs,next,i,m,g,out=>octroiref12_Made_making.l16.body F k0 (octroiref12_Made_making.l16 F k0 fu) kids q runs next i m g out
def octroiref12_Made_making.l4.body {R:Type} (F:Nat) (k0:(List tPiece.T)→Bool→Option R) (k1:(List (List tPiece.T))→Int→Int→Bool→tNormal_maker.T→(List tPiece.T)→Option R) (rec:(List (List tPiece.T))→Int→Int→tNormal_maker.T→(List tPiece.T)→Option R) (kids:List (List tPiece.T)) (q:Int) (runs:Int) (m:tNormal_maker.T) (out:List tPiece.T):Option R :=
 bif decide (q ≤ 1099511627776) then octroiref12_Made_making.l8 F (fun kids2 q2 runs2 next2 i2 t222 m2 out2 k2=>oB (octroiref12_Made_got.sh F m2 k2 q2) fun c_3 =>
  octroiref12_Made_making.l16 F (fun kids5 q5 runs5 next5 i5 t805 m5 g5 out5=>bif ((out5.length:Int) == 0) then bif Nat.ble (out5.length + ([(q5,g5.1)]:List tPiece.T).length) maxN then bif decide ((IntKind.i64.wrap (runs5 + 1)) > 4096) then k0 ([]) false
    else bif decide (((out5 ++ ([(q5,g5.1)]:List tPiece.T)).length:Int) > 256) then k0 ([]) false
    else rec kids5 next5 (IntKind.i64.wrap (runs5 + 1)) m5 (out5 ++ ([(q5,g5.1)]:List tPiece.T))
   else none
  else bif idx (IntKind.i64.wrap ((out5.length:Int) - 1)) out5.length then bif !(((get tPiece out5 ((IntKind.i64.wrap ((out5.length:Int) - 1)).toNat)).2.1.1 == g5.1.1.1) && (((get tPiece out5 ((IntKind.i64.wrap ((out5.length:Int) - 1)).toNat)).2.1.2 == g5.1.1.2) && (((get tPiece out5 ((IntKind.i64.wrap ((out5.length:Int) - 1)).toNat)).2.2.1.1 == g5.1.2.1.1) && (((get tPiece out5 ((IntKind.i64.wrap ((out5.length:Int) - 1)).toNat)).2.2.1.2 == g5.1.2.1.2) && (((get tPiece out5 ((IntKind.i64.wrap ((out5.length:Int) - 1)).toNat)).2.2.2.1 == g5.1.2.2.1) && (((get tPiece out5 ((IntKind.i64.wrap ((out5.length:Int) - 1)).toNat)).2.2.2.2 == g5.1.2.2.2) && true)))))) then bif Nat.ble (out5.length + ([(q5,g5.1)]:List tPiece.T).length) maxN then bif decide ((IntKind.i64.wrap (runs5 + 1)) > 4096) then k0 ([]) false
     else bif decide (((out5 ++ ([(q5,g5.1)]:List tPiece.T)).length:Int) > 256) then k0 ([]) false
     else rec kids5 next5 (IntKind.i64.wrap (runs5 + 1)) m5 (out5 ++ ([(q5,g5.1)]:List tPiece.T))
    else none
   else bif decide ((IntKind.i64.wrap (runs5 + 1)) > 4096) then k0 ([]) false
   else bif decide ((out5.length:Int) > 256) then k0 ([]) false
   else rec kids5 next5 (IntKind.i64.wrap (runs5 + 1)) m5 out5
  else none) F kids2 q2 runs2 next2 0 m2 c_3.1.1 out2) F kids q runs 1099511627777 0 m out ([])
 else k1 kids q runs (decide (q ≤ 1099511627776)) m out
def octroiref12_Made_making.l4 {R:Type} (F:Nat) (k0:(List tPiece.T)→Bool→Option R) (k1:(List (List tPiece.T))→Int→Int→Bool→tNormal_maker.T→(List tPiece.T)→Option R):Nat→(List (List tPiece.T))→Int→Int→tNormal_maker.T→(List tPiece.T)→Option R
 | 0,_,_,_,_,_=>none
 | fu + 1,kids,q,runs,m,out=>octroiref12_Made_making.l4.body F k0 k1 (octroiref12_Made_making.l4 F k0 k1 fu) kids q runs m out
def octroiref12_Made_making.j27 {R:Type} (F:Nat) (k0:(List tPiece.T)→Bool→Option R) (out:List tPiece.T):Option R :=
 k0 out true
def octroiref12_Made_making.sh (F:Nat) (m:tNormal_maker.T) (kids:List (List tPiece.T)):Option octroiref12_Made_making.sg.R :=
 octroiref12_Made_making.l4 F (fun r46 r56=>some ((r46,r56,()),())) (fun kids7 q7 runs7 t187 m7 out7=>octroiref12_Made_making.j27 F (fun r48 r58=>some ((r48,r58,()),())) out7) F kids 0 0 m ([])
def octroiref12_Made_making.sp (F:Nat):TA octroiref12_Made_making.sg.args→Option octroiref12_Made_making.sg.R:=fun x=>octroiref12_Made_making.sh F x.1 x.2.1
@[reducible] def octroiref12_Made_node.sg:Sig:={args:=[.d (.g tNormal_maker),.d (.b (.sl tPiece))],res:=[.c (.sl tPiece),.c .bool]}
def octroiref12_Made_node.l5.body {R:Type} (F:Nat) (k0:(List tPiece.T)→Bool→Option R) (k1:(List (List tPiece.T))→(List tPiece.T)→Int→Bool→tNormal_maker.T→Option R) (rec:(List (List tPiece.T))→(List tPiece.T)→Int→tNormal_maker.T→Option R) (kids:List (List tPiece.T)) (l:List tPiece.T) (i:Int) (m:tNormal_maker.T):Option R :=
 bif decide (i < (kids.length:Int)) then bif idx i kids.length then oB (octroiref12_Made_making.sh F m ([l,get (.sl tPiece) kids i.toNat]:List (List tPiece.T))) fun c_2 =>
   bif !c_2.1.2.1 then k0 ([]) false
   else rec kids c_2.1.1 (IntKind.i64.wrap (i + 1)) m
  else none
 else k1 kids l i (decide (i < (kids.length:Int))) m
def octroiref12_Made_node.l5 {R:Type} (F:Nat) (k0:(List tPiece.T)→Bool→Option R) (k1:(List (List tPiece.T))→(List tPiece.T)→Int→Bool→tNormal_maker.T→Option R):Nat→(List (List tPiece.T))→(List tPiece.T)→Int→tNormal_maker.T→Option R
 | 0,_,_,_,_=>none
 | fu + 1,kids,l,i,m=>octroiref12_Made_node.l5.body F k0 k1 (octroiref12_Made_node.l5 F k0 k1 fu) kids l i m
def octroiref12_Made_node.j3 {R:Type} (F:Nat) (k0:(List tPiece.T)→Bool→Option R) (k1:(List tPiece.T)→Bool→Option R) (kids:List (List tPiece.T)) (m:tNormal_maker.T):Option R :=
 bif idx 0 kids.length then octroiref12_Made_node.l5 F (fun r43 r53=>k0 r43 r53) (fun kids4 l4 i4 t314 m4=>k1 l4 true) F kids (get (.sl tPiece) kids 0) 1 m
 else none
def octroiref12_Made_node.sh (F:Nat) (m:tNormal_maker.T) (kids:List (List tPiece.T)):Option octroiref12_Made_node.sg.R :=
 bif (m.1.1 != 9) then bif (m.1.1 != 10) then oB (octroiref12_Made_making.sh F m kids) fun c_1 =>
   some ((c_1.1.1,c_1.1.2.1,()),())
  else octroiref12_Made_node.j3 F (fun r45 r55=>some ((r45,r55,()),())) (fun r46 r56=>some ((r46,r56,()),())) kids m
 else octroiref12_Made_node.j3 F (fun r47 r57=>some ((r47,r57,()),())) (fun r48 r58=>some ((r48,r58,()),())) kids m
def octroiref12_Made_node.sp (F:Nat):TA octroiref12_Made_node.sg.args→Option octroiref12_Made_node.sg.R:=fun x=>octroiref12_Made_node.sh F x.1 x.2.1
@[reducible] def octroiref12_Table.sg:Sig:={args:=[.d (.g tPlan)],res:=[.g tTable,.c (.int .i64),.c (.int .i64)]}
def octroiref12_Table.l8.body {R:Type} (F:Nat) (k0:Int→Int→tTable.T→Option R) (k1:Int→Bool→tPlan.T→tTable.T→tWide.T→(List (List tPiece.T))→Option R) (rec:Int→tPlan.T→tTable.T→tWide.T→(List (List tPiece.T))→Option R) (i:Int) (p:tPlan.T) (r2:tTable.T) (unit:tWide.T) (pile:List (List tPiece.T)):Option R :=
 bif decide (i < (p.2.2.2.length:Int)) then bif idx i p.2.2.2.length then oB (octroiref05_Takes.sh F (get tNode p.2.2.2 i.toNat)) fun c_2 =>
   bif (c_2.1.1 == 0) then bif idx i p.2.2.2.length then oB (octroiref12_leaf.sh F (get tNode p.2.2.2 i.toNat) unit) fun c_3 =>
     bif Nat.ble (pile.length + ([c_3.1.1]:List (List tPiece.T)).length) maxN then rec (IntKind.i64.wrap (i + 1)) p r2 unit (pile ++ ([c_3.1.1]:List (List tPiece.T)))
     else none
    else none
   else bif idx i p.2.2.2.length then bif idx 0 p.2.1.length then bif (bounds pile.length (some (IntKind.i64.wrap ((pile.length:Int) - c_2.1.1))) none).1 then oB (octroiref12_Made_node.sh F ((get tNode p.2.2.2 i.toNat),unit,(get tDim p.2.1 0).2) ((List.take (bounds pile.length (some (IntKind.i64.wrap ((pile.length:Int) - c_2.1.1))) none).2.2 pile).drop (bounds pile.length (some (IntKind.i64.wrap ((pile.length:Int) - c_2.1.1))) none).2.1)) fun c_4 =>
      bif !c_4.1.2.1 then k0 i 120 (0,0,[])
      else bif (bounds pile.length none (some (IntKind.i64.wrap ((pile.length:Int) - c_2.1.1)))).1 then bif Nat.ble ((bounds pile.length none (some (IntKind.i64.wrap ((pile.length:Int) - c_2.1.1)))).2.2 + ([c_4.1.1]:List (List tPiece.T)).length) maxN then rec (IntKind.i64.wrap (i + 1)) p r2 unit (pile.take (bounds pile.length none (some (IntKind.i64.wrap ((pile.length:Int) - c_2.1.1)))).2.2 ++ ([c_4.1.1]:List (List tPiece.T)))
       else none
      else none
     else none
    else none
   else none
  else none
 else k1 i (decide (i < (p.2.2.2.length:Int))) p r2 unit pile
def octroiref12_Table.l8 {R:Type} (F:Nat) (k0:Int→Int→tTable.T→Option R) (k1:Int→Bool→tPlan.T→tTable.T→tWide.T→(List (List tPiece.T))→Option R):Nat→Int→tPlan.T→tTable.T→tWide.T→(List (List tPiece.T))→Option R
 | 0,_,_,_,_,_=>none
 | fu + 1,i,p,r2,unit,pile=>octroiref12_Table.l8.body F k0 k1 (octroiref12_Table.l8 F k0 k1 fu) i p r2 unit pile
def octroiref12_Table.j19 {R:Type} (F:Nat) (k0:Int→Int→tTable.T→Option R) (pile:List (List tPiece.T)) (p:tPlan.T) (r2:tTable.T):Option R :=
 oB (octroiref05_Scale.sh F p) fun c_7 =>
 bif idx 0 p.2.1.length then bif idx 0 pile.length then k0 0 0 ((get tDim p.2.1 0).2,c_7.1.1,get (.sl tPiece) pile 0)
  else none
 else none
@[reducible] def octroilaw12_NormalTables.sg:Sig:={args:=[.d (.g tPlan)],res:=[.c .bool]}
@[reducible] def octroiref12_Check.sg:Sig:={args:=[.d (.g tTable)],res:=[.c .bool]}
def octroiref12_Check.j8 {R:Type} (F:Nat) (k0:Bool→Option R) (k1:Int→Bool→tTable.T→Option R) (i:Int) (t:tTable.T):Option R :=
 bif decide (i > 0) then bif idx (IntKind.i64.wrap (i - 1)) t.2.2.length then bif idx i t.2.2.length then bif decide ((get tPiece t.2.2 ((IntKind.i64.wrap (i - 1)).toNat)).1 ≥ (get tPiece t.2.2 i.toNat).1) then k0 false
    else bif idx (IntKind.i64.wrap (i - 1)) t.2.2.length then bif idx i t.2.2.length then bif (((get tPiece t.2.2 ((IntKind.i64.wrap (i - 1)).toNat)).2.1.1 == (get tPiece t.2.2 i.toNat).2.1.1) && (((get tPiece t.2.2 ((IntKind.i64.wrap (i - 1)).toNat)).2.1.2 == (get tPiece t.2.2 i.toNat).2.1.2) && (((get tPiece t.2.2 ((IntKind.i64.wrap (i - 1)).toNat)).2.2.1.1 == (get tPiece t.2.2 i.toNat).2.2.1.1) && (((get tPiece t.2.2 ((IntKind.i64.wrap (i - 1)).toNat)).2.2.1.2 == (get tPiece t.2.2 i.toNat).2.2.1.2) && (((get tPiece t.2.2 ((IntKind.i64.wrap (i - 1)).toNat)).2.2.2.1 == (get tPiece t.2.2 i.toNat).2.2.2.1) && (((get tPiece t.2.2 ((IntKind.i64.wrap (i - 1)).toNat)).2.2.2.2 == (get tPiece t.2.2 i.toNat).2.2.2.2) && true)))))) then k0 false
      else k1 i (((get tPiece t.2.2 ((IntKind.i64.wrap (i - 1)).toNat)).2.1.1 == (get tPiece t.2.2 i.toNat).2.1.1) && (((get tPiece t.2.2 ((IntKind.i64.wrap (i - 1)).toNat)).2.1.2 == (get tPiece t.2.2 i.toNat).2.1.2) && (((get tPiece t.2.2 ((IntKind.i64.wrap (i - 1)).toNat)).2.2.1.1 == (get tPiece t.2.2 i.toNat).2.2.1.1) && (((get tPiece t.2.2 ((IntKind.i64.wrap (i - 1)).toNat)).2.2.1.2 == (get tPiece t.2.2 i.toNat).2.2.1.2) && (((get tPiece t.2.2 ((IntKind.i64.wrap (i - 1)).toNat)).2.2.2.1 == (get tPiece t.2.2 i.toNat).2.2.2.1) && (((get tPiece t.2.2 ((IntKind.i64.wrap (i - 1)).toNat)).2.2.2.2 == (get tPiece t.2.2 i.toNat).2.2.2.2) && true)))))) t
     else none
    else none
   else none
  else none
 else k1 i false t
def octroiref12_Check.l4.body {R:Type} (F:Nat) (k0:Bool→Option R) (k1:Bool→Option R) (k2:Int→Bool→tTable.T→Option R) (rec:Int→tTable.T→Option R) (i:Int) (t:tTable.T):Option R :=
 bif decide (i < (t.2.2.length:Int)) then bif idx i t.2.2.length then bif decide ((get tPiece t.2.2 i.toNat).1 > 1099511627776) then k0 false
   else bif (i == 0) then bif idx i t.2.2.length then bif ((get tPiece t.2.2 i.toNat).1 != 0) then k0 false
     else octroiref12_Check.j8 F (fun r21=>k1 r21) (fun i2 t942 t2=>rec (IntKind.i64.wrap (i2 + 1)) t2) i t
    else none
   else octroiref12_Check.j8 F (fun r23=>k1 r23) (fun i4 t944 t4=>rec (IntKind.i64.wrap (i4 + 1)) t4) i t
  else none
 else k2 i (decide (i < (t.2.2.length:Int))) t
def octroiref12_Check.l4 {R:Type} (F:Nat) (k0:Bool→Option R) (k1:Bool→Option R) (k2:Int→Bool→tTable.T→Option R):Nat→Int→tTable.T→Option R
 | 0,_,_=>none
 | fu + 1,i,t=>octroiref12_Check.l4.body F k0 k1 k2 (octroiref12_Check.l4 F k0 k1 k2 fu) i t
def octroiref12_Check.sh (F:Nat) (t:tTable.T):Option octroiref12_Check.sg.R :=
 bif decide (t.1 < 1) then some ((false,()),())
 else bif decide (t.1 > 1000000000000) then some ((false,()),())
 else bif decide (t.2.1 < 0) then some ((false,()),())
 else bif decide (t.2.1 > 6) then some ((false,()),())
 else bif ((t.2.2.length:Int) == 0) then some ((false,()),())
 else bif decide ((t.2.2.length:Int) > 256) then some ((false,()),())
 else octroiref12_Check.l4 F (fun r25=>some ((r25,()),())) (fun r26=>some ((r26,()),())) (fun i7 t387 t7=>some ((true,()),())) F 0 t
def octroiref12_Check.sp (F:Nat):TA octroiref12_Check.sg.args→Option octroiref12_Check.sg.R:=fun x=>octroiref12_Check.sh F x.1
@[reducible] def octroiref12_At.sg:Sig:={args:=[.d (.g tTable),.d (.c (.int .i64))],res:=[.g tWide,.c (.int .i64)]}
def octroiref12_At.sh (F:Nat) (t:tTable.T) (q:Int):Option octroiref12_At.sg.R :=
 oB (octroiref12_Check.sh F t) fun c_1 =>
 bif !c_1.1.1 then some (((0,0),1,()),())
 else bif decide (q < 0) then some (((0,0),1,()),())
 else bif decide (q > 1099511627776) then some (((0,0),1,()),())
 else oB (octroiref12_Find.sh F t.2.2 q) fun c_2 =>
 bif idx c_2.1.1 t.2.2.length then oB (octroiref11_Value.sh F (get tPiece t.2.2 c_2.1.1.toNat).2 t.1 q) fun c_3 =>
  some ((c_3.1.1,c_3.1.2.1,()),())
 else none
def octroiref12_At.sp (F:Nat):TA octroiref12_At.sg.args→Option octroiref12_At.sg.R:=fun x=>octroiref12_At.sh F x.1 x.2.1
@[reducible] def octroilaw12_NormalRaw.sg:Sig:={args:=[.d (.g tTable),.d (.b (.int .i64))],res:=[.c .bool]}
def octroilaw12_NormalRaw.l6.body {R:Type} (F:Nat) (k0:Bool→Option R) (k1:(List Int)→Int→Bool→tTable.T→Option R) (rec:(List Int)→Int→tTable.T→Option R) (list:List Int) (i:Int) (t:tTable.T):Option R :=
 bif decide (i < (list.length:Int)) then bif decide (i < 256) then bif idx i list.length then oB (normal_At.sh F t (get (.int .i64) list i.toNat)) fun c_4 =>
    bif idx i list.length then oB (octroiref12_At.sh F t (get (.int .i64) list i.toNat)) fun c_5 =>
     bif !((c_4.1.1.1 == c_5.1.1.1) && ((c_4.1.1.2 == c_5.1.1.2) && true)) then k0 false
     else bif (c_4.1.2.1 != c_5.1.2.1) then k0 false
     else rec list (IntKind.i64.wrap (i + 1)) t
    else none
   else none
  else k1 list i (decide (i < 256)) t
 else k1 list i false t
def octroilaw12_NormalRaw.l6 {R:Type} (F:Nat) (k0:Bool→Option R) (k1:(List Int)→Int→Bool→tTable.T→Option R):Nat→(List Int)→Int→tTable.T→Option R
 | 0,_,_,_=>none
 | fu + 1,list,i,t=>octroilaw12_NormalRaw.l6.body F k0 k1 (octroilaw12_NormalRaw.l6 F k0 k1 fu) list i t
def octroilaw12_NormalRaw.sh (F:Nat) (t:tTable.T) (list:List Int):Option octroilaw12_NormalRaw.sg.R :=
 oB (octroilaw12_awake.sh F) fun c_1 =>
 bif !c_1.1.1 then some ((false,()),())
 else oB (normal_Check.sh F t) fun c_2 =>
 oB (octroiref12_Check.sh F t) fun c_3 =>
 bif (!(c_2.1.1 == c_3.1.1)) then some ((false,()),())
 else octroilaw12_NormalRaw.l6 F (fun r46=>some ((r46,()),())) (fun list7 i7 t247 t7=>some ((true,()),())) F list 0 t
def octroilaw12_NormalRaw.sp (F:Nat):TA octroilaw12_NormalRaw.sg.args→Option octroilaw12_NormalRaw.sg.R:=fun x=>octroilaw12_NormalRaw.sh F x.1 x.2.1
@[reducible] def octroilaw12_NormalGrows.sg:Sig:={args:=[.d (.g tPlan),.d (.c (.int .i64))],res:=[.c .bool]}
def octroilaw12_NormalGrows.l22.body {R:Type} (F:Nat) (k0:Bool→Option R) (k1:Int→Int→Int→Bool→tTable.T→tTable.T→tTable.T→Option R) (rec:Int→Int→Int→tTable.T→tTable.T→tTable.T→Option R) (fee:Int) (g:Int) (i:Int) (t:tTable.T) (u:tTable.T) (v:tTable.T):Option R :=
 bif decide (i < (t.2.2.length:Int)) then bif idx i t.2.2.length then bif idx i v.2.2.length then oB (wide_Add.sh F (get tPiece t.2.2 i.toNat).2.1 (get tPiece v.2.2 i.toNat).2.1) fun c_7 =>
    bif idx i t.2.2.length then bif idx i v.2.2.length then oB (wide_Add.sh F (get tPiece t.2.2 i.toNat).2.2.1 (get tPiece v.2.2 i.toNat).2.2.1) fun c_8 =>
      bif idx i t.2.2.length then bif idx i v.2.2.length then oB (wide_Add.sh F (get tPiece t.2.2 i.toNat).2.2.2 (get tPiece v.2.2 i.toNat).2.2.2) fun c_9 =>
        bif (c_7.1.2.1 != 0) then k0 false
        else bif (c_8.1.2.1 != 0) then k0 false
        else bif (c_9.1.2.1 != 0) then k0 false
        else bif !((c_7.1.1.1 == 0) && ((c_7.1.1.2 == 0) && true)) then k0 false
        else bif !((c_8.1.1.1 == 0) && ((c_8.1.1.2 == 0) && true)) then k0 false
        else bif !((c_9.1.1.1 == 0) && ((c_9.1.1.2 == 0) && true)) then k0 false
        else bif idx i t.2.2.length then bif idx i v.2.2.length then bif ((get tPiece t.2.2 i.toNat).1 != (get tPiece v.2.2 i.toNat).1) then k0 false
          else rec fee g (IntKind.i64.wrap (i + 1)) t u v
         else none
        else none
       else none
      else none
     else none
    else none
   else none
  else none
 else k1 fee g i (decide (i < (t.2.2.length:Int))) t u v
def octroilaw12_NormalGrows.l22 {R:Type} (F:Nat) (k0:Bool→Option R) (k1:Int→Int→Int→Bool→tTable.T→tTable.T→tTable.T→Option R):Nat→Int→Int→Int→tTable.T→tTable.T→tTable.T→Option R
 | 0,_,_,_,_,_,_=>none
 | fu + 1,fee,g,i,t,u,v=>octroilaw12_NormalGrows.l22.body F k0 k1 (octroilaw12_NormalGrows.l22 F k0 k1 fu) fee g i t u v
def octroilaw12_NormalGrows.l35.body {R:Type} (F:Nat) (k0:Bool→Option R) (k1:Int→Int→Int→Bool→tTable.T→tTable.T→tWide.T→Option R) (rec:Int→Int→Int→tTable.T→tTable.T→tWide.T→Option R) (fee:Int) (x:Int) (i:Int) (t:tTable.T) (u:tTable.T) (d:tWide.T):Option R :=
 bif decide (i < (t.2.2.length:Int)) then bif idx i u.2.2.length then bif idx i t.2.2.length then oB (wide_Sub.sh F (get tPiece u.2.2 i.toNat).2.1 (get tPiece t.2.2 i.toNat).2.1) fun c_13 =>
    bif (x != 0) then k0 false
    else bif (c_13.1.2.1 != 0) then k0 false
    else bif !((c_13.1.1.1 == d.1) && ((c_13.1.1.2 == d.2) && true)) then k0 false
    else bif idx i u.2.2.length then bif idx i t.2.2.length then bif !(((get tPiece u.2.2 i.toNat).2.2.1.1 == (get tPiece t.2.2 i.toNat).2.2.1.1) && (((get tPiece u.2.2 i.toNat).2.2.1.2 == (get tPiece t.2.2 i.toNat).2.2.1.2) && true)) then k0 false
      else bif idx i u.2.2.length then bif idx i t.2.2.length then bif !(((get tPiece u.2.2 i.toNat).2.2.2.1 == (get tPiece t.2.2 i.toNat).2.2.2.1) && (((get tPiece u.2.2 i.toNat).2.2.2.2 == (get tPiece t.2.2 i.toNat).2.2.2.2) && true)) then k0 false
        else bif idx i u.2.2.length then bif idx i t.2.2.length then bif ((get tPiece u.2.2 i.toNat).1 != (get tPiece t.2.2 i.toNat).1) then k0 false
          else rec fee x (IntKind.i64.wrap (i + 1)) t u d
         else none
        else none
       else none
      else none
     else none
    else none
   else none
  else none
 else k1 fee x i (decide (i < (t.2.2.length:Int))) t u d
def octroilaw12_NormalGrows.l35 {R:Type} (F:Nat) (k0:Bool→Option R) (k1:Int→Int→Int→Bool→tTable.T→tTable.T→tWide.T→Option R):Nat→Int→Int→Int→tTable.T→tTable.T→tWide.T→Option R
 | 0,_,_,_,_,_,_=>none
 | fu + 1,fee,x,i,t,u,d=>octroilaw12_NormalGrows.l35.body F k0 k1 (octroilaw12_NormalGrows.l35 F k0 k1 fu) fee x i t u d
def octroilaw12_NormalGrows.j21 {R:Type} (F:Nat) (k0:Bool→Option R) (k1:Bool→Option R) (k2:Bool→Option R) (k3:Bool→Option R) (k4:Bool→Option R) (fee:Int) (g:Int) (t:tTable.T) (u:tTable.T) (v:tTable.T):Option R :=
 octroilaw12_NormalGrows.l22 F (fun r410=>k0 r410) (fun fee11 g11 i11 t15011 t11 u11 v11=>bif (g11 != 0) then k1 true
 else bif ((u11.2.2.length:Int) != (t11.2.2.length:Int)) then k2 false
 else bif (u11.2.1 != t11.2.1) then k2 false
 else bif idx 0 u11.2.2.length then bif idx 0 t11.2.2.length then oB (wide_Sub.sh F (get tPiece u11.2.2 0).2.1 (get tPiece t11.2.2 0).2.1) fun c_12 =>
   octroilaw12_NormalGrows.l35 F (fun r414=>k3 r414) (fun fee15 x15 i15 t28315 t15 u15 d15=>oB (wide_Sign.sh F d15) fun c_16 =>
   bif (decide (c_16.1.1 > 0) == decide (fee15 > 0)) then oB (wide_Sign.sh F d15) fun c_17 =>
    k4 (decide (c_17.1.1 ≥ 0))
   else k4 false) F fee11 c_12.1.2.1 0 t11 u11 c_12.1.1
  else none
 else none) F fee g 0 t u v
@[reducible] def bound_Mags.sg:Sig:={args:=[.d (.g tPlan)],res:=[.c (.sl tWide),.c (.int .i64),.c (.int .i64)]}
def bound_Mags.sh (F:Nat) (p:tPlan.T):Option bound_Mags.sg.R :=
 oB (bound_Unit.sh F p) fun c_1 =>
 bif (c_1.1.2.2.1 != 0) then some (([],c_1.1.2.1,c_1.1.2.2.1,()),())
 else oB (bound_measured.sh F p c_1.1.1) fun c_2 =>
 bif decide (c_2.1.2.1 ≥ 0) then some (([],c_2.1.2.1,90,()),())
 else some ((c_2.1.1,0,0,()),())
def bound_Mags.sp (F:Nat):TA bound_Mags.sg.args→Option bound_Mags.sg.R:=fun x=>bound_Mags.sh F x.1
@[reducible] def eval_kids.sg:Sig:={args:=[.d (.g tNode)],res:=[.c (.int .i64)]}
def eval_kids.j10 {R:Type} (F:Nat) (k0:Int→Option R) (k1:Int→Option R) (k2:Int→Option R) (k3:Bool→Option R) (t4:Int) (t10:Bool) (n:tNode.T):Option R :=
 bif t10 then k0 2
 else bif (t4 == 9) then bif (t4 == 9) then k1 n.2.2.2.1
  else bif (t4 == 16) then k2 3
  else k3 (t4 == 16)
 else bif (t4 == 10) then k1 n.2.2.2.1
 else bif (t4 == 16) then k2 3
 else k3 (t4 == 16)
def eval_kids.j6 {R:Type} (F:Nat) (k0:Int→Option R) (k1:Int→Option R) (k2:Int→Option R) (k3:Int→Option R) (k4:Bool→Option R) (t4:Int) (t5:Bool) (n:tNode.T):Option R :=
 bif t5 then k0 0
 else bif (t4 == 6) then eval_kids.j10 F (fun r21=>k1 r21) (fun r22=>k2 r22) (fun r23=>k3 r23) (fun t194=>k4 t194) t4 (t4 == 6) n
 else bif (t4 == 7) then eval_kids.j10 F (fun r25=>k1 r25) (fun r26=>k2 r26) (fun r27=>k3 r27) (fun t198=>k4 t198) t4 (t4 == 7) n
 else eval_kids.j10 F (fun r29=>k1 r29) (fun r210=>k2 r210) (fun r211=>k3 r211) (fun t1912=>k4 t1912) t4 (t4 == 8) n
def eval_kids.sh (F:Nat) (n:tNode.T):Option eval_kids.sg.R :=
 bif (n.1 == 1) then eval_kids.j6 F (fun r213=>some ((r213,()),())) (fun r214=>some ((r214,()),())) (fun r215=>some ((r215,()),())) (fun r216=>some ((r216,()),())) (fun t1917=>some ((1,()),())) n.1 (n.1 == 1) n
 else bif (n.1 == 2) then eval_kids.j6 F (fun r218=>some ((r218,()),())) (fun r219=>some ((r219,()),())) (fun r220=>some ((r220,()),())) (fun r221=>some ((r221,()),())) (fun t1922=>some ((1,()),())) n.1 (n.1 == 2) n
 else bif (n.1 == 3) then eval_kids.j6 F (fun r223=>some ((r223,()),())) (fun r224=>some ((r224,()),())) (fun r225=>some ((r225,()),())) (fun r226=>some ((r226,()),())) (fun t1927=>some ((1,()),())) n.1 (n.1 == 3) n
 else eval_kids.j6 F (fun r228=>some ((r228,()),())) (fun r229=>some ((r229,()),())) (fun r230=>some ((r230,()),())) (fun r231=>some ((r231,()),())) (fun t1932=>some ((1,()),())) n.1 (n.1 == 4) n
def eval_kids.sp (F:Nat):TA eval_kids.sg.args→Option eval_kids.sg.R:=fun x=>eval_kids.sh F x.1
@[reducible] def eval_sub.sg:Sig:={args:=[.d (.g tWide),.d (.g tWide)],res:=[.g tWide]}
def eval_sub.sh (F:Nat) (a:tWide.T) (b:tWide.T):Option eval_sub.sg.R :=
 oB (wide_Sub.sh F a b) fun c_1 =>
 some ((c_1.1.1,()),())
@[reducible] def eval_add.sg:Sig:={args:=[.d (.g tWide),.d (.g tWide)],res:=[.g tWide]}
def eval_add.sh (F:Nat) (a:tWide.T) (b:tWide.T):Option eval_add.sg.R :=
 oB (wide_Add.sh F a b) fun c_1 =>
 some ((c_1.1.1,()),())
@[reducible] def eval_mul.sg:Sig:={args:=[.d (.g tWide),.d (.g tWide)],res:=[.g tWide]}
def eval_mul.sh (F:Nat) (a:tWide.T) (b:tWide.T):Option eval_mul.sg.R :=
 oB (times_Mul.sh F a b) fun c_1 =>
 some ((c_1.1.1,()),())
@[reducible] def slices_MinFunc_Wide.sg:Sig:={args:=[.d (.b tWide),.d (.c .fn)],res:=[.g tWide]}
@[reducible] def slices_MinFunc_Wide.ds26:Sig:={args:=[.d (.g tWide),.d (.g tWide)],res:=[.c (.int .i64)]}
def slices_MinFunc_Wide.d26 (F:Nat):Nat→TA slices_MinFunc_Wide.ds26.args→Option slices_MinFunc_Wide.ds26.R:=mkT slices_MinFunc_Wide.ds26 [(fn_wide_Cmp,wide_Cmp.sp F)]
def slices_MinFunc_Wide.l5.body {R:Type} (F:Nat) (k0:(List tWide.T)→Nat→Int→Bool→tWide.T→tWide.T→Option R) (rec:(List tWide.T)→Nat→Int→tWide.T→tWide.T→Option R) (x:List tWide.T) (cmp:Nat) (i:Int) (r4:tWide.T) (m:tWide.T):Option R :=
 bif decide (i < (x.length:Int)) then bif idx i x.length then oB (slices_MinFunc_Wide.d26 F cmp ((get tWide x i.toNat),m,())) fun c_1 =>
   bif decide (c_1.1.1 < 0) then bif idx i x.length then rec x cmp (IntKind.i64.wrap (i + 1)) r4 (get tWide x i.toNat)
    else none
   else rec x cmp (IntKind.i64.wrap (i + 1)) r4 m
  else none
 else k0 x cmp i (decide (i < (x.length:Int))) r4 m
def slices_MinFunc_Wide.l5 {R:Type} (F:Nat) (k0:(List tWide.T)→Nat→Int→Bool→tWide.T→tWide.T→Option R):Nat→(List tWide.T)→Nat→Int→tWide.T→tWide.T→Option R
 | 0,_,_,_,_,_=>none
 | fu + 1,x,cmp,i,r4,m=>slices_MinFunc_Wide.l5.body F k0 (slices_MinFunc_Wide.l5 F k0 fu) x cmp i r4 m
def slices_MinFunc_Wide.sh (F:Nat) (x:List tWide.T) (cmp:Nat):Option slices_MinFunc_Wide.sg.R :=
 bif decide ((x.length:Int) < 1) then none
 else bif idx 0 x.length then slices_MinFunc_Wide.l5 F (fun x2 cmp2 i2 t172 r42 m2=>some ((m2,()),())) F x cmp 1 (0,0) (get tWide x 0)
 else none
@[reducible] def slices_MaxFunc_Wide.sg:Sig:={args:=[.d (.b tWide),.d (.c .fn)],res:=[.g tWide]}
@[reducible] def slices_MaxFunc_Wide.ds26:Sig:={args:=[.d (.g tWide),.d (.g tWide)],res:=[.c (.int .i64)]}
def slices_MaxFunc_Wide.d26 (F:Nat):Nat→TA slices_MaxFunc_Wide.ds26.args→Option slices_MaxFunc_Wide.ds26.R:=mkT slices_MaxFunc_Wide.ds26 [(fn_wide_Cmp,wide_Cmp.sp F)]
def slices_MaxFunc_Wide.l5.body {R:Type} (F:Nat) (k0:(List tWide.T)→Nat→Int→Bool→tWide.T→tWide.T→Option R) (rec:(List tWide.T)→Nat→Int→tWide.T→tWide.T→Option R) (x:List tWide.T) (cmp:Nat) (i:Int) (r4:tWide.T) (m:tWide.T):Option R :=
 bif decide (i < (x.length:Int)) then bif idx i x.length then oB (slices_MaxFunc_Wide.d26 F cmp ((get tWide x i.toNat),m,())) fun c_1 =>
   bif decide (c_1.1.1 > 0) then bif idx i x.length then rec x cmp (IntKind.i64.wrap (i + 1)) r4 (get tWide x i.toNat)
    else none
   else rec x cmp (IntKind.i64.wrap (i + 1)) r4 m
  else none
 else k0 x cmp i (decide (i < (x.length:Int))) r4 m
def slices_MaxFunc_Wide.l5 {R:Type} (F:Nat) (k0:(List tWide.T)→Nat→Int→Bool→tWide.T→tWide.T→Option R):Nat→(List tWide.T)→Nat→Int→tWide.T→tWide.T→Option R
 | 0,_,_,_,_,_=>none
 | fu + 1,x,cmp,i,r4,m=>slices_MaxFunc_Wide.l5.body F k0 (slices_MaxFunc_Wide.l5 F k0 fu) x cmp i r4 m
def slices_MaxFunc_Wide.sh (F:Nat) (x:List tWide.T) (cmp:Nat):Option slices_MaxFunc_Wide.sg.R :=
 bif decide ((x.length:Int) < 1) then none
 else bif idx 0 x.length then slices_MaxFunc_Wide.l5 F (fun x2 cmp2 i2 t172 r42 m2=>some ((m2,()),())) F x cmp 1 (0,0) (get tWide x 0)
 else none
@[reducible] def eval_tier.sg:Sig:={args:=[.d (.g tWide),.d (.b tTier)],res:=[.c (.int .i64)]}
def eval_tier.l2.body {R:Type} (F:Nat) (k0:(List tTier.T)→Int→Bool→tWide.T→Option R) (rec:(List tTier.T)→Int→tWide.T→Option R) (tiers:List tTier.T) (k:Int) (x:tWide.T):Option R :=
 bif decide ((IntKind.i64.wrap (k + 1)) < (tiers.length:Int)) then bif idx (IntKind.i64.wrap (k + 1)) tiers.length then oB (wide_Of.sh F (get tTier tiers ((IntKind.i64.wrap (k + 1)).toNat)).1) fun c_1 =>
   oB (wide_Cmp.sh F c_1.1.1 x) fun c_2 =>
   bif decide (c_2.1.1 < 0) then rec tiers (IntKind.i64.wrap (k + 1)) x
   else k0 tiers k (decide (c_2.1.1 < 0)) x
  else none
 else k0 tiers k false x
def eval_tier.l2 {R:Type} (F:Nat) (k0:(List tTier.T)→Int→Bool→tWide.T→Option R):Nat→(List tTier.T)→Int→tWide.T→Option R
 | 0,_,_,_=>none
 | fu + 1,tiers,k,x=>eval_tier.l2.body F k0 (eval_tier.l2 F k0 fu) tiers k x
def eval_tier.sh (F:Nat) (x:tWide.T) (tiers:List tTier.T):Option eval_tier.sg.R :=
 eval_tier.l2 F (fun tiers3 k3 t223 x3=>some ((k3,()),())) F tiers (-1) x
@[reducible] def eval_graduated.sg:Sig:={args:=[.d (.g tWide),.d (.b tTier)],res:=[.g tWide]}
def eval_graduated.l3.body {R:Type} (F:Nat) (k0:(List tTier.T)→Int→Int→Bool→tWide.T→tWide.T→tWide.T→Option R) (rec:(List tTier.T)→Int→Int→tWide.T→tWide.T→tWide.T→Option R) (tiers:List tTier.T) (k:Int) (i:Int) (x:tWide.T) (r4:tWide.T) (sum:tWide.T):Option R :=
 bif decide (i < k) then bif idx i tiers.length then oB (wide_Of.sh F (get tTier tiers i.toNat).2) fun c_2 =>
   bif idx (IntKind.i64.wrap (i + 1)) tiers.length then bif idx i tiers.length then oB (wide_Of.sh F (IntKind.i64.wrap ((get tTier tiers ((IntKind.i64.wrap (i + 1)).toNat)).1 - (get tTier tiers i.toNat).1))) fun c_3 =>
     oB (eval_mul.sh F c_2.1.1 c_3.1.1) fun c_4 =>
     oB (eval_add.sh F sum c_4.1.1) fun c_5 =>
     rec tiers k (IntKind.i64.wrap (i + 1)) x r4 c_5.1.1
    else none
   else none
  else none
 else k0 tiers k i (decide (i < k)) x r4 sum
def eval_graduated.l3 {R:Type} (F:Nat) (k0:(List tTier.T)→Int→Int→Bool→tWide.T→tWide.T→tWide.T→Option R):Nat→(List tTier.T)→Int→Int→tWide.T→tWide.T→tWide.T→Option R
 | 0,_,_,_,_,_,_=>none
 | fu + 1,tiers,k,i,x,r4,sum=>eval_graduated.l3.body F k0 (eval_graduated.l3 F k0 fu) tiers k i x r4 sum
def eval_graduated.sh (F:Nat) (x:tWide.T) (tiers:List tTier.T):Option eval_graduated.sg.R :=
 oB (eval_tier.sh F x tiers) fun c_1 =>
 eval_graduated.l3 F (fun tiers6 k6 i6 t146 x6 r46 sum6=>bif decide (k6 ≥ 0) then bif idx k6 tiers6.length then oB (wide_Of.sh F (get tTier tiers6 k6.toNat).2) fun c_7 =>
   bif idx k6 tiers6.length then oB (wide_Of.sh F (get tTier tiers6 k6.toNat).1) fun c_8 =>
    oB (eval_sub.sh F x6 c_8.1.1) fun c_9 =>
    oB (eval_mul.sh F c_7.1.1 c_9.1.1) fun c_10 =>
    oB (eval_add.sh F sum6 c_10.1.1) fun c_11 =>
    some ((c_11.1.1,()),())
   else none
  else none
 else some ((sum6,()),())) F tiers c_1.1.1 0 x (0,0) (0,0)
@[reducible] def eval_volume.sg:Sig:={args:=[.d (.g tWide),.d (.b tTier)],res:=[.g tWide]}
def eval_volume.sh (F:Nat) (x:tWide.T) (tiers:List tTier.T):Option eval_volume.sg.R :=
 oB (eval_tier.sh F x tiers) fun c_1 =>
 bif decide (c_1.1.1 ≥ 0) then bif idx c_1.1.1 tiers.length then oB (wide_Of.sh F (get tTier tiers c_1.1.1.toNat).2) fun c_2 =>
   oB (eval_mul.sh F x c_2.1.1) fun c_3 =>
   some ((c_3.1.1,()),())
  else none
 else some (((0,0),()),())
@[reducible] def eval_holds.sg:Sig:={args:=[.d (.g tWide),.d (.g tWide),.d (.c (.int .i64))],res:=[.c .bool]}
def eval_holds.sh (F:Nat) (x:tWide.T) (n:tWide.T) (op:Int):Option eval_holds.sg.R :=
 oB (wide_Cmp.sh F x n) fun c_1 =>
 bif (op == 1) then some ((decide (c_1.1.1 < 0),()),())
 else bif (op == 2) then some ((decide (c_1.1.1 ≤ 0),()),())
 else bif (op == 3) then some ((decide (c_1.1.1 > 0),()),())
 else bif (op == 4) then some ((decide (c_1.1.1 ≥ 0),()),())
 else bif (op == 5) then some (((c_1.1.1 == 0),()),())
 else some (((c_1.1.1 != 0),()),())
@[reducible] def eval_inner.sg:Sig:={args:=[.d (.g tNode),.d (.g tWide),.d (.b tWide)],res:=[.g tWide]}
def eval_inner.sh (F:Nat) (n:tNode.T) (unit:tWide.T) (k:List tWide.T):Option eval_inner.sg.R :=
 bif idx 0 k.length then oB (wide_Of.sh F n.2.1) fun c_1 =>
  bif (n.1 == 5) then oB (eval_sub.sh F (0,0) (get tWide k 0)) fun c_2 =>
   some ((c_2.1.1,()),())
  else bif (n.1 == 6) then bif idx 1 k.length then oB (eval_add.sh F (get tWide k 0) (get tWide k 1)) fun c_3 =>
    some ((c_3.1.1,()),())
   else none
  else bif (n.1 == 7) then bif idx 1 k.length then oB (eval_sub.sh F (get tWide k 0) (get tWide k 1)) fun c_4 =>
    some ((c_4.1.1,()),())
   else none
  else bif (n.1 == 8) then bif idx 1 k.length then oB (eval_mul.sh F (get tWide k 0) (get tWide k 1)) fun c_5 =>
    some ((c_5.1.1,()),())
   else none
  else bif (n.1 == 9) then oB (slices_MinFunc_Wide.sh F k fn_wide_Cmp) fun c_6 =>
   some ((c_6.1.1,()),())
  else bif (n.1 == 10) then oB (slices_MaxFunc_Wide.sh F k fn_wide_Cmp) fun c_7 =>
   some ((c_7.1.1,()),())
  else bif (n.1 == 11) then oB (eval_sub.sh F (get tWide k 0) c_1.1.1) fun c_8 =>
   oB (slices_MaxFunc_Wide.sh F ([(0,0),c_8.1.1]:List tWide.T) fn_wide_Cmp) fun c_9 =>
   some ((c_9.1.1,()),())
  else bif (n.1 == 12) then oB (slices_MinFunc_Wide.sh F ([c_1.1.1,(get tWide k 0)]:List tWide.T) fn_wide_Cmp) fun c_10 =>
   some ((c_10.1.1,()),())
  else bif (n.1 == 13) then oB (eval_graduated.sh F (get tWide k 0) n.2.2.2.2.1) fun c_11 =>
   oB (eval_mul.sh F unit c_11.1.1) fun c_12 =>
   some ((c_12.1.1,()),())
  else bif (n.1 == 14) then oB (eval_volume.sh F (get tWide k 0) n.2.2.2.2.1) fun c_13 =>
   oB (eval_mul.sh F unit c_13.1.1) fun c_14 =>
   some ((c_14.1.1,()),())
  else bif (n.1 == 15) then oB (wide_Of.sh F (IntKind.i64.wrap (10000 - n.2.1))) fun c_15 =>
   oB (eval_mul.sh F (get tWide k 0) c_15.1.1) fun c_16 =>
   oB (wide_Of.sh F 10000) fun c_17 =>
   oB (times_Div.sh F c_16.1.1 c_17.1.1 2) fun c_18 =>
   some ((c_18.1.1,()),())
  else oB (eval_holds.sh F (get tWide k 0) c_1.1.1 n.2.2.1) fun c_19 =>
  bif c_19.1.1 then bif idx 1 k.length then some (((get tWide k 1),()),())
   else none
  else bif idx 2 k.length then some (((get tWide k 2),()),())
  else none
 else none
def eval_inner.sp (F:Nat):TA eval_inner.sg.args→Option eval_inner.sg.R:=fun x=>eval_inner.sh F x.1 x.2.1 x.2.2.1
@[reducible] def eval_leaf.sg:Sig:={args:=[.d (.g tPlan),.d (.g tNode),.d (.g tWide),.d (.b (.int .i64))],res:=[.g tWide]}
def eval_leaf.sh (F:Nat) (p:tPlan.T) (n:tNode.T) (unit:tWide.T) (q:List Int):Option eval_leaf.sg.R :=
 bif (n.1 == 1) then oB (wide_Of.sh F n.2.1) fun c_1 =>
  some ((c_1.1.1,()),())
 else bif (n.1 == 2) then oB (wide_Of.sh F n.2.1) fun c_2 =>
  oB (eval_mul.sh F c_2.1.1 unit) fun c_3 =>
  some ((c_3.1.1,()),())
 else bif (n.1 == 3) then bif idx n.2.1 q.length then oB (wide_Of.sh F (get (.int .i64) q n.2.1.toNat)) fun c_4 =>
   some ((c_4.1.1,()),())
  else none
 else bif idx n.2.1 p.2.1.length then bif idx n.2.1 q.length then bif ((get tDim p.2.1 n.2.1.toNat).2 != 0) then bif idx n.2.1 q.length then bif ((get tDim p.2.1 n.2.1.toNat).2 != 0) then oB (wide_Of.sh F (IntKind.i64.wrap ((IntKind.i64.wrap ((get (.int .i64) q n.2.1.toNat).tdiv (get tDim p.2.1 n.2.1.toNat).2)) + (if 1 < (get (.int .i64) q n.2.1.toNat).tmod (get tDim p.2.1 n.2.1.toNat).2 then 1 else (get (.int .i64) q n.2.1.toNat).tmod (get tDim p.2.1 n.2.1.toNat).2)))) fun c_5 =>
      some ((c_5.1.1,()),())
     else none
    else none
   else none
  else none
 else none
def eval_leaf.sp (F:Nat):TA eval_leaf.sg.args→Option eval_leaf.sg.R:=fun x=>eval_leaf.sh F x.1 x.2.1 x.2.2.1 x.2.2.2.1
@[reducible] def eval_Values.sg:Sig:={args:=[.d (.g tPlan),.d (.b (.int .i64))],res:=[.c (.sl tWide),.c (.int .i64)]}
def eval_Values.l7.body {R:Type} (F:Nat) (k0:(List tWide.T)→Int→Option R) (k1:(List Int)→(List Int)→Int→Int→Bool→tPlan.T→tWide.T→Option R) (rec:(List Int)→(List Int)→Int→Int→tPlan.T→tWide.T→Option R) (q:List Int) (t32:List Int) (t33:Int) (t34:Int) (p:tPlan.T) (unit:tWide.T):Option R :=
 bif decide (t34 < t33) then bif idx t34 t32.length then bif decide ((get (.int .i64) t32 t34.toNat) < 0) then k0 ([]) 101
   else bif decide ((get (.int .i64) t32 t34.toNat) > 1099511627776) then k0 ([]) 101
   else rec q t32 t33 (IntKind.i64.wrap (t34 + 1)) p unit
  else none
 else k1 q t32 t33 t34 (decide (t34 < t33)) p unit
def eval_Values.l7 {R:Type} (F:Nat) (k0:(List tWide.T)→Int→Option R) (k1:(List Int)→(List Int)→Int→Int→Bool→tPlan.T→tWide.T→Option R):Nat→(List Int)→(List Int)→Int→Int→tPlan.T→tWide.T→Option R
 | 0,_,_,_,_,_,_=>none
 | fu + 1,q,t32,t33,t34,p,unit=>eval_Values.l7.body F k0 k1 (eval_Values.l7 F k0 k1 fu) q t32 t33 t34 p unit
def eval_Values.l14.body {R:Type} (F:Nat) (k0:(List Int)→(List tNode.T)→Int→Int→Bool→tPlan.T→tWide.T→(List tWide.T)→(List tWide.T)→Option R) (rec:(List Int)→(List tNode.T)→Int→Int→tPlan.T→tWide.T→(List tWide.T)→(List tWide.T)→Option R) (q:List Int) (t46:List tNode.T) (t47:Int) (t48:Int) (p:tPlan.T) (unit:tWide.T) (values:List tWide.T) (pile:List tWide.T):Option R :=
 bif decide (t48 < t47) then bif idx t48 t46.length then oB (eval_kids.sh F (get tNode t46 t48.toNat)) fun c_4 =>
   bif decide ((IntKind.i64.wrap ((pile.length:Int) - c_4.1.1)) < (pile.length:Int)) then bif (bounds pile.length (some (IntKind.i64.wrap ((pile.length:Int) - c_4.1.1))) none).1 then oB (eval_inner.sh F (get tNode t46 t48.toNat) unit ((List.take (bounds pile.length (some (IntKind.i64.wrap ((pile.length:Int) - c_4.1.1))) none).2.2 pile).drop (bounds pile.length (some (IntKind.i64.wrap ((pile.length:Int) - c_4.1.1))) none).2.1)) fun c_5 =>
     bif Nat.ble (values.length + ([c_5.1.1]:List tWide.T).length) maxN then bif (bounds pile.length none (some (IntKind.i64.wrap ((pile.length:Int) - c_4.1.1)))).1 then bif Nat.ble ((bounds pile.length none (some (IntKind.i64.wrap ((pile.length:Int) - c_4.1.1)))).2.2 + ([c_5.1.1]:List tWide.T).length) maxN then rec q t46 t47 (IntKind.i64.wrap (t48 + 1)) p unit (values ++ ([c_5.1.1]:List tWide.T)) (pile.take (bounds pile.length none (some (IntKind.i64.wrap ((pile.length:Int) - c_4.1.1)))).2.2 ++ ([c_5.1.1]:List tWide.T))
       else none
      else none
     else none
    else none
   else oB (eval_leaf.sh F p (get tNode t46 t48.toNat) unit q) fun c_6 =>
   bif Nat.ble (values.length + ([c_6.1.1]:List tWide.T).length) maxN then bif (bounds pile.length none (some (IntKind.i64.wrap ((pile.length:Int) - c_4.1.1)))).1 then bif Nat.ble ((bounds pile.length none (some (IntKind.i64.wrap ((pile.length:Int) - c_4.1.1)))).2.2 + ([c_6.1.1]:List tWide.T).length) maxN then rec q t46 t47 (IntKind.i64.wrap (t48 + 1)) p unit (values ++ ([c_6.1.1]:List tWide.T)) (pile.take (bounds pile.length none (some (IntKind.i64.wrap ((pile.length:Int) - c_4.1.1)))).2.2 ++ ([c_6.1.1]:List tWide.T))
     else none
    else none
   else none
  else none
 else k0 q t46 t47 t48 (decide (t48 < t47)) p unit values pile
def eval_Values.l14 {R:Type} (F:Nat) (k0:(List Int)→(List tNode.T)→Int→Int→Bool→tPlan.T→tWide.T→(List tWide.T)→(List tWide.T)→Option R):Nat→(List Int)→(List tNode.T)→Int→Int→tPlan.T→tWide.T→(List tWide.T)→(List tWide.T)→Option R
 | 0,_,_,_,_,_,_,_,_=>none
 | fu + 1,q,t46,t47,t48,p,unit,values,pile=>eval_Values.l14.body F k0 (eval_Values.l14 F k0 fu) q t46 t47 t48 p unit values pile
def eval_Values.j24 {R:Type} (F:Nat) (k0:(List tWide.T)→Int→Option R) (values:List tWide.T):Option R :=
 k0 values 0
def eval_Values.sh (F:Nat) (p:tPlan.T) (q:List Int):Option eval_Values.sg.R :=
 oB (bound_Unit.sh F p) fun c_1 =>
 bif (c_1.1.2.2.1 != 0) then some (([],c_1.1.2.2.1,()),())
 else bif ((q.length:Int) != (p.2.1.length:Int)) then some (([],100,()),())
 else eval_Values.l7 F (fun r42 r52=>some ((r42,r52,()),())) (fun q3 t323 t333 t343 t353 p3 unit3=>eval_Values.l14 F (fun q7 t467 t477 t487 t497 p7 unit7 values7 pile7=>eval_Values.j24 F (fun r48 r58=>some ((r48,r58,()),())) values7) F q3 p3.2.2.2 (p3.2.2.2.length:Int) 0 p3 unit3 ([]) ([])) F q q (q.length:Int) 0 p c_1.1.1
@[reducible] def eval_Exact.sg:Sig:={args:=[.d (.g tPlan),.d (.b (.int .i64))],res:=[.g tWide,.c (.int .i64)]}
def eval_Exact.sh (F:Nat) (p:tPlan.T) (q:List Int):Option eval_Exact.sg.R :=
 oB (eval_Values.sh F p q) fun c_1 =>
 bif (c_1.1.2.1 != 0) then some (((0,0),c_1.1.2.1,()),())
 else bif idx (IntKind.i64.wrap ((c_1.1.1.length:Int) - 1)) c_1.1.1.length then some (((get tWide c_1.1.1 ((IntKind.i64.wrap ((c_1.1.1.length:Int) - 1)).toNat)),0,()),())
 else none
def eval_Exact.sp (F:Nat):TA eval_Exact.sg.args→Option eval_Exact.sg.R:=fun x=>eval_Exact.sh F x.1 x.2.1
@[reducible] def octroilaw12_NormalMeans.sg:Sig:={args:=[.d (.g tPlan),.d (.b (.int .i64))],res:=[.c .bool]}
def octroilaw12_NormalMeans.l13.body {R:Type} (F:Nat) (k0:Int→Bool→tPlan.T→tTable.T→(List Int)→Option R) (rec:Int→tPlan.T→tTable.T→(List Int)→Option R) (i:Int) (p:tPlan.T) (t:tTable.T) (all:List Int):Option R :=
 bif decide (i < (t.2.2.length:Int)) then bif idx i t.2.2.length then bif idx i t.2.2.length then bif Nat.ble (all.length + ([(get tPiece t.2.2 i.toNat).1,IntKind.i64.wrap ((get tPiece t.2.2 i.toNat).1 - 1)]:List Int).length) maxN then rec (IntKind.i64.wrap (i + 1)) p t (all ++ ([(get tPiece t.2.2 i.toNat).1,IntKind.i64.wrap ((get tPiece t.2.2 i.toNat).1 - 1)]:List Int))
    else none
   else none
  else none
 else k0 i (decide (i < (t.2.2.length:Int))) p t all
def octroilaw12_NormalMeans.l13 {R:Type} (F:Nat) (k0:Int→Bool→tPlan.T→tTable.T→(List Int)→Option R):Nat→Int→tPlan.T→tTable.T→(List Int)→Option R
 | 0,_,_,_,_=>none
 | fu + 1,i,p,t,all=>octroilaw12_NormalMeans.l13.body F k0 (octroilaw12_NormalMeans.l13 F k0 fu) i p t all
def octroilaw12_NormalMeans.l17.body {R:Type} (F:Nat) (k0:Bool→Option R) (k1:Bool→Option R) (k2:(List Int)→Int→Bool→tPlan.T→tTable.T→Option R) (rec:(List Int)→Int→tPlan.T→tTable.T→Option R) (all:List Int) (i:Int) (p:tPlan.T) (t:tTable.T):Option R :=
 bif decide (i < (all.length:Int)) then bif decide (i < 1024) then bif idx i all.length then oB (normal_At.sh F t (get (.int .i64) all i.toNat)) fun c_6 =>
    bif idx i all.length then oB (eval_Exact.sh F p ([get (.int .i64) all i.toNat]:List Int)) fun c_7 =>
     bif idx i all.length then bif decide ((get (.int .i64) all i.toNat) < 0) then bif (c_6.1.2.1 != 1) then k0 false
       else bif (c_7.1.2.1 != 101) then k0 false
       else rec all (IntKind.i64.wrap (i + 1)) p t
      else bif idx i all.length then bif decide ((get (.int .i64) all i.toNat) > 1099511627776) then bif (c_6.1.2.1 != 1) then k0 false
        else bif (c_7.1.2.1 != 101) then k0 false
        else rec all (IntKind.i64.wrap (i + 1)) p t
       else bif (c_6.1.2.1 != 0) then k1 false
       else bif (c_7.1.2.1 != 0) then k1 false
       else bif !((c_6.1.1.1 == c_7.1.1.1) && ((c_6.1.1.2 == c_7.1.1.2) && true)) then k1 false
       else rec all (IntKind.i64.wrap (i + 1)) p t
      else none
     else none
    else none
   else none
  else k2 all i (decide (i < 1024)) p t
 else k2 all i false p t
def octroilaw12_NormalMeans.l17 {R:Type} (F:Nat) (k0:Bool→Option R) (k1:Bool→Option R) (k2:(List Int)→Int→Bool→tPlan.T→tTable.T→Option R):Nat→(List Int)→Int→tPlan.T→tTable.T→Option R
 | 0,_,_,_,_=>none
 | fu + 1,all,i,p,t=>octroilaw12_NormalMeans.l17.body F k0 k1 k2 (octroilaw12_NormalMeans.l17 F k0 k1 k2 fu) all i p t
def octroilaw12_NormalMeans.j16 {R:Type} (F:Nat) (k0:Bool→Option R) (k1:Bool→Option R) (k2:Bool→Option R) (all:List Int) (p:tPlan.T) (t:tTable.T):Option R :=
 octroilaw12_NormalMeans.l17 F (fun r48=>k0 r48) (fun r49=>k1 r49) (fun all10 i10 t14110 p10 t10=>k2 true) F all 0 p t
end Go.VS
