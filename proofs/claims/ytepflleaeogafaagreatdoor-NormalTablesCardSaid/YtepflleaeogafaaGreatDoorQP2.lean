import Derived.Test.YtepflleaeogafaaGreatDoorQP1
set_option linter.unusedVariables false
set_option linter.unusedSimpArgs false
set_option linter.unusedSectionVars false
set_option linter.unusedVariables false
set_option maxRecDepth 100000
namespace Go.VS
open Go IntKind
@[reducible] def zy.sg:Sig:={args:=[.d (.g zh)],res:=[.a .u64]}
abbrev zy.l3.K0 (R:Type):Type:=Int->Bool->zh.T->(List Int)->(List Int)->Option R
abbrev zy.l3.T (R:Type):Type:=Int->zh.T->(List Int)->(List Int)->Option R
def zy.l3.body {R:Type} (F:Nat) (k0:zy.l3.K0 R) (rec:zy.l3.T R) (i:Int) (w:zh.T) (r2:List Int) (l:List Int):Option R :=
 bif decide (i<4) then bif decide (0<=(u64.wrap (i64.wrap (16*i)))) then bif (idx i 12&&Nat.beq 12 l.length) then bif decide (0<=(u64.wrap (i64.wrap (16*i)))) then bif (idx (i64.wrap (i+4)) 12&&Nat.beq 12 (l.set i.toNat ((w.2.fdiv (2^(min (u64.wrap (i64.wrap (16*i))).toNat IntKind.u64.bits))).tmod 65536)).length) then rec (i64.wrap (i+1)) w r2 ((l.set i.toNat ((w.2.fdiv (2^(min (u64.wrap (i64.wrap (16*i))).toNat IntKind.u64.bits))).tmod 65536)).set ((i64.wrap (i+4)).toNat) (((u64.wrap w.1).fdiv (2^(min (u64.wrap (i64.wrap (16*i))).toNat IntKind.u64.bits))).tmod 65536))
 else none
 else none
 else none
 else none
 else k0 i (decide (i<4)) w r2 l
def zy.l3 {R:Type} (F:Nat) (k0:zy.l3.K0 R):Nat->zy.l3.T R
 | 0,_,_,_,_=>none
 | fu+1,i,w,r2,l=>zy.l3.body F k0 (zy.l3 F k0 fu) i w r2 l
abbrev zy.l9.K0 (R:Type):Type:=Int->Bool->(List Int)->(List Int)->Option R
abbrev zy.l9.T (R:Type):Type:=Int->(List Int)->(List Int)->Option R
def zy.l9.body {R:Type} (F:Nat) (k0:zy.l9.K0 R) (rec:zy.l9.T R) (i:Int) (r2:List Int) (l:List Int):Option R :=
 bif decide (i<12) then bif (idx i 12&&Nat.beq 12 l.length) then rec (i64.wrap (i+1)) r2 (l.set i.toNat 65535)
 else none
 else k0 i (decide (i<12)) r2 l
def zy.l9 {R:Type} (F:Nat) (k0:zy.l9.K0 R):Nat->zy.l9.T R
 | 0,_,_,_=>none
 | fu+1,i,r2,l=>zy.l9.body F k0 (zy.l9 F k0 fu) i r2 l
def zy.sh (F:Nat) (w:zh.T):Option zy.sg.R :=
 zy.l3 F (fun i1 t71 w1 r21 l1=>bif decide (w1.1<0) then zy.l9 F (fun i2 t342 r22 l2=>bif Nat.beq 12 l2.length then bif (Nat.beq l2.length r22.length&&Nat.beq 12 r22.length) then bif (Nat.beq 12 l2.length&&true) then some ((l2,()),())
 else none
 else none
 else none) F 8 r21 l1
 else bif Nat.beq 12 l1.length then bif (Nat.beq l1.length r21.length&&Nat.beq 12 r21.length) then bif (Nat.beq 12 l1.length&&true) then some ((l1,()),())
 else none
 else none
 else none) F 0 w (List.replicate 12 0) (List.replicate 12 0)
def zy.sp (F:Nat):TA zy.sg.args->Option zy.sg.R:=fun x=>zy.sh F x.1
@[reducible] def xm.sg:Sig:={args:=[.d (.a .u64)],res:=[.c .bool]}
def xm.sh (F:Nat) (a:List Int):Option xm.sg.R :=
 bif (idx 11 12&&Nat.beq 12 a.length) then some ((decide ((a.getD 11 0)>=32768),()),())
 else none
def xm.sp (F:Nat):TA xm.sg.args->Option xm.sg.R:=fun x=>xm.sh F x.1
@[reducible] def z6.sg:Sig:={args:=[.d (.a .u64),.d (.a .u64)],res:=[.a .u64]}
abbrev z6.l3.K0 (R:Type):Type:=Int->Int->Bool->(List Int)->(List Int)->(List Int)->Option R
abbrev z6.l3.T (R:Type):Type:=Int->Int->(List Int)->(List Int)->(List Int)->Option R
def z6.l3.body {R:Type} (F:Nat) (k0:z6.l3.K0 R) (rec:z6.l3.T R) (c:Int) (i:Int) (a:List Int) (b:List Int) (r4:List Int):Option R :=
 bif decide (i<12) then bif (idx i 12&&Nat.beq 12 a.length) then bif (idx i 12&&Nat.beq 12 b.length) then bif (idx i 12&&Nat.beq 12 a.length) then rec (u64.wrap ((u64.wrap ((u64.wrap (c+(a.getD i.toNat 0)))+(b.getD i.toNat 0))).tdiv 65536)) (i64.wrap (i+1)) (a.set i.toNat ((u64.wrap ((u64.wrap (c+(a.getD i.toNat 0)))+(b.getD i.toNat 0))).tmod 65536)) b r4
 else none
 else none
 else none
 else k0 c i (decide (i<12)) a b r4
def z6.l3 {R:Type} (F:Nat) (k0:z6.l3.K0 R):Nat->z6.l3.T R
 | 0,_,_,_,_,_=>none
 | fu+1,c,i,a,b,r4=>z6.l3.body F k0 (z6.l3 F k0 fu) c i a b r4
def z6.sh (F:Nat) (a:List Int) (b:List Int):Option z6.sg.R :=
 z6.l3 F (fun c1 i1 t81 a1 b1 r41=>bif Nat.beq 12 a1.length then bif (Nat.beq a1.length r41.length&&Nat.beq 12 r41.length) then bif (Nat.beq 12 a1.length&&true) then some ((a1,()),())
 else none
 else none
 else none) F 0 0 a b (List.replicate 12 0)
def z6.sp (F:Nat):TA z6.sg.args->Option z6.sg.R:=fun x=>z6.sh F x.1 x.2.1
@[reducible] def zM.sg:Sig:={args:=[.d (.a .u64)],res:=[.a .u64]}
abbrev zM.l2.K0 (R:Type):Type:=Int->Bool->(List Int)->(List Int)->Option R
abbrev zM.l2.T (R:Type):Type:=Int->(List Int)->(List Int)->Option R
def zM.l2.body {R:Type} (F:Nat) (k0:zM.l2.K0 R) (rec:zM.l2.T R) (i:Int) (a:List Int) (r2:List Int):Option R :=
 bif decide (i<12) then bif (idx i 12&&Nat.beq 12 a.length) then bif (idx i 12&&Nat.beq 12 a.length) then rec (i64.wrap (i+1)) (a.set i.toNat (u64.wrap (65535-(a.getD i.toNat 0)))) r2
 else none
 else none
 else k0 i (decide (i<12)) a r2
def zM.l2 {R:Type} (F:Nat) (k0:zM.l2.K0 R):Nat->zM.l2.T R
 | 0,_,_,_=>none
 | fu+1,i,a,r2=>zM.l2.body F k0 (zM.l2 F k0 fu) i a r2
def zM.sh (F:Nat) (a:List Int):Option zM.sg.R :=
 zM.l2 F (fun i1 t51 a1 r21=>bif Nat.beq 12 a1.length then oB (z6.sh F a1 ((List.replicate 12 0).set 0 1)) fun c_2 =>
 bif (Nat.beq c_2.1.1.length r21.length&&Nat.beq 12 r21.length) then bif (Nat.beq 12 c_2.1.1.length&&true) then some ((c_2.1.1,()),())
 else none
 else none
 else none) F 0 a (List.replicate 12 0)
def zM.sp (F:Nat):TA zM.sg.args->Option zM.sg.R:=fun x=>zM.sh F x.1
@[reducible] def zW.sg:Sig:={args:=[.d (.g zh)],res:=[.c (.int .u64),.c (.int .u64)]}
abbrev zW.l7.K0 (R:Type):Type:=Int->Int->Int->Bool->(List Int)->Option R
abbrev zW.l7.T (R:Type):Type:=Int->Int->Int->(List Int)->Option R
def zW.l7.body {R:Type} (F:Nat) (k0:zW.l7.K0 R) (rec:zW.l7.T R) (hi:Int) (lo:Int) (i:Int) (l:List Int):Option R :=
 bif decide (i>=0) then bif (idx i 12&&Nat.beq 12 l.length) then bif (idx (i64.wrap (i+4)) 12&&Nat.beq 12 l.length) then rec (u64.wrap ((u64.wrap (hi*65536))+(l.getD ((i64.wrap (i+4)).toNat) 0))) (u64.wrap ((u64.wrap (lo*65536))+(l.getD i.toNat 0))) (i64.wrap (i-1)) l
 else none
 else none
 else k0 hi lo i (decide (i>=0)) l
def zW.l7 {R:Type} (F:Nat) (k0:zW.l7.K0 R):Nat->zW.l7.T R
 | 0,_,_,_,_=>none
 | fu+1,hi,lo,i,l=>zW.l7.body F k0 (zW.l7 F k0 fu) hi lo i l
def zW.j4 {R:Type} (F:Nat) (k0:Int->Int->Option R) (l:List Int):Option R :=
 zW.l7 F (fun hi4 lo4 i4 t154 l4=>k0 hi4 lo4) F 0 0 3 l
def zW.sh (F:Nat) (w:zh.T):Option zW.sg.R :=
 oB (zy.sh F w) fun c_1 =>
 bif (Nat.beq c_1.1.1.length (List.replicate 12 0).length&&Nat.beq 12 (List.replicate 12 0).length) then bif Nat.beq 12 c_1.1.1.length then oB (xm.sh F c_1.1.1) fun c_2 =>
 bif c_2.1.1 then bif Nat.beq 12 c_1.1.1.length then oB (zM.sh F c_1.1.1) fun c_3 =>
 bif (Nat.beq c_3.1.1.length c_1.1.1.length&&Nat.beq 12 c_1.1.1.length) then zW.j4 F (fun r25 r35=>some ((r25,r35,()),())) c_3.1.1
 else none
 else none
 else zW.j4 F (fun r26 r36=>some ((r26,r36,()),())) c_1.1.1
 else none
 else none
def zW.sp (F:Nat):TA zW.sg.args->Option zW.sg.R:=fun x=>zW.sh F x.1
@[reducible] def ym.sg:Sig:={args:=[.d (.c (.int .u64)),.d (.c (.int .u64))],res:=[.a .u64]}
abbrev ym.l3.K0 (R:Type):Type:=Int->Int->Int->Bool->(List Int)->(List Int)->Option R
abbrev ym.l3.T (R:Type):Type:=Int->Int->Int->(List Int)->(List Int)->Option R
def ym.l3.body {R:Type} (F:Nat) (k0:ym.l3.K0 R) (rec:ym.l3.T R) (hi:Int) (lo:Int) (i:Int) (r4:List Int) (d:List Int):Option R :=
 bif decide (i<4) then bif decide (0<=(u64.wrap (i64.wrap (16*i)))) then bif (idx i 8&&Nat.beq 8 d.length) then bif decide (0<=(u64.wrap (i64.wrap (16*i)))) then bif (idx (i64.wrap (i+4)) 8&&Nat.beq 8 (d.set i.toNat ((lo.fdiv (2^(min (u64.wrap (i64.wrap (16*i))).toNat IntKind.u64.bits))).tmod 65536)).length) then rec hi lo (i64.wrap (i+1)) r4 ((d.set i.toNat ((lo.fdiv (2^(min (u64.wrap (i64.wrap (16*i))).toNat IntKind.u64.bits))).tmod 65536)).set ((i64.wrap (i+4)).toNat) ((hi.fdiv (2^(min (u64.wrap (i64.wrap (16*i))).toNat IntKind.u64.bits))).tmod 65536))
 else none
 else none
 else none
 else none
 else k0 hi lo i (decide (i<4)) r4 d
def ym.l3 {R:Type} (F:Nat) (k0:ym.l3.K0 R):Nat->ym.l3.T R
 | 0,_,_,_,_,_=>none
 | fu+1,hi,lo,i,r4,d=>ym.l3.body F k0 (ym.l3 F k0 fu) hi lo i r4 d
def ym.sh (F:Nat) (hi:Int) (lo:Int):Option ym.sg.R :=
 ym.l3 F (fun hi1 lo1 i1 t81 r41 d1=>bif Nat.beq 8 d1.length then bif (Nat.beq d1.length r41.length&&Nat.beq 8 r41.length) then bif (Nat.beq 8 d1.length&&true) then some ((d1,()),())
 else none
 else none
 else none) F hi lo 0 (List.replicate 8 0) (List.replicate 8 0)
def ym.sp (F:Nat):TA ym.sg.args->Option ym.sg.R:=fun x=>ym.sh F x.1 x.2.1
@[reducible] def zH.sg:Sig:={args:=[.d (.a .u64)],res:=[.g zh,.c .bool]}
abbrev zH.l5.K0 (R:Type):Type:=Bool->zh.T->Option R
abbrev zH.l5.K1 (R:Type):Type:=Int->Int->Bool->(List Int)->zh.T->Option R
abbrev zH.l5.T (R:Type):Type:=Int->Int->(List Int)->zh.T->Option R
def zH.l5.body {R:Type} (F:Nat) (k0:zH.l5.K0 R) (k1:zH.l5.K1 R) (rec:zH.l5.T R) (top:Int) (i:Int) (l:List Int) (r2:zh.T):Option R :=
 bif decide (i<12) then bif (idx i 12&&Nat.beq 12 l.length) then bif ((l.getD i.toNat 0) != top) then k0 false (0,0)
 else rec top (i64.wrap (i+1)) l r2
 else none
 else k1 top i (decide (i<12)) l r2
def zH.l5 {R:Type} (F:Nat) (k0:zH.l5.K0 R) (k1:zH.l5.K1 R):Nat->zH.l5.T R
 | 0,_,_,_,_=>none
 | fu+1,top,i,l,r2=>zH.l5.body F k0 k1 (zH.l5 F k0 k1 fu) top i l r2
abbrev zH.l12.K0 (R:Type):Type:=Int->Int->Int->Bool->(List Int)->zh.T->Option R
abbrev zH.l12.T (R:Type):Type:=Int->Int->Int->(List Int)->zh.T->Option R
def zH.l12.body {R:Type} (F:Nat) (k0:zH.l12.K0 R) (rec:zH.l12.T R) (lo:Int) (hi:Int) (i:Int) (l:List Int) (r2:zh.T):Option R :=
 bif decide (i>=0) then bif (idx i 12&&Nat.beq 12 l.length) then bif (idx (i64.wrap (i+4)) 12&&Nat.beq 12 l.length) then rec (u64.wrap ((u64.wrap (lo*65536))+(l.getD i.toNat 0))) (u64.wrap ((u64.wrap (hi*65536))+(l.getD ((i64.wrap (i+4)).toNat) 0))) (i64.wrap (i-1)) l r2
 else none
 else none
 else k0 lo hi i (decide (i>=0)) l r2
def zH.l12 {R:Type} (F:Nat) (k0:zH.l12.K0 R):Nat->zH.l12.T R
 | 0,_,_,_,_,_=>none
 | fu+1,lo,hi,i,l,r2=>zH.l12.body F k0 (zH.l12 F k0 fu) lo hi i l r2
def zH.j4 {R:Type} (F:Nat) (k0:Bool->zh.T->Option R) (k1:Bool->zh.T->Option R) (top:Int) (l:List Int) (r2:zh.T):Option R :=
 zH.l5 F (fun r31 r21=>k0 r31 r21) (fun top2 i2 t132 l2 r22=>zH.l12 F (fun lo3 hi3 i3 t233 l3 r23=>k1 true (i64.wrap hi3,lo3)) F 0 0 3 l2 r22) F top 8 l r2
def zH.sh (F:Nat) (l:List Int):Option zH.sg.R :=
 bif (idx 7 12&&Nat.beq 12 l.length) then bif decide ((l.getD 7 0)>=32768) then zH.j4 F (fun r34 r24=>some ((r24,r34,()),())) (fun r35 r25=>some ((r25,r35,()),())) 65535 l (0,0)
 else zH.j4 F (fun r36 r26=>some ((r26,r36,()),())) (fun r37 r27=>some ((r27,r37,()),())) 0 l (0,0)
 else none
def zH.sp (F:Nat):TA zH.sg.args->Option zH.sg.R:=fun x=>zH.sh F x.1
@[reducible] def yH.sg:Sig:={args:=[.d (.a .u64)],res:=[.g zh,.c (.int .i64)]}
def yH.sh (F:Nat) (l:List Int):Option yH.sg.R :=
 bif Nat.beq 12 l.length then oB (zH.sh F l) fun c_1 =>
 bif !c_1.1.2.1 then some (((0,0),10,()),())
 else some ((c_1.1.1,0,()),())
 else none
def yH.sp (F:Nat):TA yH.sg.args->Option yH.sg.R:=fun x=>yH.sh F x.1
@[reducible] def yd.sg:Sig:={args:=[.d (.c .bool),.d (.c (.int .u64)),.d (.c (.int .u64))],res:=[.g zh,.c (.int .i64)]}
abbrev yd.l3.K0 (R:Type):Type:=Bool->Int->Int->Int->Bool->zh.T->(List Int)->Option R
abbrev yd.l3.T (R:Type):Type:=Bool->Int->Int->Int->zh.T->(List Int)->Option R
def yd.l3.body {R:Type} (F:Nat) (k0:yd.l3.K0 R) (rec:yd.l3.T R) (below:Bool) (hi:Int) (lo:Int) (i:Int) (r6:zh.T) (l:List Int):Option R :=
 bif decide (i<4) then bif decide (0<=(u64.wrap (i64.wrap (16*i)))) then bif (idx i 12&&Nat.beq 12 l.length) then bif decide (0<=(u64.wrap (i64.wrap (16*i)))) then bif (idx (i64.wrap (i+4)) 12&&Nat.beq 12 (l.set i.toNat ((lo.fdiv (2^(min (u64.wrap (i64.wrap (16*i))).toNat IntKind.u64.bits))).tmod 65536)).length) then rec below hi lo (i64.wrap (i+1)) r6 ((l.set i.toNat ((lo.fdiv (2^(min (u64.wrap (i64.wrap (16*i))).toNat IntKind.u64.bits))).tmod 65536)).set ((i64.wrap (i+4)).toNat) ((hi.fdiv (2^(min (u64.wrap (i64.wrap (16*i))).toNat IntKind.u64.bits))).tmod 65536))
 else none
 else none
 else none
 else none
 else k0 below hi lo i (decide (i<4)) r6 l
def yd.l3 {R:Type} (F:Nat) (k0:yd.l3.K0 R):Nat->yd.l3.T R
 | 0,_,_,_,_,_,_=>none
 | fu+1,below,hi,lo,i,r6,l=>yd.l3.body F k0 (yd.l3 F k0 fu) below hi lo i r6 l
def yd.sh (F:Nat) (below:Bool) (hi:Int) (lo:Int):Option yd.sg.R :=
 yd.l3 F (fun below1 hi1 lo1 i1 t111 r61 l1=>bif below1 then bif Nat.beq 12 l1.length then oB (zM.sh F l1) fun c_2 =>
 bif (Nat.beq c_2.1.1.length l1.length&&Nat.beq 12 l1.length) then bif Nat.beq 12 c_2.1.1.length then oB (yH.sh F c_2.1.1) fun c_3 =>
 some ((c_3.1.1,c_3.1.2.1,()),())
 else none
 else none
 else none
 else bif Nat.beq 12 l1.length then oB (yH.sh F l1) fun c_4 =>
 some ((c_4.1.1,c_4.1.2.1,()),())
 else none) F below hi lo 0 (0,0) (List.replicate 12 0)
def yd.sp (F:Nat):TA yd.sg.args->Option yd.sg.R:=fun x=>yd.sh F x.1 x.2.1 x.2.2.1
@[reducible] def zi.sg:Sig:={args:=[.d (.g zh),.d (.g zh)],res:=[.g zh,.c (.int .i64)]}
abbrev zi.l9.K0 (R:Type):Type:=Int->Int->Int->Bool->zh.T->zh.T->zh.T->(List Int)->(List Int)->(List Int)->Option R
abbrev zi.l9.T (R:Type):Type:=Int->Int->Int->zh.T->zh.T->zh.T->(List Int)->(List Int)->(List Int)->Option R
def zi.l9.body {R:Type} (F:Nat) (k0:zi.l9.K0 R) (rec:zi.l9.T R) (i:Int) (c:Int) (j:Int) (a:zh.T) (b:zh.T) (r4:zh.T) (x:List Int) (y:List Int) (p:List Int):Option R :=
 bif decide (j<8) then bif (idx (i64.wrap (i+j)) 17&&Nat.beq 17 p.length) then bif (idx i 8&&Nat.beq 8 x.length) then bif (idx j 8&&Nat.beq 8 y.length) then bif (idx (i64.wrap (i+j)) 17&&Nat.beq 17 p.length) then rec i (u64.wrap ((u64.wrap ((u64.wrap (c+(p.getD ((i64.wrap (i+j)).toNat) 0)))+(u64.wrap ((x.getD i.toNat 0)*(y.getD j.toNat 0))))).tdiv 65536)) (i64.wrap (j+1)) a b r4 x y (p.set ((i64.wrap (i+j)).toNat) ((u64.wrap ((u64.wrap (c+(p.getD ((i64.wrap (i+j)).toNat) 0)))+(u64.wrap ((x.getD i.toNat 0)*(y.getD j.toNat 0))))).tmod 65536))
 else none
 else none
 else none
 else none
 else k0 i c j (decide (j<8)) a b r4 x y p
def zi.l9 {R:Type} (F:Nat) (k0:zi.l9.K0 R):Nat->zi.l9.T R
 | 0,_,_,_,_,_,_,_,_,_=>none
 | fu+1,i,c,j,a,b,r4,x,y,p=>zi.l9.body F k0 (zi.l9 F k0 fu) i c j a b r4 x y p
abbrev zi.l5.K0 (R:Type):Type:=Int->Bool->zh.T->zh.T->zh.T->(List Int)->(List Int)->(List Int)->Option R
abbrev zi.l5.T (R:Type):Type:=Int->zh.T->zh.T->zh.T->(List Int)->(List Int)->(List Int)->Option R
def zi.l5.body {R:Type} (F:Nat) (k0:zi.l5.K0 R) (rec:zi.l5.T R) (i:Int) (a:zh.T) (b:zh.T) (r4:zh.T) (x:List Int) (y:List Int) (p:List Int):Option R :=
 bif decide (i<8) then zi.l9 F (fun i5 c5 j5 t315 a5 b5 r45 x5 y5 p5=>bif (idx (i64.wrap (i5+8)) 17&&Nat.beq 17 p5.length) then rec (i64.wrap (i5+1)) a5 b5 r45 x5 y5 (p5.set ((i64.wrap (i5+8)).toNat) c5)
 else none) F i 0 0 a b r4 x y p
 else k0 i (decide (i<8)) a b r4 x y p
def zi.l5 {R:Type} (F:Nat) (k0:zi.l5.K0 R):Nat->zi.l5.T R
 | 0,_,_,_,_,_,_,_=>none
 | fu+1,i,a,b,r4,x,y,p=>zi.l5.body F k0 (zi.l5 F k0 fu) i a b r4 x y p
abbrev zi.l16.K1 (R:Type):Type:=Int->Bool->zh.T->zh.T->zh.T->(List Int)->Option R
abbrev zi.l16.T (R:Type):Type:=Int->zh.T->zh.T->zh.T->(List Int)->Option R
def zi.l16.body {R:Type} (F:Nat) (k0:Int->zh.T->Option R) (k1:zi.l16.K1 R) (rec:zi.l16.T R) (i:Int) (a:zh.T) (b:zh.T) (r4:zh.T) (p:List Int):Option R :=
 bif decide (i<17) then bif (idx i 17&&Nat.beq 17 p.length) then bif ((p.getD i.toNat 0) != 0) then k0 10 (0,0)
 else rec (i64.wrap (i+1)) a b r4 p
 else none
 else k1 i (decide (i<17)) a b r4 p
def zi.l16 {R:Type} (F:Nat) (k0:Int->zh.T->Option R) (k1:zi.l16.K1 R):Nat->zi.l16.T R
 | 0,_,_,_,_,_=>none
 | fu+1,i,a,b,r4,p=>zi.l16.body F k0 k1 (zi.l16 F k0 k1 fu) i a b r4 p
abbrev zi.l23.K0 (R:Type):Type:=Int->Int->Int->Bool->zh.T->zh.T->zh.T->(List Int)->Option R
abbrev zi.l23.T (R:Type):Type:=Int->Int->Int->zh.T->zh.T->zh.T->(List Int)->Option R
def zi.l23.body {R:Type} (F:Nat) (k0:zi.l23.K0 R) (rec:zi.l23.T R) (hi:Int) (lo:Int) (i:Int) (a:zh.T) (b:zh.T) (r4:zh.T) (p:List Int):Option R :=
 bif decide (i>=0) then bif (idx i 17&&Nat.beq 17 p.length) then bif (idx (i64.wrap (i+4)) 17&&Nat.beq 17 p.length) then rec (u64.wrap ((u64.wrap (hi*65536))+(p.getD ((i64.wrap (i+4)).toNat) 0))) (u64.wrap ((u64.wrap (lo*65536))+(p.getD i.toNat 0))) (i64.wrap (i-1)) a b r4 p
 else none
 else none
 else k0 hi lo i (decide (i>=0)) a b r4 p
def zi.l23 {R:Type} (F:Nat) (k0:zi.l23.K0 R):Nat->zi.l23.T R
 | 0,_,_,_,_,_,_,_=>none
 | fu+1,hi,lo,i,a,b,r4,p=>zi.l23.body F k0 (zi.l23 F k0 fu) hi lo i a b r4 p
def zi.sh (F:Nat) (a:zh.T) (b:zh.T):Option zi.sg.R :=
 oB (zW.sh F a) fun c_1 =>
 oB (ym.sh F c_1.1.1 c_1.1.2.1) fun c_2 =>
 bif (Nat.beq c_2.1.1.length (List.replicate 8 0).length&&Nat.beq 8 (List.replicate 8 0).length) then oB (zW.sh F b) fun c_3 =>
 oB (ym.sh F c_3.1.1 c_3.1.2.1) fun c_4 =>
 bif (Nat.beq c_4.1.1.length (List.replicate 8 0).length&&Nat.beq 8 (List.replicate 8 0).length) then zi.l5 F (fun i6 t276 a6 b6 r46 x6 y6 p6=>zi.l16 F (fun r57 r47=>some ((r47,r57,()),())) (fun i8 t628 a8 b8 r48 p8=>zi.l23 F (fun hi9 lo9 i9 t719 a9 b9 r49 p9=>oB (yd.sh F (!(decide (a9.1<0)==decide (b9.1<0))) hi9 lo9) fun c_10 =>
 some ((c_10.1.1,c_10.1.2.1,()),())) F 0 0 3 a8 b8 r48 p8) F 8 a6 b6 r46 p6) F 0 a b (0,0) c_2.1.1 c_4.1.1 (List.replicate 17 0)
 else none
 else none
def zi.sp (F:Nat):TA zi.sg.args->Option zi.sg.R:=fun x=>zi.sh F x.1 x.2.1
@[reducible] def yb.sg:Sig:={args:=[.d (.c (.int .i64))],res:=[.g zh,.c (.int .i64)]}
abbrev yb.l7.K0 (R:Type):Type:=Int->Int->Bool->zh.T->zh.T->Option R
abbrev yb.l7.T (R:Type):Type:=Int->Int->zh.T->zh.T->Option R
def yb.l7.body {R:Type} (F:Nat) (k0:yb.l7.K0 R) (rec:yb.l7.T R) (k:Int) (i:Int) (r2:zh.T) (p:zh.T):Option R :=
 bif decide (i<k) then oB (zU.sh F 10000) fun c_2 =>
 oB (zi.sh F p c_2.1.1) fun c_3 =>
 rec k (i64.wrap (i+1)) r2 c_3.1.1
 else k0 k i (decide (i<k)) r2 p
def yb.l7 {R:Type} (F:Nat) (k0:yb.l7.K0 R):Nat->yb.l7.T R
 | 0,_,_,_,_=>none
 | fu+1,k,i,r2,p=>yb.l7.body F k0 (yb.l7 F k0 fu) k i r2 p
def yb.sh (F:Nat) (k:Int):Option yb.sg.R :=
 bif decide (k<0) then some (((0,0),1,()),())
 else bif decide (k>9) then some (((0,0),10,()),())
 else oB (zU.sh F 1) fun c_1 =>
 yb.l7 F (fun k4 i4 t154 r24 p4=>some ((p4,0,()),())) F k 0 (0,0) c_1.1.1
def yb.sp (F:Nat):TA yb.sg.args->Option yb.sg.R:=fun x=>yb.sh F x.1
@[reducible] def yu.sg:Sig:={args:=[.d (.c (.int .i64))],res:=[.g zj]}
def yu.sh (F:Nat) (v:Int):Option yu.sg.R :=
 oB (zU.sh F v) fun c_1 =>
 some (((c_1.1.1,false),()),())
def yu.sp (F:Nat):TA yu.sg.args->Option yu.sg.R:=fun x=>yu.sh F x.1
@[reducible] def yU.sg:Sig:={args:=[.d (.g zj),.d (.g zj)],res:=[.g zj]}
def yU.sh (F:Nat) (a:zj.T) (b:zj.T):Option yU.sg.R :=
 oB (zi.sh F a.1 b.1) fun c_1 =>
 bif a.2 then some (((c_1.1.1,true),()),())
 else bif b.2 then some (((c_1.1.1,true),()),())
 else some (((c_1.1.1,(c_1.1.2.1 != 0)),()),())
def yU.sp (F:Nat):TA yU.sg.args->Option yU.sg.R:=fun x=>yU.sh F x.1 x.2.1
@[reducible] def yL.sg:Sig:={args:=[.d (.c (.int .i64)),.d (.c (.int .i64))],res:=[.c (.int .i64)]}
def yL.sh (F:Nat) (q:Int) (size:Int):Option yL.sg.R :=
 bif (size != 0) then bif (size != 0) then bif ((q.tmod size) != 0) then some ((i64.wrap ((i64.wrap (q.tdiv size))+1),()),())
 else some ((i64.wrap (q.tdiv size),()),())
 else none
 else none
def yL.sp (F:Nat):TA yL.sg.args->Option yL.sg.R:=fun x=>yL.sh F x.1 x.2.1
@[reducible] def xK.sg:Sig:={args:=[.d (.c (.int .i64))],res:=[.c (.int .i64)]}
def xK.sh (F:Nat) (v:Int):Option xK.sg.R :=
 bif decide (v<0) then some ((i64.wrap (0-v),()),())
 else some ((v,()),())
def xK.sp (F:Nat):TA xK.sg.args->Option xK.sg.R:=fun x=>xK.sh F x.1
@[reducible] def yP.sg:Sig:={args:=[.d (.g zh),.d (.g zh)],res:=[.g zh,.c (.int .i64)]}
def yP.sh (F:Nat) (a:zh.T) (b:zh.T):Option yP.sg.R :=
 oB (zy.sh F a) fun c_1 =>
 oB (zy.sh F b) fun c_2 =>
 oB (z6.sh F c_1.1.1 c_2.1.1) fun c_3 =>
 oB (yH.sh F c_3.1.1) fun c_4 =>
 some ((c_4.1.1,c_4.1.2.1,()),())
def yP.sp (F:Nat):TA yP.sg.args->Option yP.sg.R:=fun x=>yP.sh F x.1 x.2.1
@[reducible] def yE.sg:Sig:={args:=[.d (.g zj),.d (.g zj)],res:=[.g zj]}
def yE.sh (F:Nat) (a:zj.T) (b:zj.T):Option yE.sg.R :=
 oB (yP.sh F a.1 b.1) fun c_1 =>
 bif a.2 then some (((c_1.1.1,true),()),())
 else bif b.2 then some (((c_1.1.1,true),()),())
 else some (((c_1.1.1,(c_1.1.2.1 != 0)),()),())
def yE.sp (F:Nat):TA yE.sg.args->Option yE.sg.R:=fun x=>yE.sh F x.1 x.2.1
@[reducible] def zD.sg:Sig:={args:=[.d (.g zj),.d (.g zj),.d (.b yp)],res:=[.g zj]}
abbrev zD.l4.K0 (R:Type):Type:=(List yp.T)->Int->Int->Bool->zj.T->zj.T->zj.T->zj.T->Option R
abbrev zD.l4.T (R:Type):Type:=(List yp.T)->Int->Int->zj.T->zj.T->zj.T->zj.T->Option R
def zD.l4.body {R:Type} (F:Nat) (k0:zD.l4.K0 R) (rec:zD.l4.T R) (l:List yp.T) (r:Int) (i:Int) (unit:zj.T) (x:zj.T) (r6:zj.T) (w:zj.T):Option R :=
 bif decide (i<(l.length:Int)) then bif idx i l.length then oB (xK.sh F (get yp l i.toNat).2) fun c_2 =>
 bif decide (c_2.1.1>r) then bif idx i l.length then oB (xK.sh F (get yp l i.toNat).2) fun c_3 =>
 bif decide (i<(i64.wrap ((l.length:Int)-1))) then bif idx i l.length then oB (xK.sh F (get yp l i.toNat).2) fun c_4 =>
 oB (yu.sh F c_4.1.1) fun c_5 =>
 bif idx (i64.wrap (i+1)) l.length then bif idx i l.length then oB (yu.sh F (i64.wrap ((get yp l ((i64.wrap (i+1)).toNat)).1-(get yp l i.toNat).1))) fun c_6 =>
 oB (yU.sh F c_5.1.1 c_6.1.1) fun c_7 =>
 oB (yE.sh F w c_7.1.1) fun c_8 =>
 rec l c_3.1.1 (i64.wrap (i+1)) unit x r6 c_8.1.1
 else none
 else none
 else none
 else rec l c_3.1.1 (i64.wrap (i+1)) unit x r6 w
 else none
 else bif decide (i<(i64.wrap ((l.length:Int)-1))) then bif idx i l.length then oB (xK.sh F (get yp l i.toNat).2) fun c_9 =>
 oB (yu.sh F c_9.1.1) fun c_10 =>
 bif idx (i64.wrap (i+1)) l.length then bif idx i l.length then oB (yu.sh F (i64.wrap ((get yp l ((i64.wrap (i+1)).toNat)).1-(get yp l i.toNat).1))) fun c_11 =>
 oB (yU.sh F c_10.1.1 c_11.1.1) fun c_12 =>
 oB (yE.sh F w c_12.1.1) fun c_13 =>
 rec l r (i64.wrap (i+1)) unit x r6 c_13.1.1
 else none
 else none
 else none
 else rec l r (i64.wrap (i+1)) unit x r6 w
 else none
 else k0 l r i (decide (i<(l.length:Int))) unit x r6 w
def zD.l4 {R:Type} (F:Nat) (k0:zD.l4.K0 R):Nat->zD.l4.T R
 | 0,_,_,_,_,_,_,_=>none
 | fu+1,l,r,i,unit,x,r6,w=>zD.l4.body F k0 (zD.l4 F k0 fu) l r i unit x r6 w
def zD.sh (F:Nat) (unit:zj.T) (x:zj.T) (l:List yp.T):Option zD.sg.R :=
 oB (yu.sh F 0) fun c_1 =>
 zD.l4 F (fun l14 r14 i14 t1414 unit14 x14 r614 w14=>oB (yu.sh F r14) fun c_15 =>
 bif idx (i64.wrap ((l14.length:Int)-1)) l14.length then oB (yu.sh F (get yp l14 ((i64.wrap ((l14.length:Int)-1)).toNat)).1) fun c_16 =>
 oB (yE.sh F x14 c_16.1.1) fun c_17 =>
 oB (yU.sh F c_15.1.1 c_17.1.1) fun c_18 =>
 oB (yE.sh F c_18.1.1 w14) fun c_19 =>
 oB (yU.sh F unit14 c_19.1.1) fun c_20 =>
 some ((c_20.1.1,()),())
 else none) F l 0 0 unit x ((0,0),false) c_1.1.1
def zD.sp (F:Nat):TA zD.sg.args->Option zD.sg.R:=fun x=>zD.sh F x.1 x.2.1 x.2.2.1
@[reducible] def zA.sg:Sig:={args:=[.d (.g yr),.d (.g zx),.d (.g zj),.d (.b zj)],res:=[.g zj]}
abbrev zA.l20.K0 (R:Type):Type:=(List zj.T)->Int->Bool->zx.T->zj.T->zj.T->Option R
abbrev zA.l20.T (R:Type):Type:=(List zj.T)->Int->zx.T->zj.T->zj.T->Option R
def zA.l20.body {R:Type} (F:Nat) (k0:zA.l20.K0 R) (rec:zA.l20.T R) (l:List zj.T) (i:Int) (n:zx.T) (r8:zj.T) (s:zj.T):Option R :=
 bif decide (i<(l.length:Int)) then bif idx i l.length then oB (yE.sh F s (get zj l i.toNat)) fun c_10 =>
 rec l (i64.wrap (i+1)) n r8 c_10.1.1
 else none
 else k0 l i (decide (i<(l.length:Int))) n r8 s
def zA.l20 {R:Type} (F:Nat) (k0:zA.l20.K0 R):Nat->zA.l20.T R
 | 0,_,_,_,_,_=>none
 | fu+1,l,i,n,r8,s=>zA.l20.body F k0 (zA.l20 F k0 fu) l i n r8 s
def zA.j18 {R:Type} (F:Nat) (k0:zj.T->Option R) (l:List zj.T) (n:zx.T) (r8:zj.T):Option R :=
 oB (yu.sh F 0) fun c_9 =>
 zA.l20 F (fun l11 i11 t6811 n11 r811 s11=>bif (n11.1==11) then oB (yu.sh F n11.2.1) fun c_12 =>
 oB (yE.sh F s11 c_12.1.1) fun c_13 =>
 k0 c_13.1.1
 else bif (n11.1==12) then oB (yu.sh F n11.2.1) fun c_14 =>
 oB (yE.sh F s11 c_14.1.1) fun c_15 =>
 k0 c_15.1.1
 else bif (n11.1==16) then oB (yu.sh F n11.2.1) fun c_16 =>
 oB (yE.sh F s11 c_16.1.1) fun c_17 =>
 k0 c_17.1.1
 else k0 s11) F l 0 n r8 c_9.1.1
def zA.sh (F:Nat) (p:yr.T) (n:zx.T) (unit:zj.T) (l:List zj.T):Option zA.sg.R :=
 bif (n.1==1) then oB (yu.sh F n.2.1) fun c_1 =>
 some ((c_1.1.1,()),())
 else bif (n.1==2) then oB (yu.sh F n.2.1) fun c_2 =>
 oB (yU.sh F c_2.1.1 unit) fun c_3 =>
 some ((c_3.1.1,()),())
 else bif (n.1==3) then oB (yu.sh F 1099511627776) fun c_4 =>
 some ((c_4.1.1,()),())
 else bif (n.1==4) then bif idx n.2.1 p.2.1.length then oB (yL.sh F 1099511627776 (get wV p.2.1 n.2.1.toNat).2) fun c_5 =>
 oB (yu.sh F c_5.1.1) fun c_6 =>
 some ((c_6.1.1,()),())
 else none
 else bif (n.1==5) then bif (n.1==5) then bif idx 0 l.length then some (((get zj l 0),()),())
 else none
 else bif (n.1==8) then bif idx 0 l.length then bif idx 1 l.length then oB (yU.sh F (get zj l 0) (get zj l 1)) fun c_7 =>
 some ((c_7.1.1,()),())
 else none
 else none
 else bif (n.1==13) then bif (n.1==13) then bif idx 0 l.length then oB (zD.sh F unit (get zj l 0) n.2.2.2.2.1) fun c_8 =>
 some ((c_8.1.1,()),())
 else none
 else zA.j18 F (fun r818=>some ((r818,()),())) l n ((0,0),false)
 else bif (n.1==14) then bif idx 0 l.length then oB (zD.sh F unit (get zj l 0) n.2.2.2.2.1) fun c_19 =>
 some ((c_19.1.1,()),())
 else none
 else zA.j18 F (fun r820=>some ((r820,()),())) l n ((0,0),false)
 else bif (n.1==15) then bif idx 0 l.length then some (((get zj l 0),()),())
 else none
 else bif (n.1==8) then bif idx 0 l.length then bif idx 1 l.length then oB (yU.sh F (get zj l 0) (get zj l 1)) fun c_21 =>
 some ((c_21.1.1,()),())
 else none
 else none
 else bif (n.1==13) then bif (n.1==13) then bif idx 0 l.length then oB (zD.sh F unit (get zj l 0) n.2.2.2.2.1) fun c_22 =>
 some ((c_22.1.1,()),())
 else none
 else zA.j18 F (fun r823=>some ((r823,()),())) l n ((0,0),false)
 else bif (n.1==14) then bif idx 0 l.length then oB (zD.sh F unit (get zj l 0) n.2.2.2.2.1) fun c_24 =>
 some ((c_24.1.1,()),())
 else none
 else zA.j18 F (fun r825=>some ((r825,()),())) l n ((0,0),false)
def zA.sp (F:Nat):TA zA.sg.args->Option zA.sg.R:=fun x=>zA.sh F x.1 x.2.1 x.2.2.1 x.2.2.2.1
@[reducible] def xV.sg:Sig:={args:=[],res:=[.g zh]}
def xV.sh (F:Nat):Option xV.sg.R :=
 some (((72057594037927936,0),()),())
def xV.sp (F:Nat):TA xV.sg.args->Option xV.sg.R:=fun x=>xV.sh F
@[reducible] def xu.sg:Sig:={args:=[.d (.g zh),.d (.g zh)],res:=[.c (.int .i64)]}
def xu.sh (F:Nat) (a:zh.T) (b:zh.T):Option xu.sg.R :=
 oB (zy.sh F a) fun c_1 =>
 oB (zy.sh F b) fun c_2 =>
 oB (zM.sh F c_2.1.1) fun c_3 =>
 oB (z6.sh F c_1.1.1 c_3.1.1) fun c_4 =>
 bif (Nat.beq c_4.1.1.length (List.replicate 12 0).length&&Nat.beq 12 (List.replicate 12 0).length) then bif Nat.beq 12 c_4.1.1.length then oB (xm.sh F c_4.1.1) fun c_5 =>
 bif c_5.1.1 then some (((-1),()),())
 else bif Nat.beq 12 c_4.1.1.length then bif (Nat.beq c_4.1.1.length (List.replicate 12 0).length&&Nat.beq c_4.1.1.length 12) then bif (c_4.1.1==List.replicate 12 0) then some ((0,()),())
 else some ((1,()),())
 else none
 else none
 else none
 else none
def xu.sp (F:Nat):TA xu.sg.args->Option xu.sg.R:=fun x=>xu.sh F x.1 x.2.1
@[reducible] def zK.sg:Sig:={args:=[.d (.g yr)],res:=[.c (.sl zh),.c (.int .i64),.c (.int .i64)]}
abbrev zK.l11.K0 (R:Type):Type:=(List zh.T)->Int->Int->Option R
abbrev zK.l11.K1 (R:Type):Type:=Int->Bool->yr.T->zh.T->(List zh.T)->(List zj.T)->Option R
abbrev zK.l11.T (R:Type):Type:=Int->yr.T->zh.T->(List zh.T)->(List zj.T)->Option R
def zK.l11.body {R:Type} (F:Nat) (k0:zK.l11.K0 R) (k1:zK.l11.K1 R) (rec:zK.l11.T R) (i:Int) (p:yr.T) (s:zh.T) (out:List zh.T) (pile:List zj.T):Option R :=
 bif decide (i<(p.2.2.2.length:Int)) then bif idx i p.2.2.2.length then oB (zv.sh F (get zx p.2.2.2 i.toNat)) fun c_4 =>
 bif idx i p.2.2.2.length then bif (zI pile.length (some (i64.wrap ((pile.length:Int)-c_4.1.1))) none).1 then oB (zA.sh F p (get zx p.2.2.2 i.toNat) (s,false) ((List.take (zI pile.length (some (i64.wrap ((pile.length:Int)-c_4.1.1))) none).2.2 pile).drop (zI pile.length (some (i64.wrap ((pile.length:Int)-c_4.1.1))) none).2.1)) fun c_5 =>
 bif idx i p.2.2.2.length then bif ((get zx p.2.2.2 i.toNat).1==15) then oB (yu.sh F 10000) fun c_6 =>
 oB (yU.sh F c_5.1.1 c_6.1.1) fun c_7 =>
 bif c_7.1.1.2 then k0 ([]) i 90
 else oB (xV.sh F) fun c_8 =>
 oB (xu.sh F c_7.1.1.1 c_8.1.1) fun c_9 =>
 bif decide (c_9.1.1>0) then k0 ([]) i 90
 else bif Nat.ble (out.length+([c_5.1.1.1]:List zh.T).length) vc then bif (zI pile.length none (some (i64.wrap ((pile.length:Int)-c_4.1.1)))).1 then bif Nat.ble ((zI pile.length none (some (i64.wrap ((pile.length:Int)-c_4.1.1)))).2.2+([c_5.1.1]:List zj.T).length) vc then rec (i64.wrap (i+1)) p s (out++([c_5.1.1.1]:List zh.T)) (pile.take (zI pile.length none (some (i64.wrap ((pile.length:Int)-c_4.1.1)))).2.2++([c_5.1.1]:List zj.T))
 else none
 else none
 else none
 else bif c_5.1.1.2 then k0 ([]) i 90
 else oB (xV.sh F) fun c_10 =>
 oB (xu.sh F c_5.1.1.1 c_10.1.1) fun c_11 =>
 bif decide (c_11.1.1>0) then k0 ([]) i 90
 else bif Nat.ble (out.length+([c_5.1.1.1]:List zh.T).length) vc then bif (zI pile.length none (some (i64.wrap ((pile.length:Int)-c_4.1.1)))).1 then bif Nat.ble ((zI pile.length none (some (i64.wrap ((pile.length:Int)-c_4.1.1)))).2.2+([c_5.1.1]:List zj.T).length) vc then rec (i64.wrap (i+1)) p s (out++([c_5.1.1.1]:List zh.T)) (pile.take (zI pile.length none (some (i64.wrap ((pile.length:Int)-c_4.1.1)))).2.2++([c_5.1.1]:List zj.T))
 else none
 else none
 else none
 else none
 else none
 else none
 else none
 else k1 i (decide (i<(p.2.2.2.length:Int))) p s out pile
def zK.l11 {R:Type} (F:Nat) (k0:zK.l11.K0 R) (k1:zK.l11.K1 R):Nat->zK.l11.T R
 | 0,_,_,_,_,_=>none
 | fu+1,i,p,s,out,pile=>zK.l11.body F k0 k1 (zK.l11 F k0 k1 fu) i p s out pile
def zK.j22 {R:Type} (F:Nat) (k0:(List zh.T)->Int->Int->Option R) (out:List zh.T):Option R :=
 k0 out 0 0
def zK.sh (F:Nat) (p:yr.T):Option zK.sg.R :=
 oB (zn.sh F p) fun c_1 =>
 bif (c_1.1.2.2.1 != 0) then some (([],c_1.1.2.1,c_1.1.2.2.1,()),())
 else oB (zm.sh F p) fun c_2 =>
 bif decide (c_2.1.1>6) then some (([],i64.wrap ((p.2.2.2.length:Int)-1),90,()),())
 else oB (yb.sh F c_2.1.1) fun c_3 =>
 zK.l11 F (fun r212 r312 r412=>some ((r212,r312,r412,()),())) (fun i13 t4813 p13 s13 out13 pile13=>zK.j22 F (fun r214 r314 r414=>some ((r214,r314,r414,()),())) out13) F 0 p c_3.1.1 ([]) ([])
def zK.sp (F:Nat):TA zK.sg.args->Option zK.sg.R:=fun x=>zK.sh F x.1
@[reducible] def xN.sg:Sig:={args:=[.d (.g yr)],res:=[.g zh,.c (.int .i64),.c (.int .i64)]}
def xN.sh (F:Nat) (p:yr.T):Option xN.sg.R :=
 oB (zK.sh F p) fun c_1 =>
 bif (c_1.1.2.2.1 != 0) then some (((0,0),c_1.1.2.1,c_1.1.2.2.1,()),())
 else oB (zm.sh F p) fun c_2 =>
 oB (yb.sh F c_2.1.1) fun c_3 =>
 some ((c_3.1.1,0,0,()),())
def xN.sp (F:Nat):TA xN.sg.args->Option xN.sg.R:=fun x=>xN.sh F x.1
@[reducible] def wm.sg:Sig:={args:=[.d (.g zx),.d (.g zh)],res:=[.c (.sl zo)]}
def wm.sh (F:Nat) (n:zx.T) (unit:zh.T):Option wm.sg.R :=
 bif (n.1==1) then oB (zU.sh F n.2.1) fun c_1 =>
 some ((([(0,c_1.1.1,(0,0),0,0)]:List zo.T),()),())
 else bif (n.1==2) then oB (zU.sh F n.2.1) fun c_2 =>
 oB (zi.sh F c_2.1.1 unit) fun c_3 =>
 some ((([(0,c_3.1.1,(0,0),0,0)]:List zo.T),()),())
 else bif (n.1==3) then oB (zU.sh F 1) fun c_4 =>
 some ((([(0,(0,0),c_4.1.1,0,0)]:List zo.T),()),())
 else bif (n.1==4) then oB (zU.sh F 1) fun c_5 =>
 some ((([(0,(0,0),(0,0),c_5.1.1)]:List zo.T),()),())
 else some ((([(0,(0,0),(0,0),0,0)]:List zo.T),()),())
def wm.sp (F:Nat):TA wm.sg.args->Option wm.sg.R:=fun x=>wm.sh F x.1 x.2.1
@[reducible] def yw.sg:Sig:={args:=[.d (.b zo),.d (.c (.int .i64))],res:=[.c (.int .i64)]}
abbrev yw.l2.K0 (R:Type):Type:=(List zo.T)->Int->Int->Bool->Option R
abbrev yw.l2.T (R:Type):Type:=(List zo.T)->Int->Int->Option R
def yw.l2.body {R:Type} (F:Nat) (k0:yw.l2.K0 R) (rec:yw.l2.T R) (l:List zo.T) (q:Int) (i:Int):Option R :=
 bif decide (i<(i64.wrap ((l.length:Int)-1))) then bif idx (i64.wrap (i+1)) l.length then bif decide ((get zo l ((i64.wrap (i+1)).toNat)).1<=q) then rec l q (i64.wrap (i+1))
 else k0 l q i (decide ((get zo l ((i64.wrap (i+1)).toNat)).1<=q))
 else none
 else k0 l q i false
def yw.l2 {R:Type} (F:Nat) (k0:yw.l2.K0 R):Nat->yw.l2.T R
 | 0,_,_,_=>none
 | fu+1,l,q,i=>yw.l2.body F k0 (yw.l2 F k0 fu) l q i
def yw.sh (F:Nat) (l:List zo.T) (q:Int):Option yw.sg.R :=
 yw.l2 F (fun l1 q1 i1 t201=>some ((i1,()),())) F l q 0
def yw.sp (F:Nat):TA yw.sg.args->Option yw.sg.R:=fun x=>yw.sh F x.1 x.2.1
@[reducible] def yN.sg:Sig:={args:=[.d (.g zh),.d (.g zh),.d (.g zh),.d (.c .bool)],res:=[.g zf,.c (.int .i64)]}
def yN.sh (F:Nat) (a:zh.T) (b:zh.T) (c:zh.T) (bad:Bool):Option yN.sg.R :=
 bif bad then some ((((0,0),(0,0),0,0),10,()),())
 else some (((a,b,c),0,()),())
def yN.sp (F:Nat):TA yN.sg.args->Option yN.sg.R:=fun x=>yN.sh F x.1 x.2.1 x.2.2.1 x.2.2.2.1
@[reducible] def wa.sg:Sig:={args:=[.d (.g zf),.d (.g zh)],res:=[.g zf,.c (.int .i64)]}
def wa.sh (F:Nat) (l:zf.T) (k:zh.T):Option wa.sg.R :=
 oB (zi.sh F l.1 k) fun c_1 =>
 oB (zi.sh F l.2.1 k) fun c_2 =>
 oB (zi.sh F l.2.2 k) fun c_3 =>
 bif (c_1.1.2.1 != 0) then oB (yN.sh F c_1.1.1 c_2.1.1 c_3.1.1 true) fun c_4 =>
 some ((c_4.1.1,c_4.1.2.1,()),())
 else bif (c_2.1.2.1 != 0) then oB (yN.sh F c_1.1.1 c_2.1.1 c_3.1.1 true) fun c_5 =>
 some ((c_5.1.1,c_5.1.2.1,()),())
 else oB (yN.sh F c_1.1.1 c_2.1.1 c_3.1.1 (c_3.1.2.1 != 0)) fun c_6 =>
 some ((c_6.1.1,c_6.1.2.1,()),())
def wa.sp (F:Nat):TA wa.sg.args->Option wa.sg.R:=fun x=>wa.sh F x.1 x.2.1
@[reducible] def xj.sg:Sig:={args:=[.d (.g zf),.d (.g zh)],res:=[.g zf]}
def xj.sh (F:Nat) (l:zf.T) (w:zh.T):Option xj.sg.R :=
 oB (wa.sh F l w) fun c_1 =>
 some ((c_1.1.1,()),())
def xj.sp (F:Nat):TA xj.sg.args->Option xj.sg.R:=fun x=>xj.sh F x.1 x.2.1
@[reducible] def wu.sg:Sig:={args:=[.d (.g zf),.d (.g zf)],res:=[.g zf,.c (.int .i64)]}
def wu.sh (F:Nat) (l:zf.T) (m:zf.T):Option wu.sg.R :=
 oB (yP.sh F l.1 m.1) fun c_1 =>
 oB (yP.sh F l.2.1 m.2.1) fun c_2 =>
 oB (yP.sh F l.2.2 m.2.2) fun c_3 =>
 bif (c_1.1.2.1 != 0) then oB (yN.sh F c_1.1.1 c_2.1.1 c_3.1.1 true) fun c_4 =>
 some ((c_4.1.1,c_4.1.2.1,()),())
 else bif (c_2.1.2.1 != 0) then oB (yN.sh F c_1.1.1 c_2.1.1 c_3.1.1 true) fun c_5 =>
 some ((c_5.1.1,c_5.1.2.1,()),())
 else oB (yN.sh F c_1.1.1 c_2.1.1 c_3.1.1 (c_3.1.2.1 != 0)) fun c_6 =>
 some ((c_6.1.1,c_6.1.2.1,()),())
def wu.sp (F:Nat):TA wu.sg.args->Option wu.sg.R:=fun x=>wu.sh F x.1 x.2.1
@[reducible] def xO.sg:Sig:={args:=[.d (.g zh),.d (.g zh)],res:=[.g zh,.c (.int .i64)]}
def xO.sh (F:Nat) (a:zh.T) (b:zh.T):Option xO.sg.R :=
 oB (zy.sh F a) fun c_1 =>
 oB (zy.sh F b) fun c_2 =>
 oB (zM.sh F c_2.1.1) fun c_3 =>
 oB (z6.sh F c_1.1.1 c_3.1.1) fun c_4 =>
 oB (yH.sh F c_4.1.1) fun c_5 =>
 some ((c_5.1.1,c_5.1.2.1,()),())
def xO.sp (F:Nat):TA xO.sg.args->Option xO.sg.R:=fun x=>xO.sh F x.1 x.2.1
@[reducible] def xx.sg:Sig:={args:=[.d (.g zf),.d (.g zf)],res:=[.g zf,.c (.int .i64)]}
def xx.sh (F:Nat) (l:zf.T) (m:zf.T):Option xx.sg.R :=
 oB (xO.sh F l.1 m.1) fun c_1 =>
 oB (xO.sh F l.2.1 m.2.1) fun c_2 =>
 oB (xO.sh F l.2.2 m.2.2) fun c_3 =>
 bif (c_1.1.2.1 != 0) then oB (yN.sh F c_1.1.1 c_2.1.1 c_3.1.1 true) fun c_4 =>
 some ((c_4.1.1,c_4.1.2.1,()),())
 else bif (c_2.1.2.1 != 0) then oB (yN.sh F c_1.1.1 c_2.1.1 c_3.1.1 true) fun c_5 =>
 some ((c_5.1.1,c_5.1.2.1,()),())
 else oB (yN.sh F c_1.1.1 c_2.1.1 c_3.1.1 (c_3.1.2.1 != 0)) fun c_6 =>
 some ((c_6.1.1,c_6.1.2.1,()),())
def xx.sp (F:Nat):TA xx.sg.args->Option xx.sg.R:=fun x=>xx.sh F x.1 x.2.1
@[reducible] def yz.sg:Sig:={args:=[.d (.g zh)],res:=[.g zf]}
def yz.sh (F:Nat) (w:zh.T):Option yz.sg.R :=
 some (((w,(0,0),0,0),()),())
def yz.sp (F:Nat):TA yz.sg.args->Option yz.sg.R:=fun x=>yz.sh F x.1
@[reducible] def xF.sg:Sig:={args:=[.d (.c (.int .i64)),.d (.c (.int .i64))],res:=[.c .bool]}
def xF.sh (F:Nat) (size:Int) (q:Int):Option xF.sg.R :=
 bif decide (size>=1) then bif decide (size<=1000000000000) then bif decide (q>=0) then some ((decide (q<=1099511627776),()),())
 else some ((false,()),())
 else some ((false,()),())
 else some ((false,()),())
def xF.sp (F:Nat):TA xF.sg.args->Option xF.sg.R:=fun x=>xF.sh F x.1 x.2.1
@[reducible] def xf.sg:Sig:={args:=[.d (.g zf),.d (.c (.int .i64)),.d (.c (.int .i64))],res:=[.g zh,.c (.int .i64)]}
def xf.sh (F:Nat) (l:zf.T) (size:Int) (q:Int):Option xf.sg.R :=
 oB (xF.sh F size q) fun c_1 =>
 bif !c_1.1.1 then some (((0,0),1,()),())
 else oB (zU.sh F q) fun c_2 =>
 oB (zi.sh F l.2.1 c_2.1.1) fun c_3 =>
 oB (yL.sh F q size) fun c_4 =>
 oB (zU.sh F c_4.1.1) fun c_5 =>
 oB (zi.sh F l.2.2 c_5.1.1) fun c_6 =>
 bif (c_3.1.2.1 != 0) then some (((0,0),10,()),())
 else bif (c_6.1.2.1 != 0) then some (((0,0),10,()),())
 else oB (yP.sh F l.1 c_3.1.1) fun c_7 =>
 bif (c_7.1.2.1 != 0) then some (((0,0),10,()),())
 else oB (yP.sh F c_7.1.1 c_6.1.1) fun c_8 =>
 some ((c_8.1.1,c_8.1.2.1,()),())
def xf.sp (F:Nat):TA xf.sg.args->Option xf.sg.R:=fun x=>xf.sh F x.1 x.2.1 x.2.2.1
@[reducible] def wo.sg:Sig:={args:=[.d (.g zh)],res:=[.c (.int .i64)]}
def wo.sh (F:Nat) (w:zh.T):Option wo.sg.R :=
 oB (zy.sh F w) fun c_1 =>
 oB (xm.sh F c_1.1.1) fun c_2 =>
 bif c_2.1.1 then some (((-1),()),())
 else bif (w.1==0) then bif (w.2==0) then some ((0,()),())
 else some ((1,()),())
 else some ((1,()),())
def wo.sp (F:Nat):TA wo.sg.args->Option wo.sg.R:=fun x=>wo.sh F x.1
@[reducible] def yh.sg:Sig:={args:=[.d (.g zf),.d (.c (.int .i64)),.d (.c (.int .i64))],res:=[.c .bool]}
def yh.sh (F:Nat) (l:zf.T) (size:Int) (q:Int):Option yh.sg.R :=
 oB (xf.sh F l size q) fun c_1 =>
 oB (wo.sh F c_1.1.1) fun c_2 =>
 some ((decide (c_2.1.1>0),()),())
def yh.sp (F:Nat):TA yh.sg.args->Option yh.sg.R:=fun x=>yh.sh F x.1 x.2.1 x.2.2.1
@[reducible] def yD.sg:Sig:={args:=[.d (.g zf),.d (.c (.int .i64))],res:=[.g zf]}
def yD.sh (F:Nat) (l:zf.T) (n:Int):Option yD.sg.R :=
 oB (zU.sh F n) fun c_1 =>
 oB (yz.sh F c_1.1.1) fun c_2 =>
 oB (xx.sh F l c_2.1.1) fun c_3 =>
 some ((c_3.1.1,()),())
def yD.sp (F:Nat):TA yD.sg.args->Option yD.sg.R:=fun x=>yD.sh F x.1 x.2.1
@[reducible] def ze.sg:Sig:={args:=[.d (.g za),.d (.g zf),.d (.c (.int .i64))],res:=[.g (.pair zf (.sl zf))]}
abbrev ze.l4.K0 (R:Type):Type:=Int->Int->(List yp.T)->Bool->za.T->zf.T->(zf.T×List zf.T)->(zf.T×List zf.T)->(List zf.T)->Option R
abbrev ze.l4.T (R:Type):Type:=Int->Int->(List yp.T)->za.T->zf.T->(zf.T×List zf.T)->(zf.T×List zf.T)->(List zf.T)->Option R
def ze.l4.body {R:Type} (F:Nat) (k0:ze.l4.K0 R) (rec:ze.l4.T R) (q:Int) (k:Int) (t:List yp.T) (m:za.T) (x:zf.T) (r6:zf.T×List zf.T) (g:zf.T×List zf.T) (g_6:List zf.T):Option R :=
 bif decide (k<(t.length:Int)) then bif idx k t.length then oB (yD.sh F x (get yp t k.toNat).1) fun c_1 =>
 oB (yh.sh F c_1.1.1 m.2.2 q) fun c_2 =>
 bif c_2.1.1 then rec q (i64.wrap (k+1)) t m x r6 (g.1,[]) g_6
 else k0 q k t c_2.1.1 m x r6 (g.1,[]) g_6
 else none
 else k0 q k t false m x r6 (g.1,[]) g_6
def ze.l4 {R:Type} (F:Nat) (k0:ze.l4.K0 R):Nat->ze.l4.T R
 | 0,_,_,_,_,_,_,_,_=>none
 | fu+1,q,k,t,m,x,r6,g,g_6=>ze.l4.body F k0 (ze.l4 F k0 fu) q k t m x r6 g g_6
abbrev ze.l18.K0 (R:Type):Type:=Int->(List yp.T)->Int->Bool->za.T->(zf.T×List zf.T)->(zf.T×List zf.T)->zf.T->Option R
abbrev ze.l18.T (R:Type):Type:=Int->(List yp.T)->Int->za.T->(zf.T×List zf.T)->(zf.T×List zf.T)->zf.T->Option R
def ze.l18.body {R:Type} (F:Nat) (k0:ze.l18.K0 R) (rec:ze.l18.T R) (k:Int) (t:List yp.T) (i:Int) (m:za.T) (r6:zf.T×List zf.T) (g:zf.T×List zf.T) (l:zf.T):Option R :=
 bif decide (i<(i64.wrap (k-1))) then bif idx i t.length then oB (zU.sh F (get yp t i.toNat).2) fun c_11 =>
 bif idx (i64.wrap (i+1)) t.length then bif idx i t.length then oB (zU.sh F (i64.wrap ((get yp t ((i64.wrap (i+1)).toNat)).1-(get yp t i.toNat).1))) fun c_12 =>
 oB (zi.sh F c_11.1.1 c_12.1.1) fun c_13 =>
 oB (yP.sh F l.1 c_13.1.1) fun c_14 =>
 rec k t (i64.wrap (i+1)) m r6 g (c_14.1.1,l.2)
 else none
 else none
 else none
 else k0 k t i (decide (i<(i64.wrap (k-1)))) m r6 g l
def ze.l18 {R:Type} (F:Nat) (k0:ze.l18.K0 R):Nat->ze.l18.T R
 | 0,_,_,_,_,_,_,_=>none
 | fu+1,k,t,i,m,r6,g,l=>ze.l18.body F k0 (ze.l18 F k0 fu) k t i m r6 g l
def ze.j10 {R:Type} (F:Nat) (k0:(zf.T×List zf.T)->Option R) (k1:(zf.T×List zf.T)->Option R) (k2:(zf.T×List zf.T)->Option R) (k:Int) (t:List yp.T) (m:za.T) (x:zf.T) (r6:zf.T×List zf.T) (g:zf.T×List zf.T):Option R :=
 bif (k==0) then k0 g
 else bif idx (i64.wrap (k-1)) t.length then oB (zU.sh F (get yp t ((i64.wrap (k-1)).toNat)).2) fun c_6 =>
 bif (m.1.1==14) then oB (xj.sh F x c_6.1.1) fun c_7 =>
 oB (xj.sh F c_7.1.1 m.2.1) fun c_8 =>
 k1 (c_8.1.1,g.2)
 else bif idx (i64.wrap (k-1)) t.length then oB (yD.sh F x (get yp t ((i64.wrap (k-1)).toNat)).1) fun c_9 =>
 oB (xj.sh F c_9.1.1 c_6.1.1) fun c_10 =>
 ze.l18 F (fun k15 t15 i15 t10515 m15 r615 g15 l15=>oB (xj.sh F l15 m15.2.1) fun c_16 =>
 k2 (c_16.1.1,g15.2)) F k t 0 m r6 g c_10.1.1
 else none
 else none
def ze.j8 {R:Type} (F:Nat) (k0:(zf.T×List zf.T)->Option R) (k1:(zf.T×List zf.T)->Option R) (k2:(zf.T×List zf.T)->Option R) (k:Int) (t:List yp.T) (m:za.T) (x:zf.T) (r6:zf.T×List zf.T) (g:zf.T×List zf.T) (g_6:List zf.T):Option R :=
 bif decide (k<(t.length:Int)) then bif idx k t.length then oB (yD.sh F x (get yp t k.toNat).1) fun c_5 =>
 bif Nat.ble (g_6.length+([c_5.1.1]:List zf.T).length) vc then ze.j10 F (fun r617=>k0 r617) (fun r618=>k1 r618) (fun r619=>k2 r619) k t m x r6 (g.1,g_6++([c_5.1.1]:List zf.T))
 else none
 else none
 else ze.j10 F (fun r620=>k0 r620) (fun r621=>k1 r621) (fun r622=>k2 r622) k t m x r6 (g.1,g_6)
def ze.sh (F:Nat) (m:za.T) (x:zf.T) (q:Int):Option ze.sg.R :=
 ze.l4 F (fun q3 k3 t3 t363 m3 x3 r63 g3 g_63=>bif decide (k3>0) then bif idx (i64.wrap (k3-1)) t3.length then oB (yD.sh F x3 (get yp t3 ((i64.wrap (k3-1)).toNat)).1) fun c_4 =>
 bif Nat.ble (g_63.length+([c_4.1.1]:List zf.T).length) vc then ze.j8 F (fun r623=>some ((r623,()),())) (fun r624=>some ((r624,()),())) (fun r625=>some ((r625,()),())) k3 t3 m3 x3 r63 (g3.1,[]) (g_63++([c_4.1.1]:List zf.T))
 else none
 else none
 else ze.j8 F (fun r626=>some ((r626,()),())) (fun r627=>some ((r627,()),())) (fun r628=>some ((r628,()),())) k3 t3 m3 x3 r63 (g3.1,[]) g_63) F q 0 m.1.2.2.2.2.1 m x (((0,0),(0,0),0,0),[]) (((0,0),(0,0),0,0),[]) ([])
def ze.sp (F:Nat):TA ze.sg.args->Option ze.sg.R:=fun x=>ze.sh F x.1 x.2.1 x.2.2.1
@[reducible] def yS.sg:Sig:={args:=[.d (.c (.int .u64)),.d (.c (.int .u64)),.d (.c (.int .u64))],res:=[.c (.int .u64),.c (.int .u64)]}
def yS.sh (F:Nat) (hi:Int) (lo:Int) (bit:Int):Option yS.sg.R :=
 some ((u64.wrap ((u64.wrap (hi*2))+(lo.fdiv (2^(min (63:Int).toNat IntKind.u64.bits)))),u64.wrap ((u64.wrap (lo*2))+bit),()),())
def yS.sp (F:Nat):TA yS.sg.args->Option yS.sg.R:=fun x=>yS.sh F x.1 x.2.1 x.2.2.1
@[reducible] def yT.sg:Sig:={args:=[.d (.c (.int .u64)),.d (.c (.int .u64)),.d (.c (.int .u64)),.d (.c (.int .u64))],res:=[.c .bool]}
def yT.sh (F:Nat) (ah:Int) (al:Int) (bh:Int) (bl:Int):Option yT.sg.R :=
 bif decide (ah>bh) then some ((true,()),())
 else bif (ah==bh) then some ((decide (al>=bl),()),())
 else some ((false,()),())
def yT.sp (F:Nat):TA yT.sg.args->Option yT.sg.R:=fun x=>yT.sh F x.1 x.2.1 x.2.2.1 x.2.2.2.1
@[reducible] def xG.sg:Sig:={args:=[.d (.c (.int .u64)),.d (.c (.int .u64)),.d (.c (.int .u64)),.d (.c (.int .u64))],res:=[.c (.int .u64),.c (.int .u64)]}
def xG.sh (F:Nat) (ah:Int) (al:Int) (bh:Int) (bl:Int):Option xG.sg.R :=
 bif decide (al<bl) then some ((u64.wrap ((u64.wrap (ah-bh))-1),u64.wrap (al-bl),()),())
 else some ((u64.wrap (ah-bh),u64.wrap (al-bl),()),())
def xG.sp (F:Nat):TA xG.sg.args->Option xG.sg.R:=fun x=>xG.sh F x.1 x.2.1 x.2.2.1 x.2.2.2.1
@[reducible] def zG.sg:Sig:={args:=[.d (.g zh),.d (.g zh)],res:=[.g zh,.g zh,.c (.int .i64)]}
abbrev zG.l10.K0 (R:Type):Type:=Int->Int->Int->Int->Int->Int->Int->Int->Int->Bool->zh.T->zh.T->zh.T->zh.T->Option R
abbrev zG.l10.T (R:Type):Type:=Int->Int->Int->Int->Int->Int->Int->Int->Int->zh.T->zh.T->zh.T->zh.T->Option R
def zG.l10.body {R:Type} (F:Nat) (k0:zG.l10.K0 R) (rec:zG.l10.T R) (ah:Int) (al:Int) (bh:Int) (bl:Int) (qh:Int) (ql:Int) (rh:Int) (rl:Int) (i:Int) (a:zh.T) (b:zh.T) (r4:zh.T) (r5:zh.T):Option R :=
 bif decide (i>=0) then bif decide (0<=(u64.wrap (i.tmod 64))) then bif decide (i>=64) then bif decide (0<=(u64.wrap (i.tmod 64))) then oB (yS.sh F rh rl ((ah.fdiv (2^(min (u64.wrap (i.tmod 64)).toNat IntKind.u64.bits))).tmod 2)) fun c_3 =>
 oB (yT.sh F c_3.1.1 c_3.1.2.1 bh bl) fun c_4 =>
 bif c_4.1.1 then oB (xG.sh F c_3.1.1 c_3.1.2.1 bh bl) fun c_5 =>
 oB (yS.sh F qh ql 1) fun c_6 =>
 rec ah al bh bl c_6.1.1 c_6.1.2.1 c_5.1.1 c_5.1.2.1 (i64.wrap (i-1)) a b r4 r5
 else oB (yS.sh F qh ql 0) fun c_7 =>
 rec ah al bh bl c_7.1.1 c_7.1.2.1 c_3.1.1 c_3.1.2.1 (i64.wrap (i-1)) a b r4 r5
 else none
 else oB (yS.sh F rh rl ((al.fdiv (2^(min (u64.wrap (i.tmod 64)).toNat IntKind.u64.bits))).tmod 2)) fun c_8 =>
 oB (yT.sh F c_8.1.1 c_8.1.2.1 bh bl) fun c_9 =>
 bif c_9.1.1 then oB (xG.sh F c_8.1.1 c_8.1.2.1 bh bl) fun c_10 =>
 oB (yS.sh F qh ql 1) fun c_11 =>
 rec ah al bh bl c_11.1.1 c_11.1.2.1 c_10.1.1 c_10.1.2.1 (i64.wrap (i-1)) a b r4 r5
 else oB (yS.sh F qh ql 0) fun c_12 =>
 rec ah al bh bl c_12.1.1 c_12.1.2.1 c_8.1.1 c_8.1.2.1 (i64.wrap (i-1)) a b r4 r5
 else none
 else k0 ah al bh bl qh ql rh rl i (decide (i>=0)) a b r4 r5
def zG.l10 {R:Type} (F:Nat) (k0:zG.l10.K0 R):Nat->zG.l10.T R
 | 0,_,_,_,_,_,_,_,_,_,_,_,_,_=>none
 | fu+1,ah,al,bh,bl,qh,ql,rh,rl,i,a,b,r4,r5=>zG.l10.body F k0 (zG.l10 F k0 fu) ah al bh bl qh ql rh rl i a b r4 r5
def zG.j3 {R:Type} (F:Nat) (k0:Int->zh.T->zh.T->Option R) (k1:Int->zh.T->zh.T->Option R) (a:zh.T) (b:zh.T) (r4:zh.T) (r5:zh.T):Option R :=
 oB (zW.sh F a) fun c_1 =>
 oB (zW.sh F b) fun c_2 =>
 zG.l10 F (fun ah13 al13 bh13 bl13 qh13 ql13 rh13 rl13 i13 t4213 a13 b13 r413 r513=>oB (yd.sh F (!(decide (a13.1<0)==decide (b13.1<0))) qh13 ql13) fun c_14 =>
 bif (c_14.1.2.1 != 0) then k0 c_14.1.2.1 (0,0) (0,0)
 else oB (yd.sh F (decide (a13.1<0)) rh13 rl13) fun c_15 =>
 k1 0 c_14.1.1 c_15.1.1) F c_1.1.1 c_1.1.2.1 c_2.1.1 c_2.1.2.1 0 0 0 0 127 a b r4 r5
def zG.sh (F:Nat) (a:zh.T) (b:zh.T):Option zG.sg.R :=
 bif (b.1==0) then bif (b.2==0) then some (((0,0),(0,0),20,()),())
 else zG.j3 F (fun r616 r416 r516=>some ((r416,r516,r616,()),())) (fun r617 r417 r517=>some ((r417,r517,r617,()),())) a b (0,0) (0,0)
 else zG.j3 F (fun r618 r418 r518=>some ((r418,r518,r618,()),())) (fun r619 r419 r519=>some ((r419,r519,r619,()),())) a b (0,0) (0,0)
def zG.sp (F:Nat):TA zG.sg.args->Option zG.sg.R:=fun x=>zG.sh F x.1 x.2.1
@[reducible] def xC.sg:Sig:={args:=[.d (.g zh),.d (.g zh),.d (.g zh),.d (.c (.int .i64))],res:=[.c .bool]}
def xC.sh (F:Nat) (q:zh.T) (r:zh.T) (b:zh.T) (mode:Int):Option xC.sg.R :=
 oB (zW.sh F r) fun c_1 =>
 oB (zW.sh F b) fun c_2 =>
 oB (xG.sh F c_2.1.1 c_2.1.2.1 c_1.1.1 c_1.1.2.1) fun c_3 =>
 bif (c_1.1.1==c_3.1.1) then bif (c_1.1.2.1==c_3.1.2.1) then bif (mode==3) then some ((true,()),())
 else some ((((q.2.tmod 2)==1),()),())
 else oB (yT.sh F c_1.1.1 c_1.1.2.1 c_3.1.1 c_3.1.2.1) fun c_4 =>
 some ((c_4.1.1,()),())
 else oB (yT.sh F c_1.1.1 c_1.1.2.1 c_3.1.1 c_3.1.2.1) fun c_5 =>
 some ((c_5.1.1,()),())
def xC.sp (F:Nat):TA xC.sg.args->Option xC.sg.R:=fun x=>xC.sh F x.1 x.2.1 x.2.2.1 x.2.2.2.1
@[reducible] def yl.sg:Sig:={args:=[.d (.g zh),.d (.g zh),.d (.c (.int .i64))],res:=[.g zh,.c (.int .i64)]}
def yl.j18 {R:Type} (F:Nat) (k0:Int->zh.T->Option R) (k1:Int->zh.T->Option R) (k2:Int->zh.T->Option R) (below:Bool) (further:Bool) (r6:zh.T) (q:zh.T):Option R :=
 bif !further then k0 0 q
 else bif below then oB (zU.sh F 1) fun c_2 =>
 oB (xO.sh F q c_2.1.1) fun c_3 =>
 k1 c_3.1.2.1 c_3.1.1
 else oB (zU.sh F 1) fun c_4 =>
 oB (yP.sh F q c_4.1.1) fun c_5 =>
 k2 c_5.1.2.1 c_5.1.1
def yl.j8 {R:Type} (F:Nat) (k0:Int->zh.T->Option R) (k1:Int->zh.T->Option R) (k2:Int->zh.T->Option R) (mode:Int) (a:zh.T) (b:zh.T) (r6:zh.T) (q:zh.T) (r:zh.T):Option R :=
 bif (mode==0) then yl.j18 F (fun r76 r66=>k0 r76 r66) (fun r77 r67=>k1 r77 r67) (fun r78 r68=>k2 r78 r68) (!(decide (a.1<0)==decide (b.1<0))) (!(decide (a.1<0)==decide (b.1<0))) r6 q
 else bif (mode==1) then yl.j18 F (fun r79 r69=>k0 r79 r69) (fun r710 r610=>k1 r710 r610) (fun r711 r611=>k2 r711 r611) (!(decide (a.1<0)==decide (b.1<0))) (!(!(decide (a.1<0)==decide (b.1<0)))) r6 q
 else bif (mode==3) then bif (mode==3) then oB (xC.sh F q r b mode) fun c_12 =>
 yl.j18 F (fun r713 r613=>k0 r713 r613) (fun r714 r614=>k1 r714 r614) (fun r715 r615=>k2 r715 r615) (!(decide (a.1<0)==decide (b.1<0))) c_12.1.1 r6 q
 else yl.j18 F (fun r716 r616=>k0 r716 r616) (fun r717 r617=>k1 r717 r617) (fun r718 r618=>k2 r718 r618) (!(decide (a.1<0)==decide (b.1<0))) false r6 q
 else bif (mode==4) then oB (xC.sh F q r b mode) fun c_19 =>
 yl.j18 F (fun r720 r620=>k0 r720 r620) (fun r721 r621=>k1 r721 r621) (fun r722 r622=>k2 r722 r622) (!(decide (a.1<0)==decide (b.1<0))) c_19.1.1 r6 q
 else yl.j18 F (fun r723 r623=>k0 r723 r623) (fun r724 r624=>k1 r724 r624) (fun r725 r625=>k2 r725 r625) (!(decide (a.1<0)==decide (b.1<0))) false r6 q
def yl.sh (F:Nat) (a:zh.T) (b:zh.T) (mode:Int):Option yl.sg.R :=
 bif decide (mode<0) then some (((0,0),1,()),())
 else bif decide (mode>4) then some (((0,0),1,()),())
 else oB (zG.sh F a b) fun c_1 =>
 bif (c_1.1.2.2.1 != 0) then some (((0,0),c_1.1.2.2.1,()),())
 else bif (c_1.1.2.1.1==0) then bif (c_1.1.2.1.2==0) then some ((c_1.1.1,0,()),())
 else yl.j8 F (fun r726 r626=>some ((r626,r726,()),())) (fun r727 r627=>some ((r627,r727,()),())) (fun r728 r628=>some ((r628,r728,()),())) mode a b (0,0) c_1.1.1 c_1.1.2.1
 else yl.j8 F (fun r729 r629=>some ((r629,r729,()),())) (fun r730 r630=>some ((r630,r730,()),())) (fun r731 r631=>some ((r631,r731,()),())) mode a b (0,0) c_1.1.1 c_1.1.2.1
def yl.sp (F:Nat):TA yl.sg.args->Option yl.sg.R:=fun x=>yl.sh F x.1 x.2.1 x.2.2.1
@[reducible] def zT.sg:Sig:={args:=[.d (.g za),.d (.g zh)],res:=[.g zh]}
def zT.sh (F:Nat) (m:za.T) (w:zh.T):Option zT.sg.R :=
 oB (zU.sh F (i64.wrap (10000-m.1.2.1))) fun c_1 =>
 oB (zi.sh F w c_1.1.1) fun c_2 =>
 oB (zU.sh F 10000) fun c_3 =>
 oB (yl.sh F c_2.1.1 c_3.1.1 0) fun c_4 =>
 some ((c_4.1.1,()),())
def zT.sp (F:Nat):TA zT.sg.args->Option zT.sg.R:=fun x=>zT.sh F x.1 x.2.1
@[reducible] def zR.sg:Sig:={args:=[.d (.g za),.d (.b zf),.d (.c (.int .i64))],res:=[.g (.pair zf (.sl zf))]}
def zR.j17 {R:Type} (F:Nat) (k0:(zf.T×List zf.T)->Option R) (k:List zf.T) (is:Bool) (m:za.T) (r6:zf.T×List zf.T):Option R :=
 bif idx 2 k.length then bif idx 0 k.length then oB (yD.sh F (get zf k 0) m.1.2.1) fun c_4 =>
 bif idx 0 k.length then oB (yD.sh F (get zf k 0) (i64.wrap (m.1.2.1-1))) fun c_5 =>
 bif is then bif idx 1 k.length then k0 ((get zf k 1),([c_4.1.1,c_5.1.1]:List zf.T))
 else none
 else k0 ((get zf k 2),([c_4.1.1,c_5.1.1]:List zf.T))
 else none
 else none
 else none
def zR.sh (F:Nat) (m:za.T) (k:List zf.T) (q:Int):Option zR.sg.R :=
 bif idx 0 k.length then oB (xf.sh F (get zf k 0) m.2.2 q) fun c_1 =>
 oB (zU.sh F m.1.2.1) fun c_2 =>
 oB (xu.sh F c_1.1.1 c_2.1.1) fun c_3 =>
 bif (m.1.2.2.1==1) then zR.j17 F (fun r66=>some ((r66,()),())) k (decide (c_3.1.1<0)) m (((0,0),(0,0),0,0),[])
 else bif (m.1.2.2.1==2) then zR.j17 F (fun r67=>some ((r67,()),())) k (decide (c_3.1.1<=0)) m (((0,0),(0,0),0,0),[])
 else bif (m.1.2.2.1==3) then zR.j17 F (fun r68=>some ((r68,()),())) k (decide (c_3.1.1>0)) m (((0,0),(0,0),0,0),[])
 else bif (m.1.2.2.1==4) then zR.j17 F (fun r69=>some ((r69,()),())) k (decide (c_3.1.1>=0)) m (((0,0),(0,0),0,0),[])
 else bif (m.1.2.2.1==5) then zR.j17 F (fun r610=>some ((r610,()),())) k (c_3.1.1==0) m (((0,0),(0,0),0,0),[])
 else bif (m.1.2.2.1==6) then zR.j17 F (fun r611=>some ((r611,()),())) k (c_3.1.1 != 0) m (((0,0),(0,0),0,0),[])
 else zR.j17 F (fun r612=>some ((r612,()),())) k false m (((0,0),(0,0),0,0),[])
 else none
def zR.sp (F:Nat):TA zR.sg.args->Option zR.sg.R:=fun x=>zR.sh F x.1 x.2.1 x.2.2.1
@[reducible] def xt.sg:Sig:={args:=[.d (.g za),.d (.b zf),.d (.c (.int .i64))],res:=[.g (.pair zf (.sl zf))]}
def xt.sh (F:Nat) (m:za.T) (k:List zf.T) (q:Int):Option xt.sg.R :=
 bif (m.1.1==5) then bif idx 0 k.length then oB (zU.sh F (-1)) fun c_1 =>
 oB (xj.sh F (get zf k 0) c_1.1.1) fun c_2 =>
 some (((c_2.1.1,[]),()),())
 else none
 else bif (m.1.1==6) then bif idx 0 k.length then bif idx 1 k.length then oB (wu.sh F (get zf k 0) (get zf k 1)) fun c_3 =>
 some (((c_3.1.1,[]),()),())
 else none
 else none
 else bif (m.1.1==7) then bif idx 0 k.length then bif idx 1 k.length then oB (xx.sh F (get zf k 0) (get zf k 1)) fun c_4 =>
 some (((c_4.1.1,[]),()),())
 else none
 else none
 else bif (m.1.1==8) then bif idx 0 k.length then bif idx 0 k.length then oB (yz.sh F (get zf k 0).1) fun c_5 =>
 bif (((get zf k 0).1.1==c_5.1.1.1.1)&&(((get zf k 0).1.2==c_5.1.1.1.2)&&(((get zf k 0).2.1.1==c_5.1.1.2.1.1)&&(((get zf k 0).2.1.2==c_5.1.1.2.1.2)&&(((get zf k 0).2.2.1==c_5.1.1.2.2.1)&&(((get zf k 0).2.2.2==c_5.1.1.2.2.2)&&true)))))) then bif idx 1 k.length then bif idx 0 k.length then oB (xj.sh F (get zf k 1) (get zf k 0).1) fun c_6 =>
 some (((c_6.1.1,[]),()),())
 else none
 else none
 else bif idx 0 k.length then bif idx 1 k.length then oB (xj.sh F (get zf k 0) (get zf k 1).1) fun c_7 =>
 some (((c_7.1.1,[]),()),())
 else none
 else none
 else none
 else none
 else bif (m.1.1==9) then bif (m.1.1==9) then bif idx 0 k.length then bif idx 1 k.length then oB (xx.sh F (get zf k 0) (get zf k 1)) fun c_8 =>
 bif (m.1.1==10) then oB (zU.sh F (-1)) fun c_9 =>
 oB (xj.sh F c_8.1.1 c_9.1.1) fun c_10 =>
 oB (yh.sh F c_10.1.1 m.2.2 q) fun c_11 =>
 bif c_11.1.1 then bif idx 1 k.length then some ((((get zf k 1),([c_10.1.1]:List zf.T)),()),())
 else none
 else bif idx 0 k.length then some ((((get zf k 0),([c_10.1.1]:List zf.T)),()),())
 else none
 else oB (yh.sh F c_8.1.1 m.2.2 q) fun c_12 =>
 bif c_12.1.1 then bif idx 1 k.length then some ((((get zf k 1),([c_8.1.1]:List zf.T)),()),())
 else none
 else bif idx 0 k.length then some ((((get zf k 0),([c_8.1.1]:List zf.T)),()),())
 else none
 else none
 else none
 else bif (m.1.1==11) then bif (m.1.1==11) then bif idx 0 k.length then oB (yD.sh F (get zf k 0) m.1.2.1) fun c_13 =>
 oB (yh.sh F c_13.1.1 m.2.2 q) fun c_14 =>
 bif (m.1.1==11) then bif c_14.1.1 then bif (m.1.1==12) then bif idx 0 k.length then bif c_14.1.1 then oB (zU.sh F m.1.2.1) fun c_15 =>
 oB (yz.sh F c_15.1.1) fun c_16 =>
 some (((c_16.1.1,([c_13.1.1]:List zf.T)),()),())
 else some ((((get zf k 0),([c_13.1.1]:List zf.T)),()),())
 else none
 else some (((c_13.1.1,([c_13.1.1]:List zf.T)),()),())
 else bif (m.1.1==12) then bif idx 0 k.length then bif c_14.1.1 then oB (zU.sh F m.1.2.1) fun c_17 =>
 oB (yz.sh F c_17.1.1) fun c_18 =>
 some (((c_18.1.1,([c_13.1.1]:List zf.T)),()),())
 else some ((((get zf k 0),([c_13.1.1]:List zf.T)),()),())
 else none
 else some (((((0,0),(0,0),0,0),([c_13.1.1]:List zf.T)),()),())
 else bif (m.1.1==12) then bif idx 0 k.length then bif c_14.1.1 then oB (zU.sh F m.1.2.1) fun c_19 =>
 oB (yz.sh F c_19.1.1) fun c_20 =>
 some (((c_20.1.1,([c_13.1.1]:List zf.T)),()),())
 else some ((((get zf k 0),([c_13.1.1]:List zf.T)),()),())
 else none
 else some (((((0,0),(0,0),0,0),([c_13.1.1]:List zf.T)),()),())
 else none
 else bif (m.1.1==13) then bif (m.1.1==13) then bif idx 0 k.length then oB (ze.sh F m (get zf k 0) q) fun c_21 =>
 some ((c_21.1.1,()),())
 else none
 else bif (m.1.1==15) then bif idx 0 k.length then oB (zT.sh F m (get zf k 0).1) fun c_22 =>
 bif idx 0 k.length then oB (zT.sh F m (get zf k 0).2.1) fun c_23 =>
 bif idx 0 k.length then oB (zT.sh F m (get zf k 0).2.2) fun c_24 =>
 some ((((c_22.1.1,c_23.1.1,c_24.1.1),[]),()),())
 else none
 else none
 else none
 else oB (zR.sh F m k q) fun c_25 =>
 some ((c_25.1.1,()),())
 else bif (m.1.1==14) then bif idx 0 k.length then oB (ze.sh F m (get zf k 0) q) fun c_26 =>
 some ((c_26.1.1,()),())
 else none
 else bif (m.1.1==15) then bif idx 0 k.length then oB (zT.sh F m (get zf k 0).1) fun c_27 =>
 bif idx 0 k.length then oB (zT.sh F m (get zf k 0).2.1) fun c_28 =>
 bif idx 0 k.length then oB (zT.sh F m (get zf k 0).2.2) fun c_29 =>
 some ((((c_27.1.1,c_28.1.1,c_29.1.1),[]),()),())
 else none
 else none
 else none
 else oB (zR.sh F m k q) fun c_30 =>
 some ((c_30.1.1,()),())
 else bif (m.1.1==12) then bif idx 0 k.length then oB (yD.sh F (get zf k 0) m.1.2.1) fun c_31 =>
 oB (yh.sh F c_31.1.1 m.2.2 q) fun c_32 =>
 bif (m.1.1==11) then bif c_32.1.1 then bif (m.1.1==12) then bif idx 0 k.length then bif c_32.1.1 then oB (zU.sh F m.1.2.1) fun c_33 =>
 oB (yz.sh F c_33.1.1) fun c_34 =>
 some (((c_34.1.1,([c_31.1.1]:List zf.T)),()),())
 else some ((((get zf k 0),([c_31.1.1]:List zf.T)),()),())
 else none
 else some (((c_31.1.1,([c_31.1.1]:List zf.T)),()),())
 else bif (m.1.1==12) then bif idx 0 k.length then bif c_32.1.1 then oB (zU.sh F m.1.2.1) fun c_35 =>
 oB (yz.sh F c_35.1.1) fun c_36 =>
 some (((c_36.1.1,([c_31.1.1]:List zf.T)),()),())
 else some ((((get zf k 0),([c_31.1.1]:List zf.T)),()),())
 else none
 else some (((((0,0),(0,0),0,0),([c_31.1.1]:List zf.T)),()),())
 else bif (m.1.1==12) then bif idx 0 k.length then bif c_32.1.1 then oB (zU.sh F m.1.2.1) fun c_37 =>
 oB (yz.sh F c_37.1.1) fun c_38 =>
 some (((c_38.1.1,([c_31.1.1]:List zf.T)),()),())
 else some ((((get zf k 0),([c_31.1.1]:List zf.T)),()),())
 else none
 else some (((((0,0),(0,0),0,0),([c_31.1.1]:List zf.T)),()),())
 else none
 else bif (m.1.1==13) then bif (m.1.1==13) then bif idx 0 k.length then oB (ze.sh F m (get zf k 0) q) fun c_39 =>
 some ((c_39.1.1,()),())
 else none
 else bif (m.1.1==15) then bif idx 0 k.length then oB (zT.sh F m (get zf k 0).1) fun c_40 =>
 bif idx 0 k.length then oB (zT.sh F m (get zf k 0).2.1) fun c_41 =>
 bif idx 0 k.length then oB (zT.sh F m (get zf k 0).2.2) fun c_42 =>
 some ((((c_40.1.1,c_41.1.1,c_42.1.1),[]),()),())
 else none
 else none
 else none
 else oB (zR.sh F m k q) fun c_43 =>
 some ((c_43.1.1,()),())
 else bif (m.1.1==14) then bif idx 0 k.length then oB (ze.sh F m (get zf k 0) q) fun c_44 =>
 some ((c_44.1.1,()),())
 else none
 else bif (m.1.1==15) then bif idx 0 k.length then oB (zT.sh F m (get zf k 0).1) fun c_45 =>
 bif idx 0 k.length then oB (zT.sh F m (get zf k 0).2.1) fun c_46 =>
 bif idx 0 k.length then oB (zT.sh F m (get zf k 0).2.2) fun c_47 =>
 some ((((c_45.1.1,c_46.1.1,c_47.1.1),[]),()),())
 else none
 else none
 else none
 else oB (zR.sh F m k q) fun c_48 =>
 some ((c_48.1.1,()),())
 else bif (m.1.1==10) then bif idx 0 k.length then bif idx 1 k.length then oB (xx.sh F (get zf k 0) (get zf k 1)) fun c_49 =>
 bif (m.1.1==10) then oB (zU.sh F (-1)) fun c_50 =>
 oB (xj.sh F c_49.1.1 c_50.1.1) fun c_51 =>
 oB (yh.sh F c_51.1.1 m.2.2 q) fun c_52 =>
 bif c_52.1.1 then bif idx 1 k.length then some ((((get zf k 1),([c_51.1.1]:List zf.T)),()),())
 else none
 else bif idx 0 k.length then some ((((get zf k 0),([c_51.1.1]:List zf.T)),()),())
 else none
 else oB (yh.sh F c_49.1.1 m.2.2 q) fun c_53 =>
 bif c_53.1.1 then bif idx 1 k.length then some ((((get zf k 1),([c_49.1.1]:List zf.T)),()),())
 else none
 else bif idx 0 k.length then some ((((get zf k 0),([c_49.1.1]:List zf.T)),()),())
 else none
 else none
 else none
 else bif (m.1.1==11) then bif (m.1.1==11) then bif idx 0 k.length then oB (yD.sh F (get zf k 0) m.1.2.1) fun c_54 =>
 oB (yh.sh F c_54.1.1 m.2.2 q) fun c_55 =>
 bif (m.1.1==11) then bif c_55.1.1 then bif (m.1.1==12) then bif idx 0 k.length then bif c_55.1.1 then oB (zU.sh F m.1.2.1) fun c_56 =>
 oB (yz.sh F c_56.1.1) fun c_57 =>
 some (((c_57.1.1,([c_54.1.1]:List zf.T)),()),())
 else some ((((get zf k 0),([c_54.1.1]:List zf.T)),()),())
 else none
 else some (((c_54.1.1,([c_54.1.1]:List zf.T)),()),())
 else bif (m.1.1==12) then bif idx 0 k.length then bif c_55.1.1 then oB (zU.sh F m.1.2.1) fun c_58 =>
 oB (yz.sh F c_58.1.1) fun c_59 =>
 some (((c_59.1.1,([c_54.1.1]:List zf.T)),()),())
 else some ((((get zf k 0),([c_54.1.1]:List zf.T)),()),())
 else none
 else some (((((0,0),(0,0),0,0),([c_54.1.1]:List zf.T)),()),())
 else bif (m.1.1==12) then bif idx 0 k.length then bif c_55.1.1 then oB (zU.sh F m.1.2.1) fun c_60 =>
 oB (yz.sh F c_60.1.1) fun c_61 =>
 some (((c_61.1.1,([c_54.1.1]:List zf.T)),()),())
 else some ((((get zf k 0),([c_54.1.1]:List zf.T)),()),())
 else none
 else some (((((0,0),(0,0),0,0),([c_54.1.1]:List zf.T)),()),())
 else none
 else bif (m.1.1==13) then bif (m.1.1==13) then bif idx 0 k.length then oB (ze.sh F m (get zf k 0) q) fun c_62 =>
 some ((c_62.1.1,()),())
 else none
 else bif (m.1.1==15) then bif idx 0 k.length then oB (zT.sh F m (get zf k 0).1) fun c_63 =>
 bif idx 0 k.length then oB (zT.sh F m (get zf k 0).2.1) fun c_64 =>
 bif idx 0 k.length then oB (zT.sh F m (get zf k 0).2.2) fun c_65 =>
 some ((((c_63.1.1,c_64.1.1,c_65.1.1),[]),()),())
 else none
 else none
 else none
 else oB (zR.sh F m k q) fun c_66 =>
 some ((c_66.1.1,()),())
 else bif (m.1.1==14) then bif idx 0 k.length then oB (ze.sh F m (get zf k 0) q) fun c_67 =>
 some ((c_67.1.1,()),())
 else none
 else bif (m.1.1==15) then bif idx 0 k.length then oB (zT.sh F m (get zf k 0).1) fun c_68 =>
 bif idx 0 k.length then oB (zT.sh F m (get zf k 0).2.1) fun c_69 =>
 bif idx 0 k.length then oB (zT.sh F m (get zf k 0).2.2) fun c_70 =>
 some ((((c_68.1.1,c_69.1.1,c_70.1.1),[]),()),())
 else none
 else none
 else none
 else oB (zR.sh F m k q) fun c_71 =>
 some ((c_71.1.1,()),())
 else bif (m.1.1==12) then bif idx 0 k.length then oB (yD.sh F (get zf k 0) m.1.2.1) fun c_72 =>
 oB (yh.sh F c_72.1.1 m.2.2 q) fun c_73 =>
 bif (m.1.1==11) then bif c_73.1.1 then bif (m.1.1==12) then bif idx 0 k.length then bif c_73.1.1 then oB (zU.sh F m.1.2.1) fun c_74 =>
 oB (yz.sh F c_74.1.1) fun c_75 =>
 some (((c_75.1.1,([c_72.1.1]:List zf.T)),()),())
 else some ((((get zf k 0),([c_72.1.1]:List zf.T)),()),())
 else none
 else some (((c_72.1.1,([c_72.1.1]:List zf.T)),()),())
 else bif (m.1.1==12) then bif idx 0 k.length then bif c_73.1.1 then oB (zU.sh F m.1.2.1) fun c_76 =>
 oB (yz.sh F c_76.1.1) fun c_77 =>
 some (((c_77.1.1,([c_72.1.1]:List zf.T)),()),())
 else some ((((get zf k 0),([c_72.1.1]:List zf.T)),()),())
 else none
 else some (((((0,0),(0,0),0,0),([c_72.1.1]:List zf.T)),()),())
 else bif (m.1.1==12) then bif idx 0 k.length then bif c_73.1.1 then oB (zU.sh F m.1.2.1) fun c_78 =>
 oB (yz.sh F c_78.1.1) fun c_79 =>
 some (((c_79.1.1,([c_72.1.1]:List zf.T)),()),())
 else some ((((get zf k 0),([c_72.1.1]:List zf.T)),()),())
 else none
 else some (((((0,0),(0,0),0,0),([c_72.1.1]:List zf.T)),()),())
 else none
 else bif (m.1.1==13) then bif (m.1.1==13) then bif idx 0 k.length then oB (ze.sh F m (get zf k 0) q) fun c_80 =>
 some ((c_80.1.1,()),())
 else none
 else bif (m.1.1==15) then bif idx 0 k.length then oB (zT.sh F m (get zf k 0).1) fun c_81 =>
 bif idx 0 k.length then oB (zT.sh F m (get zf k 0).2.1) fun c_82 =>
 bif idx 0 k.length then oB (zT.sh F m (get zf k 0).2.2) fun c_83 =>
 some ((((c_81.1.1,c_82.1.1,c_83.1.1),[]),()),())
 else none
 else none
 else none
 else oB (zR.sh F m k q) fun c_84 =>
 some ((c_84.1.1,()),())
 else bif (m.1.1==14) then bif idx 0 k.length then oB (ze.sh F m (get zf k 0) q) fun c_85 =>
 some ((c_85.1.1,()),())
 else none
 else bif (m.1.1==15) then bif idx 0 k.length then oB (zT.sh F m (get zf k 0).1) fun c_86 =>
 bif idx 0 k.length then oB (zT.sh F m (get zf k 0).2.1) fun c_87 =>
 bif idx 0 k.length then oB (zT.sh F m (get zf k 0).2.2) fun c_88 =>
 some ((((c_86.1.1,c_87.1.1,c_88.1.1),[]),()),())
 else none
 else none
 else none
 else oB (zR.sh F m k q) fun c_89 =>
 some ((c_89.1.1,()),())
def xt.sp (F:Nat):TA xt.sg.args->Option xt.sg.R:=fun x=>xt.sh F x.1 x.2.1 x.2.2.1
@[reducible] def wE.sg:Sig:={args:=[.d (.g zh)],res:=[.g zh,.c (.int .i64)]}
def wE.sh (F:Nat) (a:zh.T):Option wE.sg.R :=
 oB (zy.sh F a) fun c_1 =>
 oB (zM.sh F c_1.1.1) fun c_2 =>
 oB (yH.sh F c_2.1.1) fun c_3 =>
 some ((c_3.1.1,c_3.1.2.1,()),())
def wE.sp (F:Nat):TA wE.sg.args->Option wE.sg.R:=fun x=>wE.sh F x.1
@[reducible] def wk.sg:Sig:={args:=[.d (.g zh)],res:=[.g zh,.c (.int .i64)]}
def wk.sh (F:Nat) (w:zh.T):Option wk.sg.R :=
 bif decide (w.1<0) then oB (wE.sh F w) fun c_1 =>
 some ((c_1.1.1,c_1.1.2.1,()),())
 else some ((w,0,()),())
def wk.sp (F:Nat):TA wk.sg.args->Option wk.sg.R:=fun x=>wk.sh F x.1
@[reducible] def wn.sg:Sig:={args:=[.d (.g zf),.d (.c (.int .i64))],res:=[.g zh,.c (.int .i64)]}
def wn.sh (F:Nat) (l:zf.T) (size:Int):Option wn.sg.R :=
 oB (xF.sh F size 0) fun c_1 =>
 bif !c_1.1.1 then some (((0,0),1,()),())
 else oB (wk.sh F l.1) fun c_2 =>
 oB (wk.sh F l.2.1) fun c_3 =>
 oB (wk.sh F l.2.2) fun c_4 =>
 bif (c_2.1.2.1 != 0) then some (((0,0),10,()),())
 else bif (c_3.1.2.1 != 0) then some (((0,0),10,()),())
 else bif (c_4.1.2.1 != 0) then some (((0,0),10,()),())
 else oB (xf.sh F (c_2.1.1,c_3.1.1,c_4.1.1) size 1099511627776) fun c_5 =>
 some ((c_5.1.1,c_5.1.2.1,()),())
def wn.sp (F:Nat):TA wn.sg.args->Option wn.sg.R:=fun x=>wn.sh F x.1 x.2.1
@[reducible] def xU.sg:Sig:={args:=[.d (.c (.int .i64)),.d (.c (.int .i64))],res:=[.c (.int .i64),.c (.int .i64)]}
def xU.sh (F:Nat) (size:Int) (k:Int):Option xU.sg.R :=
 bif (size != 0) then bif decide (k<=(i64.wrap ((1099511627776:Int).tdiv size))) then some ((i64.wrap ((i64.wrap ((i64.wrap (k-1))*size))+1),i64.wrap (k*size),()),())
 else some ((i64.wrap ((i64.wrap ((i64.wrap (k-1))*size))+1),1099511627776,()),())
 else none
def xU.sp (F:Nat):TA xU.sg.args->Option xU.sg.R:=fun x=>xU.sh F x.1 x.2.1
@[reducible] def ye.sg:Sig:={args:=[.d (.g zf),.d (.c (.int .i64)),.d (.c (.int .i64)),.d (.c (.int .i64)),.d (.c .bool)],res:=[.c (.int .i64)]}
abbrev ye.l1.K0 (R:Type):Type:=Int->Int->Int->Bool->Bool->zf.T->Option R
abbrev ye.l1.T (R:Type):Type:=Int->Int->Int->Bool->zf.T->Option R
def ye.l1.body {R:Type} (F:Nat) (k0:ye.l1.K0 R) (rec:ye.l1.T R) (size:Int) (lo:Int) (hi:Int) (was:Bool) (l:zf.T):Option R :=
 bif decide (lo<hi) then oB (yh.sh F l size (i64.wrap (lo+(i64.wrap ((i64.wrap (hi-lo)).tdiv 2))))) fun c_1 =>
 bif (!(c_1.1.1==was)) then rec size lo (i64.wrap (lo+(i64.wrap ((i64.wrap (hi-lo)).tdiv 2)))) was l
 else rec size (i64.wrap ((i64.wrap (lo+(i64.wrap ((i64.wrap (hi-lo)).tdiv 2))))+1)) hi was l
 else k0 size lo hi was (decide (lo<hi)) l
def ye.l1 {R:Type} (F:Nat) (k0:ye.l1.K0 R):Nat->ye.l1.T R
 | 0,_,_,_,_,_=>none
 | fu+1,size,lo,hi,was,l=>ye.l1.body F k0 (ye.l1 F k0 fu) size lo hi was l
def ye.sh (F:Nat) (l:zf.T) (size:Int) (lo:Int) (hi:Int) (was:Bool):Option ye.sg.R :=
 ye.l1 F (fun size2 lo2 hi2 was2 t142 l2=>some ((lo2,()),())) F size lo hi was l
def ye.sp (F:Nat):TA ye.sg.args->Option ye.sg.R:=fun x=>ye.sh F x.1 x.2.1 x.2.2.1 x.2.2.2.1 x.2.2.2.2.1
@[reducible] def xz.sg:Sig:={args:=[.d (.g zf),.d (.c (.int .i64)),.d (.c (.int .i64)),.d (.c .bool)],res:=[.c .bool]}
def xz.sh (F:Nat) (l:zf.T) (size:Int) (k:Int) (was:Bool):Option xz.sg.R :=
 oB (xU.sh F size k) fun c_1 =>
 oB (yh.sh F l size c_1.1.1) fun c_2 =>
 bif (!(c_2.1.1==was)) then some ((true,()),())
 else oB (yh.sh F l size c_1.1.2.1) fun c_3 =>
 some (((!(c_3.1.1==was)),()),())
def xz.sp (F:Nat):TA xz.sg.args->Option xz.sg.R:=fun x=>xz.sh F x.1 x.2.1 x.2.2.1 x.2.2.2.1
@[reducible] def zC.sg:Sig:={args:=[.d (.g zf),.d (.c (.int .i64)),.d (.c (.int .i64))],res:=[.c (.int .i64),.c (.int .i64)]}
abbrev zC.l18.K0 (R:Type):Type:=Int->Bool->Int->Int->Int->Bool->zf.T->Option R
abbrev zC.l18.T (R:Type):Type:=Int->Bool->Int->Int->Int->zf.T->Option R
def zC.l18.body {R:Type} (F:Nat) (k0:zC.l18.K0 R) (rec:zC.l18.T R) (size:Int) (was:Bool) (last:Int) (j:Int) (lo:Int) (l:zf.T):Option R :=
 bif decide (lo<j) then oB (xz.sh F l size (i64.wrap (lo+(i64.wrap ((i64.wrap (j-lo)).tdiv 2)))) was) fun c_12 =>
 bif c_12.1.1 then rec size was last (i64.wrap (lo+(i64.wrap ((i64.wrap (j-lo)).tdiv 2)))) lo l
 else rec size was last j (i64.wrap ((i64.wrap (lo+(i64.wrap ((i64.wrap (j-lo)).tdiv 2))))+1)) l
 else k0 size was last j lo (decide (lo<j)) l
def zC.l18 {R:Type} (F:Nat) (k0:zC.l18.K0 R):Nat->zC.l18.T R
 | 0,_,_,_,_,_,_=>none
 | fu+1,size,was,last,j,lo,l=>zC.l18.body F k0 (zC.l18 F k0 fu) size was last j lo l
def zC.j24 {R:Type} (F:Nat) (k0:Int->Int->Option R) (k1:Int->Int->Option R) (k2:Int->Int->Option R) (size:Int) (was:Bool) (last:Int) (j:Int) (l:zf.T):Option R :=
 bif decide (j>last) then k0 1099511627777 0
 else oB (xz.sh F l size j was) fun c_14 =>
 bif !c_14.1.1 then k0 1099511627777 0
 else oB (xU.sh F size j) fun c_15 =>
 oB (yh.sh F l size c_15.1.1) fun c_16 =>
 bif (!(c_16.1.1==was)) then k1 c_15.1.1 0
 else oB (ye.sh F l size c_15.1.1 c_15.1.2.1 was) fun c_17 =>
 k2 c_17.1.1 0
def zC.j13 {R:Type} (F:Nat) (k0:Int->Int->Option R) (k1:Int->Int->Option R) (k2:Int->Int->Option R) (size:Int) (was:Bool) (last:Int) (k:Int) (l:zf.T):Option R :=
 bif decide ((i64.wrap (k+1))<last) then oB (xz.sh F l size (i64.wrap (k+1)) was) fun c_10 =>
 bif !c_10.1.1 then oB (xz.sh F l size (i64.wrap (last-1)) was) fun c_11 =>
 bif c_11.1.1 then zC.l18 F (fun size13 was13 last13 j13 lo13 t9713 l13=>zC.j24 F (fun r618 r718=>k0 r618 r718) (fun r619 r719=>k1 r619 r719) (fun r620 r720=>k2 r620 r720) size13 was13 last13 j13 l13) F size was last (i64.wrap (last-1)) (i64.wrap (k+1)) l
 else zC.j24 F (fun r621 r721=>k0 r621 r721) (fun r622 r722=>k1 r622 r722) (fun r623 r723=>k2 r623 r723) size was last last l
 else zC.j24 F (fun r624 r724=>k0 r624 r724) (fun r625 r725=>k1 r625 r725) (fun r626 r726=>k2 r626 r726) size was last (i64.wrap (k+1)) l
 else zC.j24 F (fun r627 r727=>k0 r627 r727) (fun r628 r728=>k1 r628 r728) (fun r629 r729=>k2 r629 r729) size was last (i64.wrap (k+1)) l
def zC.sh (F:Nat) (l:zf.T) (size:Int) (q:Int):Option zC.sg.R :=
 oB (xF.sh F size q) fun c_1 =>
 bif !c_1.1.1 then some ((0,1,()),())
 else oB (wn.sh F l size) fun c_2 =>
 bif (c_2.1.2.1 != 0) then some ((0,10,()),())
 else oB (xu.sh F c_2.1.1 (4611686018427387904,0)) fun c_3 =>
 bif decide (c_3.1.1>0) then some ((0,10,()),())
 else oB (yh.sh F l size q) fun c_4 =>
 oB (yL.sh F 1099511627776 size) fun c_5 =>
 oB (yL.sh F q size) fun c_6 =>
 bif decide (c_6.1.1>0) then oB (xU.sh F size c_6.1.1) fun c_7 =>
 bif decide (q<c_7.1.2.1) then oB (yh.sh F l size c_7.1.2.1) fun c_8 =>
 bif (!(c_8.1.1==c_4.1.1)) then oB (ye.sh F l size (i64.wrap (q+1)) c_7.1.2.1 c_4.1.1) fun c_9 =>
 some ((c_9.1.1,0,()),())
 else zC.j13 F (fun r630 r730=>some ((r630,r730,()),())) (fun r631 r731=>some ((r631,r731,()),())) (fun r632 r732=>some ((r632,r732,()),())) size c_4.1.1 c_5.1.1 c_6.1.1 l
 else zC.j13 F (fun r633 r733=>some ((r633,r733,()),())) (fun r634 r734=>some ((r634,r734,()),())) (fun r635 r735=>some ((r635,r735,()),())) size c_4.1.1 c_5.1.1 c_6.1.1 l
 else zC.j13 F (fun r636 r736=>some ((r636,r736,()),())) (fun r637 r737=>some ((r637,r737,()),())) (fun r638 r738=>some ((r638,r738,()),())) size c_4.1.1 c_5.1.1 c_6.1.1 l
def zC.sp (F:Nat):TA zC.sg.args->Option zC.sg.R:=fun x=>zC.sh F x.1 x.2.1 x.2.2.1
@[reducible] def zd.sg:Sig:={args:=[.d (.g za),.d (.b (.sl zo))],res:=[.c (.sl zo),.c .bool]}
abbrev zd.l8.K0 (R:Type):Type:=(List (List zo.T))->Int->Int->Int->Int->Bool->za.T->(List zo.T)->(List zf.T)->Option R
abbrev zd.l8.T (R:Type):Type:=(List (List zo.T))->Int->Int->Int->Int->za.T->(List zo.T)->(List zf.T)->Option R
def zd.l8.body {R:Type} (F:Nat) (k0:zd.l8.K0 R) (rec:zd.l8.T R) (kids:List (List zo.T)) (q:Int) (runs:Int) (next:Int) (i:Int) (m:za.T) (out:List zo.T) (k:List zf.T):Option R :=
 bif decide (i<(kids.length:Int)) then bif idx i kids.length then oB (yw.sh F (get (.sl zo) kids i.toNat) q) fun c_1 =>
 bif idx i kids.length then bif idx c_1.1.1 ((get (.sl zo) kids i.toNat).length) then bif Nat.ble (k.length+([(get zo (get (.sl zo) kids i.toNat) c_1.1.1.toNat).2]:List zf.T).length) vc then bif idx i kids.length then bif decide (c_1.1.1<(i64.wrap (((get (.sl zo) kids i.toNat).length:Int)-1))) then bif idx i kids.length then bif idx (i64.wrap (c_1.1.1+1)) ((get (.sl zo) kids i.toNat).length) then bif decide ((get zo (get (.sl zo) kids i.toNat) ((i64.wrap (c_1.1.1+1)).toNat)).1<next) then bif idx i kids.length then bif idx (i64.wrap (c_1.1.1+1)) ((get (.sl zo) kids i.toNat).length) then rec kids q runs (get zo (get (.sl zo) kids i.toNat) ((i64.wrap (c_1.1.1+1)).toNat)).1 (i64.wrap (i+1)) m out (k++([(get zo (get (.sl zo) kids i.toNat) c_1.1.1.toNat).2]:List zf.T))
 else none
 else none
 else rec kids q runs next (i64.wrap (i+1)) m out (k++([(get zo (get (.sl zo) kids i.toNat) c_1.1.1.toNat).2]:List zf.T))
 else none
 else none
 else rec kids q runs next (i64.wrap (i+1)) m out (k++([(get zo (get (.sl zo) kids i.toNat) c_1.1.1.toNat).2]:List zf.T))
 else none
 else none
 else none
 else none
 else none
 else k0 kids q runs next i (decide (i<(kids.length:Int))) m out k
def zd.l8 {R:Type} (F:Nat) (k0:zd.l8.K0 R):Nat->zd.l8.T R
 | 0,_,_,_,_,_,_,_,_=>none
 | fu+1,kids,q,runs,next,i,m,out,k=>zd.l8.body F k0 (zd.l8 F k0 fu) kids q runs next i m out k
abbrev zd.l16.K0 (R:Type):Type:=(List (List zo.T))->Int->Int->Int->Int->Bool->za.T->(zf.T×List zf.T)->(List zo.T)->Option R
abbrev zd.l16.T (R:Type):Type:=(List (List zo.T))->Int->Int->Int->Int->za.T->(zf.T×List zf.T)->(List zo.T)->Option R
def zd.l16.body {R:Type} (F:Nat) (k0:zd.l16.K0 R) (rec:zd.l16.T R) (kids:List (List zo.T)) (q:Int) (runs:Int) (next:Int) (i:Int) (m:za.T) (g:zf.T×List zf.T) (out:List zo.T):Option R :=
 bif decide (i<(g.2.length:Int)) then bif idx i g.2.length then oB (zC.sh F (get zf g.2 i.toNat) m.2.2 q) fun c_4 =>
 bif decide (c_4.1.1<next) then rec kids q runs c_4.1.1 (i64.wrap (i+1)) m g out
 else rec kids q runs next (i64.wrap (i+1)) m g out
 else none
 else k0 kids q runs next i (decide (i<(g.2.length:Int))) m g out
def zd.l16 {R:Type} (F:Nat) (k0:zd.l16.K0 R):Nat->zd.l16.T R
 | 0,_,_,_,_,_,_,_,_=>none
 | fu+1,kids,q,runs,next,i,m,g,out=>zd.l16.body F k0 (zd.l16 F k0 fu) kids q runs next i m g out
abbrev zd.l4.K0 (R:Type):Type:=(List zo.T)->Bool->Option R
abbrev zd.l4.K1 (R:Type):Type:=(List (List zo.T))->Int->Int->Bool->za.T->(List zo.T)->Option R
abbrev zd.l4.T (R:Type):Type:=(List (List zo.T))->Int->Int->za.T->(List zo.T)->Option R
def zd.l4.body {R:Type} (F:Nat) (k0:zd.l4.K0 R) (k1:zd.l4.K1 R) (rec:zd.l4.T R) (kids:List (List zo.T)) (q:Int) (runs:Int) (m:za.T) (out:List zo.T):Option R :=
 bif decide (q<=1099511627776) then zd.l8 F (fun kids2 q2 runs2 next2 i2 t222 m2 out2 k2=>oB (xt.sh F m2 k2 q2) fun c_3 =>
 zd.l16 F (fun kids5 q5 runs5 next5 i5 t805 m5 g5 out5=>bif ((out5.length:Int)==0) then bif Nat.ble (out5.length+([(q5,g5.1)]:List zo.T).length) vc then bif decide ((i64.wrap (runs5+1))>4096) then k0 ([]) false
 else bif decide (((out5++([(q5,g5.1)]:List zo.T)).length:Int)>256) then k0 ([]) false
 else rec kids5 next5 (i64.wrap (runs5+1)) m5 (out5++([(q5,g5.1)]:List zo.T))
 else none
 else bif idx (i64.wrap ((out5.length:Int)-1)) out5.length then bif !(((get zo out5 ((i64.wrap ((out5.length:Int)-1)).toNat)).2.1.1==g5.1.1.1)&&(((get zo out5 ((i64.wrap ((out5.length:Int)-1)).toNat)).2.1.2==g5.1.1.2)&&(((get zo out5 ((i64.wrap ((out5.length:Int)-1)).toNat)).2.2.1.1==g5.1.2.1.1)&&(((get zo out5 ((i64.wrap ((out5.length:Int)-1)).toNat)).2.2.1.2==g5.1.2.1.2)&&(((get zo out5 ((i64.wrap ((out5.length:Int)-1)).toNat)).2.2.2.1==g5.1.2.2.1)&&(((get zo out5 ((i64.wrap ((out5.length:Int)-1)).toNat)).2.2.2.2==g5.1.2.2.2)&&true)))))) then bif Nat.ble (out5.length+([(q5,g5.1)]:List zo.T).length) vc then bif decide ((i64.wrap (runs5+1))>4096) then k0 ([]) false
 else bif decide (((out5++([(q5,g5.1)]:List zo.T)).length:Int)>256) then k0 ([]) false
 else rec kids5 next5 (i64.wrap (runs5+1)) m5 (out5++([(q5,g5.1)]:List zo.T))
 else none
 else bif decide ((i64.wrap (runs5+1))>4096) then k0 ([]) false
 else bif decide ((out5.length:Int)>256) then k0 ([]) false
 else rec kids5 next5 (i64.wrap (runs5+1)) m5 out5
 else none) F kids2 q2 runs2 next2 0 m2 c_3.1.1 out2) F kids q runs 1099511627777 0 m out ([])
 else k1 kids q runs (decide (q<=1099511627776)) m out
def zd.l4 {R:Type} (F:Nat) (k0:zd.l4.K0 R) (k1:zd.l4.K1 R):Nat->zd.l4.T R
 | 0,_,_,_,_,_=>none
 | fu+1,kids,q,runs,m,out=>zd.l4.body F k0 k1 (zd.l4 F k0 k1 fu) kids q runs m out
def zd.j27 {R:Type} (F:Nat) (k0:(List zo.T)->Bool->Option R) (out:List zo.T):Option R :=
 k0 out true
def zd.sh (F:Nat) (m:za.T) (kids:List (List zo.T)):Option zd.sg.R :=
 zd.l4 F (fun r46 r56=>some ((r46,r56,()),())) (fun kids7 q7 runs7 t187 m7 out7=>zd.j27 F (fun r48 r58=>some ((r48,r58,()),())) out7) F kids 0 0 m ([])
def zd.sp (F:Nat):TA zd.sg.args->Option zd.sg.R:=fun x=>zd.sh F x.1 x.2.1
@[reducible] def zr.sg:Sig:={args:=[.d (.g za),.d (.b (.sl zo))],res:=[.c (.sl zo),.c .bool]}
abbrev zr.l5.K0 (R:Type):Type:=(List zo.T)->Bool->Option R
abbrev zr.l5.K1 (R:Type):Type:=(List (List zo.T))->(List zo.T)->Int->Bool->za.T->Option R
abbrev zr.l5.T (R:Type):Type:=(List (List zo.T))->(List zo.T)->Int->za.T->Option R
def zr.l5.body {R:Type} (F:Nat) (k0:zr.l5.K0 R) (k1:zr.l5.K1 R) (rec:zr.l5.T R) (kids:List (List zo.T)) (l:List zo.T) (i:Int) (m:za.T):Option R :=
 bif decide (i<(kids.length:Int)) then bif idx i kids.length then oB (zd.sh F m ([l,get (.sl zo) kids i.toNat]:List (List zo.T))) fun c_2 =>
 bif !c_2.1.2.1 then k0 ([]) false
 else rec kids c_2.1.1 (i64.wrap (i+1)) m
 else none
 else k1 kids l i (decide (i<(kids.length:Int))) m
def zr.l5 {R:Type} (F:Nat) (k0:zr.l5.K0 R) (k1:zr.l5.K1 R):Nat->zr.l5.T R
 | 0,_,_,_,_=>none
 | fu+1,kids,l,i,m=>zr.l5.body F k0 k1 (zr.l5 F k0 k1 fu) kids l i m
def zr.j3 {R:Type} (F:Nat) (k0:(List zo.T)->Bool->Option R) (k1:(List zo.T)->Bool->Option R) (kids:List (List zo.T)) (m:za.T):Option R :=
 bif idx 0 kids.length then zr.l5 F (fun r43 r53=>k0 r43 r53) (fun kids4 l4 i4 t314 m4=>k1 l4 true) F kids (get (.sl zo) kids 0) 1 m
 else none
def zr.sh (F:Nat) (m:za.T) (kids:List (List zo.T)):Option zr.sg.R :=
 bif (m.1.1 != 9) then bif (m.1.1 != 10) then oB (zd.sh F m kids) fun c_1 =>
 some ((c_1.1.1,c_1.1.2.1,()),())
 else zr.j3 F (fun r45 r55=>some ((r45,r55,()),())) (fun r46 r56=>some ((r46,r56,()),())) kids m
 else zr.j3 F (fun r47 r57=>some ((r47,r57,()),())) (fun r48 r58=>some ((r48,r58,()),())) kids m
def zr.sp (F:Nat):TA zr.sg.args->Option zr.sg.R:=fun x=>zr.sh F x.1 x.2.1
@[reducible] def zF.sg:Sig:={args:=[.d (.g yr)],res:=[.g wY,.c (.int .i64),.c (.int .i64)]}
abbrev zF.l8.K0 (R:Type):Type:=Int->Int->wY.T->Option R
abbrev zF.l8.K1 (R:Type):Type:=Int->Bool->yr.T->wY.T->zh.T->(List (List zo.T))->Option R
abbrev zF.l8.T (R:Type):Type:=Int->yr.T->wY.T->zh.T->(List (List zo.T))->Option R
def zF.l8.body {R:Type} (F:Nat) (k0:zF.l8.K0 R) (k1:zF.l8.K1 R) (rec:zF.l8.T R) (i:Int) (p:yr.T) (r2:wY.T) (unit:zh.T) (pile:List (List zo.T)):Option R :=
 bif decide (i<(p.2.2.2.length:Int)) then bif idx i p.2.2.2.length then oB (zv.sh F (get zx p.2.2.2 i.toNat)) fun c_2 =>
 bif (c_2.1.1==0) then bif idx i p.2.2.2.length then oB (wm.sh F (get zx p.2.2.2 i.toNat) unit) fun c_3 =>
 bif Nat.ble (pile.length+([c_3.1.1]:List (List zo.T)).length) vc then rec (i64.wrap (i+1)) p r2 unit (pile++([c_3.1.1]:List (List zo.T)))
 else none
 else none
 else bif idx i p.2.2.2.length then bif idx 0 p.2.1.length then bif (zI pile.length (some (i64.wrap ((pile.length:Int)-c_2.1.1))) none).1 then oB (zr.sh F ((get zx p.2.2.2 i.toNat),unit,(get wV p.2.1 0).2) ((List.take (zI pile.length (some (i64.wrap ((pile.length:Int)-c_2.1.1))) none).2.2 pile).drop (zI pile.length (some (i64.wrap ((pile.length:Int)-c_2.1.1))) none).2.1)) fun c_4 =>
 bif !c_4.1.2.1 then k0 i 120 (0,0,[])
 else bif (zI pile.length none (some (i64.wrap ((pile.length:Int)-c_2.1.1)))).1 then bif Nat.ble ((zI pile.length none (some (i64.wrap ((pile.length:Int)-c_2.1.1)))).2.2+([c_4.1.1]:List (List zo.T)).length) vc then rec (i64.wrap (i+1)) p r2 unit (pile.take (zI pile.length none (some (i64.wrap ((pile.length:Int)-c_2.1.1)))).2.2++([c_4.1.1]:List (List zo.T)))
 else none
 else none
 else none
 else none
 else none
 else none
 else k1 i (decide (i<(p.2.2.2.length:Int))) p r2 unit pile
def zF.l8 {R:Type} (F:Nat) (k0:zF.l8.K0 R) (k1:zF.l8.K1 R):Nat->zF.l8.T R
 | 0,_,_,_,_,_=>none
 | fu+1,i,p,r2,unit,pile=>zF.l8.body F k0 k1 (zF.l8 F k0 k1 fu) i p r2 unit pile
def zF.j19 {R:Type} (F:Nat) (k0:Int->Int->wY.T->Option R) (pile:List (List zo.T)) (p:yr.T) (r2:wY.T):Option R :=
 oB (zm.sh F p) fun c_7 =>
 bif idx 0 p.2.1.length then bif idx 0 pile.length then k0 0 0 ((get wV p.2.1 0).2,c_7.1.1,get (.sl zo) pile 0)
 else none
 else none
def zF.sh (F:Nat) (p:yr.T):Option zF.sg.R :=
 oB (xN.sh F p) fun c_1 =>
 bif (c_1.1.2.2.1 != 0) then some (((0,0,[]),c_1.1.2.1,c_1.1.2.2.1,()),())
 else bif decide ((p.2.1.length:Int)>1) then some (((0,0,[]),(-1),100,()),())
 else zF.l8 F (fun r35 r45 r25=>some ((r25,r35,r45,()),())) (fun i6 t386 p6 r26 unit6 pile6=>zF.j19 F (fun r38 r48 r28=>some ((r28,r38,r48,()),())) pile6 p6 r26) F 0 p (0,0,[]) c_1.1.1 ([])
def zF.sp (F:Nat):TA zF.sg.args->Option zF.sg.R:=fun x=>zF.sh F x.1
@[reducible] def yy.sg:Sig:={args:=[.d (.g yr)],res:=[.c .bool]}
def yy.sh (F:Nat) (p:yr.T):Option yy.sg.R :=
 oB (xW.sh F) fun c_1 =>
 bif !c_1.1.1 then some ((false,()),())
 else oB (zQ.sh F p) fun c_2 =>
 oB (zF.sh F p) fun c_3 =>
 bif (c_2.1.2.2.1==c_3.1.2.2.1) then bif (c_2.1.2.1==c_3.1.2.1) then oB (yg.sh F c_2.1.1 c_3.1.1) fun c_4 =>
 some ((c_4.1.1,()),())
 else some ((false,()),())
 else some ((false,()),())
def yy.sp (F:Nat):TA yy.sg.args->Option yy.sg.R:=fun x=>yy.sh F x.1
@[reducible] def VW.sg:Sig:={args:=[.d (.g wY)],res:=[.c .bool]}
@[reducible] def Ss.sg:Sig:={args:=[.d (.g wY),.d (.c (.int .i64))],res:=[.g zh,.c (.int .i64)]}
@[reducible] def X4.sg:Sig:={args:=[.d (.g wY),.d (.b (.int .i64))],res:=[.c .bool]}
@[reducible] def Xh.sg:Sig:={args:=[.d (.g yr),.d (.c (.int .i64))],res:=[.c .bool]}
@[reducible] def zcy.sg:Sig:={args:=[.d (.g yr)],res:=[.c (.sl zh),.c (.int .i64),.c (.int .i64)]}
@[reducible] def zel.sg:Sig:={args:=[.d (.g zx)],res:=[.c (.int .i64)]}
@[reducible] def zfW.sg:Sig:={args:=[.d (.g zh),.d (.g zh)],res:=[.g zh]}
@[reducible] def zfY.sg:Sig:={args:=[.d (.g zh),.d (.g zh)],res:=[.g zh]}
@[reducible] def zfX.sg:Sig:={args:=[.d (.g zh),.d (.g zh)],res:=[.g zh]}
@[reducible] def WY.sg:Sig:={args:=[.d (.b zh),.d (.c .fn)],res:=[.g zh]}
@[reducible] def WZ.sg:Sig:={args:=[.d (.b zh),.d (.c .fn)],res:=[.g zh]}
@[reducible] def zej.sg:Sig:={args:=[.d (.g zh),.d (.b yp)],res:=[.c (.int .i64)]}
@[reducible] def SW.sg:Sig:={args:=[.d (.g zh),.d (.b yp)],res:=[.g zh]}
@[reducible] def zb6.sg:Sig:={args:=[.d (.g zh),.d (.b yp)],res:=[.g zh]}
@[reducible] def zcd.sg:Sig:={args:=[.d (.g zh),.d (.g zh),.d (.c (.int .i64))],res:=[.c .bool]}
@[reducible] def zcc.sg:Sig:={args:=[.d (.g zx),.d (.g zh),.d (.b zh)],res:=[.g zh]}
@[reducible] def zek.sg:Sig:={args:=[.d (.g yr),.d (.g zx),.d (.g zh),.d (.b (.int .i64))],res:=[.g zh]}
@[reducible] def zb7.sg:Sig:={args:=[.d (.g yr),.d (.b (.int .i64))],res:=[.c (.sl zh),.c (.int .i64)]}
@[reducible] def zce.sg:Sig:={args:=[.d (.g yr),.d (.b (.int .i64))],res:=[.g zh,.c (.int .i64)]}
@[reducible] def Xg.sg:Sig:={args:=[.d (.g yr),.d (.b (.int .i64))],res:=[.c .bool]}
end Go.VS
