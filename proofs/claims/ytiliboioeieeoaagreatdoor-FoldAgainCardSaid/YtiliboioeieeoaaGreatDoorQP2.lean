import Derived.Test.YtiliboioeieeoaaGreatDoorQP1
set_option linter.unusedVariables false
set_option linter.unusedSimpArgs false
set_option linter.unusedSectionVars false
set_option linter.unusedVariables false
set_option maxRecDepth 100000
namespace Go.VS
open Go IntKind
@[reducible] def Vy.sg:Sig:={args:=[.d (.g zd),.d (.g zd)],res:=[.g zd,.c (.int .i64)]}
@[reducible] def XO.sg:Sig:={args:=[.d (.c (.int .i64))],res:=[.g zd,.c (.int .i64)]}
@[reducible] def Ud.sg:Sig:={args:=[.d (.c (.int .i64))],res:=[.g zQ]}
@[reducible] def Ue.sg:Sig:={args:=[.d (.g zQ),.d (.g zQ)],res:=[.g zQ]}
@[reducible] def YN.sg:Sig:={args:=[.d (.c (.int .i64)),.d (.c (.int .i64))],res:=[.c (.int .i64)]}
@[reducible] def Vx.sg:Sig:={args:=[.d (.c (.int .i64))],res:=[.c (.int .i64)]}
@[reducible] def VE.sg:Sig:={args:=[.d (.g zd),.d (.g zd)],res:=[.g zd,.c (.int .i64)]}
@[reducible] def Wv.sg:Sig:={args:=[.d (.g zQ),.d (.g zQ)],res:=[.g zQ]}
@[reducible] def XB.sg:Sig:={args:=[.d (.g zQ),.d (.g zQ),.d (.b zN)],res:=[.g zQ]}
@[reducible] def Vw.sg:Sig:={args:=[.d (.g zZ),.d (.g zb),.d (.g zQ),.d (.b zQ)],res:=[.g zQ]}
@[reducible] def XC.sg:Sig:={args:=[],res:=[.g zd]}
@[reducible] def VC.sg:Sig:={args:=[.d (.g zd),.d (.g zd)],res:=[.c (.int .i64)]}
@[reducible] def Ww.sg:Sig:={args:=[.d (.g zZ)],res:=[.c (.sl zd),.c (.int .i64),.c (.int .i64)]}
@[reducible] def Wu.sg:Sig:={args:=[.d (.g zZ)],res:=[.g zd,.c (.int .i64),.c (.int .i64)]}
@[reducible] def Uc.sg:Sig:={args:=[.d (.g zd),.d (.g zd)],res:=[.g zd]}
@[reducible] def Wp.sg:Sig:={args:=[.d (.g zZ),.d (.g zb),.d (.g zd),.d (.b (.int .i64))],res:=[.g zd]}
@[reducible] def VA.sg:Sig:={args:=[.d (.g zd),.d (.g zd)],res:=[.g zd,.c (.int .i64)]}
@[reducible] def Wt.sg:Sig:={args:=[.d (.g zd),.d (.g zd)],res:=[.g zd]}
@[reducible] def Ws.sg:Sig:={args:=[.d (.g zd),.d (.g zd)],res:=[.g zd]}
@[reducible] def Wq.sg:Sig:={args:=[.d (.b zd),.d (.c (.int .i64))],res:=[.g zd]}
@[reducible] def Wr.sg:Sig:={args:=[.d (.b zN),.d (.g zd)],res:=[.c (.int .i64)]}
@[reducible] def YM.sg:Sig:={args:=[.d (.c (.int .i64)),.d (.b zN),.d (.g zd)],res:=[.g zd]}
@[reducible] def XN.sg:Sig:={args:=[.d (.c (.int .u64)),.d (.c (.int .u64)),.d (.c (.int .u64))],res:=[.c (.int .u64),.c (.int .u64)]}
@[reducible] def Yw.sg:Sig:={args:=[.d (.c (.int .u64)),.d (.c (.int .u64)),.d (.c (.int .u64)),.d (.c (.int .u64))],res:=[.c .bool]}
@[reducible] def WE.sg:Sig:={args:=[.d (.c (.int .u64)),.d (.c (.int .u64)),.d (.c (.int .u64)),.d (.c (.int .u64))],res:=[.c (.int .u64),.c (.int .u64)]}
@[reducible] def YS.sg:Sig:={args:=[.d (.g zd),.d (.g zd)],res:=[.g zd,.g zd,.c (.int .i64)]}
@[reducible] def YQ.sg:Sig:={args:=[.d (.g zd),.d (.g zd),.d (.g zd),.d (.c (.int .i64))],res:=[.c .bool]}
@[reducible] def Vz.sg:Sig:={args:=[.d (.g zd),.d (.g zd),.d (.c (.int .i64))],res:=[.g zd,.c (.int .i64)]}
@[reducible] def XA.sg:Sig:={args:=[.d (.g zd),.d (.c (.int .i64)),.d (.c (.int .i64))],res:=[.c .bool]}
@[reducible] def Xz.sg:Sig:={args:=[.d (.g zb),.d (.g zd),.d (.b zd)],res:=[.g zd]}
@[reducible] def YL.sg:Sig:={args:=[.d (.g zZ),.d (.b (.int .i64))],res:=[.c (.sl zd),.c (.int .i64)]}
@[reducible] def Wo.sg:Sig:={args:=[.d (.g zZ),.d (.c (.int .i64))],res:=[.c (.sl (.int .i64))]}
@[reducible] def Xx.sg:Sig:={args:=[.d (.g zZ),.d (.c (.int .i64)),.d (.c (.int .i64))],res:=[.c .bool]}
@[reducible] def Xu.sg:Sig:={args:=[.d (.g zZ),.d (.b (.int .i64))],res:=[.c .bool]}
@[reducible] def Yu.sg:Sig:={args:=[.d (.g zb)],res:=[.c .bool]}
@[reducible] def Xt.sg:Sig:={args:=[.d (.g zZ),.d (.c (.int .i64))],res:=[.c .bool]}
@[reducible] def Xw.sg:Sig:={args:=[.d (.g zZ),.d (.c (.int .i64))],res:=[.c .bool]}
@[reducible] def VB.sg:Sig:={args:=[.d (.g zd)],res:=[.c (.int .i64),.c .bool]}
@[reducible] def Xv.sg:Sig:={args:=[.d (.g zd),.d (.c .bool),.d (.g zd)],res:=[.c .bool]}
@[reducible] def Xy.sg:Sig:={args:=[.d (.g zZ)],res:=[.c .bool]}
@[reducible] def ZC.sg:Sig:={args:=[.d (.g zZ)],res:=[.c .bool]}
@[reducible] def zF.sg:Sig:={args:=[.d (.b yr),.d (.b yr)],res:=[.c .bool]}
abbrev zF.l4.K1 (R:Type):Type:=(List yr.T)->(List yr.T)->Int->Int->Bool->Option R
abbrev zF.l4.T (R:Type):Type:=(List yr.T)->(List yr.T)->Int->Int->Option R
def zF.l4.body {R:Type} (F:Nat) (k0:Bool->Option R) (k1:zF.l4.K1 R) (rec:zF.l4.T R) (s1:List yr.T) (s2:List yr.T) (t12:Int) (t13:Int):Option R :=
 bif decide (t13<t12) then bif idx t13 s1.length then bif idx t13 s2.length then bif !(((get yr s1 t13.toNat).1==(get yr s2 t13.toNat).1)&&(((get yr s1 t13.toNat).2==(get yr s2 t13.toNat).2)&&true)) then k0 false
 else rec s1 s2 t12 (i64.wrap (t13+1))
 else none
 else none
 else k1 s1 s2 t12 t13 (decide (t13<t12))
def zF.l4 {R:Type} (F:Nat) (k0:Bool->Option R) (k1:zF.l4.K1 R):Nat->zF.l4.T R
 | 0,_,_,_,_=>none
 | fu+1,s1,s2,t12,t13=>zF.l4.body F k0 k1 (zF.l4 F k0 k1 fu) s1 s2 t12 t13
def zF.sh (F:Nat) (s1:List yr.T) (s2:List yr.T):Option zF.sg.R :=
 bif ((s1.length:Int) != (s2.length:Int)) then some ((false,()),())
 else zF.l4 F (fun r41=>some ((r41,()),())) (fun s12 s22 t122 t132 t142=>some ((true,()),())) F s1 s2 (s1.length:Int) 0
def zF.sp (F:Nat):TA zF.sg.args->Option zF.sg.R:=fun x=>zF.sh F x.1 x.2.1
@[reducible] def xf.sg:Sig:={args:=[.d (.g zb),.d (.g zb)],res:=[.c .bool]}
def xf.sh (F:Nat) (a:zb.T) (b:zb.T):Option xf.sg.R :=
 bif (a.1==b.1) then bif (a.2.1==b.2.1) then bif (a.2.2.1==b.2.2.1) then bif (a.2.2.2.1==b.2.2.2.1) then oB (zy.sh F a.2.2.2.2.1 b.2.2.2.2.1) fun c_1 =>
 some ((c_1.1.1,()),())
 else some ((false,()),())
 else some ((false,()),())
 else some ((false,()),())
 else some ((false,()),())
def xf.sp (F:Nat):TA xf.sg.args->Option xf.sg.R:=fun x=>xf.sh F x.1 x.2.1
@[reducible] def zp.sg:Sig:={args:=[.d (.b zb),.d (.b zb),.d (.c .fn)],res:=[.c .bool]}
@[reducible] def zp.ds29:Sig:={args:=[.d (.g zb),.d (.g zb)],res:=[.c .bool]}
def zp.d29 (F:Nat):Nat->TA zp.ds29.args->Option zp.ds29.R:=mkT zp.ds29 [(vR,xf.sp F)]
abbrev zp.l4.K1 (R:Type):Type:=(List zb.T)->Nat->(List zb.T)->Int->Int->Bool->Option R
abbrev zp.l4.T (R:Type):Type:=(List zb.T)->Nat->(List zb.T)->Int->Int->Option R
def zp.l4.body {R:Type} (F:Nat) (k0:Bool->Option R) (k1:zp.l4.K1 R) (rec:zp.l4.T R) (s2:List zb.T) (eq:Nat) (t15:List zb.T) (t16:Int) (t17:Int):Option R :=
 bif decide (t17<t16) then bif idx t17 t15.length then bif idx t17 s2.length then oB (zp.d29 F eq ((get zb t15 t17.toNat),(get zb s2 t17.toNat),())) fun c_1 =>
 bif !c_1.1.1 then k0 false
 else rec s2 eq t15 t16 (i64.wrap (t17+1))
 else none
 else none
 else k1 s2 eq t15 t16 t17 (decide (t17<t16))
def zp.l4 {R:Type} (F:Nat) (k0:Bool->Option R) (k1:zp.l4.K1 R):Nat->zp.l4.T R
 | 0,_,_,_,_,_=>none
 | fu+1,s2,eq,t15,t16,t17=>zp.l4.body F k0 k1 (zp.l4 F k0 k1 fu) s2 eq t15 t16 t17
def zp.sh (F:Nat) (s1:List zb.T) (s2:List zb.T) (eq:Nat):Option zp.sg.R :=
 bif ((s1.length:Int) != (s2.length:Int)) then some ((false,()),())
 else zp.l4 F (fun r62=>some ((r62,()),())) (fun s23 eq3 t153 t163 t173 t183=>some ((true,()),())) F s2 eq s1 (s1.length:Int) 0
def zp.sp (F:Nat):TA zp.sg.args->Option zp.sg.R:=fun x=>zp.sh F x.1 x.2.1 x.2.2.1
@[reducible] def xL.sg:Sig:={args:=[.d (.g zZ),.d (.g zZ)],res:=[.c .bool]}
def xL.sh (F:Nat) (p:zZ.T) (q:zZ.T):Option xL.sg.R :=
 bif (p.1.toList==q.1.toList) then bif (p.2.2.1==q.2.2.1) then oB (zF.sh F p.2.1 q.2.1) fun c_1 =>
 bif c_1.1.1 then oB (zp.sh F p.2.2.2 q.2.2.2 vR) fun c_2 =>
 some ((c_2.1.1,()),())
 else some ((false,()),())
 else some ((false,()),())
 else some ((false,()),())
def xL.sp (F:Nat):TA xL.sg.args->Option xL.sg.R:=fun x=>xL.sh F x.1 x.2.1
@[reducible] def zL.sg:Sig:={args:=[.d (.g zZ)],res:=[.c .bool]}
def zL.sh (F:Nat) (p:zZ.T):Option zL.sg.R :=
 oB (yw.sh F) fun c_1 =>
 bif !c_1.1.1 then some ((false,()),())
 else oB (xa.sh F p) fun c_2 =>
 oB (xa.sh F c_2.1.1) fun c_3 =>
 bif (c_2.1.2.1 != 0) then some ((((c_2.1.1.2.2.2.length:Int)==0),()),())
 else bif (c_3.1.2.1==0) then oB (xL.sh F c_2.1.1 c_3.1.1) fun c_4 =>
 some ((c_4.1.1,()),())
 else some ((false,()),())
def zL.sp (F:Nat):TA zL.sg.args->Option zL.sg.R:=fun x=>zL.sh F x.1
@[reducible] def zae.sg:Sig:={args:=[.d (.g zZ)],res:=[.c (.sl zd),.c (.int .i64),.c (.int .i64)]}
@[reducible] def qL.sg:Sig:={args:=[.d (.g zZ)],res:=[.c .bool]}
@[reducible] def zbB.sg:Sig:={args:=[.d (.g zb)],res:=[.c (.int .i64)]}
@[reducible] def vX.sg:Sig:={args:=[.d (.g zd),.d (.g zd)],res:=[.g zd]}
def vX.sh (F:Nat) (a:zd.T) (b:zd.T):Option vX.sg.R :=
 oB (xy.sh F a b) fun c_1 =>
 some ((c_1.1.1,()),())
@[reducible] def ut.sg:Sig:={args:=[.d (.g zd),.d (.g zd)],res:=[.g zd]}
def ut.sh (F:Nat) (a:zd.T) (b:zd.T):Option ut.sg.R :=
 oB (xz.sh F a b) fun c_1 =>
 some ((c_1.1.1,()),())
@[reducible] def ve.sg:Sig:={args:=[.d (.g zd),.d (.g zd)],res:=[.g zd]}
def ve.sh (F:Nat) (a:zd.T) (b:zd.T):Option ve.sg.R :=
 oB (yp.sh F a b) fun c_1 =>
 some ((c_1.1.1,()),())
@[reducible] def xH.sg:Sig:={args:=[.d (.g zd),.d (.b zN)],res:=[.c (.int .i64)]}
abbrev xH.l2.K0 (R:Type):Type:=(List zN.T)->Int->Bool->zd.T->Option R
abbrev xH.l2.T (R:Type):Type:=(List zN.T)->Int->zd.T->Option R
def xH.l2.body {R:Type} (F:Nat) (k0:xH.l2.K0 R) (rec:xH.l2.T R) (tiers:List zN.T) (k:Int) (x:zd.T):Option R :=
 bif decide ((i64.wrap (k+1))<(tiers.length:Int)) then bif idx (i64.wrap (k+1)) tiers.length then oB (z6.sh F (get zN tiers ((i64.wrap (k+1)).toNat)).1) fun c_1 =>
 oB (xt.sh F c_1.1.1 x) fun c_2 =>
 bif decide (c_2.1.1<0) then rec tiers (i64.wrap (k+1)) x
 else k0 tiers k (decide (c_2.1.1<0)) x
 else none
 else k0 tiers k false x
def xH.l2 {R:Type} (F:Nat) (k0:xH.l2.K0 R):Nat->xH.l2.T R
 | 0,_,_,_=>none
 | fu+1,tiers,k,x=>xH.l2.body F k0 (xH.l2 F k0 fu) tiers k x
def xH.sh (F:Nat) (x:zd.T) (tiers:List zN.T):Option xH.sg.R :=
 xH.l2 F (fun tiers3 k3 t223 x3=>some ((k3,()),())) F tiers (-1) x
@[reducible] def yy.sg:Sig:={args:=[.d (.g zd),.d (.b zN)],res:=[.g zd]}
abbrev yy.l3.K0 (R:Type):Type:=(List zN.T)->Int->Int->Bool->zd.T->zd.T->zd.T->Option R
abbrev yy.l3.T (R:Type):Type:=(List zN.T)->Int->Int->zd.T->zd.T->zd.T->Option R
def yy.l3.body {R:Type} (F:Nat) (k0:yy.l3.K0 R) (rec:yy.l3.T R) (tiers:List zN.T) (k:Int) (i:Int) (x:zd.T) (r4:zd.T) (sum:zd.T):Option R :=
 bif decide (i<k) then bif idx i tiers.length then oB (z6.sh F (get zN tiers i.toNat).2) fun c_2 =>
 bif idx (i64.wrap (i+1)) tiers.length then bif idx i tiers.length then oB (z6.sh F (i64.wrap ((get zN tiers ((i64.wrap (i+1)).toNat)).1-(get zN tiers i.toNat).1))) fun c_3 =>
 oB (ve.sh F c_2.1.1 c_3.1.1) fun c_4 =>
 oB (ut.sh F sum c_4.1.1) fun c_5 =>
 rec tiers k (i64.wrap (i+1)) x r4 c_5.1.1
 else none
 else none
 else none
 else k0 tiers k i (decide (i<k)) x r4 sum
def yy.l3 {R:Type} (F:Nat) (k0:yy.l3.K0 R):Nat->yy.l3.T R
 | 0,_,_,_,_,_,_=>none
 | fu+1,tiers,k,i,x,r4,sum=>yy.l3.body F k0 (yy.l3 F k0 fu) tiers k i x r4 sum
def yy.sh (F:Nat) (x:zd.T) (tiers:List zN.T):Option yy.sg.R :=
 oB (xH.sh F x tiers) fun c_1 =>
 yy.l3 F (fun tiers6 k6 i6 t146 x6 r46 sum6=>bif decide (k6>=0) then bif idx k6 tiers6.length then oB (z6.sh F (get zN tiers6 k6.toNat).2) fun c_7 =>
 bif idx k6 tiers6.length then oB (z6.sh F (get zN tiers6 k6.toNat).1) fun c_8 =>
 oB (vX.sh F x6 c_8.1.1) fun c_9 =>
 oB (ve.sh F c_7.1.1 c_9.1.1) fun c_10 =>
 oB (ut.sh F sum6 c_10.1.1) fun c_11 =>
 some ((c_11.1.1,()),())
 else none
 else none
 else some ((sum6,()),())) F tiers c_1.1.1 0 x (0,0) (0,0)
@[reducible] def uH.sg:Sig:={args:=[.d (.g zd),.d (.b zN)],res:=[.g zd]}
def uH.sh (F:Nat) (x:zd.T) (tiers:List zN.T):Option uH.sg.R :=
 oB (xH.sh F x tiers) fun c_1 =>
 bif decide (c_1.1.1>=0) then bif idx c_1.1.1 tiers.length then oB (z6.sh F (get zN tiers c_1.1.1.toNat).2) fun c_2 =>
 oB (ve.sh F x c_2.1.1) fun c_3 =>
 some ((c_3.1.1,()),())
 else none
 else some (((0,0),()),())
@[reducible] def u5.sg:Sig:={args:=[.d (.g zd),.d (.g zd),.d (.c (.int .i64))],res:=[.c .bool]}
def u5.sh (F:Nat) (x:zd.T) (n:zd.T) (op:Int):Option u5.sg.R :=
 oB (xt.sh F x n) fun c_1 =>
 bif (op==1) then some ((decide (c_1.1.1<0),()),())
 else bif (op==2) then some ((decide (c_1.1.1<=0),()),())
 else bif (op==3) then some ((decide (c_1.1.1>0),()),())
 else bif (op==4) then some ((decide (c_1.1.1>=0),()),())
 else bif (op==5) then some (((c_1.1.1==0),()),())
 else some (((c_1.1.1 != 0),()),())
@[reducible] def x8.sg:Sig:={args:=[.d (.g zb),.d (.g zd),.d (.b zd)],res:=[.g zd]}
def x8.sh (F:Nat) (n:zb.T) (unit:zd.T) (k:List zd.T):Option x8.sg.R :=
 bif idx 0 k.length then oB (z6.sh F n.2.1) fun c_1 =>
 bif (n.1==5) then oB (vX.sh F (0,0) (get zd k 0)) fun c_2 =>
 some ((c_2.1.1,()),())
 else bif (n.1==6) then bif idx 1 k.length then oB (ut.sh F (get zd k 0) (get zd k 1)) fun c_3 =>
 some ((c_3.1.1,()),())
 else none
 else bif (n.1==7) then bif idx 1 k.length then oB (vX.sh F (get zd k 0) (get zd k 1)) fun c_4 =>
 some ((c_4.1.1,()),())
 else none
 else bif (n.1==8) then bif idx 1 k.length then oB (ve.sh F (get zd k 0) (get zd k 1)) fun c_5 =>
 some ((c_5.1.1,()),())
 else none
 else bif (n.1==9) then oB (zj.sh F k xJ) fun c_6 =>
 some ((c_6.1.1,()),())
 else bif (n.1==10) then oB (zk.sh F k xJ) fun c_7 =>
 some ((c_7.1.1,()),())
 else bif (n.1==11) then oB (vX.sh F (get zd k 0) c_1.1.1) fun c_8 =>
 oB (zk.sh F ([(0,0),c_8.1.1]:List zd.T) xJ) fun c_9 =>
 some ((c_9.1.1,()),())
 else bif (n.1==12) then oB (zj.sh F ([c_1.1.1,(get zd k 0)]:List zd.T) xJ) fun c_10 =>
 some ((c_10.1.1,()),())
 else bif (n.1==13) then oB (yy.sh F (get zd k 0) n.2.2.2.2.1) fun c_11 =>
 oB (ve.sh F unit c_11.1.1) fun c_12 =>
 some ((c_12.1.1,()),())
 else bif (n.1==14) then oB (uH.sh F (get zd k 0) n.2.2.2.2.1) fun c_13 =>
 oB (ve.sh F unit c_13.1.1) fun c_14 =>
 some ((c_14.1.1,()),())
 else bif (n.1==15) then oB (z6.sh F (i64.wrap (10000-n.2.1))) fun c_15 =>
 oB (ve.sh F (get zd k 0) c_15.1.1) fun c_16 =>
 oB (z6.sh F 10000) fun c_17 =>
 oB (xi.sh F c_16.1.1 c_17.1.1 2) fun c_18 =>
 some ((c_18.1.1,()),())
 else oB (u5.sh F (get zd k 0) c_1.1.1 n.2.2.1) fun c_19 =>
 bif c_19.1.1 then bif idx 1 k.length then some (((get zd k 1),()),())
 else none
 else bif idx 2 k.length then some (((get zd k 2),()),())
 else none
 else none
@[reducible] def ug.sg:Sig:={args:=[.d (.g zZ),.d (.g zb),.d (.g zd),.d (.b (.int .i64))],res:=[.g zd]}
def ug.sh (F:Nat) (p:zZ.T) (n:zb.T) (unit:zd.T) (q:List Int):Option ug.sg.R :=
 bif (n.1==1) then oB (z6.sh F n.2.1) fun c_1 =>
 some ((c_1.1.1,()),())
 else bif (n.1==2) then oB (z6.sh F n.2.1) fun c_2 =>
 oB (ve.sh F c_2.1.1 unit) fun c_3 =>
 some ((c_3.1.1,()),())
 else bif (n.1==3) then bif idx n.2.1 q.length then oB (z6.sh F (get (.int .i64) q n.2.1.toNat)) fun c_4 =>
 some ((c_4.1.1,()),())
 else none
 else bif idx n.2.1 p.2.1.length then bif idx n.2.1 q.length then bif ((get yr p.2.1 n.2.1.toNat).2 != 0) then bif idx n.2.1 q.length then bif ((get yr p.2.1 n.2.1.toNat).2 != 0) then oB (z6.sh F (i64.wrap ((i64.wrap ((get (.int .i64) q n.2.1.toNat).tdiv (get yr p.2.1 n.2.1.toNat).2))+(if 1<(get (.int .i64) q n.2.1.toNat).tmod (get yr p.2.1 n.2.1.toNat).2 then 1 else (get (.int .i64) q n.2.1.toNat).tmod (get yr p.2.1 n.2.1.toNat).2)))) fun c_5 =>
 some ((c_5.1.1,()),())
 else none
 else none
 else none
 else none
 else none
@[reducible] def R3.sg:Sig:={args:=[.d (.g zZ),.d (.b (.int .i64))],res:=[.c (.sl zd),.c (.int .i64)]}
@[reducible] def Q6.sg:Sig:={args:=[.d (.g zZ),.d (.b (.int .i64))],res:=[.g zd,.c (.int .i64)]}
@[reducible] def Q5.sg:Sig:={args:=[.d (.g zZ),.d (.b (.int .i64))],res:=[.c (.int .i64),.c (.int .i64)]}
@[reducible] def ZB.sg:Sig:={args:=[.d (.g zZ),.d (.b (.sl (.int .i64)))],res:=[.c .bool]}
end Go.VS
