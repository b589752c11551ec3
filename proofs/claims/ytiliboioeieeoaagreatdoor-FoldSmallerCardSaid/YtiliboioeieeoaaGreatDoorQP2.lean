import Derived.Test.YtiliboioeieeoaaGreatDoorQP1
set_option linter.unusedVariables false
set_option linter.unusedSimpArgs false
set_option linter.unusedSectionVars false
set_option linter.unusedVariables false
set_option maxRecDepth 100000
namespace Go.VS
open Go IntKind
@[reducible] def Vn.sg:Sig:={args:=[.d (.g zd),.d (.g zd)],res:=[.g zd,.c (.int .i64)]}
@[reducible] def XA.sg:Sig:={args:=[.d (.c (.int .i64))],res:=[.g zd,.c (.int .i64)]}
@[reducible] def V3.sg:Sig:={args:=[.d (.c (.int .i64))],res:=[.g zO]}
@[reducible] def V4.sg:Sig:={args:=[.d (.g zO),.d (.g zO)],res:=[.g zO]}
@[reducible] def Yz.sg:Sig:={args:=[.d (.c (.int .i64)),.d (.c (.int .i64))],res:=[.c (.int .i64)]}
@[reducible] def Vm.sg:Sig:={args:=[.d (.c (.int .i64))],res:=[.c (.int .i64)]}
@[reducible] def Vs.sg:Sig:={args:=[.d (.g zd),.d (.g zd)],res:=[.g zd,.c (.int .i64)]}
@[reducible] def Wl.sg:Sig:={args:=[.d (.g zO),.d (.g zO)],res:=[.g zO]}
@[reducible] def Xn.sg:Sig:={args:=[.d (.g zO),.d (.g zO),.d (.b zL)],res:=[.g zO]}
@[reducible] def Vl.sg:Sig:={args:=[.d (.g zQ),.d (.g zb),.d (.g zO),.d (.b zO)],res:=[.g zO]}
@[reducible] def Xo.sg:Sig:={args:=[],res:=[.g zd]}
@[reducible] def Vr.sg:Sig:={args:=[.d (.g zd),.d (.g zd)],res:=[.c (.int .i64)]}
@[reducible] def Wm.sg:Sig:={args:=[.d (.g zQ)],res:=[.c (.sl zd),.c (.int .i64),.c (.int .i64)]}
@[reducible] def Wk.sg:Sig:={args:=[.d (.g zQ)],res:=[.g zd,.c (.int .i64),.c (.int .i64)]}
@[reducible] def V2.sg:Sig:={args:=[.d (.g zd),.d (.g zd)],res:=[.g zd]}
@[reducible] def Wf.sg:Sig:={args:=[.d (.g zQ),.d (.g zb),.d (.g zd),.d (.b (.int .i64))],res:=[.g zd]}
@[reducible] def Vp.sg:Sig:={args:=[.d (.g zd),.d (.g zd)],res:=[.g zd,.c (.int .i64)]}
@[reducible] def Wj.sg:Sig:={args:=[.d (.g zd),.d (.g zd)],res:=[.g zd]}
@[reducible] def Wi.sg:Sig:={args:=[.d (.g zd),.d (.g zd)],res:=[.g zd]}
@[reducible] def Wg.sg:Sig:={args:=[.d (.b zd),.d (.c (.int .i64))],res:=[.g zd]}
@[reducible] def Wh.sg:Sig:={args:=[.d (.b zL),.d (.g zd)],res:=[.c (.int .i64)]}
@[reducible] def Yy.sg:Sig:={args:=[.d (.c (.int .i64)),.d (.b zL),.d (.g zd)],res:=[.g zd]}
@[reducible] def Xz.sg:Sig:={args:=[.d (.c (.int .u64)),.d (.c (.int .u64)),.d (.c (.int .u64))],res:=[.c (.int .u64),.c (.int .u64)]}
@[reducible] def Yh.sg:Sig:={args:=[.d (.c (.int .u64)),.d (.c (.int .u64)),.d (.c (.int .u64)),.d (.c (.int .u64))],res:=[.c .bool]}
@[reducible] def Ws.sg:Sig:={args:=[.d (.c (.int .u64)),.d (.c (.int .u64)),.d (.c (.int .u64)),.d (.c (.int .u64))],res:=[.c (.int .u64),.c (.int .u64)]}
@[reducible] def YE.sg:Sig:={args:=[.d (.g zd),.d (.g zd)],res:=[.g zd,.g zd,.c (.int .i64)]}
@[reducible] def YC.sg:Sig:={args:=[.d (.g zd),.d (.g zd),.d (.g zd),.d (.c (.int .i64))],res:=[.c .bool]}
@[reducible] def Vo.sg:Sig:={args:=[.d (.g zd),.d (.g zd),.d (.c (.int .i64))],res:=[.g zd,.c (.int .i64)]}
@[reducible] def Xm.sg:Sig:={args:=[.d (.g zd),.d (.c (.int .i64)),.d (.c (.int .i64))],res:=[.c .bool]}
@[reducible] def Xl.sg:Sig:={args:=[.d (.g zb),.d (.g zd),.d (.b zd)],res:=[.g zd]}
@[reducible] def Yx.sg:Sig:={args:=[.d (.g zQ),.d (.b (.int .i64))],res:=[.c (.sl zd),.c (.int .i64)]}
@[reducible] def We.sg:Sig:={args:=[.d (.g zQ),.d (.c (.int .i64))],res:=[.c (.sl (.int .i64))]}
@[reducible] def Xj.sg:Sig:={args:=[.d (.g zQ),.d (.c (.int .i64)),.d (.c (.int .i64))],res:=[.c .bool]}
@[reducible] def Xg.sg:Sig:={args:=[.d (.g zQ),.d (.b (.int .i64))],res:=[.c .bool]}
@[reducible] def Yf.sg:Sig:={args:=[.d (.g zb)],res:=[.c .bool]}
@[reducible] def Xf.sg:Sig:={args:=[.d (.g zQ),.d (.c (.int .i64))],res:=[.c .bool]}
@[reducible] def Xi.sg:Sig:={args:=[.d (.g zQ),.d (.c (.int .i64))],res:=[.c .bool]}
@[reducible] def Vq.sg:Sig:={args:=[.d (.g zd)],res:=[.c (.int .i64),.c .bool]}
@[reducible] def Xh.sg:Sig:={args:=[.d (.g zd),.d (.c .bool),.d (.g zd)],res:=[.c .bool]}
@[reducible] def Xk.sg:Sig:={args:=[.d (.g zQ)],res:=[.c .bool]}
@[reducible] def Zp.sg:Sig:={args:=[.d (.g zQ)],res:=[.c .bool]}
@[reducible] def X4.sg:Sig:={args:=[.d (.b yv),.d (.b yv)],res:=[.c .bool]}
@[reducible] def Sb.sg:Sig:={args:=[.d (.g zb),.d (.g zb)],res:=[.c .bool]}
@[reducible] def Zn.sg:Sig:={args:=[.d (.b zb),.d (.b zb),.d (.c .fn)],res:=[.c .bool]}
@[reducible] def zaV.sg:Sig:={args:=[.d (.g zQ),.d (.g zQ)],res:=[.c .bool]}
@[reducible] def Zq.sg:Sig:={args:=[.d (.g zQ)],res:=[.c .bool]}
@[reducible] def xa.sg:Sig:={args:=[.d (.g zQ)],res:=[.c (.sl zd),.c (.int .i64),.c (.int .i64)]}
def xa.sh (F:Nat) (p:zQ.T):Option xa.sg.R :=
 oB (y7.sh F p) fun c_1 =>
 bif (c_1.1.2.2.1 != 0) then some (([],c_1.1.2.1,c_1.1.2.2.1,()),())
 else oB (zq.sh F p c_1.1.1) fun c_2 =>
 bif decide (c_2.1.2.1>=0) then some (([],c_2.1.2.1,90,()),())
 else some ((c_2.1.1,0,0,()),())
def xa.sp (F:Nat):TA xa.sg.args->Option xa.sg.R:=fun x=>xa.sh F x.1
@[reducible] def zo.sg:Sig:={args:=[.d (.g zQ)],res:=[.c .bool]}
abbrev zo.l15.K1 (R:Type):Type:=Int->Bool->zQ.T->zQ.T->Option R
abbrev zo.l15.T (R:Type):Type:=Int->zQ.T->zQ.T->Option R
def zo.l15.body {R:Type} (F:Nat) (k0:Bool->Option R) (k1:zo.l15.K1 R) (rec:zo.l15.T R) (k:Int) (p:zQ.T) (q:zQ.T):Option R :=
 bif decide (k<(p.2.1.length:Int)) then bif idx k q.2.1.length then bif idx k p.2.1.length then bif !(((get yv q.2.1 k.toNat).1==(get yv p.2.1 k.toNat).1)&&(((get yv q.2.1 k.toNat).2==(get yv p.2.1 k.toNat).2)&&true)) then k0 false
 else rec (i64.wrap (k+1)) p q
 else none
 else none
 else k1 k (decide (k<(p.2.1.length:Int))) p q
def zo.l15 {R:Type} (F:Nat) (k0:Bool->Option R) (k1:zo.l15.K1 R):Nat->zo.l15.T R
 | 0,_,_,_=>none
 | fu+1,k,p,q=>zo.l15.body F k0 k1 (zo.l15 F k0 k1 fu) k p q
def zo.sh (F:Nat) (p:zQ.T):Option zo.sg.R :=
 oB (yt.sh F) fun c_1 =>
 bif !c_1.1.1 then some ((false,()),())
 else oB (xc.sh F p) fun c_2 =>
 oB (xa.sh F p) fun c_3 =>
 bif (c_2.1.2.1 != c_3.1.2.2.1) then some ((false,()),())
 else bif (c_2.1.2.1 != 0) then bif ((c_2.1.1.2.2.2.length:Int)==0) then some (((c_2.1.1.1.toList==(⟨#[]⟩:ByteArray).toList),()),())
 else some ((false,()),())
 else oB (xa.sh F c_2.1.1) fun c_4 =>
 oB (zE.sh F p) fun c_5 =>
 oB (zE.sh F c_2.1.1) fun c_6 =>
 bif (c_4.1.2.2.1 != 0) then some ((false,()),())
 else bif (c_5.1.2.1 != 0) then some ((false,()),())
 else bif (c_6.1.2.1 != 0) then some ((false,()),())
 else bif decide (c_6.1.1>c_5.1.1) then some ((false,()),())
 else bif decide ((c_2.1.1.2.2.2.length:Int)>(p.2.2.2.length:Int)) then some ((false,()),())
 else bif !(c_2.1.1.1.toList==p.1.toList) then some ((false,()),())
 else bif (c_2.1.1.2.2.1 != p.2.2.1) then some ((false,()),())
 else bif ((c_2.1.1.2.1.length:Int) != (p.2.1.length:Int)) then some ((false,()),())
 else zo.l15 F (fun r27=>some ((r27,()),())) (fun k8 t1108 p8 q8=>some ((true,()),())) F 0 p c_2.1.1
def zo.sp (F:Nat):TA zo.sg.args->Option zo.sg.R:=fun x=>zo.sh F x.1
@[reducible] def zbm.sg:Sig:={args:=[.d (.g zb)],res:=[.c (.int .i64)]}
@[reducible] def vS.sg:Sig:={args:=[.d (.g zd),.d (.g zd)],res:=[.g zd]}
def vS.sh (F:Nat) (a:zd.T) (b:zd.T):Option vS.sg.R :=
 oB (xw.sh F a b) fun c_1 =>
 some ((c_1.1.1,()),())
@[reducible] def uh.sg:Sig:={args:=[.d (.g zd),.d (.g zd)],res:=[.g zd]}
def uh.sh (F:Nat) (a:zd.T) (b:zd.T):Option uh.sg.R :=
 oB (xx.sh F a b) fun c_1 =>
 some ((c_1.1.1,()),())
@[reducible] def vb.sg:Sig:={args:=[.d (.g zd),.d (.g zd)],res:=[.g zd]}
def vb.sh (F:Nat) (a:zd.T) (b:zd.T):Option vb.sg.R :=
 oB (ym.sh F a b) fun c_1 =>
 some ((c_1.1.1,()),())
@[reducible] def xF.sg:Sig:={args:=[.d (.g zd),.d (.b zL)],res:=[.c (.int .i64)]}
abbrev xF.l2.K0 (R:Type):Type:=(List zL.T)->Int->Bool->zd.T->Option R
abbrev xF.l2.T (R:Type):Type:=(List zL.T)->Int->zd.T->Option R
def xF.l2.body {R:Type} (F:Nat) (k0:xF.l2.K0 R) (rec:xF.l2.T R) (tiers:List zL.T) (k:Int) (x:zd.T):Option R :=
 bif decide ((i64.wrap (k+1))<(tiers.length:Int)) then bif idx (i64.wrap (k+1)) tiers.length then oB (zY.sh F (get zL tiers ((i64.wrap (k+1)).toNat)).1) fun c_1 =>
 oB (xp.sh F c_1.1.1 x) fun c_2 =>
 bif decide (c_2.1.1<0) then rec tiers (i64.wrap (k+1)) x
 else k0 tiers k (decide (c_2.1.1<0)) x
 else none
 else k0 tiers k false x
def xF.l2 {R:Type} (F:Nat) (k0:xF.l2.K0 R):Nat->xF.l2.T R
 | 0,_,_,_=>none
 | fu+1,tiers,k,x=>xF.l2.body F k0 (xF.l2 F k0 fu) tiers k x
def xF.sh (F:Nat) (x:zd.T) (tiers:List zL.T):Option xF.sg.R :=
 xF.l2 F (fun tiers3 k3 t223 x3=>some ((k3,()),())) F tiers (-1) x
@[reducible] def yw.sg:Sig:={args:=[.d (.g zd),.d (.b zL)],res:=[.g zd]}
abbrev yw.l3.K0 (R:Type):Type:=(List zL.T)->Int->Int->Bool->zd.T->zd.T->zd.T->Option R
abbrev yw.l3.T (R:Type):Type:=(List zL.T)->Int->Int->zd.T->zd.T->zd.T->Option R
def yw.l3.body {R:Type} (F:Nat) (k0:yw.l3.K0 R) (rec:yw.l3.T R) (tiers:List zL.T) (k:Int) (i:Int) (x:zd.T) (r4:zd.T) (sum:zd.T):Option R :=
 bif decide (i<k) then bif idx i tiers.length then oB (zY.sh F (get zL tiers i.toNat).2) fun c_2 =>
 bif idx (i64.wrap (i+1)) tiers.length then bif idx i tiers.length then oB (zY.sh F (i64.wrap ((get zL tiers ((i64.wrap (i+1)).toNat)).1-(get zL tiers i.toNat).1))) fun c_3 =>
 oB (vb.sh F c_2.1.1 c_3.1.1) fun c_4 =>
 oB (uh.sh F sum c_4.1.1) fun c_5 =>
 rec tiers k (i64.wrap (i+1)) x r4 c_5.1.1
 else none
 else none
 else none
 else k0 tiers k i (decide (i<k)) x r4 sum
def yw.l3 {R:Type} (F:Nat) (k0:yw.l3.K0 R):Nat->yw.l3.T R
 | 0,_,_,_,_,_,_=>none
 | fu+1,tiers,k,i,x,r4,sum=>yw.l3.body F k0 (yw.l3 F k0 fu) tiers k i x r4 sum
def yw.sh (F:Nat) (x:zd.T) (tiers:List zL.T):Option yw.sg.R :=
 oB (xF.sh F x tiers) fun c_1 =>
 yw.l3 F (fun tiers6 k6 i6 t146 x6 r46 sum6=>bif decide (k6>=0) then bif idx k6 tiers6.length then oB (zY.sh F (get zL tiers6 k6.toNat).2) fun c_7 =>
 bif idx k6 tiers6.length then oB (zY.sh F (get zL tiers6 k6.toNat).1) fun c_8 =>
 oB (vS.sh F x6 c_8.1.1) fun c_9 =>
 oB (vb.sh F c_7.1.1 c_9.1.1) fun c_10 =>
 oB (uh.sh F sum6 c_10.1.1) fun c_11 =>
 some ((c_11.1.1,()),())
 else none
 else none
 else some ((sum6,()),())) F tiers c_1.1.1 0 x (0,0) (0,0)
@[reducible] def ux.sg:Sig:={args:=[.d (.g zd),.d (.b zL)],res:=[.g zd]}
def ux.sh (F:Nat) (x:zd.T) (tiers:List zL.T):Option ux.sg.R :=
 oB (xF.sh F x tiers) fun c_1 =>
 bif decide (c_1.1.1>=0) then bif idx c_1.1.1 tiers.length then oB (zY.sh F (get zL tiers c_1.1.1.toNat).2) fun c_2 =>
 oB (vb.sh F x c_2.1.1) fun c_3 =>
 some ((c_3.1.1,()),())
 else none
 else some (((0,0),()),())
@[reducible] def uS.sg:Sig:={args:=[.d (.g zd),.d (.g zd),.d (.c (.int .i64))],res:=[.c .bool]}
def uS.sh (F:Nat) (x:zd.T) (n:zd.T) (op:Int):Option uS.sg.R :=
 oB (xp.sh F x n) fun c_1 =>
 bif (op==1) then some ((decide (c_1.1.1<0),()),())
 else bif (op==2) then some ((decide (c_1.1.1<=0),()),())
 else bif (op==3) then some ((decide (c_1.1.1>0),()),())
 else bif (op==4) then some ((decide (c_1.1.1>=0),()),())
 else bif (op==5) then some (((c_1.1.1==0),()),())
 else some (((c_1.1.1 != 0),()),())
@[reducible] def xY.sg:Sig:={args:=[.d (.g zb),.d (.g zd),.d (.b zd)],res:=[.g zd]}
def xY.sh (F:Nat) (n:zb.T) (unit:zd.T) (k:List zd.T):Option xY.sg.R :=
 bif idx 0 k.length then oB (zY.sh F n.2.1) fun c_1 =>
 bif (n.1==5) then oB (vS.sh F (0,0) (get zd k 0)) fun c_2 =>
 some ((c_2.1.1,()),())
 else bif (n.1==6) then bif idx 1 k.length then oB (uh.sh F (get zd k 0) (get zd k 1)) fun c_3 =>
 some ((c_3.1.1,()),())
 else none
 else bif (n.1==7) then bif idx 1 k.length then oB (vS.sh F (get zd k 0) (get zd k 1)) fun c_4 =>
 some ((c_4.1.1,()),())
 else none
 else bif (n.1==8) then bif idx 1 k.length then oB (vb.sh F (get zd k 0) (get zd k 1)) fun c_5 =>
 some ((c_5.1.1,()),())
 else none
 else bif (n.1==9) then oB (zj.sh F k xH) fun c_6 =>
 some ((c_6.1.1,()),())
 else bif (n.1==10) then oB (zk.sh F k xH) fun c_7 =>
 some ((c_7.1.1,()),())
 else bif (n.1==11) then oB (vS.sh F (get zd k 0) c_1.1.1) fun c_8 =>
 oB (zk.sh F ([(0,0),c_8.1.1]:List zd.T) xH) fun c_9 =>
 some ((c_9.1.1,()),())
 else bif (n.1==12) then oB (zj.sh F ([c_1.1.1,(get zd k 0)]:List zd.T) xH) fun c_10 =>
 some ((c_10.1.1,()),())
 else bif (n.1==13) then oB (yw.sh F (get zd k 0) n.2.2.2.2.1) fun c_11 =>
 oB (vb.sh F unit c_11.1.1) fun c_12 =>
 some ((c_12.1.1,()),())
 else bif (n.1==14) then oB (ux.sh F (get zd k 0) n.2.2.2.2.1) fun c_13 =>
 oB (vb.sh F unit c_13.1.1) fun c_14 =>
 some ((c_14.1.1,()),())
 else bif (n.1==15) then oB (zY.sh F (i64.wrap (10000-n.2.1))) fun c_15 =>
 oB (vb.sh F (get zd k 0) c_15.1.1) fun c_16 =>
 oB (zY.sh F 10000) fun c_17 =>
 oB (xg.sh F c_16.1.1 c_17.1.1 2) fun c_18 =>
 some ((c_18.1.1,()),())
 else oB (uS.sh F (get zd k 0) c_1.1.1 n.2.2.1) fun c_19 =>
 bif c_19.1.1 then bif idx 1 k.length then some (((get zd k 1),()),())
 else none
 else bif idx 2 k.length then some (((get zd k 2),()),())
 else none
 else none
@[reducible] def vY.sg:Sig:={args:=[.d (.g zQ),.d (.g zb),.d (.g zd),.d (.b (.int .i64))],res:=[.g zd]}
def vY.sh (F:Nat) (p:zQ.T) (n:zb.T) (unit:zd.T) (q:List Int):Option vY.sg.R :=
 bif (n.1==1) then oB (zY.sh F n.2.1) fun c_1 =>
 some ((c_1.1.1,()),())
 else bif (n.1==2) then oB (zY.sh F n.2.1) fun c_2 =>
 oB (vb.sh F c_2.1.1 unit) fun c_3 =>
 some ((c_3.1.1,()),())
 else bif (n.1==3) then bif idx n.2.1 q.length then oB (zY.sh F (get (.int .i64) q n.2.1.toNat)) fun c_4 =>
 some ((c_4.1.1,()),())
 else none
 else bif idx n.2.1 p.2.1.length then bif idx n.2.1 q.length then bif ((get yv p.2.1 n.2.1.toNat).2 != 0) then bif idx n.2.1 q.length then bif ((get yv p.2.1 n.2.1.toNat).2 != 0) then oB (zY.sh F (i64.wrap ((i64.wrap ((get (.int .i64) q n.2.1.toNat).tdiv (get yv p.2.1 n.2.1.toNat).2))+(if 1<(get (.int .i64) q n.2.1.toNat).tmod (get yv p.2.1 n.2.1.toNat).2 then 1 else (get (.int .i64) q n.2.1.toNat).tmod (get yv p.2.1 n.2.1.toNat).2)))) fun c_5 =>
 some ((c_5.1.1,()),())
 else none
 else none
 else none
 else none
 else none
@[reducible] def RV.sg:Sig:={args:=[.d (.g zQ),.d (.b (.int .i64))],res:=[.c (.sl zd),.c (.int .i64)]}
@[reducible] def QO.sg:Sig:={args:=[.d (.g zQ),.d (.b (.int .i64))],res:=[.g zd,.c (.int .i64)]}
@[reducible] def QN.sg:Sig:={args:=[.d (.g zQ),.d (.b (.int .i64))],res:=[.c (.int .i64),.c (.int .i64)]}
@[reducible] def Zo.sg:Sig:={args:=[.d (.g zQ),.d (.b (.sl (.int .i64)))],res:=[.c .bool]}
end Go.VS
