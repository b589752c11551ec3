import Derived.Test.YtiliboioeieeoaaGreatDoorQP1
set_option linter.unusedVariables false
set_option linter.unusedSimpArgs false
set_option linter.unusedSectionVars false
set_option linter.unusedVariables false
set_option maxRecDepth 100000
namespace Go.VS
open Go IntKind
@[reducible] def VM.sg:Sig:={args:=[.d (.g zd),.d (.g zd)],res:=[.g zd,.c (.int .i64)]}
@[reducible] def XZ.sg:Sig:={args:=[.d (.c (.int .i64))],res:=[.g zd,.c (.int .i64)]}
@[reducible] def Us.sg:Sig:={args:=[.d (.c (.int .i64))],res:=[.g zU]}
@[reducible] def Ut.sg:Sig:={args:=[.d (.g zU),.d (.g zU)],res:=[.g zU]}
@[reducible] def YZ.sg:Sig:={args:=[.d (.c (.int .i64)),.d (.c (.int .i64))],res:=[.c (.int .i64)]}
@[reducible] def VL.sg:Sig:={args:=[.d (.c (.int .i64))],res:=[.c (.int .i64)]}
@[reducible] def VR.sg:Sig:={args:=[.d (.g zd),.d (.g zd)],res:=[.g zd,.c (.int .i64)]}
@[reducible] def WL.sg:Sig:={args:=[.d (.g zU),.d (.g zU)],res:=[.g zU]}
@[reducible] def XM.sg:Sig:={args:=[.d (.g zU),.d (.g zU),.d (.b zN)],res:=[.g zU]}
@[reducible] def VK.sg:Sig:={args:=[.d (.g zL),.d (.g zb),.d (.g zU),.d (.b zU)],res:=[.g zU]}
@[reducible] def XN.sg:Sig:={args:=[],res:=[.g zd]}
@[reducible] def VQ.sg:Sig:={args:=[.d (.g zd),.d (.g zd)],res:=[.c (.int .i64)]}
@[reducible] def WM.sg:Sig:={args:=[.d (.g zL)],res:=[.c (.sl zd),.c (.int .i64),.c (.int .i64)]}
@[reducible] def WK.sg:Sig:={args:=[.d (.g zL)],res:=[.g zd,.c (.int .i64),.c (.int .i64)]}
@[reducible] def Ur.sg:Sig:={args:=[.d (.g zd),.d (.g zd)],res:=[.g zd]}
@[reducible] def WE.sg:Sig:={args:=[.d (.g zL),.d (.g zb),.d (.g zd),.d (.b (.int .i64))],res:=[.g zd]}
@[reducible] def VO.sg:Sig:={args:=[.d (.g zd),.d (.g zd)],res:=[.g zd,.c (.int .i64)]}
@[reducible] def WJ.sg:Sig:={args:=[.d (.g zd),.d (.g zd)],res:=[.g zd]}
@[reducible] def WI.sg:Sig:={args:=[.d (.g zd),.d (.g zd)],res:=[.g zd]}
@[reducible] def WG.sg:Sig:={args:=[.d (.b zd),.d (.c (.int .i64))],res:=[.g zd]}
@[reducible] def WH.sg:Sig:={args:=[.d (.b zN),.d (.g zd)],res:=[.c (.int .i64)]}
@[reducible] def YY.sg:Sig:={args:=[.d (.c (.int .i64)),.d (.b zN),.d (.g zd)],res:=[.g zd]}
@[reducible] def XY.sg:Sig:={args:=[.d (.c (.int .u64)),.d (.c (.int .u64)),.d (.c (.int .u64))],res:=[.c (.int .u64),.c (.int .u64)]}
@[reducible] def YH.sg:Sig:={args:=[.d (.c (.int .u64)),.d (.c (.int .u64)),.d (.c (.int .u64)),.d (.c (.int .u64))],res:=[.c .bool]}
@[reducible] def WS.sg:Sig:={args:=[.d (.c (.int .u64)),.d (.c (.int .u64)),.d (.c (.int .u64)),.d (.c (.int .u64))],res:=[.c (.int .u64),.c (.int .u64)]}
@[reducible] def Y4.sg:Sig:={args:=[.d (.g zd),.d (.g zd)],res:=[.g zd,.g zd,.c (.int .i64)]}
@[reducible] def Y2.sg:Sig:={args:=[.d (.g zd),.d (.g zd),.d (.g zd),.d (.c (.int .i64))],res:=[.c .bool]}
@[reducible] def VN.sg:Sig:={args:=[.d (.g zd),.d (.g zd),.d (.c (.int .i64))],res:=[.g zd,.c (.int .i64)]}
@[reducible] def XL.sg:Sig:={args:=[.d (.g zd),.d (.c (.int .i64)),.d (.c (.int .i64))],res:=[.c .bool]}
@[reducible] def XK.sg:Sig:={args:=[.d (.g zb),.d (.g zd),.d (.b zd)],res:=[.g zd]}
@[reducible] def YX.sg:Sig:={args:=[.d (.g zL),.d (.b (.int .i64))],res:=[.c (.sl zd),.c (.int .i64)]}
@[reducible] def WD.sg:Sig:={args:=[.d (.g zL),.d (.c (.int .i64))],res:=[.c (.sl (.int .i64))]}
@[reducible] def XI.sg:Sig:={args:=[.d (.g zL),.d (.c (.int .i64)),.d (.c (.int .i64))],res:=[.c .bool]}
@[reducible] def XF.sg:Sig:={args:=[.d (.g zL),.d (.b (.int .i64))],res:=[.c .bool]}
@[reducible] def YF.sg:Sig:={args:=[.d (.g zb)],res:=[.c .bool]}
@[reducible] def XE.sg:Sig:={args:=[.d (.g zL),.d (.c (.int .i64))],res:=[.c .bool]}
@[reducible] def XH.sg:Sig:={args:=[.d (.g zL),.d (.c (.int .i64))],res:=[.c .bool]}
@[reducible] def VP.sg:Sig:={args:=[.d (.g zd)],res:=[.c (.int .i64),.c .bool]}
@[reducible] def XG.sg:Sig:={args:=[.d (.g zd),.d (.c .bool),.d (.g zd)],res:=[.c .bool]}
@[reducible] def XJ.sg:Sig:={args:=[.d (.g zL)],res:=[.c .bool]}
@[reducible] def ZM.sg:Sig:={args:=[.d (.g zL)],res:=[.c .bool]}
@[reducible] def Wr.sg:Sig:={args:=[.d (.b yy),.d (.b yy)],res:=[.c .bool]}
@[reducible] def SD.sg:Sig:={args:=[.d (.g zb),.d (.g zb)],res:=[.c .bool]}
@[reducible] def ZL.sg:Sig:={args:=[.d (.b zb),.d (.b zb),.d (.c .fn)],res:=[.c .bool]}
@[reducible] def zbo.sg:Sig:={args:=[.d (.g zL),.d (.g zL)],res:=[.c .bool]}
@[reducible] def ZN.sg:Sig:={args:=[.d (.g zL)],res:=[.c .bool]}
@[reducible] def zas.sg:Sig:={args:=[.d (.g zL)],res:=[.c (.sl zd),.c (.int .i64),.c (.int .i64)]}
@[reducible] def qT.sg:Sig:={args:=[.d (.g zL)],res:=[.c .bool]}
@[reducible] def ym.sg:Sig:={args:=[.d (.g zb)],res:=[.c (.int .i64)]}
def ym.j10 {R:Type} (F:Nat) (k0:Int->Option R) (k1:Int->Option R) (k2:Int->Option R) (k3:Bool->Option R) (t4:Int) (t10:Bool) (n:zb.T):Option R :=
 bif t10 then k0 2
 else bif (t4==9) then bif (t4==9) then k1 n.2.2.2.1
 else bif (t4==16) then k2 3
 else k3 (t4==16)
 else bif (t4==10) then k1 n.2.2.2.1
 else bif (t4==16) then k2 3
 else k3 (t4==16)
def ym.j6 {R:Type} (F:Nat) (k0:Int->Option R) (k1:Int->Option R) (k2:Int->Option R) (k3:Int->Option R) (k4:Bool->Option R) (t4:Int) (t5:Bool) (n:zb.T):Option R :=
 bif t5 then k0 0
 else bif (t4==6) then ym.j10 F (fun r21=>k1 r21) (fun r22=>k2 r22) (fun r23=>k3 r23) (fun t194=>k4 t194) t4 (t4==6) n
 else bif (t4==7) then ym.j10 F (fun r25=>k1 r25) (fun r26=>k2 r26) (fun r27=>k3 r27) (fun t198=>k4 t198) t4 (t4==7) n
 else ym.j10 F (fun r29=>k1 r29) (fun r210=>k2 r210) (fun r211=>k3 r211) (fun t1912=>k4 t1912) t4 (t4==8) n
def ym.sh (F:Nat) (n:zb.T):Option ym.sg.R :=
 bif (n.1==1) then ym.j6 F (fun r213=>some ((r213,()),())) (fun r214=>some ((r214,()),())) (fun r215=>some ((r215,()),())) (fun r216=>some ((r216,()),())) (fun t1917=>some ((1,()),())) n.1 (n.1==1) n
 else bif (n.1==2) then ym.j6 F (fun r218=>some ((r218,()),())) (fun r219=>some ((r219,()),())) (fun r220=>some ((r220,()),())) (fun r221=>some ((r221,()),())) (fun t1922=>some ((1,()),())) n.1 (n.1==2) n
 else bif (n.1==3) then ym.j6 F (fun r223=>some ((r223,()),())) (fun r224=>some ((r224,()),())) (fun r225=>some ((r225,()),())) (fun r226=>some ((r226,()),())) (fun t1927=>some ((1,()),())) n.1 (n.1==3) n
 else ym.j6 F (fun r228=>some ((r228,()),())) (fun r229=>some ((r229,()),())) (fun r230=>some ((r230,()),())) (fun r231=>some ((r231,()),())) (fun t1932=>some ((1,()),())) n.1 (n.1==4) n
def ym.sp (F:Nat):TA ym.sg.args->Option ym.sg.R:=fun x=>ym.sh F x.1
@[reducible] def xM.sg:Sig:={args:=[.d (.g zd),.d (.g zd)],res:=[.g zd]}
def xM.sh (F:Nat) (a:zd.T) (b:zd.T):Option xM.sg.R :=
 oB (xz.sh F a b) fun c_1 =>
 some ((c_1.1.1,()),())
def xM.sp (F:Nat):TA xM.sg.args->Option xM.sg.R:=fun x=>xM.sh F x.1 x.2.1
@[reducible] def xN.sg:Sig:={args:=[.d (.g zd),.d (.g zd)],res:=[.g zd]}
def xN.sh (F:Nat) (a:zd.T) (b:zd.T):Option xN.sg.R :=
 oB (xA.sh F a b) fun c_1 =>
 some ((c_1.1.1,()),())
def xN.sp (F:Nat):TA xN.sg.args->Option xN.sg.R:=fun x=>xN.sh F x.1 x.2.1
@[reducible] def xi.sg:Sig:={args:=[.d (.g zd),.d (.g zd)],res:=[.g zd]}
def xi.sh (F:Nat) (a:zd.T) (b:zd.T):Option xi.sg.R :=
 oB (yf.sh F a b) fun c_1 =>
 some ((c_1.1.1,()),())
def xi.sp (F:Nat):TA xi.sg.args->Option xi.sg.R:=fun x=>xi.sh F x.1 x.2.1
@[reducible] def yu.sg:Sig:={args:=[.d (.g zd),.d (.b zN)],res:=[.c (.int .i64)]}
abbrev yu.l2.K0 (R:Type):Type:=(List zN.T)->Int->Bool->zd.T->Option R
abbrev yu.l2.T (R:Type):Type:=(List zN.T)->Int->zd.T->Option R
def yu.l2.body {R:Type} (F:Nat) (k0:yu.l2.K0 R) (rec:yu.l2.T R) (tiers:List zN.T) (k:Int) (x:zd.T):Option R :=
 bif decide ((i64.wrap (k+1))<(tiers.length:Int)) then bif idx (i64.wrap (k+1)) tiers.length then oB (zR.sh F (get zN tiers ((i64.wrap (k+1)).toNat)).1) fun c_1 =>
 oB (xp.sh F c_1.1.1 x) fun c_2 =>
 bif decide (c_2.1.1<0) then rec tiers (i64.wrap (k+1)) x
 else k0 tiers k (decide (c_2.1.1<0)) x
 else none
 else k0 tiers k false x
def yu.l2 {R:Type} (F:Nat) (k0:yu.l2.K0 R):Nat->yu.l2.T R
 | 0,_,_,_=>none
 | fu+1,tiers,k,x=>yu.l2.body F k0 (yu.l2 F k0 fu) tiers k x
def yu.sh (F:Nat) (x:zd.T) (tiers:List zN.T):Option yu.sg.R :=
 yu.l2 F (fun tiers3 k3 t223 x3=>some ((k3,()),())) F tiers (-1) x
def yu.sp (F:Nat):TA yu.sg.args->Option yu.sg.R:=fun x=>yu.sh F x.1 x.2.1
@[reducible] def zG.sg:Sig:={args:=[.d (.g zd),.d (.b zN)],res:=[.g zd]}
abbrev zG.l3.K0 (R:Type):Type:=(List zN.T)->Int->Int->Bool->zd.T->zd.T->zd.T->Option R
abbrev zG.l3.T (R:Type):Type:=(List zN.T)->Int->Int->zd.T->zd.T->zd.T->Option R
def zG.l3.body {R:Type} (F:Nat) (k0:zG.l3.K0 R) (rec:zG.l3.T R) (tiers:List zN.T) (k:Int) (i:Int) (x:zd.T) (r4:zd.T) (sum:zd.T):Option R :=
 bif decide (i<k) then bif idx i tiers.length then oB (zR.sh F (get zN tiers i.toNat).2) fun c_2 =>
 bif idx (i64.wrap (i+1)) tiers.length then bif idx i tiers.length then oB (zR.sh F (i64.wrap ((get zN tiers ((i64.wrap (i+1)).toNat)).1-(get zN tiers i.toNat).1))) fun c_3 =>
 oB (xi.sh F c_2.1.1 c_3.1.1) fun c_4 =>
 oB (xN.sh F sum c_4.1.1) fun c_5 =>
 rec tiers k (i64.wrap (i+1)) x r4 c_5.1.1
 else none
 else none
 else none
 else k0 tiers k i (decide (i<k)) x r4 sum
def zG.l3 {R:Type} (F:Nat) (k0:zG.l3.K0 R):Nat->zG.l3.T R
 | 0,_,_,_,_,_,_=>none
 | fu+1,tiers,k,i,x,r4,sum=>zG.l3.body F k0 (zG.l3 F k0 fu) tiers k i x r4 sum
def zG.sh (F:Nat) (x:zd.T) (tiers:List zN.T):Option zG.sg.R :=
 oB (yu.sh F x tiers) fun c_1 =>
 zG.l3 F (fun tiers6 k6 i6 t146 x6 r46 sum6=>bif decide (k6>=0) then bif idx k6 tiers6.length then oB (zR.sh F (get zN tiers6 k6.toNat).2) fun c_7 =>
 bif idx k6 tiers6.length then oB (zR.sh F (get zN tiers6 k6.toNat).1) fun c_8 =>
 oB (xM.sh F x6 c_8.1.1) fun c_9 =>
 oB (xi.sh F c_7.1.1 c_9.1.1) fun c_10 =>
 oB (xN.sh F sum6 c_10.1.1) fun c_11 =>
 some ((c_11.1.1,()),())
 else none
 else none
 else some ((sum6,()),())) F tiers c_1.1.1 0 x (0,0) (0,0)
def zG.sp (F:Nat):TA zG.sg.args->Option zG.sg.R:=fun x=>zG.sh F x.1 x.2.1
@[reducible] def xv.sg:Sig:={args:=[.d (.g zd),.d (.b zN)],res:=[.g zd]}
def xv.sh (F:Nat) (x:zd.T) (tiers:List zN.T):Option xv.sg.R :=
 oB (yu.sh F x tiers) fun c_1 =>
 bif decide (c_1.1.1>=0) then bif idx c_1.1.1 tiers.length then oB (zR.sh F (get zN tiers c_1.1.1.toNat).2) fun c_2 =>
 oB (xi.sh F x c_2.1.1) fun c_3 =>
 some ((c_3.1.1,()),())
 else none
 else some (((0,0),()),())
def xv.sp (F:Nat):TA xv.sg.args->Option xv.sg.R:=fun x=>xv.sh F x.1 x.2.1
@[reducible] def xK.sg:Sig:={args:=[.d (.g zd),.d (.g zd),.d (.c (.int .i64))],res:=[.c .bool]}
def xK.sh (F:Nat) (x:zd.T) (n:zd.T) (op:Int):Option xK.sg.R :=
 oB (xp.sh F x n) fun c_1 =>
 bif (op==1) then some ((decide (c_1.1.1<0),()),())
 else bif (op==2) then some ((decide (c_1.1.1<=0),()),())
 else bif (op==3) then some ((decide (c_1.1.1>0),()),())
 else bif (op==4) then some ((decide (c_1.1.1>=0),()),())
 else bif (op==5) then some (((c_1.1.1==0),()),())
 else some (((c_1.1.1 != 0),()),())
def xK.sp (F:Nat):TA xK.sg.args->Option xK.sg.R:=fun x=>xK.sh F x.1 x.2.1 x.2.2.1
@[reducible] def yM.sg:Sig:={args:=[.d (.g zb),.d (.g zd),.d (.b zd)],res:=[.g zd]}
def yM.sh (F:Nat) (n:zb.T) (unit:zd.T) (k:List zd.T):Option yM.sg.R :=
 bif idx 0 k.length then oB (zR.sh F n.2.1) fun c_1 =>
 bif (n.1==5) then oB (xM.sh F (0,0) (get zd k 0)) fun c_2 =>
 some ((c_2.1.1,()),())
 else bif (n.1==6) then bif idx 1 k.length then oB (xN.sh F (get zd k 0) (get zd k 1)) fun c_3 =>
 some ((c_3.1.1,()),())
 else none
 else bif (n.1==7) then bif idx 1 k.length then oB (xM.sh F (get zd k 0) (get zd k 1)) fun c_4 =>
 some ((c_4.1.1,()),())
 else none
 else bif (n.1==8) then bif idx 1 k.length then oB (xi.sh F (get zd k 0) (get zd k 1)) fun c_5 =>
 some ((c_5.1.1,()),())
 else none
 else bif (n.1==9) then oB (zi.sh F k xS) fun c_6 =>
 some ((c_6.1.1,()),())
 else bif (n.1==10) then oB (zj.sh F k xS) fun c_7 =>
 some ((c_7.1.1,()),())
 else bif (n.1==11) then oB (xM.sh F (get zd k 0) c_1.1.1) fun c_8 =>
 oB (zj.sh F ([(0,0),c_8.1.1]:List zd.T) xS) fun c_9 =>
 some ((c_9.1.1,()),())
 else bif (n.1==12) then oB (zi.sh F ([c_1.1.1,(get zd k 0)]:List zd.T) xS) fun c_10 =>
 some ((c_10.1.1,()),())
 else bif (n.1==13) then oB (zG.sh F (get zd k 0) n.2.2.2.2.1) fun c_11 =>
 oB (xi.sh F unit c_11.1.1) fun c_12 =>
 some ((c_12.1.1,()),())
 else bif (n.1==14) then oB (xv.sh F (get zd k 0) n.2.2.2.2.1) fun c_13 =>
 oB (xi.sh F unit c_13.1.1) fun c_14 =>
 some ((c_14.1.1,()),())
 else bif (n.1==15) then oB (zR.sh F (i64.wrap (10000-n.2.1))) fun c_15 =>
 oB (xi.sh F (get zd k 0) c_15.1.1) fun c_16 =>
 oB (zR.sh F 10000) fun c_17 =>
 oB (y9.sh F c_16.1.1 c_17.1.1 2) fun c_18 =>
 some ((c_18.1.1,()),())
 else oB (xK.sh F (get zd k 0) c_1.1.1 n.2.2.1) fun c_19 =>
 bif c_19.1.1 then bif idx 1 k.length then some (((get zd k 1),()),())
 else none
 else bif idx 2 k.length then some (((get zd k 2),()),())
 else none
 else none
def yM.sp (F:Nat):TA yM.sg.args->Option yM.sg.R:=fun x=>yM.sh F x.1 x.2.1 x.2.2.1
@[reducible] def xB.sg:Sig:={args:=[.d (.g zL),.d (.g zb),.d (.g zd),.d (.b (.int .i64))],res:=[.g zd]}
def xB.sh (F:Nat) (p:zL.T) (n:zb.T) (unit:zd.T) (q:List Int):Option xB.sg.R :=
 bif (n.1==1) then oB (zR.sh F n.2.1) fun c_1 =>
 some ((c_1.1.1,()),())
 else bif (n.1==2) then oB (zR.sh F n.2.1) fun c_2 =>
 oB (xi.sh F c_2.1.1 unit) fun c_3 =>
 some ((c_3.1.1,()),())
 else bif (n.1==3) then bif idx n.2.1 q.length then oB (zR.sh F (get (.int .i64) q n.2.1.toNat)) fun c_4 =>
 some ((c_4.1.1,()),())
 else none
 else bif idx n.2.1 p.2.1.length then bif idx n.2.1 q.length then bif ((get yy p.2.1 n.2.1.toNat).2 != 0) then bif idx n.2.1 q.length then bif ((get yy p.2.1 n.2.1.toNat).2 != 0) then oB (zR.sh F (i64.wrap ((i64.wrap ((get (.int .i64) q n.2.1.toNat).tdiv (get yy p.2.1 n.2.1.toNat).2))+(if 1<(get (.int .i64) q n.2.1.toNat).tmod (get yy p.2.1 n.2.1.toNat).2 then 1 else (get (.int .i64) q n.2.1.toNat).tmod (get yy p.2.1 n.2.1.toNat).2)))) fun c_5 =>
 some ((c_5.1.1,()),())
 else none
 else none
 else none
 else none
 else none
def xB.sp (F:Nat):TA xB.sg.args->Option xB.sg.R:=fun x=>xB.sh F x.1 x.2.1 x.2.2.1 x.2.2.2.1
@[reducible] def zq.sg:Sig:={args:=[.d (.g zL),.d (.b (.int .i64))],res:=[.c (.sl zd),.c (.int .i64)]}
abbrev zq.l7.K0 (R:Type):Type:=(List zd.T)->Int->Option R
abbrev zq.l7.K1 (R:Type):Type:=(List Int)->(List Int)->Int->Int->Bool->zL.T->zd.T->Option R
abbrev zq.l7.T (R:Type):Type:=(List Int)->(List Int)->Int->Int->zL.T->zd.T->Option R
def zq.l7.body {R:Type} (F:Nat) (k0:zq.l7.K0 R) (k1:zq.l7.K1 R) (rec:zq.l7.T R) (q:List Int) (t32:List Int) (t33:Int) (t34:Int) (p:zL.T) (unit:zd.T):Option R :=
 bif decide (t34<t33) then bif idx t34 t32.length then bif decide ((get (.int .i64) t32 t34.toNat)<0) then k0 ([]) 101
 else bif decide ((get (.int .i64) t32 t34.toNat)>1099511627776) then k0 ([]) 101
 else rec q t32 t33 (i64.wrap (t34+1)) p unit
 else none
 else k1 q t32 t33 t34 (decide (t34<t33)) p unit
def zq.l7 {R:Type} (F:Nat) (k0:zq.l7.K0 R) (k1:zq.l7.K1 R):Nat->zq.l7.T R
 | 0,_,_,_,_,_,_=>none
 | fu+1,q,t32,t33,t34,p,unit=>zq.l7.body F k0 k1 (zq.l7 F k0 k1 fu) q t32 t33 t34 p unit
abbrev zq.l14.K0 (R:Type):Type:=(List Int)->(List zb.T)->Int->Int->Bool->zL.T->zd.T->(List zd.T)->(List zd.T)->Option R
abbrev zq.l14.T (R:Type):Type:=(List Int)->(List zb.T)->Int->Int->zL.T->zd.T->(List zd.T)->(List zd.T)->Option R
def zq.l14.body {R:Type} (F:Nat) (k0:zq.l14.K0 R) (rec:zq.l14.T R) (q:List Int) (t46:List zb.T) (t47:Int) (t48:Int) (p:zL.T) (unit:zd.T) (values:List zd.T) (pile:List zd.T):Option R :=
 bif decide (t48<t47) then bif idx t48 t46.length then oB (ym.sh F (get zb t46 t48.toNat)) fun c_4 =>
 bif decide ((i64.wrap ((pile.length:Int)-c_4.1.1))<(pile.length:Int)) then bif (zA pile.length (some (i64.wrap ((pile.length:Int)-c_4.1.1))) none).1 then oB (yM.sh F (get zb t46 t48.toNat) unit ((List.take (zA pile.length (some (i64.wrap ((pile.length:Int)-c_4.1.1))) none).2.2 pile).drop (zA pile.length (some (i64.wrap ((pile.length:Int)-c_4.1.1))) none).2.1)) fun c_5 =>
 bif Nat.ble (values.length+([c_5.1.1]:List zd.T).length) xu then bif (zA pile.length none (some (i64.wrap ((pile.length:Int)-c_4.1.1)))).1 then bif Nat.ble ((zA pile.length none (some (i64.wrap ((pile.length:Int)-c_4.1.1)))).2.2+([c_5.1.1]:List zd.T).length) xu then rec q t46 t47 (i64.wrap (t48+1)) p unit (values++([c_5.1.1]:List zd.T)) (pile.take (zA pile.length none (some (i64.wrap ((pile.length:Int)-c_4.1.1)))).2.2++([c_5.1.1]:List zd.T))
 else none
 else none
 else none
 else none
 else oB (xB.sh F p (get zb t46 t48.toNat) unit q) fun c_6 =>
 bif Nat.ble (values.length+([c_6.1.1]:List zd.T).length) xu then bif (zA pile.length none (some (i64.wrap ((pile.length:Int)-c_4.1.1)))).1 then bif Nat.ble ((zA pile.length none (some (i64.wrap ((pile.length:Int)-c_4.1.1)))).2.2+([c_6.1.1]:List zd.T).length) xu then rec q t46 t47 (i64.wrap (t48+1)) p unit (values++([c_6.1.1]:List zd.T)) (pile.take (zA pile.length none (some (i64.wrap ((pile.length:Int)-c_4.1.1)))).2.2++([c_6.1.1]:List zd.T))
 else none
 else none
 else none
 else none
 else k0 q t46 t47 t48 (decide (t48<t47)) p unit values pile
def zq.l14 {R:Type} (F:Nat) (k0:zq.l14.K0 R):Nat->zq.l14.T R
 | 0,_,_,_,_,_,_,_,_=>none
 | fu+1,q,t46,t47,t48,p,unit,values,pile=>zq.l14.body F k0 (zq.l14 F k0 fu) q t46 t47 t48 p unit values pile
def zq.j24 {R:Type} (F:Nat) (k0:(List zd.T)->Int->Option R) (values:List zd.T):Option R :=
 k0 values 0
def zq.sh (F:Nat) (p:zL.T) (q:List Int):Option zq.sg.R :=
 oB (yX.sh F p) fun c_1 =>
 bif (c_1.1.2.2.1 != 0) then some (([],c_1.1.2.2.1,()),())
 else bif ((q.length:Int) != (p.2.1.length:Int)) then some (([],100,()),())
 else zq.l7 F (fun r42 r52=>some ((r42,r52,()),())) (fun q3 t323 t333 t343 t353 p3 unit3=>zq.l14 F (fun q7 t467 t477 t487 t497 p7 unit7 values7 pile7=>zq.j24 F (fun r48 r58=>some ((r48,r58,()),())) values7) F q3 p3.2.2.2 (p3.2.2.2.length:Int) 0 p3 unit3 ([]) ([])) F q q (q.length:Int) 0 p c_1.1.1
def zq.sp (F:Nat):TA zq.sg.args->Option zq.sg.R:=fun x=>zq.sh F x.1 x.2.1
@[reducible] def xd.sg:Sig:={args:=[.d (.g zL),.d (.b (.int .i64))],res:=[.g zd,.c (.int .i64)]}
def xd.sh (F:Nat) (p:zL.T) (q:List Int):Option xd.sg.R :=
 oB (zq.sh F p q) fun c_1 =>
 bif (c_1.1.2.1 != 0) then some (((0,0),c_1.1.2.1,()),())
 else bif idx (i64.wrap ((c_1.1.1.length:Int)-1)) c_1.1.1.length then some (((get zd c_1.1.1 ((i64.wrap ((c_1.1.1.length:Int)-1)).toNat)),0,()),())
 else none
def xd.sp (F:Nat):TA xd.sg.args->Option xd.sg.R:=fun x=>xd.sh F x.1 x.2.1
@[reducible] def xj.sg:Sig:={args:=[.d (.g zL),.d (.b (.int .i64))],res:=[.c (.int .i64),.c (.int .i64)]}
def xj.sh (F:Nat) (p:zL.T) (q:List Int):Option xj.sg.R :=
 oB (xd.sh F p q) fun c_1 =>
 bif (c_1.1.2.1 != 0) then some ((0,c_1.1.2.1,()),())
 else oB (yX.sh F p) fun c_2 =>
 oB (y9.sh F c_1.1.1 c_2.1.1 p.2.2.1) fun c_3 =>
 oB (xU.sh F c_3.1.1) fun c_4 =>
 bif !c_4.1.2.1 then some ((0,102,()),())
 else bif decide (c_4.1.1<(-1000000000000000)) then some ((0,102,()),())
 else bif decide (c_4.1.1>1000000000000000) then some ((0,102,()),())
 else some ((c_4.1.1,0,()),())
def xj.sp (F:Nat):TA xj.sg.args->Option xj.sg.R:=fun x=>xj.sh F x.1 x.2.1
@[reducible] def zr.sg:Sig:={args:=[.d (.g zL),.d (.b (.sl (.int .i64)))],res:=[.c .bool]}
abbrev zr.l14.K3 (R:Type):Type:=(List (List Int))->Int->Bool->zL.T->zL.T->zd.T->Option R
abbrev zr.l14.T (R:Type):Type:=(List (List Int))->Int->zL.T->zL.T->zd.T->Option R
def zr.l14.body {R:Type} (F:Nat) (k0:Bool->Option R) (k1:Bool->Option R) (k2:Bool->Option R) (k3:zr.l14.K3 R) (rec:zr.l14.T R) (list:List (List Int)) (i:Int) (p:zL.T) (q:zL.T) (k:zd.T):Option R :=
 bif decide (i<(list.length:Int)) then bif decide (i<256) then bif idx i list.length then oB (xj.sh F p (get (.sl (.int .i64)) list i.toNat)) fun c_6 =>
 bif idx i list.length then oB (xj.sh F q (get (.sl (.int .i64)) list i.toNat)) fun c_7 =>
 bif (c_6.1.1 != c_7.1.1) then k0 false
 else bif (c_6.1.2.1 != c_7.1.2.1) then k0 false
 else bif idx i list.length then oB (xd.sh F p (get (.sl (.int .i64)) list i.toNat)) fun c_8 =>
 bif idx i list.length then oB (xd.sh F q (get (.sl (.int .i64)) list i.toNat)) fun c_9 =>
 bif (c_8.1.2.1 != c_9.1.2.1) then k1 false
 else oB (yf.sh F c_9.1.1 k) fun c_10 =>
 bif (c_8.1.2.1==0) then bif (c_10.1.2.1 != 0) then k2 false
 else bif !((c_10.1.1.1==c_8.1.1.1)&&((c_10.1.1.2==c_8.1.1.2)&&true)) then k2 false
 else rec list (i64.wrap (i+1)) p q k
 else rec list (i64.wrap (i+1)) p q k
 else none
 else none
 else none
 else none
 else k3 list i (decide (i<256)) p q k
 else k3 list i false p q k
def zr.l14 {R:Type} (F:Nat) (k0:Bool->Option R) (k1:Bool->Option R) (k2:Bool->Option R) (k3:zr.l14.K3 R):Nat->zr.l14.T R
 | 0,_,_,_,_,_=>none
 | fu+1,list,i,p,q,k=>zr.l14.body F k0 k1 k2 k3 (zr.l14 F k0 k1 k2 k3 fu) list i p q k
def zr.sh (F:Nat) (p:zL.T) (list:List (List Int)):Option zr.sg.R :=
 oB (yx.sh F) fun c_1 =>
 bif !c_1.1.1 then some ((false,()),())
 else oB (xk.sh F p) fun c_2 =>
 oB (zF.sh F p) fun c_3 =>
 oB (zF.sh F c_2.1.1) fun c_4 =>
 bif (c_2.1.2.1 != 0) then some ((((c_2.1.1.2.2.2.length:Int)==0),()),())
 else bif (c_3.1.2.1 != 0) then some ((false,()),())
 else bif (c_4.1.2.1 != 0) then some ((false,()),())
 else bif decide (c_4.1.1>c_3.1.1) then some ((false,()),())
 else oB (zQ.sh F (i64.wrap (c_3.1.1-c_4.1.1))) fun c_5 =>
 bif (c_5.1.2.1 != 0) then some ((false,()),())
 else zr.l14 F (fun r411=>some ((r411,()),())) (fun r412=>some ((r412,()),())) (fun r413=>some ((r413,()),())) (fun list14 i14 t7214 p14 q14 k14=>some ((true,()),())) F list 0 p c_2.1.1 c_5.1.1
def zr.sp (F:Nat):TA zr.sg.args->Option zr.sg.R:=fun x=>zr.sh F x.1 x.2.1
end Go.VS
