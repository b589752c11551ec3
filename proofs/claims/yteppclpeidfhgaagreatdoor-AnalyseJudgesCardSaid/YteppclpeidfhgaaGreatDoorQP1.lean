import Derived.Test.YteppclpeidfhgaaGreatDoorQH
set_option linter.unusedVariables false
set_option linter.unusedSimpArgs false
set_option linter.unusedSectionVars false
set_option linter.unusedVariables false
set_option maxRecDepth 100000
namespace Go.VS
open Go IntKind
@[reducible] def xd.sg:Sig:={args:=[.d (.c (.sl zT))],res:=[.g xZ]}
def xd.sh (F:Nat) (nodes:List zT.T):Option xd.sg.R :=
 some ((((⟨#[112]⟩:ByteArray),([((⟨#[97]⟩:ByteArray),10)]:List wK.T),0,nodes),()),())
def xd.sp (F:Nat):TA xd.sg.args->Option xd.sg.R:=fun x=>xd.sh F x.1
@[reducible] def xI.sg:Sig:={args:=[.d (.c (.int .u8))],res:=[.c .bool]}
def xI.sh (F:Nat) (c:Int):Option xI.sg.R :=
 bif decide (c>=97) then some ((decide (c<=122),()),())
 else some ((false,()),())
def xI.sp (F:Nat):TA xI.sg.args->Option xI.sg.R:=fun x=>xI.sh F x.1
@[reducible] def wo.sg:Sig:={args:=[.d (.c (.int .u8))],res:=[.c .bool]}
def wo.sh (F:Nat) (c:Int):Option wo.sg.R :=
 bif decide (c>=48) then some ((decide (c<=57),()),())
 else some ((false,()),())
def wo.sp (F:Nat):TA wo.sg.args->Option wo.sg.R:=fun x=>wo.sh F x.1
@[reducible] def wt.sg:Sig:={args:=[.d (.c (.int .u8))],res:=[.c .bool]}
def wt.sh (F:Nat) (c:Int):Option wt.sg.R :=
 oB (xI.sh F c) fun c_1 =>
 bif c_1.1.1 then some ((true,()),())
 else oB (wo.sh F c) fun c_2 =>
 bif c_2.1.1 then some ((true,()),())
 else some (((c==95),()),())
def wt.sp (F:Nat):TA wt.sg.args->Option wt.sg.R:=fun x=>wt.sh F x.1
@[reducible] def y9.sg:Sig:={args:=[.d (.c .str),.d (.c .fn)],res:=[.c (.int .i64)]}
@[reducible] def y9.ds15:Sig:={args:=[.d (.c (.int .u8))],res:=[.c .bool]}
def y9.d15 (F:Nat):Nat->TA y9.ds15.args->Option y9.ds15.R:=mkT y9.ds15 [(qL,wt.sp F),(qo,xI.sp F)]
abbrev y9.l2.K0 (R:Type):Type:=ByteArray->Nat->Int->Bool->Option R
abbrev y9.l2.T (R:Type):Type:=ByteArray->Nat->Int->Option R
def y9.l2.body {R:Type} (F:Nat) (k0:y9.l2.K0 R) (rec:y9.l2.T R) (s:ByteArray) (of:Nat) (n:Int):Option R :=
 bif decide (n<(s.size:Int)) then bif idx n s.size then oB (y9.d15 F of (bt s n,())) fun c_1 =>
 bif c_1.1.1 then rec s of (i64.wrap (n+1))
 else k0 s of n c_1.1.1
 else none
 else k0 s of n false
def y9.l2 {R:Type} (F:Nat) (k0:y9.l2.K0 R):Nat->y9.l2.T R
 | 0,_,_,_=>none
 | fu+1,s,of,n=>y9.l2.body F k0 (y9.l2 F k0 fu) s of n
def y9.sh (F:Nat) (s:ByteArray) (of_:Nat):Option y9.sg.R :=
 y9.l2 F (fun s2 of2 n2 t162=>some ((n2,()),())) F s of_ 0
def y9.sp (F:Nat):TA y9.sg.args->Option y9.sg.R:=fun x=>y9.sh F x.1 x.2.1
@[reducible] def wy.sg:Sig:={args:=[.d (.c .str)],res:=[.c .bool]}
def wy.sh (F:Nat) (s:ByteArray):Option wy.sg.R :=
 bif !(s.toList==(⟨#[]⟩:ByteArray).toList) then oB (y9.sh F s qo) fun c_1 =>
 bif (c_1.1.1==(s.size:Int)) then bif Nat.ble ((⟨#[32]⟩:ByteArray).size+s.size) vb then bif Nat.ble (((⟨#[32]⟩:ByteArray)++s).size+(⟨#[32]⟩:ByteArray).size) vb then oB (xt.sh F (⟨#[32,112,108,97,110,32,114,111,117,110,100,32,98,121,32,98,108,111,99,107,115,32,109,105,110,32,109,97,120,32,111,118,101,114,32,117,112,116,111,32,103,114,97,100,117,97,116,101,100,32,118,111,108,117,109,101,32,111,102,102,32,105,102,32,102,108,111,111,114,32,99,101,105,108,32,122,101,114,111,32,104,97,108,102,32,101,118,101,110,32]⟩:ByteArray) (((⟨#[32]⟩:ByteArray)++s)++(⟨#[32]⟩:ByteArray))) fun c_2 =>
 some ((c_2.1.1,()),())
 else none
 else none
 else some ((false,()),())
 else some ((false,()),())
def wy.sp (F:Nat):TA wy.sg.args->Option wy.sg.R:=fun x=>wy.sh F x.1
@[reducible] def wv.sg:Sig:={args:=[.d (.c .str)],res:=[.c .bool]}
def wv.sh (F:Nat) (s:ByteArray):Option wv.sg.R :=
 bif !(s.toList==(⟨#[]⟩:ByteArray).toList) then bif decide ((s.size:Int)<=32) then bif idx 0 s.size then oB (xI.sh F (bt s 0)) fun c_1 =>
 bif c_1.1.1 then oB (y9.sh F s qL) fun c_2 =>
 bif (c_2.1.1==(s.size:Int)) then oB (wy.sh F s) fun c_3 =>
 some ((!c_3.1.1,()),())
 else some ((false,()),())
 else some ((false,()),())
 else none
 else some ((false,()),())
 else some ((false,()),())
def wv.sp (F:Nat):TA wv.sg.args->Option wv.sg.R:=fun x=>wv.sh F x.1
@[reducible] def xN.sg:Sig:={args:=[.d (.g wK),.d (.p wK)],res:=[.c .bool]}
def xN.sh (F:Nat) (e:wK.T) (t1:wK.T):Option xN.sg.R :=
 some (((e.1.toList==t1.1.toList),()),())
def xN.sp (F:Nat):TA xN.sg.args->Option xN.sg.R:=fun x=>xN.sh F x.1 x.2.1
@[reducible] def zr.sg:Sig:={args:=[.d (.b wK),.d (.cl wK)],res:=[.c (.int .i64)]}
@[reducible] def zr.ds16:Sig:={args:=[.d (.g wK),.d (.p wK)],res:=[.c .bool]}
def zr.d16 (F:Nat):Nat->TA zr.ds16.args->Option zr.ds16.R:=mkT zr.ds16 [(Ym,xN.sp F)]
abbrev zr.l2.K1 (R:Type):Type:=(List wK.T)->(Nat×wK.T)->Int->Int->Bool->Option R
abbrev zr.l2.T (R:Type):Type:=(List wK.T)->(Nat×wK.T)->Int->Int->Option R
def zr.l2.body {R:Type} (F:Nat) (k0:Int->Option R) (k1:zr.l2.K1 R) (rec:zr.l2.T R) (s:List wK.T) (f:Nat×wK.T) (t7:Int) (t8:Int):Option R :=
 bif decide (t8<t7) then bif idx t8 s.length then oB (zr.d16 F (f.1+1) ((get wK s t8.toNat),f.2,())) fun c_1 =>
 bif c_1.1.1 then k0 t8
 else rec s (f.1,f.2) t7 (i64.wrap (t8+1))
 else none
 else k1 s (f.1,f.2) t7 t8 (decide (t8<t7))
def zr.l2 {R:Type} (F:Nat) (k0:Int->Option R) (k1:zr.l2.K1 R):Nat->zr.l2.T R
 | 0,_,_,_,_=>none
 | fu+1,s,f,t7,t8=>zr.l2.body F k0 k1 (zr.l2 F k0 k1 fu) s f t7 t8
def zr.sh (F:Nat) (s:List wK.T) (f:Nat×wK.T):Option zr.sg.R :=
 zr.l2 F (fun r42=>some ((r42,()),())) (fun s3 f3 t73 t83 t93=>some (((-1),()),())) F s (f.1,f.2) (s.length:Int) 0
def zr.sp (F:Nat):TA zr.sg.args->Option zr.sg.R:=fun x=>zr.sh F x.1 x.2.1
@[reducible] def yf.sg:Sig:={args:=[.d (.b wK),.d (.cl wK)],res:=[.c .bool]}
def yf.sh (F:Nat) (s:List wK.T) (f:Nat×wK.T):Option yf.sg.R :=
 oB (zr.sh F s (f.1,f.2)) fun c_1 =>
 some ((decide (c_1.1.1>=0),()),())
def yf.sp (F:Nat):TA yf.sg.args->Option yf.sg.R:=fun x=>yf.sh F x.1 x.2.1
@[reducible] def yS.sg:Sig:={args:=[.d (.g xZ)],res:=[.c (.int .i64)]}
abbrev yS.l6.K2 (R:Type):Type:=(List wK.T)->Int->Int->Bool->xZ.T->Option R
abbrev yS.l6.T (R:Type):Type:=(List wK.T)->Int->Int->xZ.T->Option R
def yS.l6.body {R:Type} (F:Nat) (k0:Int->Option R) (k1:Int->Option R) (k2:yS.l6.K2 R) (rec:yS.l6.T R) (t21:List wK.T) (t22:Int) (t23:Int) (p:xZ.T):Option R :=
 bif decide (t23<t22) then bif idx t23 t21.length then oB (wv.sh F (get wK t21 t23.toNat).1) fun c_2 =>
 bif !c_2.1.1 then k0 61
 else bif (yd p.2.1.length none (some t23)).1 then oB (yf.sh F ((p.2.1.take (yd p.2.1.length none (some t23)).2.2).drop (yd p.2.1.length none (some t23)).2.1) (Yp,(get wK t21 t23.toNat))) fun c_3 =>
 bif c_3.1.1 then k0 61
 else bif decide ((get wK t21 t23.toNat).2<1) then k1 50
 else bif decide ((get wK t21 t23.toNat).2>1000000000000) then k1 50
 else rec t21 t22 (i64.wrap (t23+1)) p
 else none
 else none
 else k2 t21 t22 t23 (decide (t23<t22)) p
def yS.l6 {R:Type} (F:Nat) (k0:Int->Option R) (k1:Int->Option R) (k2:yS.l6.K2 R):Nat->yS.l6.T R
 | 0,_,_,_,_=>none
 | fu+1,t21,t22,t23,p=>yS.l6.body F k0 k1 k2 (yS.l6 F k0 k1 k2 fu) t21 t22 t23 p
def yS.sh (F:Nat) (p:xZ.T):Option yS.sg.R :=
 oB (wv.sh F p.1) fun c_1 =>
 bif !c_1.1.1 then some ((61,()),())
 else bif decide ((p.2.1.length:Int)<1) then some ((100,()),())
 else bif decide ((p.2.1.length:Int)>4) then some ((100,()),())
 else yS.l6 F (fun r24=>some ((r24,()),())) (fun r25=>some ((r25,()),())) (fun t216 t226 t236 t246 p6=>bif decide (p6.2.2.1<0) then some ((50,()),())
 else bif decide (p6.2.2.1>4) then some ((50,()),())
 else some ((0,()),())) F p.2.1 (p.2.1.length:Int) 0 p
def yS.sp (F:Nat):TA yS.sg.args->Option yS.sg.R:=fun x=>yS.sh F x.1
@[reducible] def xz.sg:Sig:={args:=[.d (.g zT)],res:=[.c (.int .i64)]}
def xz.sh (F:Nat) (n:zT.T):Option xz.sg.R :=
 bif idx n.1 17 then bif decide ((get wn uW n.1.toNat).1>=0) then some (((get wn uW n.1.toNat).1,()),())
 else some ((n.2.2.2.1,()),())
 else none
def xz.sp (F:Nat):TA xz.sg.args->Option xz.sg.R:=fun x=>xz.sh F x.1
@[reducible] def yj.sg:Sig:={args:=[.d (.b xH)],res:=[.c .bool]}
abbrev yj.l4.K1 (R:Type):Type:=(List xH.T)->(List xH.T)->Int->Int->Bool->Option R
abbrev yj.l4.T (R:Type):Type:=(List xH.T)->(List xH.T)->Int->Int->Option R
def yj.l4.body {R:Type} (F:Nat) (k0:Bool->Option R) (k1:yj.l4.K1 R) (rec:yj.l4.T R) (tiers:List xH.T) (t20:List xH.T) (t21:Int) (t22:Int):Option R :=
 bif decide (t22<t21) then bif idx t22 t20.length then bif decide (t22>0) then bif idx (i64.wrap (t22-1)) tiers.length then bif decide ((get xH t20 t22.toNat).1<=(get xH tiers ((i64.wrap (t22-1)).toNat)).1) then k0 false
 else bif decide ((get xH t20 t22.toNat).1>1000000000000) then k0 false
 else bif decide ((get xH t20 t22.toNat).2<(-1000000000000)) then k0 false
 else bif decide ((get xH t20 t22.toNat).2>1000000000000) then k0 false
 else rec tiers t20 t21 (i64.wrap (t22+1))
 else none
 else bif decide ((get xH t20 t22.toNat).1>1000000000000) then k0 false
 else bif decide ((get xH t20 t22.toNat).2<(-1000000000000)) then k0 false
 else bif decide ((get xH t20 t22.toNat).2>1000000000000) then k0 false
 else rec tiers t20 t21 (i64.wrap (t22+1))
 else none
 else k1 tiers t20 t21 t22 (decide (t22<t21))
def yj.l4 {R:Type} (F:Nat) (k0:Bool->Option R) (k1:yj.l4.K1 R):Nat->yj.l4.T R
 | 0,_,_,_,_=>none
 | fu+1,tiers,t20,t21,t22=>yj.l4.body F k0 k1 (yj.l4 F k0 k1 fu) tiers t20 t21 t22
def yj.sh (F:Nat) (tiers:List xH.T):Option yj.sg.R :=
 bif decide ((tiers.length:Int)<1) then some ((false,()),())
 else bif decide ((tiers.length:Int)>16) then some ((false,()),())
 else bif idx 0 tiers.length then bif ((get xH tiers 0).1 != 0) then some ((false,()),())
 else yj.l4 F (fun r21=>some ((r21,()),())) (fun tiers2 t202 t212 t222 t232=>some ((true,()),())) F tiers tiers (tiers.length:Int) 0
 else none
def yj.sp (F:Nat):TA yj.sg.args->Option yj.sg.R:=fun x=>yj.sh F x.1
@[reducible] def yo.sg:Sig:={args:=[.d (.g zT),.d (.c (.int .i64)),.d (.c (.int .i64))],res:=[.c (.int .i64)]}
def yo.j13 {R:Type} (F:Nat) (k0:Int->Option R) (k1:Int->Option R) (k2:Int->Option R) (pile:Int) (most:Int) (kids:Bool) (op:Bool) (n:zT.T) (k:wn.T):Option R :=
 bif decide (n.2.1<0) then k0 50
 else bif decide (n.2.1>most) then k0 50
 else bif !kids then k0 50
 else bif !op then k0 50
 else bif !k.2.2.1 then bif decide ((n.2.2.2.2.1.length:Int)>0) then k0 50
 else oB (xz.sh F n) fun c_1 =>
 bif decide (pile<c_1.1.1) then k0 50
 else bif k.2.2.1 then oB (yj.sh F n.2.2.2.2.1) fun c_2 =>
 bif !c_2.1.1 then k1 51
 else k2 0
 else k2 0
 else oB (xz.sh F n) fun c_3 =>
 bif decide (pile<c_3.1.1) then k0 50
 else bif k.2.2.1 then oB (yj.sh F n.2.2.2.2.1) fun c_4 =>
 bif !c_4.1.1 then k1 51
 else k2 0
 else k2 0
def yo.j10 {R:Type} (F:Nat) (k0:Int->Option R) (k1:Int->Option R) (k2:Int->Option R) (pile:Int) (most:Int) (kids:Bool) (n:zT.T) (k:wn.T):Option R :=
 bif k.2.2.2 then bif decide (n.2.2.1>=1) then yo.j13 F (fun r65=>k0 r65) (fun r66=>k1 r66) (fun r67=>k2 r67) pile most kids (decide (n.2.2.1<=6)) n k
 else yo.j13 F (fun r68=>k0 r68) (fun r69=>k1 r69) (fun r610=>k2 r610) pile most kids false n k
 else yo.j13 F (fun r611=>k0 r611) (fun r612=>k1 r612) (fun r613=>k2 r613) pile most kids (n.2.2.1==0) n k
def yo.j7 {R:Type} (F:Nat) (k0:Int->Option R) (k1:Int->Option R) (k2:Int->Option R) (pile:Int) (most:Int) (n:zT.T) (k:wn.T):Option R :=
 bif decide (k.1<0) then bif decide (n.2.2.2.1>=2) then yo.j10 F (fun r614=>k0 r614) (fun r615=>k1 r615) (fun r616=>k2 r616) pile most (decide (n.2.2.2.1<=16)) n k
 else yo.j10 F (fun r617=>k0 r617) (fun r618=>k1 r618) (fun r619=>k2 r619) pile most false n k
 else yo.j10 F (fun r620=>k0 r620) (fun r621=>k1 r621) (fun r622=>k2 r622) pile most (n.2.2.2.1==0) n k
def yo.sh (F:Nat) (n:zT.T) (dims:Int) (pile:Int):Option yo.sg.R :=
 bif decide (n.1<1) then some ((50,()),())
 else bif decide (n.1>16) then some ((50,()),())
 else bif idx n.1 17 then bif decide ((get wn uW n.1.toNat).2.1<0) then yo.j7 F (fun r623=>some ((r623,()),())) (fun r624=>some ((r624,()),())) (fun r625=>some ((r625,()),())) pile (i64.wrap (dims-1)) n (get wn uW n.1.toNat)
 else yo.j7 F (fun r626=>some ((r626,()),())) (fun r627=>some ((r627,()),())) (fun r628=>some ((r628,()),())) pile (get wn uW n.1.toNat).2.1 n (get wn uW n.1.toNat)
 else none
def yo.sp (F:Nat):TA yo.sg.args->Option yo.sg.R:=fun x=>yo.sh F x.1 x.2.1 x.2.2.1
@[reducible] def yl.sg:Sig:={args:=[.d (.g xZ)],res:=[.c (.int .i64),.c (.int .i64)]}
abbrev yl.l8.K1 (R:Type):Type:=Int->(List zT.T)->Int->Int->Bool->xZ.T->Option R
abbrev yl.l8.T (R:Type):Type:=Int->(List zT.T)->Int->Int->xZ.T->Option R
def yl.l8.body {R:Type} (F:Nat) (k0:Int->Int->Option R) (k1:yl.l8.K1 R) (rec:yl.l8.T R) (pile:Int) (t19:List zT.T) (t20:Int) (t21:Int) (p:xZ.T):Option R :=
 bif decide (t21<t20) then bif idx t21 t19.length then oB (yo.sh F (get zT t19 t21.toNat) (p.2.1.length:Int) pile) fun c_2 =>
 bif (c_2.1.1 != 0) then k0 t21 c_2.1.1
 else oB (xz.sh F (get zT t19 t21.toNat)) fun c_3 =>
 rec (i64.wrap (pile+(i64.wrap (1-c_3.1.1)))) t19 t20 (i64.wrap (t21+1)) p
 else none
 else k1 pile t19 t20 t21 (decide (t21<t20)) p
def yl.l8 {R:Type} (F:Nat) (k0:Int->Int->Option R) (k1:yl.l8.K1 R):Nat->yl.l8.T R
 | 0,_,_,_,_,_=>none
 | fu+1,pile,t19,t20,t21,p=>yl.l8.body F k0 k1 (yl.l8 F k0 k1 fu) pile t19 t20 t21 p
def yl.sh (F:Nat) (p:xZ.T):Option yl.sg.R :=
 oB (yS.sh F p) fun c_1 =>
 bif (c_1.1.1 != 0) then some (((-1),c_1.1.1,()),())
 else bif decide ((p.2.2.2.length:Int)>1024) then some ((1024,2,()),())
 else yl.l8 F (fun r24 r34=>some ((r24,r34,()),())) (fun pile5 t195 t205 t215 t225 p5=>bif (pile5 != 1) then some (((p5.2.2.2.length:Int),50,()),())
 else some ((0,0,()),())) F 0 p.2.2.2 (p.2.2.2.length:Int) 0 p
def yl.sp (F:Nat):TA yl.sg.args->Option yl.sg.R:=fun x=>yl.sh F x.1
@[reducible] def zP.sg:Sig:={args:=[.d (.g xZ)],res:=[.c (.sl (.int .i64))]}
abbrev zP.l3.K0 (R:Type):Type:=(List zT.T)->Int->Int->Bool->(List Int)->(List Int)->Option R
abbrev zP.l3.T (R:Type):Type:=(List zT.T)->Int->Int->(List Int)->(List Int)->Option R
def zP.l3.body {R:Type} (F:Nat) (k0:zP.l3.K0 R) (rec:zP.l3.T R) (t10:List zT.T) (t11:Int) (t12:Int) (list:List Int) (pile:List Int):Option R :=
 bif decide (t12<t11) then bif idx t12 t10.length then oB (xz.sh F (get zT t10 t12.toNat)) fun c_1 =>
 bif decide (c_1.1.1>0) then bif idx (i64.wrap ((pile.length:Int)-c_1.1.1)) pile.length then bif (yd pile.length none (some (i64.wrap ((pile.length:Int)-c_1.1.1)))).1 then bif Nat.ble ((pile.take (yd pile.length none (some (i64.wrap ((pile.length:Int)-c_1.1.1)))).2.2).length+([get (.int .i64) pile ((i64.wrap ((pile.length:Int)-c_1.1.1)).toNat)]:List Int).length) vb then bif Nat.ble (list.length+([get (.int .i64) pile ((i64.wrap ((pile.length:Int)-c_1.1.1)).toNat)]:List Int).length) vb then rec t10 t11 (i64.wrap (t12+1)) (list++([get (.int .i64) pile ((i64.wrap ((pile.length:Int)-c_1.1.1)).toNat)]:List Int)) ((pile.take (yd pile.length none (some (i64.wrap ((pile.length:Int)-c_1.1.1)))).2.2)++([get (.int .i64) pile ((i64.wrap ((pile.length:Int)-c_1.1.1)).toNat)]:List Int))
 else none
 else none
 else none
 else none
 else bif Nat.ble (pile.length+([t12]:List Int).length) vb then bif Nat.ble (list.length+([t12]:List Int).length) vb then rec t10 t11 (i64.wrap (t12+1)) (list++([t12]:List Int)) (pile++([t12]:List Int))
 else none
 else none
 else none
 else k0 t10 t11 t12 (decide (t12<t11)) list pile
def zP.l3 {R:Type} (F:Nat) (k0:zP.l3.K0 R):Nat->zP.l3.T R
 | 0,_,_,_,_,_=>none
 | fu+1,t10,t11,t12,list,pile=>zP.l3.body F k0 (zP.l3 F k0 fu) t10 t11 t12 list pile
def zP.j13 {R:Type} (F:Nat) (k0:(List Int)->Option R) (list:List Int):Option R :=
 k0 list
def zP.sh (F:Nat) (p:xZ.T):Option zP.sg.R :=
 zP.l3 F (fun t102 t112 t122 t132 list2 pile2=>zP.j13 F (fun r23=>some ((r23,()),())) list2) F p.2.2.2 (p.2.2.2.length:Int) 0 ([]) ([])
def zP.sp (F:Nat):TA zP.sg.args->Option zP.sg.R:=fun x=>zP.sh F x.1
@[reducible] def xS.sg:Sig:={args:=[.d (.g xZ)],res:=[.c (.sl (.int .i64)),.c (.int .i64)]}
def xS.sh (F:Nat) (p:xZ.T):Option xS.sg.R :=
 oB (yl.sh F p) fun c_1 =>
 bif (c_1.1.2.1 != 0) then some (([],c_1.1.2.1,()),())
 else oB (zP.sh F p) fun c_2 =>
 some ((c_2.1.1,0,()),())
def xS.sp (F:Nat):TA xS.sg.args->Option xS.sg.R:=fun x=>xS.sh F x.1
@[reducible] def zG.sg:Sig:={args:=[.d (.g xZ)],res:=[.c (.sl .bool),.c (.int .i64)]}
abbrev zG.l7.K0 (R:Type):Type:=(List Int)->Int->(List zT.T)->Int->Int->Bool->(List Bool)->Option R
abbrev zG.l7.T (R:Type):Type:=(List Int)->Int->(List zT.T)->Int->Int->(List Bool)->Option R
def zG.l7.body {R:Type} (F:Nat) (k0:zG.l7.K0 R) (rec:zG.l7.T R) (list:List Int) (last:Int) (t22:List zT.T) (t23:Int) (t24:Int) (out:List Bool):Option R :=
 bif decide (t24<t23) then bif idx t24 t22.length then bif ((get zT t22 t24.toNat).1==3) then bif idx t24 list.length then bif idx t24 out.length then rec list t24 t22 t23 (i64.wrap (t24+1)) (out.set t24.toNat (decide (t24<(get (.int .i64) list t24.toNat))))
 else none
 else none
 else bif ((get zT t22 t24.toNat).1==4) then bif idx t24 list.length then bif idx t24 out.length then rec list t24 t22 t23 (i64.wrap (t24+1)) (out.set t24.toNat (decide (t24<(get (.int .i64) list t24.toNat))))
 else none
 else none
 else bif idx t24 list.length then bif idx t24 out.length then rec list last t22 t23 (i64.wrap (t24+1)) (out.set t24.toNat (decide (last<(get (.int .i64) list t24.toNat))))
 else none
 else none
 else none
 else k0 list last t22 t23 t24 (decide (t24<t23)) out
def zG.l7 {R:Type} (F:Nat) (k0:zG.l7.K0 R):Nat->zG.l7.T R
 | 0,_,_,_,_,_,_=>none
 | fu+1,list,last,t22,t23,t24,out=>zG.l7.body F k0 (zG.l7 F k0 fu) list last t22 t23 t24 out
def zG.j13 {R:Type} (F:Nat) (k0:(List Bool)->Int->Option R) (out:List Bool):Option R :=
 k0 out 0
def zG.sh (F:Nat) (p:xZ.T):Option zG.sg.R :=
 oB (xS.sh F p) fun c_1 =>
 bif (c_1.1.2.1 != 0) then some (([],c_1.1.2.1,()),())
 else bif (decide (0<=(c_1.1.1.length:Int))&&decide ((c_1.1.1.length:Int)<=(c_1.1.1.length:Int))&&decide ((c_1.1.1.length:Int)<=(vb:Int))) then zG.l7 F (fun list2 last2 t222 t232 t242 t252 out2=>zG.j13 F (fun r23 r33=>some ((r23,r33,()),())) out2) F c_1.1.1 (-1) p.2.2.2 (p.2.2.2.length:Int) 0 (qH .bool ((c_1.1.1.length:Int).toNat))
 else none
def zG.sp (F:Nat):TA zG.sg.args->Option zG.sg.R:=fun x=>zG.sh F x.1
@[reducible] def x9.sg:Sig:={args:=[.d (.c (.int .i64))],res:=[.c .fn,.c (.int .i64)]}
def x9.sh (F:Nat) (kind:Int):Option x9.sg.R :=
 bif idx kind (([Ty.dflt (.pair .fn (.int .i64)),(wT,0),(vc,0),(wG,0),(wU,0),(yv,1),(yv,2),(yv,2),(wP,2),(yv,(-1)),(yv,(-1)),(xX,1),(xX,1),(wa,1),(wa,1),(vz,1),(vq,3)]:List (Nat×Int)).length) then bif idx kind (([Ty.dflt (.pair .fn (.int .i64)),(wT,0),(vc,0),(wG,0),(wU,0),(yv,1),(yv,2),(yv,2),(wP,2),(yv,(-1)),(yv,(-1)),(xX,1),(xX,1),(wa,1),(wa,1),(vz,1),(vq,3)]:List (Nat×Int)).length) then some (((get (.pair .fn (.int .i64)) ([Ty.dflt (.pair .fn (.int .i64)),(wT,0),(vc,0),(wG,0),(wU,0),(yv,1),(yv,2),(yv,2),(wP,2),(yv,(-1)),(yv,(-1)),(xX,1),(xX,1),(wa,1),(wa,1),(vz,1),(vq,3)]:List (Nat×Int)) kind.toNat).1,(get (.pair .fn (.int .i64)) ([Ty.dflt (.pair .fn (.int .i64)),(wT,0),(vc,0),(wG,0),(wU,0),(yv,1),(yv,2),(yv,2),(wP,2),(yv,(-1)),(yv,(-1)),(xX,1),(xX,1),(wa,1),(wa,1),(vz,1),(vq,3)]:List (Nat×Int)) kind.toNat).2,()),())
 else none
 else none
def x9.sp (F:Nat):TA x9.sg.args->Option x9.sg.R:=fun x=>x9.sh F x.1
@[reducible] def zM.sg:Sig:={args:=[.d (.g yJ),.d (.c (.int .i64))],res:=[.c (.int .i64)]}
abbrev zM.l2.K1 (R:Type):Type:=Int->(List Int)->Int->Int->Bool->yJ.T->Option R
abbrev zM.l2.T (R:Type):Type:=Int->(List Int)->Int->Int->yJ.T->Option R
def zM.l2.body {R:Type} (F:Nat) (k0:Int->Option R) (k1:zM.l2.K1 R) (rec:zM.l2.T R) (from_:Int) (t10:List Int) (t11:Int) (t12:Int) (n:yJ.T):Option R :=
 bif decide (t12<t11) then bif idx t12 t10.length then bif idx from_ n.2.1.length then bif ((get (.int .i64) t10 t12.toNat) != (get (.int .i64) n.2.1 from_.toNat)) then k0 (-1)
 else rec from_ t10 t11 (i64.wrap (t12+1)) n
 else none
 else none
 else k1 from_ t10 t11 t12 (decide (t12<t11)) n
def zM.l2 {R:Type} (F:Nat) (k0:Int->Option R) (k1:zM.l2.K1 R):Nat->zM.l2.T R
 | 0,_,_,_,_,_=>none
 | fu+1,from_,t10,t11,t12,n=>zM.l2.body F k0 k1 (zM.l2 F k0 k1 fu) from_ t10 t11 t12 n
def zM.sh (F:Nat) (n:yJ.T) (from_:Int):Option zM.sg.R :=
 bif (yd n.2.1.length (some from_) none).1 then zM.l2 F (fun r41=>some ((r41,()),())) (fun from_2 t102 t112 t122 t132 n2=>bif idx from_2 n2.2.1.length then some ((get (.int .i64) n2.2.1 from_2.toNat,()),())
 else none) F from_ ((n.2.1.take (yd n.2.1.length (some from_) none).2.2).drop (yd n.2.1.length (some from_) none).2.1) (((n.2.1.take (yd n.2.1.length (some from_) none).2.2).drop (yd n.2.1.length (some from_) none).2.1).length:Int) 0 n
 else none
def zM.sp (F:Nat):TA zM.sg.args->Option zM.sg.R:=fun x=>zM.sh F x.1 x.2.1
@[reducible] def xf.sg:Sig:={args:=[.d (.g yJ)],res:=[.c (.int .i64)]}
def xf.sh (F:Nat) (n:yJ.T):Option xf.sg.R :=
 oB (zM.sh F n 0) fun c_1 =>
 some ((c_1.1.1,()),())
def xf.sp (F:Nat):TA xf.sg.args->Option xf.sg.R:=fun x=>xf.sh F x.1
@[reducible] def yR.sg:Sig:={args:=[.d (.g yJ)],res:=[.c (.int .i64)]}
def yR.sh (F:Nat) (n:yJ.T):Option yR.sg.R :=
 some ((i64.wrap (3+(i64.wrap (2*n.1.2.1))),()),())
def yR.sp (F:Nat):TA yR.sg.args->Option yR.sg.R:=fun x=>yR.sh F x.1
@[reducible] def xu.sg:Sig:={args:=[.d (.c (.int .i64))],res:=[.c .bool]}
def xu.sh (F:Nat) (t:Int):Option xu.sg.R :=
 some ((decide (t>=2),()),())
def xu.sp (F:Nat):TA xu.sg.args->Option xu.sg.R:=fun x=>xu.sh F x.1
@[reducible] def yF.sg:Sig:={args:=[.d (.g yJ)],res:=[.c (.int .i64)]}
def yF.sh (F:Nat) (n:yJ.T):Option yF.sg.R :=
 bif idx 0 n.2.1.length then oB (xu.sh F (get (.int .i64) n.2.1 0)) fun c_1 =>
 bif c_1.1.1 then bif idx 0 n.2.1.length then some ((get (.int .i64) n.2.1 0,()),())
 else none
 else some (((-1),()),())
 else none
def yF.sp (F:Nat):TA yF.sg.args->Option yF.sg.R:=fun x=>yF.sh F x.1
@[reducible] def xw.sg:Sig:={args:=[.d (.g yJ)],res:=[.c (.int .i64)]}
def xw.sh (F:Nat) (n:yJ.T):Option xw.sg.R :=
 some ((1,()),())
def xw.sp (F:Nat):TA xw.sg.args->Option xw.sg.R:=fun x=>xw.sh F x.1
@[reducible] def xn.sg:Sig:={args:=[.d (.g yJ)],res:=[.c (.int .i64)]}
def xn.sh (F:Nat) (n:yJ.T):Option xn.sg.R :=
 some ((0,()),())
def xn.sp (F:Nat):TA xn.sg.args->Option xn.sg.R:=fun x=>xn.sh F x.1
@[reducible] def xA.sg:Sig:={args:=[.d (.g yJ)],res:=[.c (.int .i64)]}
def xA.sh (F:Nat) (n:yJ.T):Option xA.sg.R :=
 bif idx 0 n.2.1.length then bif ((get (.int .i64) n.2.1 0)==1) then some ((1,()),())
 else some (((-1),()),())
 else none
def xA.sp (F:Nat):TA xA.sg.args->Option xA.sg.R:=fun x=>xA.sh F x.1
@[reducible] def yQ.sg:Sig:={args:=[.d (.g yJ)],res:=[.c (.int .i64)]}
def yQ.sh (F:Nat) (n:yJ.T):Option yQ.sg.R :=
 bif idx 0 n.2.1.length then oB (xu.sh F (get (.int .i64) n.2.1 0)) fun c_1 =>
 bif c_1.1.1 then some ((1,()),())
 else some (((-1),()),())
 else none
def yQ.sp (F:Nat):TA yQ.sg.args->Option yQ.sg.R:=fun x=>yQ.sh F x.1
@[reducible] def yE.sg:Sig:={args:=[.d (.g yJ)],res:=[.c (.int .i64)]}
def yE.sh (F:Nat) (n:yJ.T):Option yE.sg.R :=
 bif idx 0 n.2.1.length then bif idx 1 n.2.1.length then bif ((get (.int .i64) n.2.1 0)==0) then some ((get (.int .i64) n.2.1 1,()),())
 else bif ((get (.int .i64) n.2.1 1)==0) then some ((get (.int .i64) n.2.1 0,()),())
 else oB (xu.sh F (get (.int .i64) n.2.1 0)) fun c_1 =>
 bif c_1.1.1 then bif ((get (.int .i64) n.2.1 1)==1) then bif ((get (.int .i64) n.2.1 1)==1) then some ((1,()),())
 else some (((-1),()),())
 else oB (xu.sh F (get (.int .i64) n.2.1 1)) fun c_2 =>
 bif c_2.1.1 then bif ((get (.int .i64) n.2.1 0)==1) then some ((1,()),())
 else some (((-1),()),())
 else some (((-1),()),())
 else oB (xu.sh F (get (.int .i64) n.2.1 1)) fun c_3 =>
 bif c_3.1.1 then bif ((get (.int .i64) n.2.1 0)==1) then some ((1,()),())
 else some (((-1),()),())
 else some (((-1),()),())
 else none
 else none
def yE.sp (F:Nat):TA yE.sg.args->Option yE.sg.R:=fun x=>yE.sh F x.1
@[reducible] def yy.sg:Sig:={args:=[.d (.g yJ)],res:=[.c (.int .i64)]}
def yy.sh (F:Nat) (n:yJ.T):Option yy.sg.R :=
 some ((i64.wrap (2+(i64.wrap (2*n.1.2.1))),()),())
def yy.sp (F:Nat):TA yy.sg.args->Option yy.sg.R:=fun x=>yy.sh F x.1
@[reducible] def xv.sg:Sig:={args:=[.d (.g yJ)],res:=[.c (.int .i64)]}
def xv.sh (F:Nat) (n:yJ.T):Option xv.sg.R :=
 bif idx 0 n.2.1.length then oB (xu.sh F (get (.int .i64) n.2.1 0)) fun c_1 =>
 bif c_1.1.1 then oB (zM.sh F n 1) fun c_2 =>
 some ((c_2.1.1,()),())
 else some (((-1),()),())
 else none
def xv.sp (F:Nat):TA xv.sg.args->Option xv.sg.R:=fun x=>xv.sh F x.1
@[reducible] def zC.sg:Sig:={args:=[.d (.g xZ)],res:=[.c (.sl (.int .i64)),.c (.int .i64),.c (.int .i64)]}
@[reducible] def zC.ds63:Sig:={args:=[.d (.g yJ)],res:=[.c (.int .i64)]}
def zC.d63 (F:Nat):Nat->TA zC.ds63.args->Option zC.ds63.R:=mkT zC.ds63 [(yv,xf.sp F),(wU,yR.sp F),(xX,yF.sp F),(vc,xw.sp F),(wT,xn.sp F),(vz,xA.sp F),(wa,yQ.sp F),(wP,yE.sp F),(wG,yy.sp F),(vq,xv.sp F)]
abbrev zC.l8.K0 (R:Type):Type:=(List Int)->Int->Int->Option R
abbrev zC.l8.K1 (R:Type):Type:=(List Int)->Int->Int->Option R
abbrev zC.l8.K2 (R:Type):Type:=(List Bool)->(List zT.T)->Int->Int->Bool->(List Int)->(List Int)->(List Bool)->Option R
abbrev zC.l8.T (R:Type):Type:=(List Bool)->(List zT.T)->Int->Int->(List Int)->(List Int)->(List Bool)->Option R
def zC.l8.body {R:Type} (F:Nat) (k0:zC.l8.K0 R) (k1:zC.l8.K1 R) (k2:zC.l8.K2 R) (rec:zC.l8.T R) (fixed:List Bool) (t33:List zT.T) (t34:Int) (t35:Int) (types:List Int) (pile:List Int) (fix:List Bool):Option R :=
 bif decide (t35<t34) then bif idx t35 t33.length then oB (x9.sh F (get zT t33 t35.toNat).1) fun c_3 =>
 bif decide (c_3.1.2.1<0) then bif (yd pile.length (some (i64.wrap ((pile.length:Int)-(get zT t33 t35.toNat).2.2.2.1))) none).1 then bif (yd fix.length (some (i64.wrap ((pile.length:Int)-(get zT t33 t35.toNat).2.2.2.1))) none).1 then oB (zC.d63 F c_3.1.1 (((get zT t33 t35.toNat),(pile.take (yd pile.length (some (i64.wrap ((pile.length:Int)-(get zT t33 t35.toNat).2.2.2.1))) none).2.2).drop (yd pile.length (some (i64.wrap ((pile.length:Int)-(get zT t33 t35.toNat).2.2.2.1))) none).2.1,(fix.take (yd fix.length (some (i64.wrap ((pile.length:Int)-(get zT t33 t35.toNat).2.2.2.1))) none).2.2).drop (yd fix.length (some (i64.wrap ((pile.length:Int)-(get zT t33 t35.toNat).2.2.2.1))) none).2.1),())) fun c_4 =>
 bif (c_4.1.1==(-1)) then k0 ([]) t35 80
 else bif ((get zT t33 t35.toNat).1==8) then bif idx (i64.wrap ((pile.length:Int)-(get zT t33 t35.toNat).2.2.2.1)) fix.length then bif !(get .bool fix ((i64.wrap ((pile.length:Int)-(get zT t33 t35.toNat).2.2.2.1)).toNat)) then bif idx (i64.wrap ((i64.wrap ((pile.length:Int)-(get zT t33 t35.toNat).2.2.2.1))+1)) fix.length then bif !(get .bool fix ((i64.wrap ((i64.wrap ((pile.length:Int)-(get zT t33 t35.toNat).2.2.2.1))+1)).toNat)) then k1 ([]) t35 81
 else bif Nat.ble (types.length+([c_4.1.1]:List Int).length) vb then bif (yd pile.length none (some (i64.wrap ((pile.length:Int)-(get zT t33 t35.toNat).2.2.2.1)))).1 then bif Nat.ble ((yd pile.length none (some (i64.wrap ((pile.length:Int)-(get zT t33 t35.toNat).2.2.2.1)))).2.2+([c_4.1.1]:List Int).length) vb then bif (yd fix.length none (some (i64.wrap ((pile.length:Int)-(get zT t33 t35.toNat).2.2.2.1)))).1 then bif idx t35 fixed.length then bif Nat.ble ((yd fix.length none (some (i64.wrap ((pile.length:Int)-(get zT t33 t35.toNat).2.2.2.1)))).2.2+([get .bool fixed t35.toNat]:List Bool).length) vb then rec fixed t33 t34 (i64.wrap (t35+1)) (types++([c_4.1.1]:List Int)) (pile.take (yd pile.length none (some (i64.wrap ((pile.length:Int)-(get zT t33 t35.toNat).2.2.2.1)))).2.2++([c_4.1.1]:List Int)) (fix.take (yd fix.length none (some (i64.wrap ((pile.length:Int)-(get zT t33 t35.toNat).2.2.2.1)))).2.2++([get .bool fixed t35.toNat]:List Bool))
 else none
 else none
 else none
 else none
 else none
 else none
 else none
 else bif Nat.ble (types.length+([c_4.1.1]:List Int).length) vb then bif (yd pile.length none (some (i64.wrap ((pile.length:Int)-(get zT t33 t35.toNat).2.2.2.1)))).1 then bif Nat.ble ((yd pile.length none (some (i64.wrap ((pile.length:Int)-(get zT t33 t35.toNat).2.2.2.1)))).2.2+([c_4.1.1]:List Int).length) vb then bif (yd fix.length none (some (i64.wrap ((pile.length:Int)-(get zT t33 t35.toNat).2.2.2.1)))).1 then bif idx t35 fixed.length then bif Nat.ble ((yd fix.length none (some (i64.wrap ((pile.length:Int)-(get zT t33 t35.toNat).2.2.2.1)))).2.2+([get .bool fixed t35.toNat]:List Bool).length) vb then rec fixed t33 t34 (i64.wrap (t35+1)) (types++([c_4.1.1]:List Int)) (pile.take (yd pile.length none (some (i64.wrap ((pile.length:Int)-(get zT t33 t35.toNat).2.2.2.1)))).2.2++([c_4.1.1]:List Int)) (fix.take (yd fix.length none (some (i64.wrap ((pile.length:Int)-(get zT t33 t35.toNat).2.2.2.1)))).2.2++([get .bool fixed t35.toNat]:List Bool))
 else none
 else none
 else none
 else none
 else none
 else none
 else none
 else bif Nat.ble (types.length+([c_4.1.1]:List Int).length) vb then bif (yd pile.length none (some (i64.wrap ((pile.length:Int)-(get zT t33 t35.toNat).2.2.2.1)))).1 then bif Nat.ble ((yd pile.length none (some (i64.wrap ((pile.length:Int)-(get zT t33 t35.toNat).2.2.2.1)))).2.2+([c_4.1.1]:List Int).length) vb then bif (yd fix.length none (some (i64.wrap ((pile.length:Int)-(get zT t33 t35.toNat).2.2.2.1)))).1 then bif idx t35 fixed.length then bif Nat.ble ((yd fix.length none (some (i64.wrap ((pile.length:Int)-(get zT t33 t35.toNat).2.2.2.1)))).2.2+([get .bool fixed t35.toNat]:List Bool).length) vb then rec fixed t33 t34 (i64.wrap (t35+1)) (types++([c_4.1.1]:List Int)) (pile.take (yd pile.length none (some (i64.wrap ((pile.length:Int)-(get zT t33 t35.toNat).2.2.2.1)))).2.2++([c_4.1.1]:List Int)) (fix.take (yd fix.length none (some (i64.wrap ((pile.length:Int)-(get zT t33 t35.toNat).2.2.2.1)))).2.2++([get .bool fixed t35.toNat]:List Bool))
 else none
 else none
 else none
 else none
 else none
 else none
 else none
 else none
 else bif (yd pile.length (some (i64.wrap ((pile.length:Int)-c_3.1.2.1))) none).1 then bif (yd fix.length (some (i64.wrap ((pile.length:Int)-c_3.1.2.1))) none).1 then oB (zC.d63 F c_3.1.1 (((get zT t33 t35.toNat),(pile.take (yd pile.length (some (i64.wrap ((pile.length:Int)-c_3.1.2.1))) none).2.2).drop (yd pile.length (some (i64.wrap ((pile.length:Int)-c_3.1.2.1))) none).2.1,(fix.take (yd fix.length (some (i64.wrap ((pile.length:Int)-c_3.1.2.1))) none).2.2).drop (yd fix.length (some (i64.wrap ((pile.length:Int)-c_3.1.2.1))) none).2.1),())) fun c_5 =>
 bif (c_5.1.1==(-1)) then k0 ([]) t35 80
 else bif ((get zT t33 t35.toNat).1==8) then bif idx (i64.wrap ((pile.length:Int)-c_3.1.2.1)) fix.length then bif !(get .bool fix ((i64.wrap ((pile.length:Int)-c_3.1.2.1)).toNat)) then bif idx (i64.wrap ((i64.wrap ((pile.length:Int)-c_3.1.2.1))+1)) fix.length then bif !(get .bool fix ((i64.wrap ((i64.wrap ((pile.length:Int)-c_3.1.2.1))+1)).toNat)) then k1 ([]) t35 81
 else bif Nat.ble (types.length+([c_5.1.1]:List Int).length) vb then bif (yd pile.length none (some (i64.wrap ((pile.length:Int)-c_3.1.2.1)))).1 then bif Nat.ble ((yd pile.length none (some (i64.wrap ((pile.length:Int)-c_3.1.2.1)))).2.2+([c_5.1.1]:List Int).length) vb then bif (yd fix.length none (some (i64.wrap ((pile.length:Int)-c_3.1.2.1)))).1 then bif idx t35 fixed.length then bif Nat.ble ((yd fix.length none (some (i64.wrap ((pile.length:Int)-c_3.1.2.1)))).2.2+([get .bool fixed t35.toNat]:List Bool).length) vb then rec fixed t33 t34 (i64.wrap (t35+1)) (types++([c_5.1.1]:List Int)) (pile.take (yd pile.length none (some (i64.wrap ((pile.length:Int)-c_3.1.2.1)))).2.2++([c_5.1.1]:List Int)) (fix.take (yd fix.length none (some (i64.wrap ((pile.length:Int)-c_3.1.2.1)))).2.2++([get .bool fixed t35.toNat]:List Bool))
 else none
 else none
 else none
 else none
 else none
 else none
 else none
 else bif Nat.ble (types.length+([c_5.1.1]:List Int).length) vb then bif (yd pile.length none (some (i64.wrap ((pile.length:Int)-c_3.1.2.1)))).1 then bif Nat.ble ((yd pile.length none (some (i64.wrap ((pile.length:Int)-c_3.1.2.1)))).2.2+([c_5.1.1]:List Int).length) vb then bif (yd fix.length none (some (i64.wrap ((pile.length:Int)-c_3.1.2.1)))).1 then bif idx t35 fixed.length then bif Nat.ble ((yd fix.length none (some (i64.wrap ((pile.length:Int)-c_3.1.2.1)))).2.2+([get .bool fixed t35.toNat]:List Bool).length) vb then rec fixed t33 t34 (i64.wrap (t35+1)) (types++([c_5.1.1]:List Int)) (pile.take (yd pile.length none (some (i64.wrap ((pile.length:Int)-c_3.1.2.1)))).2.2++([c_5.1.1]:List Int)) (fix.take (yd fix.length none (some (i64.wrap ((pile.length:Int)-c_3.1.2.1)))).2.2++([get .bool fixed t35.toNat]:List Bool))
 else none
 else none
 else none
 else none
 else none
 else none
 else none
 else bif Nat.ble (types.length+([c_5.1.1]:List Int).length) vb then bif (yd pile.length none (some (i64.wrap ((pile.length:Int)-c_3.1.2.1)))).1 then bif Nat.ble ((yd pile.length none (some (i64.wrap ((pile.length:Int)-c_3.1.2.1)))).2.2+([c_5.1.1]:List Int).length) vb then bif (yd fix.length none (some (i64.wrap ((pile.length:Int)-c_3.1.2.1)))).1 then bif idx t35 fixed.length then bif Nat.ble ((yd fix.length none (some (i64.wrap ((pile.length:Int)-c_3.1.2.1)))).2.2+([get .bool fixed t35.toNat]:List Bool).length) vb then rec fixed t33 t34 (i64.wrap (t35+1)) (types++([c_5.1.1]:List Int)) (pile.take (yd pile.length none (some (i64.wrap ((pile.length:Int)-c_3.1.2.1)))).2.2++([c_5.1.1]:List Int)) (fix.take (yd fix.length none (some (i64.wrap ((pile.length:Int)-c_3.1.2.1)))).2.2++([get .bool fixed t35.toNat]:List Bool))
 else none
 else none
 else none
 else none
 else none
 else none
 else none
 else none
 else none
 else k2 fixed t33 t34 t35 (decide (t35<t34)) types pile fix
def zC.l8 {R:Type} (F:Nat) (k0:zC.l8.K0 R) (k1:zC.l8.K1 R) (k2:zC.l8.K2 R):Nat->zC.l8.T R
 | 0,_,_,_,_,_,_,_=>none
 | fu+1,fixed,t33,t34,t35,types,pile,fix=>zC.l8.body F k0 k1 k2 (zC.l8 F k0 k1 k2 fu) fixed t33 t34 t35 types pile fix
def zC.j23 {R:Type} (F:Nat) (k0:(List Int)->Int->Int->Option R) (k1:(List Int)->Int->Int->Option R) (types:List Int) (pile:List Int):Option R :=
 bif idx 0 pile.length then bif ((get (.int .i64) pile 0) != 1) then k0 ([]) (i64.wrap ((types.length:Int)-1)) 80
 else k1 types 0 0
 else none
def zC.sh (F:Nat) (p:xZ.T):Option zC.sg.R :=
 oB (yl.sh F p) fun c_1 =>
 bif (c_1.1.2.1 != 0) then some (([],c_1.1.1,c_1.1.2.1,()),())
 else oB (zG.sh F p) fun c_2 =>
 zC.l8 F (fun r26 r36 r46=>some ((r26,r36,r46,()),())) (fun r27 r37 r47=>some ((r27,r37,r47,()),())) (fun fixed8 t338 t348 t358 t368 types8 pile8 fix8=>zC.j23 F (fun r29 r39 r49=>some ((r29,r39,r49,()),())) (fun r210 r310 r410=>some ((r210,r310,r410,()),())) types8 pile8) F c_2.1.1 p.2.2.2 (p.2.2.2.length:Int) 0 ([]) ([]) ([])
def zC.sp (F:Nat):TA zC.sg.args->Option zC.sg.R:=fun x=>zC.sh F x.1
@[reducible] def zX.sg:Sig:={args:=[.d (.b (.int .i64))],res:=[.c (.int .i64)]}
abbrev zX.l5.K0 (R:Type):Type:=(List Int)->Int->Int->Bool->Option R
abbrev zX.l5.T (R:Type):Type:=(List Int)->Int->Int->Option R
def zX.l5.body {R:Type} (F:Nat) (k0:zX.l5.K0 R) (rec:zX.l5.T R) (x:List Int) (m:Int) (i:Int):Option R :=
 bif decide (i<(x.length:Int)) then bif idx i x.length then rec x (if get (.int .i64) x i.toNat>m then get (.int .i64) x i.toNat else m) (i64.wrap (i+1))
 else none
 else k0 x m i (decide (i<(x.length:Int)))
def zX.l5 {R:Type} (F:Nat) (k0:zX.l5.K0 R):Nat->zX.l5.T R
 | 0,_,_,_=>none
 | fu+1,x,m,i=>zX.l5.body F k0 (zX.l5 F k0 fu) x m i
def zX.sh (F:Nat) (x:List Int):Option zX.sg.R :=
 bif decide ((x.length:Int)<1) then none
 else bif idx 0 x.length then zX.l5 F (fun x1 m1 i1 t151=>some ((m1,()),())) F x (get (.int .i64) x 0) 1
 else none
def zX.sp (F:Nat):TA zX.sg.args->Option zX.sg.R:=fun x=>zX.sh F x.1
@[reducible] def zV.sg:Sig:={args:=[.d (.g xZ)],res:=[.c (.int .i64),.c (.int .i64)]}
abbrev zV.l6.K0 (R:Type):Type:=(List zT.T)->Int->Int->Bool->(List Int)->Option R
abbrev zV.l6.T (R:Type):Type:=(List zT.T)->Int->Int->(List Int)->Option R
def zV.l6.body {R:Type} (F:Nat) (k0:zV.l6.K0 R) (rec:zV.l6.T R) (t20:List zT.T) (t21:Int) (t22:Int) (pile:List Int):Option R :=
 bif decide (t22<t21) then bif idx t22 t20.length then oB (xz.sh F (get zT t20 t22.toNat)) fun c_2 =>
 bif decide (c_2.1.1>0) then bif (yd pile.length (some (i64.wrap ((pile.length:Int)-c_2.1.1))) none).1 then oB (zX.sh F ((List.take (yd pile.length (some (i64.wrap ((pile.length:Int)-c_2.1.1))) none).2.2 pile).drop (yd pile.length (some (i64.wrap ((pile.length:Int)-c_2.1.1))) none).2.1)) fun c_3 =>
 bif (yd pile.length none (some (i64.wrap ((pile.length:Int)-c_2.1.1)))).1 then bif ((get zT t20 t22.toNat).1==15) then bif Nat.ble ((pile.take (yd pile.length none (some (i64.wrap ((pile.length:Int)-c_2.1.1)))).2.2).length+([i64.wrap (c_3.1.1+1)]:List Int).length) vb then rec t20 t21 (i64.wrap (t22+1)) ((pile.take (yd pile.length none (some (i64.wrap ((pile.length:Int)-c_2.1.1)))).2.2)++([i64.wrap (c_3.1.1+1)]:List Int))
 else none
 else bif Nat.ble ((pile.take (yd pile.length none (some (i64.wrap ((pile.length:Int)-c_2.1.1)))).2.2).length+([c_3.1.1]:List Int).length) vb then rec t20 t21 (i64.wrap (t22+1)) ((pile.take (yd pile.length none (some (i64.wrap ((pile.length:Int)-c_2.1.1)))).2.2)++([c_3.1.1]:List Int))
 else none
 else none
 else none
 else bif ((get zT t20 t22.toNat).1==15) then bif Nat.ble (pile.length+([i64.wrap (0+1)]:List Int).length) vb then rec t20 t21 (i64.wrap (t22+1)) (pile++([i64.wrap (0+1)]:List Int))
 else none
 else bif Nat.ble (pile.length+([0]:List Int).length) vb then rec t20 t21 (i64.wrap (t22+1)) (pile++([0]:List Int))
 else none
 else none
 else k0 t20 t21 t22 (decide (t22<t21)) pile
def zV.l6 {R:Type} (F:Nat) (k0:zV.l6.K0 R):Nat->zV.l6.T R
 | 0,_,_,_,_=>none
 | fu+1,t20,t21,t22,pile=>zV.l6.body F k0 (zV.l6 F k0 fu) t20 t21 t22 pile
def zV.j17 {R:Type} (F:Nat) (k0:Int->Int->Option R) (pile:List Int):Option R :=
 bif idx 0 pile.length then k0 (get (.int .i64) pile 0) 0
 else none
def zV.sh (F:Nat) (p:xZ.T):Option zV.sg.R :=
 oB (yl.sh F p) fun c_1 =>
 bif (c_1.1.2.1 != 0) then some ((0,c_1.1.2.1,()),())
 else zV.l6 F (fun t204 t214 t224 t234 pile4=>zV.j17 F (fun r25 r35=>some ((r25,r35,()),())) pile4) F p.2.2.2 (p.2.2.2.length:Int) 0 ([])
def zV.sp (F:Nat):TA zV.sg.args->Option zV.sg.R:=fun x=>zV.sh F x.1
@[reducible] def z8.sg:Sig:={args:=[.d (.c (.int .i64))],res:=[.g zg]}
def z8.sh (F:Nat) (v:Int):Option z8.sg.R :=
 some (((v.fdiv (2^(min (63:Int).toNat IntKind.i64.bits)),u64.wrap v),()),())
def z8.sp (F:Nat):TA z8.sg.args->Option z8.sg.R:=fun x=>z8.sh F x.1
@[reducible] def xR.sg:Sig:={args:=[.d (.g zg)],res:=[.c (.int .u64),.c (.int .u64)]}
def xR.sh (F:Nat) (w:zg.T):Option xR.sg.R :=
 bif decide (w.1>=0) then some ((u64.wrap w.1,w.2,()),())
 else oB (zW.sh F 0 w.2 0) fun c_1 =>
 oB (zW.sh F 0 (u64.wrap w.1) c_1.1.2.1) fun c_2 =>
 some ((c_2.1.1,c_1.1.1,()),())
def xR.sp (F:Nat):TA xR.sg.args->Option xR.sg.R:=fun x=>xR.sh F x.1
@[reducible] def y4.sg:Sig:={args:=[.d (.c (.int .u64)),.d (.c (.int .u64))],res:=[.c (.int .u64),.c (.int .u64)]}
def y4.sh (F:Nat) (x:Int) (y:Int):Option y4.sg.R :=
 some ((u64.wrap ((u64.wrap ((u64.wrap ((x.fdiv (2^(min (32:Int).toNat IntKind.u64.bits)))*(y.fdiv (2^(min (32:Int).toNat IntKind.u64.bits)))))+((u64.wrap ((u64.wrap ((x.fdiv (2^(min (32:Int).toNat IntKind.u64.bits)))*(u64.wrap ((BitVec.ofInt IntKind.u64.bits y &&& BitVec.ofInt IntKind.u64.bits 4294967295).toNat))))+((u64.wrap ((u64.wrap ((BitVec.ofInt IntKind.u64.bits x &&& BitVec.ofInt IntKind.u64.bits 4294967295).toNat))*(u64.wrap ((BitVec.ofInt IntKind.u64.bits y &&& BitVec.ofInt IntKind.u64.bits 4294967295).toNat)))).fdiv (2^(min (32:Int).toNat IntKind.u64.bits))))).fdiv (2^(min (32:Int).toNat IntKind.u64.bits)))))+((u64.wrap ((u64.wrap ((BitVec.ofInt IntKind.u64.bits (u64.wrap ((u64.wrap ((x.fdiv (2^(min (32:Int).toNat IntKind.u64.bits)))*(u64.wrap ((BitVec.ofInt IntKind.u64.bits y &&& BitVec.ofInt IntKind.u64.bits 4294967295).toNat))))+((u64.wrap ((u64.wrap ((BitVec.ofInt IntKind.u64.bits x &&& BitVec.ofInt IntKind.u64.bits 4294967295).toNat))*(u64.wrap ((BitVec.ofInt IntKind.u64.bits y &&& BitVec.ofInt IntKind.u64.bits 4294967295).toNat)))).fdiv (2^(min (32:Int).toNat IntKind.u64.bits))))) &&& BitVec.ofInt IntKind.u64.bits 4294967295).toNat))+(u64.wrap ((u64.wrap ((BitVec.ofInt IntKind.u64.bits x &&& BitVec.ofInt IntKind.u64.bits 4294967295).toNat))*(y.fdiv (2^(min (32:Int).toNat IntKind.u64.bits))))))).fdiv (2^(min (32:Int).toNat IntKind.u64.bits)))),u64.wrap (x*y),()),())
def y4.sp (F:Nat):TA y4.sg.args->Option y4.sg.R:=fun x=>y4.sh F x.1 x.2.1
@[reducible] def we.sg:Sig:={args:=[.d (.c .bool),.d (.c (.int .u64)),.d (.c (.int .u64))],res:=[.c (.int .u64)]}
def we.sh (F:Nat) (first_:Bool) (a:Int) (b:Int):Option we.sg.R :=
 bif first_ then some ((a,()),())
 else some ((b,()),())
def we.sp (F:Nat):TA we.sg.args->Option we.sg.R:=fun x=>we.sh F x.1 x.2.1 x.2.2.1
@[reducible] def xW.sg:Sig:={args:=[.d (.g zg),.d (.g zg)],res:=[.g zg,.c (.int .i64)]}
def xW.sh (F:Nat) (a:zg.T) (b:zg.T):Option xW.sg.R :=
 oB (zW.sh F a.2 b.2 0) fun c_1 =>
 oB (zW.sh F (u64.wrap a.1) (u64.wrap b.1) c_1.1.2.1) fun c_2 =>
 bif (!(decide (a.1<0)==decide (b.1<0))) then bif (!(decide ((i64.wrap c_2.1.1)<0)==decide (a.1<0))) then some (((0,0),10,()),())
 else some (((i64.wrap c_2.1.1,c_1.1.1),0,()),())
 else some (((i64.wrap c_2.1.1,c_1.1.1),0,()),())
def xW.sp (F:Nat):TA xW.sg.args->Option xW.sg.R:=fun x=>xW.sh F x.1 x.2.1
@[reducible] def x8.sg:Sig:={args:=[.d (.g zg)],res:=[.g zg,.c (.int .i64)]}
def x8.sh (F:Nat) (a:zg.T):Option x8.sg.R :=
 oB (xW.sh F (0,0) a) fun c_1 =>
 some ((c_1.1.1,c_1.1.2.1,()),())
def x8.sp (F:Nat):TA x8.sg.args->Option x8.sg.R:=fun x=>x8.sh F x.1
@[reducible] def xU.sg:Sig:={args:=[.d (.c .bool),.d (.c (.int .u64)),.d (.c (.int .u64))],res:=[.g zg,.c (.int .i64)]}
def xU.sh (F:Nat) (below:Bool) (hi:Int) (lo:Int):Option xU.sg.R :=
 bif ((hi.fdiv (2^(min (63:Int).toNat IntKind.u64.bits)))==0) then bif below then oB (x8.sh F (i64.wrap hi,lo)) fun c_1 =>
 some ((c_1.1.1,c_1.1.2.1,()),())
 else some (((i64.wrap hi,lo),0,()),())
 else bif below then bif (hi==9223372036854775808) then bif (lo==0) then some ((((-9223372036854775808),0),0,()),())
 else some (((0,0),10,()),())
 else some (((0,0),10,()),())
 else some (((0,0),10,()),())
def xU.sp (F:Nat):TA xU.sg.args->Option xU.sg.R:=fun x=>xU.sh F x.1 x.2.1 x.2.2.1
@[reducible] def zY.sg:Sig:={args:=[.d (.g zg),.d (.g zg)],res:=[.g zg,.c (.int .i64)]}
def zY.j5 {R:Type} (F:Nat) (k0:Int->zg.T->Option R) (k1:Int->zg.T->Option R) (ah:Int) (al:Int) (bh:Int) (bl:Int) (a:zg.T) (b:zg.T) (r4:zg.T):Option R :=
 oB (y4.sh F al bl) fun c_3 =>
 oB (we.sh F (ah != 0) bl al) fun c_4 =>
 oB (y4.sh F (u64.wrap ((BitVec.ofInt IntKind.u64.bits ah ||| BitVec.ofInt IntKind.u64.bits bh).toNat)) c_4.1.1) fun c_5 =>
 oB (yq.sh F c_3.1.1 c_5.1.2.1 0) fun c_6 =>
 bif (c_5.1.1 != 0) then k0 10 (0,0)
 else bif (c_6.1.2.1 != 0) then k0 10 (0,0)
 else oB (xU.sh F (!(decide (a.1<0)==decide (b.1<0))) c_6.1.1 c_3.1.2.1) fun c_7 =>
 k1 c_7.1.2.1 c_7.1.1
def zY.sh (F:Nat) (a:zg.T) (b:zg.T):Option zY.sg.R :=
 oB (xR.sh F a) fun c_1 =>
 oB (xR.sh F b) fun c_2 =>
 bif (c_1.1.1 != 0) then bif (c_2.1.1 != 0) then some (((0,0),10,()),())
 else zY.j5 F (fun r58 r48=>some ((r48,r58,()),())) (fun r59 r49=>some ((r49,r59,()),())) c_1.1.1 c_1.1.2.1 c_2.1.1 c_2.1.2.1 a b (0,0)
 else zY.j5 F (fun r510 r410=>some ((r410,r510,()),())) (fun r511 r411=>some ((r411,r511,()),())) c_1.1.1 c_1.1.2.1 c_2.1.1 c_2.1.2.1 a b (0,0)
def zY.sp (F:Nat):TA zY.sg.args->Option zY.sg.R:=fun x=>zY.sh F x.1 x.2.1
@[reducible] def yt.sg:Sig:={args:=[.d (.c (.int .i64))],res:=[.g zg,.c (.int .i64)]}
abbrev yt.l7.K0 (R:Type):Type:=Int->Int->Bool->zg.T->zg.T->Option R
abbrev yt.l7.T (R:Type):Type:=Int->Int->zg.T->zg.T->Option R
def yt.l7.body {R:Type} (F:Nat) (k0:yt.l7.K0 R) (rec:yt.l7.T R) (t12:Int) (t13:Int) (r2:zg.T) (p:zg.T):Option R :=
 bif decide (t13<t12) then oB (z8.sh F 10000) fun c_2 =>
 oB (zY.sh F p c_2.1.1) fun c_3 =>
 rec t12 (i64.wrap (t13+1)) r2 c_3.1.1
 else k0 t12 t13 (decide (t13<t12)) r2 p
def yt.l7 {R:Type} (F:Nat) (k0:yt.l7.K0 R):Nat->yt.l7.T R
 | 0,_,_,_,_=>none
 | fu+1,t12,t13,r2,p=>yt.l7.body F k0 (yt.l7 F k0 fu) t12 t13 r2 p
def yt.sh (F:Nat) (k:Int):Option yt.sg.R :=
 bif decide (k<0) then some (((0,0),1,()),())
 else bif decide (k>9) then some (((0,0),10,()),())
 else oB (z8.sh F 1) fun c_1 =>
 yt.l7 F (fun t124 t134 t144 r24 p4=>some ((p4,0,()),())) F k 0 (0,0) c_1.1.1
def yt.sp (F:Nat):TA yt.sg.args->Option yt.sg.R:=fun x=>yt.sh F x.1
@[reducible] def zZ.sg:Sig:={args:=[.d (.g zT)],res:=[.c (.int .i64)]}
def zZ.j10 {R:Type} (F:Nat) (k0:Int->Option R) (k1:Int->Option R) (k2:Int->Option R) (k3:Bool->Option R) (t4:Int) (t10:Bool) (n:zT.T):Option R :=
 bif t10 then k0 2
 else bif (t4==9) then bif (t4==9) then k1 n.2.2.2.1
 else bif (t4==16) then k2 3
 else k3 (t4==16)
 else bif (t4==10) then k1 n.2.2.2.1
 else bif (t4==16) then k2 3
 else k3 (t4==16)
def zZ.j6 {R:Type} (F:Nat) (k0:Int->Option R) (k1:Int->Option R) (k2:Int->Option R) (k3:Int->Option R) (k4:Bool->Option R) (t4:Int) (t5:Bool) (n:zT.T):Option R :=
 bif t5 then k0 0
 else bif (t4==6) then zZ.j10 F (fun r21=>k1 r21) (fun r22=>k2 r22) (fun r23=>k3 r23) (fun t194=>k4 t194) t4 (t4==6) n
 else bif (t4==7) then zZ.j10 F (fun r25=>k1 r25) (fun r26=>k2 r26) (fun r27=>k3 r27) (fun t198=>k4 t198) t4 (t4==7) n
 else zZ.j10 F (fun r29=>k1 r29) (fun r210=>k2 r210) (fun r211=>k3 r211) (fun t1912=>k4 t1912) t4 (t4==8) n
def zZ.sh (F:Nat) (n:zT.T):Option zZ.sg.R :=
 bif (n.1==1) then zZ.j6 F (fun r213=>some ((r213,()),())) (fun r214=>some ((r214,()),())) (fun r215=>some ((r215,()),())) (fun r216=>some ((r216,()),())) (fun t1917=>some ((1,()),())) n.1 (n.1==1) n
 else bif (n.1==2) then zZ.j6 F (fun r218=>some ((r218,()),())) (fun r219=>some ((r219,()),())) (fun r220=>some ((r220,()),())) (fun r221=>some ((r221,()),())) (fun t1922=>some ((1,()),())) n.1 (n.1==2) n
 else bif (n.1==3) then zZ.j6 F (fun r223=>some ((r223,()),())) (fun r224=>some ((r224,()),())) (fun r225=>some ((r225,()),())) (fun r226=>some ((r226,()),())) (fun t1927=>some ((1,()),())) n.1 (n.1==3) n
 else zZ.j6 F (fun r228=>some ((r228,()),())) (fun r229=>some ((r229,()),())) (fun r230=>some ((r230,()),())) (fun r231=>some ((r231,()),())) (fun t1932=>some ((1,()),())) n.1 (n.1==4) n
def zZ.sp (F:Nat):TA zZ.sg.args->Option zZ.sg.R:=fun x=>zZ.sh F x.1
@[reducible] def yi.sg:Sig:={args:=[.io xq,.d (.g zg),.d (.c (.int .i64))],res:=[.g zg]}
def yi.sh (F:Nat) (m:xq.T) (w:zg.T) (e:Int):Option yi.sg.R :=
 bif m.2 then some ((w,()),((m.1,true),()))
 else some ((w,()),((m.1,(e != 0)),()))
def yi.sp (F:Nat):TA yi.sg.args->Option yi.sg.R:=fun x=>yi.sh F x.1 x.2.1 x.2.2.1
@[reducible] def yr.sg:Sig:={args:=[.io xq,.d (.g zg),.d (.g zg)],res:=[.g zg]}
def yr.sh (F:Nat) (m:xq.T) (a:zg.T) (b:zg.T):Option yr.sg.R :=
 oB (zY.sh F a b) fun c_1 =>
 oB (yi.sh F m c_1.1.1 c_1.1.2.1) fun c_2 =>
 some ((c_2.1.1,()),(c_2.2.1,()))
def yr.sp (F:Nat):TA yr.sg.args->Option yr.sg.R:=fun x=>yr.sh F x.1 x.2.1 x.2.2.1
@[reducible] def zU.sg:Sig:={args:=[.d (.c (.int .u64))],res:=[.c (.int .i64)]}
def zU.j7 {R:Type} (F:Nat) (k0:Int->Option R) (x:Int) (n:Int):Option R :=
 bif decide (x>=256) then bif idx (IntKind.u8.wrap (x.fdiv (2^(min (8:Int).toNat IntKind.u64.bits)))) ((⟨#[0,1,2,2,3,3,3,3,4,4,4,4,4,4,4,4,5,5,5,5,5,5,5,5,5,5,5,5,5,5,5,5,6,6,6,6,6,6,6,6,6,6,6,6,6,6,6,6,6,6,6,6,6,6,6,6,6,6,6,6,6,6,6,6,7,7,7,7,7,7,7,7,7,7,7,7,7,7,7,7,7,7,7,7,7,7,7,7,7,7,7,7,7,7,7,7,7,7,7,7,7,7,7,7,7,7,7,7,7,7,7,7,7,7,7,7,7,7,7,7,7,7,7,7,7,7,7,7,8,8,8,8,8,8,8,8,8,8,8,8,8,8,8,8,8,8,8,8,8,8,8,8,8,8,8,8,8,8,8,8,8,8,8,8,8,8,8,8,8,8,8,8,8,8,8,8,8,8,8,8,8,8,8,8,8,8,8,8,8,8,8,8,8,8,8,8,8,8,8,8,8,8,8,8,8,8,8,8,8,8,8,8,8,8,8,8,8,8,8,8,8,8,8,8,8,8,8,8,8,8,8,8,8,8,8,8,8,8,8,8,8,8,8,8,8,8,8,8,8,8,8,8,8,8,8,8]⟩:ByteArray).size) then k0 (i64.wrap ((i64.wrap (n+8))+(i64.wrap (bt (⟨#[0,1,2,2,3,3,3,3,4,4,4,4,4,4,4,4,5,5,5,5,5,5,5,5,5,5,5,5,5,5,5,5,6,6,6,6,6,6,6,6,6,6,6,6,6,6,6,6,6,6,6,6,6,6,6,6,6,6,6,6,6,6,6,6,7,7,7,7,7,7,7,7,7,7,7,7,7,7,7,7,7,7,7,7,7,7,7,7,7,7,7,7,7,7,7,7,7,7,7,7,7,7,7,7,7,7,7,7,7,7,7,7,7,7,7,7,7,7,7,7,7,7,7,7,7,7,7,7,8,8,8,8,8,8,8,8,8,8,8,8,8,8,8,8,8,8,8,8,8,8,8,8,8,8,8,8,8,8,8,8,8,8,8,8,8,8,8,8,8,8,8,8,8,8,8,8,8,8,8,8,8,8,8,8,8,8,8,8,8,8,8,8,8,8,8,8,8,8,8,8,8,8,8,8,8,8,8,8,8,8,8,8,8,8,8,8,8,8,8,8,8,8,8,8,8,8,8,8,8,8,8,8,8,8,8,8,8,8,8,8,8,8,8,8,8,8,8,8,8,8,8,8,8,8,8,8]⟩:ByteArray) (IntKind.u8.wrap (x.fdiv (2^(min (8:Int).toNat IntKind.u64.bits))))))))
 else none
 else bif idx (IntKind.u8.wrap x) ((⟨#[0,1,2,2,3,3,3,3,4,4,4,4,4,4,4,4,5,5,5,5,5,5,5,5,5,5,5,5,5,5,5,5,6,6,6,6,6,6,6,6,6,6,6,6,6,6,6,6,6,6,6,6,6,6,6,6,6,6,6,6,6,6,6,6,7,7,7,7,7,7,7,7,7,7,7,7,7,7,7,7,7,7,7,7,7,7,7,7,7,7,7,7,7,7,7,7,7,7,7,7,7,7,7,7,7,7,7,7,7,7,7,7,7,7,7,7,7,7,7,7,7,7,7,7,7,7,7,7,8,8,8,8,8,8,8,8,8,8,8,8,8,8,8,8,8,8,8,8,8,8,8,8,8,8,8,8,8,8,8,8,8,8,8,8,8,8,8,8,8,8,8,8,8,8,8,8,8,8,8,8,8,8,8,8,8,8,8,8,8,8,8,8,8,8,8,8,8,8,8,8,8,8,8,8,8,8,8,8,8,8,8,8,8,8,8,8,8,8,8,8,8,8,8,8,8,8,8,8,8,8,8,8,8,8,8,8,8,8,8,8,8,8,8,8,8,8,8,8,8,8,8,8,8,8,8,8]⟩:ByteArray).size) then k0 (i64.wrap (n+(i64.wrap (bt (⟨#[0,1,2,2,3,3,3,3,4,4,4,4,4,4,4,4,5,5,5,5,5,5,5,5,5,5,5,5,5,5,5,5,6,6,6,6,6,6,6,6,6,6,6,6,6,6,6,6,6,6,6,6,6,6,6,6,6,6,6,6,6,6,6,6,7,7,7,7,7,7,7,7,7,7,7,7,7,7,7,7,7,7,7,7,7,7,7,7,7,7,7,7,7,7,7,7,7,7,7,7,7,7,7,7,7,7,7,7,7,7,7,7,7,7,7,7,7,7,7,7,7,7,7,7,7,7,7,7,8,8,8,8,8,8,8,8,8,8,8,8,8,8,8,8,8,8,8,8,8,8,8,8,8,8,8,8,8,8,8,8,8,8,8,8,8,8,8,8,8,8,8,8,8,8,8,8,8,8,8,8,8,8,8,8,8,8,8,8,8,8,8,8,8,8,8,8,8,8,8,8,8,8,8,8,8,8,8,8,8,8,8,8,8,8,8,8,8,8,8,8,8,8,8,8,8,8,8,8,8,8,8,8,8,8,8,8,8,8,8,8,8,8,8,8,8,8,8,8,8,8,8,8,8,8,8,8]⟩:ByteArray) (IntKind.u8.wrap x)))))
 else none
def zU.j4 {R:Type} (F:Nat) (k0:Int->Option R) (x:Int) (n:Int):Option R :=
 bif decide (x>=65536) then zU.j7 F (fun n1=>k0 n1) (x.fdiv (2^(min (16:Int).toNat IntKind.u64.bits))) (i64.wrap (n+16))
 else zU.j7 F (fun n2=>k0 n2) x n
def zU.sh (F:Nat) (x:Int):Option zU.sg.R :=
 bif decide (x>=4294967296) then zU.j4 F (fun n3=>some ((n3,()),())) (x.fdiv (2^(min (32:Int).toNat IntKind.u64.bits))) 32
 else zU.j4 F (fun n4=>some ((n4,()),())) x 0
def zU.sp (F:Nat):TA zU.sg.args->Option zU.sg.R:=fun x=>zU.sh F x.1
@[reducible] def ya.sg:Sig:={args:=[.d (.c (.int .u64))],res:=[.c (.int .i64)]}
def ya.sh (F:Nat) (x:Int):Option ya.sg.R :=
 oB (zU.sh F x) fun c_1 =>
 some ((i64.wrap (64-c_1.1.1),()),())
def ya.sp (F:Nat):TA ya.sg.args->Option ya.sg.R:=fun x=>ya.sh F x.1
@[reducible] def zp.sg:Sig:={args:=[.d (.c (.int .u64)),.d (.c (.int .u64)),.d (.c (.int .u64))],res:=[.c (.int .u64),.c (.int .u64)]}
abbrev zp.l17.K0 (R:Type):Type:=Int->Int->Int->Int->Int->Int->Int->Int->Int->Bool->Option R
abbrev zp.l17.K1 (R:Type):Type:=Int->Int->Int->Int->Int->Int->Int->Int->Int->Bool->Option R
abbrev zp.l17.T (R:Type):Type:=Int->Int->Int->Int->Int->Int->Int->Int->Int->Option R
def zp.l17.body {R:Type} (F:Nat) (k0:zp.l17.K0 R) (k1:zp.l17.K1 R) (rec:zp.l17.T R) (y:Int) (s:Int) (yn1:Int) (yn0:Int) (un32:Int) (un1:Int) (un0:Int) (q1:Int) (rhat:Int):Option R :=
 bif decide (q1>=4294967296) then bif decide ((u64.wrap (rhat+yn1))>=4294967296) then k0 y s yn1 yn0 un32 un1 un0 (u64.wrap (q1-1)) (u64.wrap (rhat+yn1)) (decide ((u64.wrap (rhat+yn1))>=4294967296))
 else rec y s yn1 yn0 un32 un1 un0 (u64.wrap (q1-1)) (u64.wrap (rhat+yn1))
 else bif decide ((u64.wrap (q1*yn0))>(u64.wrap ((u64.wrap (4294967296*rhat))+un1))) then bif decide ((u64.wrap (rhat+yn1))>=4294967296) then k0 y s yn1 yn0 un32 un1 un0 (u64.wrap (q1-1)) (u64.wrap (rhat+yn1)) (decide ((u64.wrap (rhat+yn1))>=4294967296))
 else rec y s yn1 yn0 un32 un1 un0 (u64.wrap (q1-1)) (u64.wrap (rhat+yn1))
 else k1 y s yn1 yn0 un32 un1 un0 q1 rhat (decide ((u64.wrap (q1*yn0))>(u64.wrap ((u64.wrap (4294967296*rhat))+un1))))
def zp.l17 {R:Type} (F:Nat) (k0:zp.l17.K0 R) (k1:zp.l17.K1 R):Nat->zp.l17.T R
 | 0,_,_,_,_,_,_,_,_,_=>none
 | fu+1,y,s,yn1,yn0,un32,un1,un0,q1,rhat=>zp.l17.body F k0 k1 (zp.l17 F k0 k1 fu) y s yn1 yn0 un32 un1 un0 q1 rhat
abbrev zp.l24.K0 (R:Type):Type:=Int->Int->Int->Int->Int->Int->Int->Int->Int->Bool->Option R
abbrev zp.l24.K1 (R:Type):Type:=Int->Int->Int->Int->Int->Int->Int->Int->Int->Bool->Option R
abbrev zp.l24.T (R:Type):Type:=Int->Int->Int->Int->Int->Int->Int->Int->Int->Option R
def zp.l24.body {R:Type} (F:Nat) (k0:zp.l24.K0 R) (k1:zp.l24.K1 R) (rec:zp.l24.T R) (y:Int) (s:Int) (yn1:Int) (yn0:Int) (un0:Int) (q1:Int) (rhat:Int) (un21:Int) (q0:Int):Option R :=
 bif decide (q0>=4294967296) then bif decide ((u64.wrap (rhat+yn1))>=4294967296) then k0 y s yn1 yn0 un0 q1 (u64.wrap (rhat+yn1)) un21 (u64.wrap (q0-1)) (decide ((u64.wrap (rhat+yn1))>=4294967296))
 else rec y s yn1 yn0 un0 q1 (u64.wrap (rhat+yn1)) un21 (u64.wrap (q0-1))
 else bif decide ((u64.wrap (q0*yn0))>(u64.wrap ((u64.wrap (4294967296*rhat))+un0))) then bif decide ((u64.wrap (rhat+yn1))>=4294967296) then k0 y s yn1 yn0 un0 q1 (u64.wrap (rhat+yn1)) un21 (u64.wrap (q0-1)) (decide ((u64.wrap (rhat+yn1))>=4294967296))
 else rec y s yn1 yn0 un0 q1 (u64.wrap (rhat+yn1)) un21 (u64.wrap (q0-1))
 else k1 y s yn1 yn0 un0 q1 rhat un21 q0 (decide ((u64.wrap (q0*yn0))>(u64.wrap ((u64.wrap (4294967296*rhat))+un0))))
def zp.l24 {R:Type} (F:Nat) (k0:zp.l24.K0 R) (k1:zp.l24.K1 R):Nat->zp.l24.T R
 | 0,_,_,_,_,_,_,_,_,_=>none
 | fu+1,y,s,yn1,yn0,un0,q1,rhat,un21,q0=>zp.l24.body F k0 k1 (zp.l24 F k0 k1 fu) y s yn1 yn0 un0 q1 rhat un21 q0
def zp.j28 {R:Type} (F:Nat) (k0:Int->Int->Option R) (y:Int) (s:Int) (un0:Int) (q1:Int) (un21:Int) (q0:Int):Option R :=
 bif decide (0<=s) then k0 (u64.wrap ((u64.wrap (q1*4294967296))+q0)) ((u64.wrap ((u64.wrap ((u64.wrap (un21*4294967296))+un0))-(u64.wrap (q0*y)))).fdiv (2^(min s.toNat IntKind.u64.bits)))
 else none
def zp.j21 {R:Type} (F:Nat) (k0:Int->Int->Option R) (y:Int) (s:Int) (yn1:Int) (yn0:Int) (un32:Int) (un1:Int) (un0:Int) (q1:Int):Option R :=
 bif (yn1 != 0) then zp.l24 F (fun y3 s3 yn13 yn03 un03 q13 rhat3 un213 q03 t1203=>zp.j28 F (fun quo4 rem4=>k0 quo4 rem4) y3 s3 un03 q13 un213 q03) (fun y5 s5 yn15 yn05 un05 q15 rhat5 un215 q05 t1135=>zp.j28 F (fun quo6 rem6=>k0 quo6 rem6) y5 s5 un05 q15 un215 q05) F y s yn1 yn0 un0 q1 (u64.wrap ((u64.wrap ((u64.wrap ((u64.wrap (un32*4294967296))+un1))-(u64.wrap (q1*y))))-(u64.wrap ((u64.wrap ((u64.wrap ((u64.wrap ((u64.wrap (un32*4294967296))+un1))-(u64.wrap (q1*y)))).tdiv yn1))*yn1)))) (u64.wrap ((u64.wrap ((u64.wrap (un32*4294967296))+un1))-(u64.wrap (q1*y)))) (u64.wrap ((u64.wrap ((u64.wrap ((u64.wrap (un32*4294967296))+un1))-(u64.wrap (q1*y)))).tdiv yn1))
 else none
def zp.sh (F:Nat) (hi:Int) (lo:Int) (y:Int):Option zp.sg.R :=
 bif (y==0) then none
 else bif decide (y<=hi) then none
 else bif (hi==0) then bif (y != 0) then bif (y != 0) then some ((u64.wrap (lo.tdiv y),lo.tmod y,()),())
 else none
 else none
 else oB (ya.sh F y) fun c_1 =>
 bif decide (0<=(u64.wrap c_1.1.1)) then bif decide (0<=(u64.wrap c_1.1.1)) then bif decide (0<=(u64.wrap (64-(u64.wrap c_1.1.1)))) then bif decide (0<=(u64.wrap c_1.1.1)) then bif (((u64.wrap (y*2^(min (u64.wrap c_1.1.1).toNat IntKind.u64.bits))).fdiv (2^(min (32:Int).toNat IntKind.u64.bits))) != 0) then zp.l17 F (fun y2 s2 yn12 yn02 un322 un12 un02 q12 rhat2 t852=>zp.j21 F (fun quo7 rem7=>some ((quo7,rem7,()),())) y2 s2 yn12 yn02 un322 un12 un02 q12) (fun y8 s8 yn18 yn08 un328 un18 un08 q18 rhat8 t788=>zp.j21 F (fun quo9 rem9=>some ((quo9,rem9,()),())) y8 s8 yn18 yn08 un328 un18 un08 q18) F (u64.wrap (y*2^(min (u64.wrap c_1.1.1).toNat IntKind.u64.bits))) (u64.wrap c_1.1.1) ((u64.wrap (y*2^(min (u64.wrap c_1.1.1).toNat IntKind.u64.bits))).fdiv (2^(min (32:Int).toNat IntKind.u64.bits))) (u64.wrap ((BitVec.ofInt IntKind.u64.bits (u64.wrap (y*2^(min (u64.wrap c_1.1.1).toNat IntKind.u64.bits))) &&& BitVec.ofInt IntKind.u64.bits 4294967295).toNat)) (u64.wrap ((BitVec.ofInt IntKind.u64.bits (u64.wrap (hi*2^(min (u64.wrap c_1.1.1).toNat IntKind.u64.bits))) ||| BitVec.ofInt IntKind.u64.bits (lo.fdiv (2^(min (u64.wrap (64-(u64.wrap c_1.1.1))).toNat IntKind.u64.bits)))).toNat)) ((u64.wrap (lo*2^(min (u64.wrap c_1.1.1).toNat IntKind.u64.bits))).fdiv (2^(min (32:Int).toNat IntKind.u64.bits))) (u64.wrap ((BitVec.ofInt IntKind.u64.bits (u64.wrap (lo*2^(min (u64.wrap c_1.1.1).toNat IntKind.u64.bits))) &&& BitVec.ofInt IntKind.u64.bits 4294967295).toNat)) (u64.wrap ((u64.wrap ((BitVec.ofInt IntKind.u64.bits (u64.wrap (hi*2^(min (u64.wrap c_1.1.1).toNat IntKind.u64.bits))) ||| BitVec.ofInt IntKind.u64.bits (lo.fdiv (2^(min (u64.wrap (64-(u64.wrap c_1.1.1))).toNat IntKind.u64.bits)))).toNat)).tdiv ((u64.wrap (y*2^(min (u64.wrap c_1.1.1).toNat IntKind.u64.bits))).fdiv (2^(min (32:Int).toNat IntKind.u64.bits))))) (u64.wrap ((u64.wrap ((BitVec.ofInt IntKind.u64.bits (u64.wrap (hi*2^(min (u64.wrap c_1.1.1).toNat IntKind.u64.bits))) ||| BitVec.ofInt IntKind.u64.bits (lo.fdiv (2^(min (u64.wrap (64-(u64.wrap c_1.1.1))).toNat IntKind.u64.bits)))).toNat))-(u64.wrap ((u64.wrap ((u64.wrap ((BitVec.ofInt IntKind.u64.bits (u64.wrap (hi*2^(min (u64.wrap c_1.1.1).toNat IntKind.u64.bits))) ||| BitVec.ofInt IntKind.u64.bits (lo.fdiv (2^(min (u64.wrap (64-(u64.wrap c_1.1.1))).toNat IntKind.u64.bits)))).toNat)).tdiv ((u64.wrap (y*2^(min (u64.wrap c_1.1.1).toNat IntKind.u64.bits))).fdiv (2^(min (32:Int).toNat IntKind.u64.bits)))))*((u64.wrap (y*2^(min (u64.wrap c_1.1.1).toNat IntKind.u64.bits))).fdiv (2^(min (32:Int).toNat IntKind.u64.bits)))))))
 else none
 else none
 else none
 else none
 else none
def zp.sp (F:Nat):TA zp.sg.args->Option zp.sg.R:=fun x=>zp.sh F x.1 x.2.1 x.2.2.1
@[reducible] def ym.sg:Sig:={args:=[.d (.c (.int .u64)),.d (.c (.int .u64)),.d (.c (.int .u64)),.d (.c (.int .u64))],res:=[.c (.int .u64),.c (.int .u64),.c (.int .u64),.c (.int .u64)]}
abbrev ym.l7.K0 (R:Type):Type:=Int->Int->Int->Int->Int->Int->Int->Bool->Option R
abbrev ym.l7.T (R:Type):Type:=Int->Int->Int->Int->Int->Int->Int->Option R
def ym.l7.body {R:Type} (F:Nat) (k0:ym.l7.K0 R) (rec:ym.l7.T R) (al:Int) (bh:Int) (bl:Int) (ql:Int) (rh:Int) (rl:Int) (i:Int):Option R :=
 bif decide (i>=0) then bif decide (0<=i) then bif decide ((u64.wrap ((BitVec.ofInt IntKind.u64.bits (u64.wrap (rh*2^(min (1:Int).toNat IntKind.u64.bits))) ||| BitVec.ofInt IntKind.u64.bits (rl.fdiv (2^(min (63:Int).toNat IntKind.u64.bits)))).toNat))>bh) then oB (zW.sh F (u64.wrap ((BitVec.ofInt IntKind.u64.bits (u64.wrap (rl*2^(min (1:Int).toNat IntKind.u64.bits))) ||| BitVec.ofInt IntKind.u64.bits (u64.wrap ((BitVec.ofInt IntKind.u64.bits (al.fdiv (2^(min i.toNat IntKind.u64.bits))) &&& BitVec.ofInt IntKind.u64.bits 1).toNat))).toNat)) bl 0) fun c_2 =>
 oB (zW.sh F (u64.wrap ((BitVec.ofInt IntKind.u64.bits (u64.wrap (rh*2^(min (1:Int).toNat IntKind.u64.bits))) ||| BitVec.ofInt IntKind.u64.bits (rl.fdiv (2^(min (63:Int).toNat IntKind.u64.bits)))).toNat)) bh c_2.1.2.1) fun c_3 =>
 bif decide (0<=i) then rec al bh bl (u64.wrap ((BitVec.ofInt IntKind.u64.bits ql ||| BitVec.ofInt IntKind.u64.bits (u64.wrap (1*2^(min i.toNat IntKind.u64.bits)))).toNat)) c_3.1.1 c_2.1.1 (i64.wrap (i-1))
 else none
 else bif ((u64.wrap ((BitVec.ofInt IntKind.u64.bits (u64.wrap (rh*2^(min (1:Int).toNat IntKind.u64.bits))) ||| BitVec.ofInt IntKind.u64.bits (rl.fdiv (2^(min (63:Int).toNat IntKind.u64.bits)))).toNat))==bh) then bif decide ((u64.wrap ((BitVec.ofInt IntKind.u64.bits (u64.wrap (rl*2^(min (1:Int).toNat IntKind.u64.bits))) ||| BitVec.ofInt IntKind.u64.bits (u64.wrap ((BitVec.ofInt IntKind.u64.bits (al.fdiv (2^(min i.toNat IntKind.u64.bits))) &&& BitVec.ofInt IntKind.u64.bits 1).toNat))).toNat))>=bl) then oB (zW.sh F (u64.wrap ((BitVec.ofInt IntKind.u64.bits (u64.wrap (rl*2^(min (1:Int).toNat IntKind.u64.bits))) ||| BitVec.ofInt IntKind.u64.bits (u64.wrap ((BitVec.ofInt IntKind.u64.bits (al.fdiv (2^(min i.toNat IntKind.u64.bits))) &&& BitVec.ofInt IntKind.u64.bits 1).toNat))).toNat)) bl 0) fun c_4 =>
 oB (zW.sh F (u64.wrap ((BitVec.ofInt IntKind.u64.bits (u64.wrap (rh*2^(min (1:Int).toNat IntKind.u64.bits))) ||| BitVec.ofInt IntKind.u64.bits (rl.fdiv (2^(min (63:Int).toNat IntKind.u64.bits)))).toNat)) bh c_4.1.2.1) fun c_5 =>
 bif decide (0<=i) then rec al bh bl (u64.wrap ((BitVec.ofInt IntKind.u64.bits ql ||| BitVec.ofInt IntKind.u64.bits (u64.wrap (1*2^(min i.toNat IntKind.u64.bits)))).toNat)) c_5.1.1 c_4.1.1 (i64.wrap (i-1))
 else none
 else rec al bh bl ql (u64.wrap ((BitVec.ofInt IntKind.u64.bits (u64.wrap (rh*2^(min (1:Int).toNat IntKind.u64.bits))) ||| BitVec.ofInt IntKind.u64.bits (rl.fdiv (2^(min (63:Int).toNat IntKind.u64.bits)))).toNat)) (u64.wrap ((BitVec.ofInt IntKind.u64.bits (u64.wrap (rl*2^(min (1:Int).toNat IntKind.u64.bits))) ||| BitVec.ofInt IntKind.u64.bits (u64.wrap ((BitVec.ofInt IntKind.u64.bits (al.fdiv (2^(min i.toNat IntKind.u64.bits))) &&& BitVec.ofInt IntKind.u64.bits 1).toNat))).toNat)) (i64.wrap (i-1))
 else rec al bh bl ql (u64.wrap ((BitVec.ofInt IntKind.u64.bits (u64.wrap (rh*2^(min (1:Int).toNat IntKind.u64.bits))) ||| BitVec.ofInt IntKind.u64.bits (rl.fdiv (2^(min (63:Int).toNat IntKind.u64.bits)))).toNat)) (u64.wrap ((BitVec.ofInt IntKind.u64.bits (u64.wrap (rl*2^(min (1:Int).toNat IntKind.u64.bits))) ||| BitVec.ofInt IntKind.u64.bits (u64.wrap ((BitVec.ofInt IntKind.u64.bits (al.fdiv (2^(min i.toNat IntKind.u64.bits))) &&& BitVec.ofInt IntKind.u64.bits 1).toNat))).toNat)) (i64.wrap (i-1))
 else none
 else k0 al bh bl ql rh rl i (decide (i>=0))
def ym.l7 {R:Type} (F:Nat) (k0:ym.l7.K0 R):Nat->ym.l7.T R
 | 0,_,_,_,_,_,_,_=>none
 | fu+1,al,bh,bl,ql,rh,rl,i=>ym.l7.body F k0 (ym.l7 F k0 fu) al bh bl ql rh rl i
def ym.sh (F:Nat) (ah:Int) (al:Int) (bh:Int) (bl:Int):Option ym.sg.R :=
 bif (bh==0) then bif (bl != 0) then bif (bl != 0) then oB (zp.sh F (ah.tmod bl) al bl) fun c_1 =>
 some ((u64.wrap (ah.tdiv bl),c_1.1.1,0,c_1.1.2.1,()),())
 else none
 else none
 else ym.l7 F (fun al6 bh6 bl6 ql6 rh6 rl6 i6 t346=>some ((0,ql6,rh6,rl6,()),())) F al bh bl 0 0 ah 63
def ym.sp (F:Nat):TA ym.sg.args->Option ym.sg.R:=fun x=>ym.sh F x.1 x.2.1 x.2.2.1 x.2.2.2.1
@[reducible] def xK.sg:Sig:={args:=[.d (.g zg),.d (.g zg)],res:=[.g zg,.g zg,.c (.int .i64)]}
def xK.sh (F:Nat) (a:zg.T) (b:zg.T):Option xK.sg.R :=
 bif ((b.1==0)&&((b.2==0)&&true)) then some (((0,0),(0,0),20,()),())
 else oB (xR.sh F a) fun c_1 =>
 oB (xR.sh F b) fun c_2 =>
 oB (ym.sh F c_1.1.1 c_1.1.2.1 c_2.1.1 c_2.1.2.1) fun c_3 =>
 oB (xU.sh F (!(decide (a.1<0)==decide (b.1<0))) c_3.1.1 c_3.1.2.1) fun c_4 =>
 bif (c_4.1.2.1 != 0) then some (((0,0),(0,0),c_4.1.2.1,()),())
 else oB (xU.sh F (decide (a.1<0)) c_3.1.2.2.1 c_3.1.2.2.2.1) fun c_5 =>
 some ((c_4.1.1,c_5.1.1,c_5.1.2.1,()),())
def xK.sp (F:Nat):TA xK.sg.args->Option xK.sg.R:=fun x=>xK.sh F x.1 x.2.1
@[reducible] def wg.sg:Sig:={args:=[.d (.g zg),.d (.g zg),.d (.g zg),.d (.c (.int .i64))],res:=[.c .bool]}
def wg.sh (F:Nat) (q:zg.T) (r:zg.T) (b:zg.T) (mode:Int):Option wg.sg.R :=
 bif (mode==0) then some (((!(decide (r.1<0)==decide (b.1<0))),()),())
 else bif (mode==1) then some ((!(!(decide (r.1<0)==decide (b.1<0))),()),())
 else bif (mode==2) then some ((false,()),())
 else oB (xR.sh F r) fun c_1 =>
 oB (xR.sh F b) fun c_2 =>
 oB (zW.sh F c_2.1.2.1 c_1.1.2.1 0) fun c_3 =>
 oB (zW.sh F c_2.1.1 c_1.1.1 c_3.1.2.1) fun c_4 =>
 bif decide (c_1.1.1>c_4.1.1) then some ((true,()),())
 else bif (c_1.1.1==c_4.1.1) then bif decide (c_1.1.2.1>c_3.1.1) then some ((true,()),())
 else bif (c_1.1.1==c_4.1.1) then bif (c_1.1.2.1==c_3.1.1) then bif (mode==3) then some ((true,()),())
 else some ((((u64.wrap ((BitVec.ofInt IntKind.u64.bits q.2 &&& BitVec.ofInt IntKind.u64.bits 1).toNat))==1),()),())
 else some ((false,()),())
 else some ((false,()),())
 else bif (c_1.1.1==c_4.1.1) then bif (c_1.1.2.1==c_3.1.1) then bif (mode==3) then some ((true,()),())
 else some ((((u64.wrap ((BitVec.ofInt IntKind.u64.bits q.2 &&& BitVec.ofInt IntKind.u64.bits 1).toNat))==1),()),())
 else some ((false,()),())
 else some ((false,()),())
def wg.sp (F:Nat):TA wg.sg.args->Option wg.sg.R:=fun x=>wg.sh F x.1 x.2.1 x.2.2.1 x.2.2.2.1
@[reducible] def y7.sg:Sig:={args:=[.d (.g zg),.d (.g zg)],res:=[.g zg,.c (.int .i64)]}
def y7.sh (F:Nat) (a:zg.T) (b:zg.T):Option y7.sg.R :=
 oB (yq.sh F a.2 b.2 0) fun c_1 =>
 oB (yq.sh F (u64.wrap a.1) (u64.wrap b.1) c_1.1.2.1) fun c_2 =>
 bif (decide (a.1<0)==decide (b.1<0)) then bif (!(decide ((i64.wrap c_2.1.1)<0)==decide (a.1<0))) then some (((0,0),10,()),())
 else some (((i64.wrap c_2.1.1,c_1.1.1),0,()),())
 else some (((i64.wrap c_2.1.1,c_1.1.1),0,()),())
def y7.sp (F:Nat):TA y7.sg.args->Option y7.sg.R:=fun x=>y7.sh F x.1 x.2.1
@[reducible] def xO.sg:Sig:={args:=[.d (.g zg),.d (.g zg),.d (.c (.int .i64))],res:=[.g zg,.c (.int .i64)]}
def xO.sh (F:Nat) (a:zg.T) (b:zg.T) (mode:Int):Option xO.sg.R :=
 bif decide (mode<0) then some (((0,0),1,()),())
 else bif decide (mode>4) then some (((0,0),1,()),())
 else oB (xK.sh F a b) fun c_1 =>
 bif (c_1.1.2.2.1 != 0) then some ((c_1.1.1,c_1.1.2.2.1,()),())
 else bif ((c_1.1.2.1.1==0)&&((c_1.1.2.1.2==0)&&true)) then some ((c_1.1.1,c_1.1.2.2.1,()),())
 else oB (wg.sh F c_1.1.1 c_1.1.2.1 b mode) fun c_2 =>
 bif !c_2.1.1 then some ((c_1.1.1,c_1.1.2.2.1,()),())
 else bif (!(decide (a.1<0)==decide (b.1<0))) then oB (z8.sh F 1) fun c_3 =>
 oB (xW.sh F c_1.1.1 c_3.1.1) fun c_4 =>
 some ((c_4.1.1,c_4.1.2.1,()),())
 else oB (z8.sh F 1) fun c_5 =>
 oB (y7.sh F c_1.1.1 c_5.1.1) fun c_6 =>
 some ((c_6.1.1,c_6.1.2.1,()),())
def xO.sp (F:Nat):TA xO.sg.args->Option xO.sg.R:=fun x=>xO.sh F x.1 x.2.1 x.2.2.1
@[reducible] def ww.sg:Sig:={args:=[.d (.c (.int .i64))],res:=[.c (.int .i64)]}
def ww.sh (F:Nat) (v:Int):Option ww.sg.R :=
 some (((if i64.wrap (0-v)>v then i64.wrap (0-v) else v),()),())
def ww.sp (F:Nat):TA ww.sg.args->Option ww.sg.R:=fun x=>ww.sh F x.1
@[reducible] def yu.sg:Sig:={args:=[.io xq,.d (.g zg),.d (.g zg)],res:=[.g zg]}
def yu.sh (F:Nat) (m:xq.T) (a:zg.T) (b:zg.T):Option yu.sg.R :=
 oB (y7.sh F a b) fun c_1 =>
 oB (yi.sh F m c_1.1.1 c_1.1.2.1) fun c_2 =>
 some ((c_2.1.1,()),(c_2.2.1,()))
def yu.sp (F:Nat):TA yu.sg.args->Option yu.sg.R:=fun x=>yu.sh F x.1 x.2.1 x.2.2.1
@[reducible] def zF.sg:Sig:={args:=[.io xq,.d (.g zg),.d (.b xH)],res:=[.g zg]}
abbrev zF.l3.K0 (R:Type):Type:=(List xH.T)->Int->(List xH.T)->Int->Int->Bool->xq.T->zg.T->zg.T->zg.T->Option R
abbrev zF.l3.T (R:Type):Type:=(List xH.T)->Int->(List xH.T)->Int->Int->xq.T->zg.T->zg.T->zg.T->Option R
def zF.l3.body {R:Type} (F:Nat) (k0:zF.l3.K0 R) (rec:zF.l3.T R) (tiers:List xH.T) (rate:Int) (t13:List xH.T) (t14:Int) (t15:Int) (m:xq.T) (x:zg.T) (r6:zg.T) (ways:zg.T):Option R :=
 bif decide (t15<t14) then bif idx t15 t13.length then oB (ww.sh F (get xH t13 t15.toNat).2) fun c_1 =>
 bif decide ((i64.wrap (t15+1))<(tiers.length:Int)) then oB (ww.sh F (get xH t13 t15.toNat).2) fun c_2 =>
 oB (z8.sh F c_2.1.1) fun c_3 =>
 bif idx (i64.wrap (t15+1)) tiers.length then oB (z8.sh F (i64.wrap ((get xH tiers ((i64.wrap (t15+1)).toNat)).1-(get xH t13 t15.toNat).1))) fun c_4 =>
 oB (yr.sh F m c_3.1.1 c_4.1.1) fun c_5 =>
 bif (((m.1.1==c_5.2.1.1.1)&&((m.1.2==c_5.2.1.1.2)&&true))&&true) then oB (yu.sh F c_5.2.1 ways c_5.1.1) fun c_6 =>
 bif (((c_5.2.1.1.1==c_6.2.1.1.1)&&((c_5.2.1.1.2==c_6.2.1.1.2)&&true))&&true) then rec tiers (if c_1.1.1>rate then c_1.1.1 else rate) t13 t14 (i64.wrap (t15+1)) c_6.2.1 x r6 c_6.1.1
 else none
 else none
 else none
 else rec tiers (if c_1.1.1>rate then c_1.1.1 else rate) t13 t14 (i64.wrap (t15+1)) m x r6 ways
 else none
 else k0 tiers rate t13 t14 t15 (decide (t15<t14)) m x r6 ways
def zF.l3 {R:Type} (F:Nat) (k0:zF.l3.K0 R):Nat->zF.l3.T R
 | 0,_,_,_,_,_,_,_,_,_=>none
 | fu+1,tiers,rate,t13,t14,t15,m,x,r6,ways=>zF.l3.body F k0 (zF.l3 F k0 fu) tiers rate t13 t14 t15 m x r6 ways
def zF.sh (F:Nat) (m:xq.T) (x:zg.T) (tiers:List xH.T):Option zF.sg.R :=
 zF.l3 F (fun tiers7 rate7 t137 t147 t157 t167 m7 x7 r67 ways7=>bif idx (i64.wrap ((tiers7.length:Int)-1)) tiers7.length then oB (z8.sh F (get xH tiers7 ((i64.wrap ((tiers7.length:Int)-1)).toNat)).1) fun c_8 =>
 oB (yu.sh F m7 x7 c_8.1.1) fun c_9 =>
 bif (((m7.1.1==c_9.2.1.1.1)&&((m7.1.2==c_9.2.1.1.2)&&true))&&true) then oB (z8.sh F rate7) fun c_10 =>
 oB (yr.sh F c_9.2.1 c_10.1.1 c_9.1.1) fun c_11 =>
 bif (((c_9.2.1.1.1==c_11.2.1.1.1)&&((c_9.2.1.1.2==c_11.2.1.1.2)&&true))&&true) then oB (yu.sh F c_11.2.1 c_11.1.1 ways7) fun c_12 =>
 bif (((c_11.2.1.1.1==c_12.2.1.1.1)&&((c_11.2.1.1.2==c_12.2.1.1.2)&&true))&&true) then oB (yr.sh F c_12.2.1 c_9.2.1.1 c_12.1.1) fun c_13 =>
 bif (((c_12.2.1.1.1==c_13.2.1.1.1)&&((c_12.2.1.1.2==c_13.2.1.1.2)&&true))&&true) then some ((c_13.1.1,()),(c_13.2.1,()))
 else none
 else none
 else none
 else none
 else none) F tiers 0 tiers (tiers.length:Int) 0 m x (0,0) (0,0)
def zF.sp (F:Nat):TA zF.sg.args->Option zF.sg.R:=fun x=>zF.sh F x.1 x.2.1 x.2.2.1
@[reducible] def xy.sg:Sig:={args:=[.d (.b zg)],res:=[.g zg,.c (.int .i64)]}
abbrev xy.l4.K0 (R:Type):Type:=Int->Int->Int->(List zg.T)->Int->Int->Bool->zg.T->Option R
abbrev xy.l4.T (R:Type):Type:=Int->Int->Int->(List zg.T)->Int->Int->zg.T->Option R
def xy.l4.body {R:Type} (F:Nat) (k0:xy.l4.K0 R) (rec:xy.l4.T R) (lo:Int) (hi:Int) (top:Int) (t11:List zg.T) (t12:Int) (t13:Int) (r2:zg.T):Option R :=
 bif decide (t13<t12) then bif idx t13 t11.length then oB (yq.sh F lo (get zg t11 t13.toNat).2 0) fun c_1 =>
 oB (yq.sh F hi (u64.wrap (get zg t11 t13.toNat).1) c_1.1.2.1) fun c_2 =>
 rec c_1.1.1 c_2.1.1 (i64.wrap (top+(i64.wrap (((get zg t11 t13.toNat).1.fdiv (2^(min (63:Int).toNat IntKind.i64.bits)))+(i64.wrap c_2.1.2.1))))) t11 t12 (i64.wrap (t13+1)) r2
 else none
 else k0 lo hi top t11 t12 t13 (decide (t13<t12)) r2
def xy.l4 {R:Type} (F:Nat) (k0:xy.l4.K0 R):Nat->xy.l4.T R
 | 0,_,_,_,_,_,_,_=>none
 | fu+1,lo,hi,top,t11,t12,t13,r2=>xy.l4.body F k0 (xy.l4 F k0 fu) lo hi top t11 t12 t13 r2
def xy.sh (F:Nat) (list:List zg.T):Option xy.sg.R :=
 xy.l4 F (fun lo3 hi3 top3 t113 t123 t133 t143 r23=>bif (top3 != ((i64.wrap hi3).fdiv (2^(min (63:Int).toNat IntKind.i64.bits)))) then some (((0,0),10,()),())
 else some (((i64.wrap hi3,lo3),0,()),())) F 0 0 0 list (list.length:Int) 0 (0,0)
def xy.sp (F:Nat):TA xy.sg.args->Option xy.sg.R:=fun x=>xy.sh F x.1
@[reducible] def zS.sg:Sig:={args:=[.io xq,.d (.g xZ),.d (.g zT),.d (.b zg)],res:=[.g zg]}
def zS.j18 {R:Type} (F:Nat) (k0:xq.T->zg.T->Option R) (kids:List zg.T) (m:xq.T) (n:zT.T) (r8:zg.T):Option R :=
 oB (xy.sh F kids) fun c_13 =>
 oB (yi.sh F m c_13.1.1 c_13.1.2.1) fun c_14 =>
 bif (n.1==11) then oB (z8.sh F n.2.1) fun c_15 =>
 oB (yu.sh F c_14.2.1 c_14.1.1 c_15.1.1) fun c_16 =>
 k0 c_16.2.1 c_16.1.1
 else bif (n.1==12) then oB (z8.sh F n.2.1) fun c_17 =>
 oB (yu.sh F c_14.2.1 c_14.1.1 c_17.1.1) fun c_18 =>
 k0 c_18.2.1 c_18.1.1
 else bif (n.1==16) then oB (z8.sh F n.2.1) fun c_19 =>
 oB (yu.sh F c_14.2.1 c_14.1.1 c_19.1.1) fun c_20 =>
 k0 c_20.2.1 c_20.1.1
 else k0 c_14.2.1 c_14.1.1
def zS.sh (F:Nat) (m:xq.T) (p:xZ.T) (n:zT.T) (kids:List zg.T):Option zS.sg.R :=
 bif (n.1==1) then oB (z8.sh F n.2.1) fun c_1 =>
 some ((c_1.1.1,()),(m,()))
 else bif (n.1==2) then oB (z8.sh F n.2.1) fun c_2 =>
 oB (yr.sh F m c_2.1.1 m.1) fun c_3 =>
 some ((c_3.1.1,()),(c_3.2.1,()))
 else bif (n.1==3) then oB (z8.sh F 1099511627776) fun c_4 =>
 some ((c_4.1.1,()),(m,()))
 else bif (n.1==4) then oB (z8.sh F 1099511627776) fun c_5 =>
 bif idx n.2.1 p.2.1.length then oB (z8.sh F (get wK p.2.1 n.2.1.toNat).2) fun c_6 =>
 oB (xO.sh F c_5.1.1 c_6.1.1 1) fun c_7 =>
 oB (yi.sh F m c_7.1.1 c_7.1.2.1) fun c_8 =>
 some ((c_8.1.1,()),(c_8.2.1,()))
 else none
 else bif (n.1==8) then bif idx 0 kids.length then bif idx 1 kids.length then oB (yr.sh F m (get zg kids 0) (get zg kids 1)) fun c_9 =>
 some ((c_9.1.1,()),(c_9.2.1,()))
 else none
 else none
 else bif (n.1==13) then bif (n.1==13) then bif idx 0 kids.length then oB (zF.sh F m (get zg kids 0) n.2.2.2.2.1) fun c_10 =>
 some ((c_10.1.1,()),(c_10.2.1,()))
 else none
 else bif (n.1==15) then bif idx 0 kids.length then oB (z8.sh F 10000) fun c_11 =>
 oB (yr.sh F m (get zg kids 0) c_11.1.1) fun c_12 =>
 bif idx 0 kids.length then some (((get zg kids 0),()),(c_12.2.1,()))
 else none
 else none
 else zS.j18 F (fun m21 r821=>some ((r821,()),(m21,()))) kids m n (0,0)
 else bif (n.1==14) then bif idx 0 kids.length then oB (zF.sh F m (get zg kids 0) n.2.2.2.2.1) fun c_22 =>
 some ((c_22.1.1,()),(c_22.2.1,()))
 else none
 else bif (n.1==15) then bif idx 0 kids.length then oB (z8.sh F 10000) fun c_23 =>
 oB (yr.sh F m (get zg kids 0) c_23.1.1) fun c_24 =>
 bif idx 0 kids.length then some (((get zg kids 0),()),(c_24.2.1,()))
 else none
 else none
 else zS.j18 F (fun m25 r825=>some ((r825,()),(m25,()))) kids m n (0,0)
def zS.sp (F:Nat):TA zS.sg.args->Option zS.sg.R:=fun x=>zS.sh F x.1 x.2.1 x.2.2.1 x.2.2.2.1
@[reducible] def xF.sg:Sig:={args:=[.d (.g zg),.d (.g zg)],res:=[.c (.int .i64)]}
def xF.sh (F:Nat) (a:zg.T) (b:zg.T):Option xF.sg.R :=
 bif ((a.1==b.1)&&((a.2==b.2)&&true)) then some ((0,()),())
 else bif decide (a.1<b.1) then bif decide (a.1<b.1) then some (((-1),()),())
 else some ((1,()),())
 else bif (a.1==b.1) then bif decide (a.2<b.2) then some (((-1),()),())
 else some ((1,()),())
 else some ((1,()),())
def xF.sp (F:Nat):TA xF.sg.args->Option xF.sg.R:=fun x=>xF.sh F x.1 x.2.1
@[reducible] def xT.sg:Sig:={args:=[.d (.g zT),.d (.g zg)],res:=[.c .bool]}
def xT.sh (F:Nat) (n:zT.T) (mag:zg.T):Option xT.sg.R :=
 bif (n.1==15) then oB (z8.sh F 10000) fun c_1 =>
 oB (zY.sh F mag c_1.1.1) fun c_2 =>
 oB (xF.sh F c_2.1.1 (72057594037927936,0)) fun c_3 =>
 some ((decide (c_3.1.1>0),()),())
 else oB (xF.sh F mag (72057594037927936,0)) fun c_4 =>
 some ((decide (c_4.1.1>0),()),())
def xT.sp (F:Nat):TA xT.sg.args->Option xT.sg.R:=fun x=>xT.sh F x.1 x.2.1
@[reducible] def zz.sg:Sig:={args:=[.d (.g xZ),.d (.g zg)],res:=[.c (.sl zg),.c (.int .i64)]}
abbrev zz.l4.K0 (R:Type):Type:=(List zg.T)->Int->Option R
abbrev zz.l4.K1 (R:Type):Type:=(List zT.T)->Int->Int->Bool->xZ.T->xq.T->(List zg.T)->(List zg.T)->Option R
abbrev zz.l4.T (R:Type):Type:=(List zT.T)->Int->Int->xZ.T->xq.T->(List zg.T)->(List zg.T)->Option R
def zz.l4.body {R:Type} (F:Nat) (k0:zz.l4.K0 R) (k1:zz.l4.K1 R) (rec:zz.l4.T R) (t17:List zT.T) (t18:Int) (t19:Int) (p:xZ.T) (m:xq.T) (mags:List zg.T) (pile:List zg.T):Option R :=
 bif decide (t19<t18) then bif idx t19 t17.length then oB (zZ.sh F (get zT t17 t19.toNat)) fun c_1 =>
 bif (yd pile.length (some (i64.wrap ((pile.length:Int)-c_1.1.1))) none).1 then oB (zS.sh F m p (get zT t17 t19.toNat) ((List.take (yd pile.length (some (i64.wrap ((pile.length:Int)-c_1.1.1))) none).2.2 pile).drop (yd pile.length (some (i64.wrap ((pile.length:Int)-c_1.1.1))) none).2.1)) fun c_2 =>
 bif c_2.2.1.2 then k0 ([]) t19
 else oB (xT.sh F (get zT t17 t19.toNat) c_2.1.1) fun c_3 =>
 bif c_3.1.1 then k0 ([]) t19
 else bif Nat.ble (mags.length+([c_2.1.1]:List zg.T).length) vb then bif (yd pile.length none (some (i64.wrap ((pile.length:Int)-c_1.1.1)))).1 then bif Nat.ble ((yd pile.length none (some (i64.wrap ((pile.length:Int)-c_1.1.1)))).2.2+([c_2.1.1]:List zg.T).length) vb then rec t17 t18 (i64.wrap (t19+1)) p c_2.2.1 (mags++([c_2.1.1]:List zg.T)) (pile.take (yd pile.length none (some (i64.wrap ((pile.length:Int)-c_1.1.1)))).2.2++([c_2.1.1]:List zg.T))
 else none
 else none
 else none
 else none
 else none
 else k1 t17 t18 t19 (decide (t19<t18)) p m mags pile
def zz.l4 {R:Type} (F:Nat) (k0:zz.l4.K0 R) (k1:zz.l4.K1 R):Nat->zz.l4.T R
 | 0,_,_,_,_,_,_,_=>none
 | fu+1,t17,t18,t19,p,m,mags,pile=>zz.l4.body F k0 k1 (zz.l4 F k0 k1 fu) t17 t18 t19 p m mags pile
def zz.j13 {R:Type} (F:Nat) (k0:(List zg.T)->Int->Option R) (mags:List zg.T):Option R :=
 k0 mags (-1)
def zz.sh (F:Nat) (p:xZ.T) (unit:zg.T):Option zz.sg.R :=
 zz.l4 F (fun r44 r54=>some ((r44,r54,()),())) (fun t175 t185 t195 t205 p5 m5 mags5 pile5=>zz.j13 F (fun r46 r56=>some ((r46,r56,()),())) mags5) F p.2.2.2 (p.2.2.2.length:Int) 0 p (unit,false) ([]) ([])
def zz.sp (F:Nat):TA zz.sg.args->Option zz.sg.R:=fun x=>zz.sh F x.1 x.2.1
@[reducible] def xQ.sg:Sig:={args:=[.d (.g xZ)],res:=[.g zg,.c (.int .i64),.c (.int .i64)]}
def xQ.sh (F:Nat) (p:xZ.T):Option xQ.sg.R :=
 oB (zC.sh F p) fun c_1 =>
 bif (c_1.1.2.2.1 != 0) then some (((0,0),c_1.1.2.1,c_1.1.2.2.1,()),())
 else oB (zV.sh F p) fun c_2 =>
 bif decide (c_2.1.1>6) then some (((0,0),i64.wrap ((p.2.2.2.length:Int)-1),90,()),())
 else oB (yt.sh F c_2.1.1) fun c_3 =>
 oB (zz.sh F p c_3.1.1) fun c_4 =>
 bif decide (c_4.1.2.1>=0) then some (((0,0),c_4.1.2.1,90,()),())
 else some ((c_3.1.1,0,c_3.1.2.1,()),())
def xQ.sp (F:Nat):TA xQ.sg.args->Option xQ.sg.R:=fun x=>xQ.sh F x.1
@[reducible] def yK.sg:Sig:={args:=[.d (.g za)],res:=[.c (.sl zj)]}
def yK.sh (F:Nat) (m:za.T):Option yK.sg.R :=
 bif (m.1.1==1) then oB (z8.sh F m.1.2.1) fun c_1 =>
 some ((([(0,c_1.1.1,(0,0),0,0)]:List zj.T),()),())
 else bif (m.1.1==2) then oB (z8.sh F m.1.2.1) fun c_2 =>
 oB (zY.sh F c_2.1.1 m.2.1) fun c_3 =>
 some ((([(0,c_3.1.1,(0,0),0,0)]:List zj.T),()),())
 else bif (m.1.1==3) then oB (z8.sh F 1) fun c_4 =>
 some ((([(0,(0,0),c_4.1.1,0,0)]:List zj.T),()),())
 else bif (m.1.1==4) then oB (z8.sh F 1) fun c_5 =>
 some ((([(0,(0,0),(0,0),c_5.1.1)]:List zj.T),()),())
 else some ((([(0,(0,0),(0,0),0,0)]:List zj.T),()),())
def yK.sp (F:Nat):TA yK.sg.args->Option yK.sg.R:=fun x=>yK.sh F x.1
@[reducible] def yn.sg:Sig:={args:=[.d (.g za)],res:=[.c (.bnd za),.c (.int .i64)]}
def yn.sh (F:Nat) (m:za.T):Option yn.sg.R :=
 bif idx m.1.1 (([Ty.dflt (.pair (.bnd za) (.int .i64)),Ty.dflt (.pair (.bnd za) (.int .i64)),Ty.dflt (.pair (.bnd za) (.int .i64)),Ty.dflt (.pair (.bnd za) (.int .i64)),Ty.dflt (.pair (.bnd za) (.int .i64)),((vf,m),1),((vi,m),2),((vd,m),2),((vg,m),2),((wQ,m),m.1.2.2.2.1),((wY,m),m.1.2.2.2.1),((wX,m),1),((wV,m),1),((wz,m),1),((wH,m),1),((ve,m),1),((wW,m),3)]:List ((Nat×za.T)×Int)).length) then bif idx m.1.1 (([Ty.dflt (.pair (.bnd za) (.int .i64)),Ty.dflt (.pair (.bnd za) (.int .i64)),Ty.dflt (.pair (.bnd za) (.int .i64)),Ty.dflt (.pair (.bnd za) (.int .i64)),Ty.dflt (.pair (.bnd za) (.int .i64)),((vf,m),1),((vi,m),2),((vd,m),2),((vg,m),2),((wQ,m),m.1.2.2.2.1),((wY,m),m.1.2.2.2.1),((wX,m),1),((wV,m),1),((wz,m),1),((wH,m),1),((ve,m),1),((wW,m),3)]:List ((Nat×za.T)×Int)).length) then some (((get (.pair (.bnd za) (.int .i64)) ([Ty.dflt (.pair (.bnd za) (.int .i64)),Ty.dflt (.pair (.bnd za) (.int .i64)),Ty.dflt (.pair (.bnd za) (.int .i64)),Ty.dflt (.pair (.bnd za) (.int .i64)),Ty.dflt (.pair (.bnd za) (.int .i64)),((vf,m),1),((vi,m),2),((vd,m),2),((vg,m),2),((wQ,m),m.1.2.2.2.1),((wY,m),m.1.2.2.2.1),((wX,m),1),((wV,m),1),((wz,m),1),((wH,m),1),((ve,m),1),((wW,m),3)]:List ((Nat×za.T)×Int)) m.1.1.toNat).1,(get (.pair (.bnd za) (.int .i64)) ([Ty.dflt (.pair (.bnd za) (.int .i64)),Ty.dflt (.pair (.bnd za) (.int .i64)),Ty.dflt (.pair (.bnd za) (.int .i64)),Ty.dflt (.pair (.bnd za) (.int .i64)),Ty.dflt (.pair (.bnd za) (.int .i64)),((vf,m),1),((vi,m),2),((vd,m),2),((vg,m),2),((wQ,m),m.1.2.2.2.1),((wY,m),m.1.2.2.2.1),((wX,m),1),((wV,m),1),((wz,m),1),((wH,m),1),((ve,m),1),((wW,m),3)]:List ((Nat×za.T)×Int)) m.1.1.toNat).2,()),())
 else none
 else none
def yn.sp (F:Nat):TA yn.sg.args->Option yn.sg.R:=fun x=>yn.sh F x.1
@[reducible] def xV.sg:Sig:={args:=[.d (.g zg),.d (.g zg),.d (.g zg),.d (.c (.int .i64)),.d (.c (.int .i64)),.d (.c (.int .i64))],res:=[.g zo,.c (.int .i64)]}
def xV.sh (F:Nat) (a:zg.T) (b:zg.T) (c:zg.T) (e:Int) (f:Int) (g:Int):Option xV.sg.R :=
 bif (e != 0) then some ((((0,0),(0,0),0,0),10,()),())
 else bif (f != 0) then some ((((0,0),(0,0),0,0),10,()),())
 else bif (g != 0) then some ((((0,0),(0,0),0,0),10,()),())
 else some (((a,b,c),0,()),())
def xV.sp (F:Nat):TA xV.sg.args->Option xV.sg.R:=fun x=>xV.sh F x.1 x.2.1 x.2.2.1 x.2.2.2.1 x.2.2.2.2.1 x.2.2.2.2.2.1
@[reducible] def wC.sg:Sig:={args:=[.d (.g zo),.d (.g zo)],res:=[.g zo,.c (.int .i64)]}
def wC.sh (F:Nat) (l:zo.T) (m:zo.T):Option wC.sg.R :=
 oB (y7.sh F l.1 m.1) fun c_1 =>
 oB (y7.sh F l.2.1 m.2.1) fun c_2 =>
 oB (y7.sh F l.2.2 m.2.2) fun c_3 =>
 oB (xV.sh F c_1.1.1 c_2.1.1 c_3.1.1 c_1.1.2.1 c_2.1.2.1 c_3.1.2.1) fun c_4 =>
 some ((c_4.1.1,c_4.1.2.1,()),())
def wC.sp (F:Nat):TA wC.sg.args->Option wC.sg.R:=fun x=>wC.sh F x.1 x.2.1
@[reducible] def xP.sg:Sig:={args:=[.d (.g zo),.d (.g zo)],res:=[.g zo]}
def xP.sh (F:Nat) (l:zo.T) (m:zo.T):Option xP.sg.R :=
 oB (wC.sh F l m) fun c_1 =>
 some ((c_1.1.1,()),())
def xP.sp (F:Nat):TA xP.sg.args->Option xP.sg.R:=fun x=>xP.sh F x.1 x.2.1
@[reducible] def xj.sg:Sig:={args:=[.d (.g za),.d (.b zo),.d (.c (.int .i64))],res:=[.g zo,.c (.sl zo)]}
def xj.sh (F:Nat) (m:za.T) (k:List zo.T) (t2:Int):Option xj.sg.R :=
 bif idx 0 k.length then bif idx 1 k.length then oB (xP.sh F (get zo k 0) (get zo k 1)) fun c_1 =>
 some ((c_1.1.1,[],()),())
 else none
 else none
def xj.sp (F:Nat):TA xj.sg.args->Option xj.sg.R:=fun x=>xj.sh F x.1 x.2.1 x.2.2.1
@[reducible] def z6.sg:Sig:={args:=[.d (.g zg)],res:=[.g zo]}
def z6.sh (F:Nat) (w:zg.T):Option z6.sg.R :=
 some (((w,(0,0),0,0),()),())
def z6.sp (F:Nat):TA z6.sg.args->Option z6.sg.R:=fun x=>z6.sh F x.1
@[reducible] def wB.sg:Sig:={args:=[.d (.g zo),.d (.g zo)],res:=[.g zo,.c (.int .i64)]}
def wB.sh (F:Nat) (l:zo.T) (m:zo.T):Option wB.sg.R :=
 oB (xW.sh F l.1 m.1) fun c_1 =>
 oB (xW.sh F l.2.1 m.2.1) fun c_2 =>
 oB (xW.sh F l.2.2 m.2.2) fun c_3 =>
 oB (xV.sh F c_1.1.1 c_2.1.1 c_3.1.1 c_1.1.2.1 c_2.1.2.1 c_3.1.2.1) fun c_4 =>
 some ((c_4.1.1,c_4.1.2.1,()),())
def wB.sp (F:Nat):TA wB.sg.args->Option wB.sg.R:=fun x=>wB.sh F x.1 x.2.1
@[reducible] def yO.sg:Sig:={args:=[.d (.g zo),.d (.g zo)],res:=[.g zo]}
def yO.sh (F:Nat) (l:zo.T) (m:zo.T):Option yO.sg.R :=
 oB (wB.sh F l m) fun c_1 =>
 some ((c_1.1.1,()),())
def yO.sp (F:Nat):TA yO.sg.args->Option yO.sg.R:=fun x=>yO.sh F x.1 x.2.1
@[reducible] def z7.sg:Sig:={args:=[.d (.c (.int .i64)),.d (.p zo),.d (.p za)],res:=[.g zo]}
def z7.sh (F:Nat) (i:Int) (t1:zo.T) (t2:za.T):Option z7.sg.R :=
 bif idx i t2.1.2.2.2.2.1.length then oB (z8.sh F (get xH t2.1.2.2.2.2.1 i.toNat).1) fun c_1 =>
 oB (z6.sh F c_1.1.1) fun c_2 =>
 oB (yO.sh F t1 c_2.1.1) fun c_3 =>
 some ((c_3.1.1,()),())
 else none
def z7.sp (F:Nat):TA z7.sg.args->Option z7.sg.R:=fun x=>z7.sh F x.1 x.2.1 x.2.2.1
@[reducible] def wj.sg:Sig:={args:=[.d (.c (.int .i64)),.d (.c (.int .i64))],res:=[.c .bool]}
def wj.sh (F:Nat) (size:Int) (q:Int):Option wj.sg.R :=
 bif decide (size>=1) then bif decide (size<=1000000000000) then bif decide (q>=0) then some ((decide (q<=1099511627776),()),())
 else some ((false,()),())
 else some ((false,()),())
 else some ((false,()),())
def wj.sp (F:Nat):TA wj.sg.args->Option wj.sg.R:=fun x=>wj.sh F x.1 x.2.1
@[reducible] def xD.sg:Sig:={args:=[.d (.c (.int .i64)),.d (.c (.int .i64))],res:=[.c (.int .i64)]}
def xD.sh (F:Nat) (q:Int) (size:Int):Option xD.sg.R :=
 bif (size != 0) then bif (size != 0) then some ((i64.wrap ((i64.wrap (q.tdiv size))+(if 1<q.tmod size then 1 else q.tmod size)),()),())
 else none
 else none
def xD.sp (F:Nat):TA xD.sg.args->Option xD.sg.R:=fun x=>xD.sh F x.1 x.2.1
@[reducible] def yP.sg:Sig:={args:=[.d (.g zo),.d (.c (.int .i64)),.d (.c (.int .i64))],res:=[.g zg,.c (.int .i64)]}
def yP.sh (F:Nat) (l:zo.T) (size:Int) (q:Int):Option yP.sg.R :=
 oB (wj.sh F size q) fun c_1 =>
 bif !c_1.1.1 then some (((0,0),1,()),())
 else oB (z8.sh F q) fun c_2 =>
 oB (zY.sh F l.2.1 c_2.1.1) fun c_3 =>
 bif (c_3.1.2.1 != 0) then some (((0,0),c_3.1.2.1,()),())
 else oB (xD.sh F q size) fun c_4 =>
 oB (z8.sh F c_4.1.1) fun c_5 =>
 oB (zY.sh F l.2.2 c_5.1.1) fun c_6 =>
 bif (c_6.1.2.1 != 0) then some (((0,0),c_6.1.2.1,()),())
 else oB (y7.sh F l.1 c_3.1.1) fun c_7 =>
 bif (c_7.1.2.1 != 0) then some (((0,0),c_7.1.2.1,()),())
 else oB (y7.sh F c_7.1.1 c_6.1.1) fun c_8 =>
 some ((c_8.1.1,c_8.1.2.1,()),())
def yP.sp (F:Nat):TA yP.sg.args->Option yP.sg.R:=fun x=>yP.sh F x.1 x.2.1 x.2.2.1
@[reducible] def xp.sg:Sig:={args:=[.d (.g zg)],res:=[.c (.int .i64)]}
def xp.sh (F:Nat) (w:zg.T):Option xp.sg.R :=
 bif decide (w.1<0) then some (((-1),()),())
 else bif ((w.1==0)&&((w.2==0)&&true)) then some ((0,()),())
 else some ((1,()),())
def xp.sp (F:Nat):TA xp.sg.args->Option xp.sg.R:=fun x=>xp.sh F x.1
@[reducible] def zK.sg:Sig:={args:=[.d (.g za),.d (.g zo),.d (.c (.int .i64))],res:=[.c .bool]}
def zK.sh (F:Nat) (m:za.T) (l:zo.T) (q:Int):Option zK.sg.R :=
 oB (yP.sh F l m.2.2 q) fun c_1 =>
 oB (xp.sh F c_1.1.1) fun c_2 =>
 some ((decide (c_2.1.1>0),()),())
def zK.sp (F:Nat):TA zK.sg.args->Option zK.sg.R:=fun x=>zK.sh F x.1 x.2.1 x.2.2.1
@[reducible] def zh.sg:Sig:={args:=[.d (.g za),.d (.g zo),.d (.c (.int .i64))],res:=[.c (.int .i64),.c (.sl zo)]}
@[reducible] def zh.ds22:Sig:={args:=[.d (.c (.int .i64)),.d (.p zo),.d (.p za)],res:=[.g zo]}
def zh.d22 (F:Nat):Nat->TA zh.ds22.args->Option zh.ds22.R:=mkT zh.ds22 [(vI,z7.sp F)]
@[reducible] def zh.ds34:Sig:={args:=[.d (.c (.int .i64)),.d (.p zo),.d (.p za)],res:=[.g zo]}
def zh.d34 (F:Nat):Nat->TA zh.ds34.args->Option zh.ds34.R:=mkT zh.ds34 [(vI,z7.sp F)]
@[reducible] def zh.ds46:Sig:={args:=[.d (.c (.int .i64)),.d (.p zo),.d (.p za)],res:=[.g zo]}
def zh.d46 (F:Nat):Nat->TA zh.ds46.args->Option zh.ds46.R:=mkT zh.ds46 [(vI,z7.sp F)]
abbrev zh.l3.K0 (R:Type):Type:=Int->za.T->(Nat×zo.T×za.T)->Int->Bool->Option R
abbrev zh.l3.T (R:Type):Type:=Int->za.T->(Nat×zo.T×za.T)->Int->Option R
def zh.l3.body {R:Type} (F:Nat) (k0:zh.l3.K0 R) (rec:zh.l3.T R) (q:Int) (m:za.T) (from_:Nat×zo.T×za.T) (n:Int):Option R :=
 bif decide (n<(m.1.2.2.2.2.1.length:Int)) then oB (zh.d22 F (from_.1+1) (n,from_.2.1,from_.2.2,())) fun c_1 =>
 oB (zK.sh F m c_1.1.1 q) fun c_2 =>
 bif c_2.1.1 then rec q m from_ (i64.wrap (n+1))
 else k0 q m from_ n c_2.1.1
 else k0 q m from_ n false
def zh.l3 {R:Type} (F:Nat) (k0:zh.l3.K0 R):Nat->zh.l3.T R
 | 0,_,_,_,_=>none
 | fu+1,q,m,from_,n=>zh.l3.body F k0 (zh.l3 F k0 fu) q m from_ n
def zh.j10 {R:Type} (F:Nat) (k0:Int->(List zo.T)->Option R) (n:Int) (turn:List zo.T):Option R :=
 k0 n turn
def zh.j8 {R:Type} (F:Nat) (k0:Int->(List zo.T)->Option R) (m:za.T) (from_:Nat×zo.T×za.T) (n:Int) (turn:List zo.T):Option R :=
 bif decide (n<(m.1.2.2.2.2.1.length:Int)) then oB (zh.d46 F (from_.1+1) (n,from_.2.1,from_.2.2,())) fun c_5 =>
 bif Nat.ble (turn.length+([c_5.1.1]:List zo.T).length) vb then zh.j10 F (fun r66 r76=>k0 r66 r76) n (turn++([c_5.1.1]:List zo.T))
 else none
 else zh.j10 F (fun r67 r77=>k0 r67 r77) n turn
def zh.sh (F:Nat) (m:za.T) (l:zo.T) (q:Int):Option zh.sg.R :=
 zh.l3 F (fun q3 m3 from_3 n3 t253=>bif decide (n3>0) then oB (zh.d34 F (from_3.1+1) (i64.wrap (n3-1),from_3.2.1,from_3.2.2,())) fun c_4 =>
 bif Nat.ble (0+([c_4.1.1]:List zo.T).length) vb then zh.j8 F (fun r68 r78=>some ((r68,r78,()),())) m3 from_3 n3 ([c_4.1.1]:List zo.T)
 else none
 else zh.j8 F (fun r69 r79=>some ((r69,r79,()),())) m3 from_3 n3 ([])) F q m (tz,l,m) 0
def zh.sp (F:Nat):TA zh.sg.args->Option zh.sg.R:=fun x=>zh.sh F x.1 x.2.1 x.2.2.1
@[reducible] def wh.sg:Sig:={args:=[.d (.g zo),.d (.g zg)],res:=[.g zo,.c (.int .i64)]}
def wh.sh (F:Nat) (l:zo.T) (k:zg.T):Option wh.sg.R :=
 oB (zY.sh F l.1 k) fun c_1 =>
 oB (zY.sh F l.2.1 k) fun c_2 =>
 oB (zY.sh F l.2.2 k) fun c_3 =>
 oB (xV.sh F c_1.1.1 c_2.1.1 c_3.1.1 c_1.1.2.1 c_2.1.2.1 c_3.1.2.1) fun c_4 =>
 some ((c_4.1.1,c_4.1.2.1,()),())
def wh.sp (F:Nat):TA wh.sg.args->Option wh.sg.R:=fun x=>wh.sh F x.1 x.2.1
@[reducible] def xL.sg:Sig:={args:=[.d (.g zo),.d (.g zg)],res:=[.g zo]}
def xL.sh (F:Nat) (l:zo.T) (k:zg.T):Option xL.sg.R :=
 oB (wh.sh F l k) fun c_1 =>
 some ((c_1.1.1,()),())
def xL.sp (F:Nat):TA xL.sg.args->Option xL.sg.R:=fun x=>xL.sh F x.1 x.2.1
@[reducible] def zt.sg:Sig:={args:=[.d (.g za),.d (.b zo),.d (.c (.int .i64))],res:=[.g zo,.c (.sl zo)]}
abbrev zt.l7.K0 (R:Type):Type:=(List zo.T)->Int->(List zo.T)->(List xH.T)->Int->Int->Bool->za.T->zo.T->zg.T->Option R
abbrev zt.l7.T (R:Type):Type:=(List zo.T)->Int->(List zo.T)->(List xH.T)->Int->Int->za.T->zo.T->zg.T->Option R
def zt.l7.body {R:Type} (F:Nat) (k0:zt.l7.K0 R) (rec:zt.l7.T R) (k:List zo.T) (n:Int) (turn:List zo.T) (t:List xH.T) (t34:Int) (t35:Int) (m:za.T) (r6:zo.T) (base:zg.T):Option R :=
 bif decide (t35<t34) then bif idx t35 t.length then oB (z8.sh F (get xH t t35.toNat).2) fun c_2 =>
 bif idx (i64.wrap (t35+1)) t.length then bif idx t35 t.length then oB (z8.sh F (i64.wrap ((get xH t ((i64.wrap (t35+1)).toNat)).1-(get xH t t35.toNat).1))) fun c_3 =>
 oB (zY.sh F c_2.1.1 c_3.1.1) fun c_4 =>
 oB (y7.sh F base c_4.1.1) fun c_5 =>
 rec k n turn t t34 (i64.wrap (t35+1)) m r6 c_5.1.1
 else none
 else none
 else none
 else k0 k n turn t t34 t35 (decide (t35<t34)) m r6 base
def zt.l7 {R:Type} (F:Nat) (k0:zt.l7.K0 R):Nat->zt.l7.T R
 | 0,_,_,_,_,_,_,_,_,_=>none
 | fu+1,k,n,turn,t,t34,t35,m,r6,base=>zt.l7.body F k0 (zt.l7 F k0 fu) k n turn t t34 t35 m r6 base
def zt.sh (F:Nat) (m:za.T) (k:List zo.T) (q:Int):Option zt.sg.R :=
 bif idx 0 k.length then oB (zh.sh F m (get zo k 0) q) fun c_1 =>
 bif (c_1.1.1==0) then some ((((0,0),(0,0),0,0),c_1.1.2.1,()),())
 else zt.l7 F (fun k6 n6 turn6 t6 t346 t356 t366 m6 r66 base6=>bif idx 0 k6.length then bif idx (i64.wrap (n6-1)) t6.length then oB (z8.sh F (get xH t6 ((i64.wrap (n6-1)).toNat)).1) fun c_7 =>
 oB (z6.sh F c_7.1.1) fun c_8 =>
 oB (yO.sh F (get zo k6 0) c_8.1.1) fun c_9 =>
 bif idx (i64.wrap (n6-1)) t6.length then oB (z8.sh F (get xH t6 ((i64.wrap (n6-1)).toNat)).2) fun c_10 =>
 oB (xL.sh F c_9.1.1 c_10.1.1) fun c_11 =>
 oB (z6.sh F base6) fun c_12 =>
 oB (xP.sh F c_11.1.1 c_12.1.1) fun c_13 =>
 oB (xL.sh F c_13.1.1 m6.2.1) fun c_14 =>
 some ((c_14.1.1,turn6,()),())
 else none
 else none
 else none) F k c_1.1.1 c_1.1.2.1 m.1.2.2.2.2.1 (i64.wrap (c_1.1.1-1)) 0 m ((0,0),(0,0),0,0) (0,0)
 else none
def zt.sp (F:Nat):TA zt.sg.args->Option zt.sg.R:=fun x=>zt.sh F x.1 x.2.1 x.2.2.1
@[reducible] def yI.sg:Sig:={args:=[.d (.g za),.d (.b zo),.d (.c (.int .i64))],res:=[.g zo,.c (.sl zo)]}
def yI.sh (F:Nat) (m:za.T) (k:List zo.T) (q:Int):Option yI.sg.R :=
 bif idx 0 k.length then bif idx 1 k.length then oB (yO.sh F (get zo k 0) (get zo k 1)) fun c_1 =>
 oB (zK.sh F m c_1.1.1 q) fun c_2 =>
 bif c_2.1.1 then bif idx 1 k.length then some (((get zo k 1),([c_1.1.1]:List zo.T),()),())
 else none
 else bif idx 0 k.length then some (((get zo k 0),([c_1.1.1]:List zo.T),()),())
 else none
 else none
 else none
def yI.sp (F:Nat):TA yI.sg.args->Option yI.sg.R:=fun x=>yI.sh F x.1 x.2.1 x.2.2.1
@[reducible] def yW.sg:Sig:={args:=[.d (.g za),.d (.b zo),.d (.c (.int .i64))],res:=[.g zo,.c (.sl zo)]}
def yW.sh (F:Nat) (m:za.T) (k:List zo.T) (q:Int):Option yW.sg.R :=
 bif idx 1 k.length then bif idx 0 k.length then oB (yO.sh F (get zo k 1) (get zo k 0)) fun c_1 =>
 oB (zK.sh F m c_1.1.1 q) fun c_2 =>
 bif c_2.1.1 then bif idx 1 k.length then some (((get zo k 1),([c_1.1.1]:List zo.T),()),())
 else none
 else bif idx 0 k.length then some (((get zo k 0),([c_1.1.1]:List zo.T),()),())
 else none
 else none
 else none
def yW.sp (F:Nat):TA yW.sg.args->Option yW.sg.R:=fun x=>yW.sh F x.1 x.2.1 x.2.2.1
@[reducible] def xi.sg:Sig:={args:=[.d (.g za),.d (.b zo),.d (.c (.int .i64))],res:=[.g zo,.c (.sl zo)]}
def xi.sh (F:Nat) (m:za.T) (k:List zo.T) (t2:Int):Option xi.sg.R :=
 bif idx 0 k.length then bif idx 0 k.length then oB (z6.sh F (get zo k 0).1) fun c_1 =>
 bif (((get zo k 0).1.1==c_1.1.1.1.1)&&(((get zo k 0).1.2==c_1.1.1.1.2)&&(((get zo k 0).2.1.1==c_1.1.1.2.1.1)&&(((get zo k 0).2.1.2==c_1.1.1.2.1.2)&&(((get zo k 0).2.2.1==c_1.1.1.2.2.1)&&(((get zo k 0).2.2.2==c_1.1.1.2.2.2)&&true)))))) then bif idx 1 k.length then bif idx 0 k.length then oB (xL.sh F (get zo k 1) (get zo k 0).1) fun c_2 =>
 some ((c_2.1.1,[],()),())
 else none
 else none
 else bif idx 0 k.length then bif idx 1 k.length then oB (xL.sh F (get zo k 0) (get zo k 1).1) fun c_3 =>
 some ((c_3.1.1,[],()),())
 else none
 else none
 else none
 else none
def xi.sp (F:Nat):TA xi.sg.args->Option xi.sg.R:=fun x=>xi.sh F x.1 x.2.1 x.2.2.1
@[reducible] def xh.sg:Sig:={args:=[.d (.g za),.d (.b zo),.d (.c (.int .i64))],res:=[.g zo,.c (.sl zo)]}
def xh.sh (F:Nat) (m:za.T) (k:List zo.T) (t2:Int):Option xh.sg.R :=
 bif idx 0 k.length then oB (yO.sh F ((0,0),(0,0),0,0) (get zo k 0)) fun c_1 =>
 some ((c_1.1.1,[],()),())
 else none
def xh.sp (F:Nat):TA xh.sg.args->Option xh.sg.R:=fun x=>xh.sh F x.1 x.2.1 x.2.2.1
@[reducible] def ye.sg:Sig:={args:=[.d (.g zg),.d (.p za)],res:=[.g zg]}
def ye.sh (F:Nat) (w:zg.T) (t1:za.T):Option ye.sg.R :=
 oB (z8.sh F (i64.wrap (10000-t1.1.2.1))) fun c_1 =>
 oB (zY.sh F w c_1.1.1) fun c_2 =>
 oB (z8.sh F 10000) fun c_3 =>
 oB (xO.sh F c_2.1.1 c_3.1.1 2) fun c_4 =>
 some ((c_4.1.1,()),())
def ye.sp (F:Nat):TA ye.sg.args->Option ye.sg.R:=fun x=>ye.sh F x.1 x.2.1
@[reducible] def zH.sg:Sig:={args:=[.d (.g za),.d (.b zo),.d (.c (.int .i64))],res:=[.g zo,.c (.sl zo)]}
@[reducible] def zH.ds15:Sig:={args:=[.d (.g zg),.d (.p za)],res:=[.g zg]}
def zH.d15 (F:Nat):Nat->TA zH.ds15.args->Option zH.ds15.R:=mkT zH.ds15 [(vM,ye.sp F)]
@[reducible] def zH.ds21:Sig:={args:=[.d (.g zg),.d (.p za)],res:=[.g zg]}
def zH.d21 (F:Nat):Nat->TA zH.ds21.args->Option zH.ds21.R:=mkT zH.ds21 [(vM,ye.sp F)]
@[reducible] def zH.ds27:Sig:={args:=[.d (.g zg),.d (.p za)],res:=[.g zg]}
def zH.d27 (F:Nat):Nat->TA zH.ds27.args->Option zH.ds27.R:=mkT zH.ds27 [(vM,ye.sp F)]
def zH.sh (F:Nat) (m:za.T) (k:List zo.T) (t2:Int):Option zH.sg.R :=
 bif idx 0 k.length then oB (zH.d15 F (vN+1) ((get zo k 0).1,m,())) fun c_1 =>
 bif idx 0 k.length then oB (zH.d21 F (vN+1) ((get zo k 0).2.1,m,())) fun c_2 =>
 bif idx 0 k.length then oB (zH.d27 F (vN+1) ((get zo k 0).2.2,m,())) fun c_3 =>
 some (((c_1.1.1,c_2.1.1,c_3.1.1),[],()),())
 else none
 else none
 else none
def zH.sp (F:Nat):TA zH.sg.args->Option zH.sg.R:=fun x=>zH.sh F x.1 x.2.1 x.2.2.1
@[reducible] def yb.sg:Sig:={args:=[.d (.g za),.d (.g zo),.d (.c (.int .i64))],res:=[.g zo]}
def yb.sh (F:Nat) (m:za.T) (l:zo.T) (more:Int):Option yb.sg.R :=
 oB (z8.sh F (i64.wrap (m.1.2.1-more))) fun c_1 =>
 oB (z6.sh F c_1.1.1) fun c_2 =>
 oB (yO.sh F l c_2.1.1) fun c_3 =>
 some ((c_3.1.1,()),())
def yb.sp (F:Nat):TA yb.sg.args->Option yb.sg.R:=fun x=>yb.sh F x.1 x.2.1 x.2.2.1
@[reducible] def yV.sg:Sig:={args:=[.d (.g za),.d (.b zo),.d (.c (.int .i64))],res:=[.g zo,.c (.sl zo)]}
def yV.sh (F:Nat) (m:za.T) (k:List zo.T) (q:Int):Option yV.sg.R :=
 bif idx 0 k.length then oB (yb.sh F m (get zo k 0) 0) fun c_1 =>
 oB (zK.sh F m c_1.1.1 q) fun c_2 =>
 bif c_2.1.1 then some ((c_1.1.1,([c_1.1.1]:List zo.T),()),())
 else some ((((0,0),(0,0),0,0),([c_1.1.1]:List zo.T),()),())
 else none
def yV.sp (F:Nat):TA yV.sg.args->Option yV.sg.R:=fun x=>yV.sh F x.1 x.2.1 x.2.2.1
@[reducible] def xg.sg:Sig:={args:=[.d (.g za),.d (.b zo),.d (.c (.int .i64))],res:=[.g zo,.c (.sl zo)]}
def xg.sh (F:Nat) (m:za.T) (k:List zo.T) (t2:Int):Option xg.sg.R :=
 bif idx 0 k.length then bif idx 1 k.length then oB (yO.sh F (get zo k 0) (get zo k 1)) fun c_1 =>
 some ((c_1.1.1,[],()),())
 else none
 else none
def xg.sp (F:Nat):TA xg.sg.args->Option xg.sg.R:=fun x=>xg.sh F x.1 x.2.1 x.2.2.1
@[reducible] def yU.sg:Sig:={args:=[.d (.g za),.d (.b zo),.d (.c (.int .i64))],res:=[.g zo,.c (.sl zo)]}
def yU.sh (F:Nat) (m:za.T) (k:List zo.T) (q:Int):Option yU.sg.R :=
 bif idx 0 k.length then oB (yb.sh F m (get zo k 0) 0) fun c_1 =>
 bif idx 0 k.length then oB (yb.sh F m (get zo k 0) 1) fun c_2 =>
 oB (zK.sh F m c_1.1.1 q) fun c_3 =>
 oB (zK.sh F m c_2.1.1 q) fun c_4 =>
 bif c_4.1.1 then bif !c_4.1.1 then bif idx m.1.2.2.1 (([false,!c_4.1.1,!c_3.1.1,c_3.1.1,c_4.1.1,!c_3.1.1,true]:List Bool).length) then bif get .bool ([false,!c_4.1.1,!c_3.1.1,c_3.1.1,c_4.1.1,!c_3.1.1,true]:List Bool) m.1.2.2.1.toNat then bif idx 1 k.length then some (((get zo k 1),([c_1.1.1,c_2.1.1]:List zo.T),()),())
 else none
 else bif idx 2 k.length then some (((get zo k 2),([c_1.1.1,c_2.1.1]:List zo.T),()),())
 else none
 else none
 else bif idx m.1.2.2.1 (([false,!c_4.1.1,!c_3.1.1,c_3.1.1,c_4.1.1,!c_3.1.1,c_3.1.1]:List Bool).length) then bif get .bool ([false,!c_4.1.1,!c_3.1.1,c_3.1.1,c_4.1.1,!c_3.1.1,c_3.1.1]:List Bool) m.1.2.2.1.toNat then bif idx 1 k.length then some (((get zo k 1),([c_1.1.1,c_2.1.1]:List zo.T),()),())
 else none
 else bif idx 2 k.length then some (((get zo k 2),([c_1.1.1,c_2.1.1]:List zo.T),()),())
 else none
 else none
 else bif !c_4.1.1 then bif idx m.1.2.2.1 (([false,!c_4.1.1,!c_3.1.1,c_3.1.1,c_4.1.1,false,true]:List Bool).length) then bif get .bool ([false,!c_4.1.1,!c_3.1.1,c_3.1.1,c_4.1.1,false,true]:List Bool) m.1.2.2.1.toNat then bif idx 1 k.length then some (((get zo k 1),([c_1.1.1,c_2.1.1]:List zo.T),()),())
 else none
 else bif idx 2 k.length then some (((get zo k 2),([c_1.1.1,c_2.1.1]:List zo.T),()),())
 else none
 else none
 else bif idx m.1.2.2.1 (([false,!c_4.1.1,!c_3.1.1,c_3.1.1,c_4.1.1,false,c_3.1.1]:List Bool).length) then bif get .bool ([false,!c_4.1.1,!c_3.1.1,c_3.1.1,c_4.1.1,false,c_3.1.1]:List Bool) m.1.2.2.1.toNat then bif idx 1 k.length then some (((get zo k 1),([c_1.1.1,c_2.1.1]:List zo.T),()),())
 else none
 else bif idx 2 k.length then some (((get zo k 2),([c_1.1.1,c_2.1.1]:List zo.T),()),())
 else none
 else none
 else none
 else none
def yU.sp (F:Nat):TA yU.sg.args->Option yU.sg.R:=fun x=>yU.sh F x.1 x.2.1 x.2.2.1
@[reducible] def yT.sg:Sig:={args:=[.d (.g za),.d (.b zo),.d (.c (.int .i64))],res:=[.g zo,.c (.sl zo)]}
def yT.sh (F:Nat) (m:za.T) (k:List zo.T) (q:Int):Option yT.sg.R :=
 bif idx 0 k.length then oB (yb.sh F m (get zo k 0) 0) fun c_1 =>
 oB (zK.sh F m c_1.1.1 q) fun c_2 =>
 bif c_2.1.1 then oB (z8.sh F m.1.2.1) fun c_3 =>
 oB (z6.sh F c_3.1.1) fun c_4 =>
 some ((c_4.1.1,([c_1.1.1]:List zo.T),()),())
 else bif idx 0 k.length then some (((get zo k 0),([c_1.1.1]:List zo.T),()),())
 else none
 else none
def yT.sp (F:Nat):TA yT.sg.args->Option yT.sg.R:=fun x=>yT.sh F x.1 x.2.1 x.2.2.1
@[reducible] def yz.sg:Sig:={args:=[.d (.g za),.d (.b zo),.d (.c (.int .i64))],res:=[.g zo,.c (.sl zo)]}
def yz.sh (F:Nat) (m:za.T) (k:List zo.T) (q:Int):Option yz.sg.R :=
 bif idx 0 k.length then oB (zh.sh F m (get zo k 0) q) fun c_1 =>
 bif (c_1.1.1==0) then some ((((0,0),(0,0),0,0),c_1.1.2.1,()),())
 else bif idx 0 k.length then bif idx (i64.wrap (c_1.1.1-1)) m.1.2.2.2.2.1.length then oB (z8.sh F (get xH m.1.2.2.2.2.1 ((i64.wrap (c_1.1.1-1)).toNat)).2) fun c_2 =>
 oB (xL.sh F (get zo k 0) c_2.1.1) fun c_3 =>
 oB (xL.sh F c_3.1.1 m.2.1) fun c_4 =>
 some ((c_4.1.1,c_1.1.2.1,()),())
 else none
 else none
 else none
def yz.sp (F:Nat):TA yz.sg.args->Option yz.sg.R:=fun x=>yz.sh F x.1 x.2.1 x.2.2.1
@[reducible] def wq.sg:Sig:={args:=[.d (.g zg)],res:=[.g zg,.c (.int .i64)]}
def wq.sh (F:Nat) (w:zg.T):Option wq.sg.R :=
 bif decide (w.1<0) then oB (x8.sh F w) fun c_1 =>
 some ((c_1.1.1,c_1.1.2.1,()),())
 else some ((w,0,()),())
def wq.sp (F:Nat):TA wq.sg.args->Option wq.sg.R:=fun x=>wq.sh F x.1
@[reducible] def xJ.sg:Sig:={args:=[.d (.g zo),.d (.c (.int .i64))],res:=[.g zg,.c (.int .i64)]}
def xJ.sh (F:Nat) (l:zo.T) (size:Int):Option xJ.sg.R :=
 oB (wj.sh F size 0) fun c_1 =>
 bif !c_1.1.1 then some (((0,0),1,()),())
 else oB (wq.sh F l.1) fun c_2 =>
 oB (wq.sh F l.2.1) fun c_3 =>
 oB (wq.sh F l.2.2) fun c_4 =>
 bif (c_2.1.2.1 != 0) then some (((0,0),10,()),())
 else bif (c_3.1.2.1 != 0) then some (((0,0),10,()),())
 else bif (c_4.1.2.1 != 0) then some (((0,0),10,()),())
 else oB (yP.sh F (c_2.1.1,c_3.1.1,c_4.1.1) size 1099511627776) fun c_5 =>
 some ((c_5.1.1,c_5.1.2.1,()),())
def xJ.sp (F:Nat):TA xJ.sg.args->Option xJ.sg.R:=fun x=>xJ.sh F x.1 x.2.1
@[reducible] def xk.sg:Sig:={args:=[.d (.g (.pair zo (.pair (.int .i64) .bool))),.d (.c (.int .i64))],res:=[.g zg]}
def xk.sh (F:Nat) (w:zo.T×Int×Bool) (q:Int):Option xk.sg.R :=
 oB (yP.sh F w.1 w.2.1 q) fun c_1 =>
 some ((c_1.1.1,()),())
def xk.sp (F:Nat):TA xk.sg.args->Option xk.sg.R:=fun x=>xk.sh F x.1 x.2.1
@[reducible] def wA.sg:Sig:={args:=[.d (.g zg)],res:=[.c (.int .i64),.c .bool]}
def wA.sh (F:Nat) (w:zg.T):Option wA.sg.R :=
 bif (w.1 != ((i64.wrap w.2).fdiv (2^(min (63:Int).toNat IntKind.i64.bits)))) then some ((0,false,()),())
 else some ((i64.wrap w.2,true,()),())
def wA.sp (F:Nat):TA wA.sg.args->Option wA.sg.R:=fun x=>wA.sh F x.1
@[reducible] def zJ.sg:Sig:={args:=[.d (.g (.pair zo (.pair (.int .i64) .bool))),.d (.g zg),.d (.g zg),.d (.c (.int .i64))],res:=[.c (.int .i64),.c .bool]}
def zJ.j10 {R:Type} (F:Nat) (k0:Int->Bool->Option R) (most:Int) (n:zg.T):Option R :=
 oB (wA.sh F n) fun c_7 =>
 bif c_7.1.2.1 then k0 c_7.1.1 (decide (c_7.1.1<=most))
 else k0 c_7.1.1 false
def zJ.j5 {R:Type} (F:Nat) (k0:Int->Bool->Option R) (most:Int) (w:zo.T×Int×Bool) (v:zg.T) (d:zg.T):Option R :=
 oB (x8.sh F v) fun c_4 =>
 oB (xO.sh F c_4.1.1 d 0) fun c_5 =>
 bif w.2.2 then oB (xO.sh F c_4.1.1 d 1) fun c_6 =>
 zJ.j10 F (fun r88 r98=>k0 r88 r98) most c_6.1.1
 else oB (z8.sh F 1) fun c_9 =>
 oB (y7.sh F c_5.1.1 c_9.1.1) fun c_10 =>
 zJ.j10 F (fun r811 r911=>k0 r811 r911) most c_10.1.1
def zJ.sh (F:Nat) (w:zo.T×Int×Bool) (v:zg.T) (d:zg.T) (most:Int):Option zJ.sg.R :=
 oB (xp.sh F v) fun c_1 =>
 bif (!(decide (c_1.1.1>0)==w.2.2)) then some ((0,true,()),())
 else bif w.2.2 then oB (xp.sh F d) fun c_2 =>
 bif decide (c_2.1.1>=0) then some ((0,false,()),())
 else bif !w.2.2 then oB (xp.sh F d) fun c_3 =>
 bif decide (c_3.1.1<=0) then some ((0,false,()),())
 else zJ.j5 F (fun r812 r912=>some ((r812,r912,()),())) most w v d
 else zJ.j5 F (fun r813 r913=>some ((r813,r913,()),())) most w v d
 else bif !w.2.2 then oB (xp.sh F d) fun c_14 =>
 bif decide (c_14.1.1<=0) then some ((0,false,()),())
 else zJ.j5 F (fun r815 r915=>some ((r815,r915,()),())) most w v d
 else zJ.j5 F (fun r816 r916=>some ((r816,r916,()),())) most w v d
def zJ.sp (F:Nat):TA zJ.sg.args->Option zJ.sg.R:=fun x=>zJ.sh F x.1 x.2.1 x.2.2.1 x.2.2.2.1
@[reducible] def yN.sg:Sig:={args:=[.d (.g (.pair zo (.pair (.int .i64) .bool))),.d (.c (.int .i64)),.d (.c (.int .i64))],res:=[.c (.int .i64),.c .bool]}
def yN.sh (F:Nat) (w:zo.T×Int×Bool) (lo:Int) (hi:Int):Option yN.sg.R :=
 bif decide (lo>hi) then some ((0,false,()),())
 else oB (xk.sh F w lo) fun c_1 =>
 oB (zJ.sh F w c_1.1.1 w.1.2.1 (i64.wrap (hi-lo))) fun c_2 =>
 some ((i64.wrap (lo+c_2.1.1),c_2.1.2.1,()),())
def yN.sp (F:Nat):TA yN.sg.args->Option yN.sg.R:=fun x=>yN.sh F x.1 x.2.1 x.2.2.1
@[reducible] def yM.sg:Sig:={args:=[.d (.g (.pair zo (.pair (.int .i64) .bool))),.d (.c (.int .i64))],res:=[.c (.int .i64),.c (.int .i64)]}
def yM.sh (F:Nat) (w:zo.T×Int×Bool) (k:Int):Option yM.sg.R :=
 some ((i64.wrap ((i64.wrap ((i64.wrap (k-1))*w.2.1))+1),(if 1099511627776<i64.wrap (k*w.2.1) then 1099511627776 else i64.wrap (k*w.2.1)),()),())
def yM.sp (F:Nat):TA yM.sg.args->Option yM.sg.R:=fun x=>yM.sh F x.1 x.2.1
@[reducible] def xm.sg:Sig:={args:=[.d (.g (.pair zo (.pair (.int .i64) .bool))),.d (.c (.int .i64)),.d (.c (.int .i64))],res:=[.c (.int .i64),.c .bool]}
def xm.sh (F:Nat) (w:zo.T×Int×Bool) (k:Int) (most:Int):Option xm.sg.R :=
 bif decide (k>most) then some ((0,false,()),())
 else oB (z8.sh F w.2.1) fun c_1 =>
 oB (zY.sh F w.1.2.1 c_1.1.1) fun c_2 =>
 oB (y7.sh F c_2.1.1 w.1.2.2) fun c_3 =>
 oB (yM.sh F w k) fun c_4 =>
 oB (xk.sh F w c_4.1.1) fun c_5 =>
 oB (zJ.sh F w c_5.1.1 c_3.1.1 (i64.wrap (most-k))) fun c_6 =>
 oB (xk.sh F w c_4.1.2.1) fun c_7 =>
 oB (zJ.sh F w c_7.1.1 c_3.1.1 (i64.wrap (most-k))) fun c_8 =>
 bif c_6.1.2.1 then bif c_8.1.2.1 then some ((i64.wrap (k+(if c_8.1.1<c_6.1.1 then c_8.1.1 else c_6.1.1)),true,()),())
 else bif c_6.1.2.1 then some ((i64.wrap (k+c_6.1.1),true,()),())
 else some ((i64.wrap (k+c_8.1.1),c_8.1.2.1,()),())
 else bif c_6.1.2.1 then some ((i64.wrap (k+c_6.1.1),true,()),())
 else some ((i64.wrap (k+c_8.1.1),c_8.1.2.1,()),())
def xm.sp (F:Nat):TA xm.sg.args->Option xm.sg.R:=fun x=>xm.sh F x.1 x.2.1 x.2.2.1
@[reducible] def xB.sg:Sig:={args:=[.d (.g zo),.d (.c (.int .i64)),.d (.c (.int .i64))],res:=[.c (.int .i64),.c (.int .i64)]}
def xB.j15 {R:Type} (F:Nat) (k0:Int->Int->Option R) (k1:Int->Int->Option R) (k2:Int->Int->Option R) (last:Int) (j:Int) (w:zo.T×Int×Bool):Option R :=
 bif decide (j>last) then k0 1099511627777 0
 else oB (yM.sh F w j) fun c_10 =>
 oB (yN.sh F w c_10.1.1 c_10.1.2.1) fun c_11 =>
 bif c_11.1.2.1 then k1 c_11.1.1 0
 else k2 1099511627777 0
def xB.sh (F:Nat) (l:zo.T) (size:Int) (q:Int):Option xB.sg.R :=
 oB (wj.sh F size q) fun c_1 =>
 bif !c_1.1.1 then some ((0,1,()),())
 else oB (xJ.sh F l size) fun c_2 =>
 bif (c_2.1.2.1 != 0) then some ((0,10,()),())
 else oB (xF.sh F c_2.1.1 (4611686018427387904,0)) fun c_3 =>
 bif decide (c_3.1.1>0) then some ((0,10,()),())
 else oB (xk.sh F (l,size,false) q) fun c_4 =>
 oB (xp.sh F c_4.1.1) fun c_5 =>
 oB (xD.sh F q size) fun c_6 =>
 oB (xD.sh F 1099511627776 size) fun c_7 =>
 oB (yN.sh F (l,size,decide (c_5.1.1>0)) (i64.wrap (q+1)) (if 1099511627776<i64.wrap (c_6.1.1*size) then 1099511627776 else i64.wrap (c_6.1.1*size))) fun c_8 =>
 bif c_8.1.2.1 then some ((c_8.1.1,0,()),())
 else oB (xm.sh F (l,size,decide (c_5.1.1>0)) (i64.wrap (c_6.1.1+1)) (i64.wrap (c_7.1.1-1))) fun c_9 =>
 bif !c_9.1.2.1 then xB.j15 F (fun r612 r712=>some ((r612,r712,()),())) (fun r613 r713=>some ((r613,r713,()),())) (fun r614 r714=>some ((r614,r714,()),())) c_7.1.1 (if i64.wrap (c_6.1.1+1)>c_7.1.1 then i64.wrap (c_6.1.1+1) else c_7.1.1) (l,size,decide (c_5.1.1>0))
 else xB.j15 F (fun r615 r715=>some ((r615,r715,()),())) (fun r616 r716=>some ((r616,r716,()),())) (fun r617 r717=>some ((r617,r717,()),())) c_7.1.1 c_9.1.1 (l,size,decide (c_5.1.1>0))
def xB.sp (F:Nat):TA xB.sg.args->Option xB.sg.R:=fun x=>xB.sh F x.1 x.2.1 x.2.2.1
@[reducible] def zd.sg:Sig:={args:=[.d (.g za),.d (.c (.bnd za)),.d (.b (.sl zj))],res:=[.c (.sl zj),.c .bool]}
@[reducible] def zd.ds99:Sig:={args:=[.d (.g za),.d (.b zo),.d (.c (.int .i64))],res:=[.g zo,.c (.sl zo)]}
def zd.d99 (F:Nat):Nat->TA zd.ds99.args->Option zd.ds99.R:=mkT zd.ds99 [(vi,xj.sp F),(wz,zt.sp F),(wQ,yI.sp F),(wY,yW.sp F),(vg,xi.sp F),(vf,xh.sp F),(ve,zH.sp F),(wX,yV.sp F),(vd,xg.sp F),(wW,yU.sp F),(wV,yT.sp F),(wH,yz.sp F)]
abbrev zd.l11.K0 (R:Type):Type:=(Nat×za.T)->(List (List zj.T))->Int->Int->Int->Int->(List zj.T)->(List (List zj.T))->Int->Int->Bool->za.T->(List zj.T)->(List Int)->(List zo.T)->Option R
abbrev zd.l11.T (R:Type):Type:=(Nat×za.T)->(List (List zj.T))->Int->Int->Int->Int->(List zj.T)->(List (List zj.T))->Int->Int->za.T->(List zj.T)->(List Int)->(List zo.T)->Option R
def zd.l11.body {R:Type} (F:Nat) (k0:zd.l11.K0 R) (rec:zd.l11.T R) (of:Nat×za.T) (kids:List (List zj.T)) (runs:Int) (q:Int) (next:Int) (i:Int) (k:List zj.T) (t30:List (List zj.T)) (t31:Int) (t32:Int) (m:za.T) (out:List zj.T) (at_:List Int) (lines:List zo.T):Option R :=
 bif idx i at_.length then bif decide ((i64.wrap ((get (.int .i64) at_ i.toNat)+1))<(k.length:Int)) then bif idx i at_.length then bif idx (i64.wrap ((get (.int .i64) at_ i.toNat)+1)) k.length then bif decide ((get zj k ((i64.wrap ((get (.int .i64) at_ i.toNat)+1)).toNat)).1<=q) then bif idx i at_.length then bif idx i at_.length then rec of kids runs q next i k t30 t31 t32 m out (at_.set i.toNat (i64.wrap ((get (.int .i64) at_ i.toNat)+1))) lines
 else none
 else none
 else k0 of kids runs q next i k t30 t31 t32 (decide ((get zj k ((i64.wrap ((get (.int .i64) at_ i.toNat)+1)).toNat)).1<=q)) m out at_ lines
 else none
 else none
 else k0 of kids runs q next i k t30 t31 t32 false m out at_ lines
 else none
def zd.l11 {R:Type} (F:Nat) (k0:zd.l11.K0 R):Nat->zd.l11.T R
 | 0,_,_,_,_,_,_,_,_,_,_,_,_,_,_=>none
 | fu+1,of,kids,runs,q,next,i,k,t30,t31,t32,m,out,at_,lines=>zd.l11.body F k0 (zd.l11 F k0 fu) of kids runs q next i k t30 t31 t32 m out at_ lines
abbrev zd.l9.K0 (R:Type):Type:=(Nat×za.T)->(List (List zj.T))->Int->Int->Int->(List (List zj.T))->Int->Int->Bool->za.T->(List zj.T)->(List Int)->(List zo.T)->Option R
abbrev zd.l9.T (R:Type):Type:=(Nat×za.T)->(List (List zj.T))->Int->Int->Int->(List (List zj.T))->Int->Int->za.T->(List zj.T)->(List Int)->(List zo.T)->Option R
def zd.l9.body {R:Type} (F:Nat) (k0:zd.l9.K0 R) (rec:zd.l9.T R) (of:Nat×za.T) (kids:List (List zj.T)) (runs:Int) (q:Int) (next:Int) (t30:List (List zj.T)) (t31:Int) (t32:Int) (m:za.T) (out:List zj.T) (at_:List Int) (lines:List zo.T):Option R :=
 bif decide (t32<t31) then bif idx t32 t30.length then zd.l11 F (fun of1 kids1 runs1 q1 next1 i1 k1 t301 t311 t321 t571 m1 out1 at_1 lines1=>bif idx i1 at_1.length then bif decide ((i64.wrap ((get (.int .i64) at_1 i1.toNat)+1))<(k1.length:Int)) then bif idx i1 at_1.length then bif idx (i64.wrap ((get (.int .i64) at_1 i1.toNat)+1)) k1.length then bif idx i1 at_1.length then bif idx (get (.int .i64) at_1 i1.toNat) k1.length then bif idx i1 lines1.length then rec of1 kids1 runs1 q1 (if (get zj k1 ((i64.wrap ((get (.int .i64) at_1 i1.toNat)+1)).toNat)).1<next1 then (get zj k1 ((i64.wrap ((get (.int .i64) at_1 i1.toNat)+1)).toNat)).1 else next1) t301 t311 (i64.wrap (t321+1)) m1 out1 at_1 (lines1.set i1.toNat (get zj k1 ((get (.int .i64) at_1 i1.toNat).toNat)).2)
 else none
 else none
 else none
 else none
 else none
 else bif idx i1 at_1.length then bif idx (get (.int .i64) at_1 i1.toNat) k1.length then bif idx i1 lines1.length then rec of1 kids1 runs1 q1 next1 t301 t311 (i64.wrap (t321+1)) m1 out1 at_1 (lines1.set i1.toNat (get zj k1 ((get (.int .i64) at_1 i1.toNat).toNat)).2)
 else none
 else none
 else none
 else none) F of kids runs q next t32 (get (.sl zj) t30 t32.toNat) t30 t31 t32 m out at_ lines
 else none
 else k0 of kids runs q next t30 t31 t32 (decide (t32<t31)) m out at_ lines
def zd.l9 {R:Type} (F:Nat) (k0:zd.l9.K0 R):Nat->zd.l9.T R
 | 0,_,_,_,_,_,_,_,_,_,_,_,_=>none
 | fu+1,of,kids,runs,q,next,t30,t31,t32,m,out,at_,lines=>zd.l9.body F k0 (zd.l9 F k0 fu) of kids runs q next t30 t31 t32 m out at_ lines
abbrev zd.l19.K0 (R:Type):Type:=(Nat×za.T)->(List (List zj.T))->Int->Int->Int->(List zo.T)->Int->Int->Bool->za.T->zo.T->(List zj.T)->(List Int)->(List zo.T)->Option R
abbrev zd.l19.T (R:Type):Type:=(Nat×za.T)->(List (List zj.T))->Int->Int->Int->(List zo.T)->Int->Int->za.T->zo.T->(List zj.T)->(List Int)->(List zo.T)->Option R
def zd.l19.body {R:Type} (F:Nat) (k0:zd.l19.K0 R) (rec:zd.l19.T R) (of:Nat×za.T) (kids:List (List zj.T)) (runs:Int) (q:Int) (next:Int) (t102:List zo.T) (t103:Int) (t104:Int) (m:za.T) (l:zo.T) (out:List zj.T) (at_:List Int) (lines:List zo.T):Option R :=
 bif decide (t104<t103) then bif idx t104 t102.length then oB (xB.sh F (get zo t102 t104.toNat) m.2.2 q) fun c_4 =>
 rec of kids runs q (if c_4.1.1<next then c_4.1.1 else next) t102 t103 (i64.wrap (t104+1)) m l out at_ lines
 else none
 else k0 of kids runs q next t102 t103 t104 (decide (t104<t103)) m l out at_ lines
def zd.l19 {R:Type} (F:Nat) (k0:zd.l19.K0 R):Nat->zd.l19.T R
 | 0,_,_,_,_,_,_,_,_,_,_,_,_,_=>none
 | fu+1,of,kids,runs,q,next,t102,t103,t104,m,l,out,at_,lines=>zd.l19.body F k0 (zd.l19 F k0 fu) of kids runs q next t102 t103 t104 m l out at_ lines
abbrev zd.l6.K0 (R:Type):Type:=(List zj.T)->Bool->Option R
abbrev zd.l6.K1 (R:Type):Type:=(Nat×za.T)->(List (List zj.T))->Int->Int->Bool->za.T->(List zj.T)->(List Int)->(List zo.T)->Option R
abbrev zd.l6.T (R:Type):Type:=(Nat×za.T)->(List (List zj.T))->Int->Int->za.T->(List zj.T)->(List Int)->(List zo.T)->Option R
def zd.l6.body {R:Type} (F:Nat) (k0:zd.l6.K0 R) (k1:zd.l6.K1 R) (rec:zd.l6.T R) (of:Nat×za.T) (kids:List (List zj.T)) (runs:Int) (q:Int) (m:za.T) (out:List zj.T) (at_:List Int) (lines:List zo.T):Option R :=
 bif decide (q<=1099511627776) then zd.l9 F (fun of2 kids2 runs2 q2 next2 t302 t312 t322 t332 m2 out2 at_2 lines2=>oB (zd.d99 F of2.1 (of2.2,lines2,q2,())) fun c_3 =>
 zd.l19 F (fun of5 kids5 runs5 q5 next5 t1025 t1035 t1045 t1055 m5 l5 out5 at_5 lines5=>bif ((out5.length:Int)==0) then bif Nat.ble (out5.length+([(q5,l5)]:List zj.T).length) vb then bif decide ((i64.wrap (runs5+1))>4096) then k0 ([]) false
 else bif decide (((out5++([(q5,l5)]:List zj.T)).length:Int)>256) then k0 ([]) false
 else rec of5 kids5 (i64.wrap (runs5+1)) next5 m5 (out5++([(q5,l5)]:List zj.T)) at_5 lines5
 else none
 else bif idx (i64.wrap ((out5.length:Int)-1)) out5.length then bif !(((get zj out5 ((i64.wrap ((out5.length:Int)-1)).toNat)).2.1.1==l5.1.1)&&(((get zj out5 ((i64.wrap ((out5.length:Int)-1)).toNat)).2.1.2==l5.1.2)&&(((get zj out5 ((i64.wrap ((out5.length:Int)-1)).toNat)).2.2.1.1==l5.2.1.1)&&(((get zj out5 ((i64.wrap ((out5.length:Int)-1)).toNat)).2.2.1.2==l5.2.1.2)&&(((get zj out5 ((i64.wrap ((out5.length:Int)-1)).toNat)).2.2.2.1==l5.2.2.1)&&(((get zj out5 ((i64.wrap ((out5.length:Int)-1)).toNat)).2.2.2.2==l5.2.2.2)&&true)))))) then bif Nat.ble (out5.length+([(q5,l5)]:List zj.T).length) vb then bif decide ((i64.wrap (runs5+1))>4096) then k0 ([]) false
 else bif decide (((out5++([(q5,l5)]:List zj.T)).length:Int)>256) then k0 ([]) false
 else rec of5 kids5 (i64.wrap (runs5+1)) next5 m5 (out5++([(q5,l5)]:List zj.T)) at_5 lines5
 else none
 else bif decide ((i64.wrap (runs5+1))>4096) then k0 ([]) false
 else bif decide ((out5.length:Int)>256) then k0 ([]) false
 else rec of5 kids5 (i64.wrap (runs5+1)) next5 m5 out5 at_5 lines5
 else none) F of2 kids2 runs2 q2 next2 c_3.1.2.1 (c_3.1.2.1.length:Int) 0 m2 c_3.1.1 out2 at_2 lines2) F of kids runs q 1099511627777 kids (kids.length:Int) 0 m out at_ lines
 else k1 of kids runs q (decide (q<=1099511627776)) m out at_ lines
def zd.l6 {R:Type} (F:Nat) (k0:zd.l6.K0 R) (k1:zd.l6.K1 R):Nat->zd.l6.T R
 | 0,_,_,_,_,_,_,_,_=>none
 | fu+1,of,kids,runs,q,m,out,at_,lines=>zd.l6.body F k0 k1 (zd.l6 F k0 k1 fu) of kids runs q m out at_ lines
def zd.j30 {R:Type} (F:Nat) (k0:(List zj.T)->Bool->Option R) (out:List zj.T):Option R :=
 k0 out true
def zd.sh (F:Nat) (m:za.T) (of_:Nat×za.T) (kids:List (List zj.T)):Option zd.sg.R :=
 bif (decide (0<=(kids.length:Int))&&decide ((kids.length:Int)<=(kids.length:Int))&&decide ((kids.length:Int)<=(vb:Int))) then bif (decide (0<=(kids.length:Int))&&decide ((kids.length:Int)<=(kids.length:Int))&&decide ((kids.length:Int)<=(vb:Int))) then zd.l6 F (fun r66 r76=>some ((r66,r76,()),())) (fun of7 kids7 runs7 q7 t297 m7 out7 at_7 lines7=>zd.j30 F (fun r68 r78=>some ((r68,r78,()),())) out7) F of_ kids 0 0 m ([]) (qH (.int .i64) ((kids.length:Int).toNat)) (qH zo ((kids.length:Int).toNat))
 else none
 else none
def zd.sp (F:Nat):TA zd.sg.args->Option zd.sg.R:=fun x=>zd.sh F x.1 x.2.1 x.2.2.1
@[reducible] def zu.sg:Sig:={args:=[.d (.g za),.d (.c (.bnd za)),.d (.b (.sl zj))],res:=[.c (.sl zj),.c .bool]}
abbrev zu.l5.K0 (R:Type):Type:=(List zj.T)->Bool->Option R
abbrev zu.l5.K1 (R:Type):Type:=(Nat×za.T)->(List zj.T)->(List (List zj.T))->Int->Int->Bool->za.T->Option R
abbrev zu.l5.T (R:Type):Type:=(Nat×za.T)->(List zj.T)->(List (List zj.T))->Int->Int->za.T->Option R
def zu.l5.body {R:Type} (F:Nat) (k0:zu.l5.K0 R) (k1:zu.l5.K1 R) (rec:zu.l5.T R) (of:Nat×za.T) (made:List zj.T) (t32:List (List zj.T)) (t33:Int) (t34:Int) (m:za.T):Option R :=
 bif decide (t34<t33) then bif idx t34 t32.length then oB (zd.sh F m of ([made,get (.sl zj) t32 t34.toNat]:List (List zj.T))) fun c_2 =>
 bif !c_2.1.2.1 then k0 ([]) false
 else rec of c_2.1.1 t32 t33 (i64.wrap (t34+1)) m
 else none
 else k1 of made t32 t33 t34 (decide (t34<t33)) m
def zu.l5 {R:Type} (F:Nat) (k0:zu.l5.K0 R) (k1:zu.l5.K1 R):Nat->zu.l5.T R
 | 0,_,_,_,_,_,_=>none
 | fu+1,of,made,t32,t33,t34,m=>zu.l5.body F k0 k1 (zu.l5 F k0 k1 fu) of made t32 t33 t34 m
def zu.j3 {R:Type} (F:Nat) (k0:(List zj.T)->Bool->Option R) (k1:(List zj.T)->Bool->Option R) (of:Nat×za.T) (kids:List (List zj.T)) (m:za.T):Option R :=
 bif idx 0 kids.length then bif (yd kids.length (some 1) none).1 then zu.l5 F (fun r63 r73=>k0 r63 r73) (fun of4 made4 t324 t334 t344 t354 m4=>k1 made4 true) F of (get (.sl zj) kids 0) ((kids.take (yd kids.length (some 1) none).2.2).drop (yd kids.length (some 1) none).2.1) (((kids.take (yd kids.length (some 1) none).2.2).drop (yd kids.length (some 1) none).2.1).length:Int) 0 m
 else none
 else none
def zu.sh (F:Nat) (m:za.T) (of_:Nat×za.T) (kids:List (List zj.T)):Option zu.sg.R :=
 bif (m.1.1 != 9) then bif (m.1.1 != 10) then oB (zd.sh F m of_ kids) fun c_1 =>
 some ((c_1.1.1,c_1.1.2.1,()),())
 else zu.j3 F (fun r65 r75=>some ((r65,r75,()),())) (fun r66 r76=>some ((r66,r76,()),())) of_ kids m
 else zu.j3 F (fun r67 r77=>some ((r67,r77,()),())) (fun r68 r78=>some ((r68,r78,()),())) of_ kids m
def zu.sp (F:Nat):TA zu.sg.args->Option zu.sg.R:=fun x=>zu.sh F x.1 x.2.1 x.2.2.1
@[reducible] def zI.sg:Sig:={args:=[.d (.g xZ)],res:=[.g zN,.c (.int .i64),.c (.int .i64)]}
abbrev zI.l9.K0 (R:Type):Type:=Int->Int->zN.T->Option R
abbrev zI.l9.K1 (R:Type):Type:=Int->(List zT.T)->Int->Int->Bool->xZ.T->zN.T->zg.T->(List (List zj.T))->Option R
abbrev zI.l9.T (R:Type):Type:=Int->(List zT.T)->Int->Int->xZ.T->zN.T->zg.T->(List (List zj.T))->Option R
def zI.l9.body {R:Type} (F:Nat) (k0:zI.l9.K0 R) (k1:zI.l9.K1 R) (rec:zI.l9.T R) (scale:Int) (t41:List zT.T) (t42:Int) (t43:Int) (p:xZ.T) (r2:zN.T) (unit:zg.T) (pile:List (List zj.T)):Option R :=
 bif decide (t43<t42) then bif idx t43 t41.length then bif idx 0 p.2.1.length then bif decide ((get zT t41 t43.toNat).1<=4) then oB (yK.sh F ((get zT t41 t43.toNat),unit,(get wK p.2.1 0).2)) fun c_3 =>
 bif Nat.ble (pile.length+([c_3.1.1]:List (List zj.T)).length) vb then rec scale t41 t42 (i64.wrap (t43+1)) p r2 unit (pile++([c_3.1.1]:List (List zj.T)))
 else none
 else oB (yn.sh F ((get zT t41 t43.toNat),unit,(get wK p.2.1 0).2)) fun c_4 =>
 bif (yd pile.length (some (i64.wrap ((pile.length:Int)-c_4.1.2.1))) none).1 then oB (zu.sh F ((get zT t41 t43.toNat),unit,(get wK p.2.1 0).2) c_4.1.1 ((List.take (yd pile.length (some (i64.wrap ((pile.length:Int)-c_4.1.2.1))) none).2.2 pile).drop (yd pile.length (some (i64.wrap ((pile.length:Int)-c_4.1.2.1))) none).2.1)) fun c_5 =>
 bif !c_5.1.2.1 then k0 t43 120 (0,0,[])
 else bif (yd pile.length none (some (i64.wrap ((pile.length:Int)-c_4.1.2.1)))).1 then bif Nat.ble ((yd pile.length none (some (i64.wrap ((pile.length:Int)-c_4.1.2.1)))).2.2+([c_5.1.1]:List (List zj.T)).length) vb then rec scale t41 t42 (i64.wrap (t43+1)) p r2 unit (pile.take (yd pile.length none (some (i64.wrap ((pile.length:Int)-c_4.1.2.1)))).2.2++([c_5.1.1]:List (List zj.T)))
 else none
 else none
 else none
 else none
 else none
 else k1 scale t41 t42 t43 (decide (t43<t42)) p r2 unit pile
def zI.l9 {R:Type} (F:Nat) (k0:zI.l9.K0 R) (k1:zI.l9.K1 R):Nat->zI.l9.T R
 | 0,_,_,_,_,_,_,_,_=>none
 | fu+1,scale,t41,t42,t43,p,r2,unit,pile=>zI.l9.body F k0 k1 (zI.l9 F k0 k1 fu) scale t41 t42 t43 p r2 unit pile
def zI.j21 {R:Type} (F:Nat) (k0:Int->Int->zN.T->Option R) (scale:Int) (pile:List (List zj.T)) (p:xZ.T) (r2:zN.T):Option R :=
 bif idx 0 p.2.1.length then bif idx 0 pile.length then k0 0 0 ((get wK p.2.1 0).2,scale,get (.sl zj) pile 0)
 else none
 else none
def zI.sh (F:Nat) (p:xZ.T):Option zI.sg.R :=
 oB (xQ.sh F p) fun c_1 =>
 bif (c_1.1.2.2.1 != 0) then some (((0,0,[]),c_1.1.2.1,c_1.1.2.2.1,()),())
 else bif ((p.2.1.length:Int) != 1) then some (((0,0,[]),(-1),100,()),())
 else oB (zV.sh F p) fun c_2 =>
 zI.l9 F (fun r36 r46 r26=>some ((r26,r36,r46,()),())) (fun scale7 t417 t427 t437 t447 p7 r27 unit7 pile7=>zI.j21 F (fun r38 r48 r28=>some ((r28,r38,r48,()),())) scale7 pile7 p7 r27) F c_2.1.1 p.2.2.2 (p.2.2.2.length:Int) 0 p (0,0,[]) c_1.1.1 ([])
def zI.sp (F:Nat):TA zI.sg.args->Option zI.sg.R:=fun x=>zI.sh F x.1
@[reducible] def zO.sg:Sig:={args:=[.d (.g zN)],res:=[.c .bool]}
abbrev zO.l5.K1 (R:Type):Type:=Int->Int->Bool->zN.T->Option R
abbrev zO.l5.T (R:Type):Type:=Int->Int->zN.T->Option R
def zO.l5.body {R:Type} (F:Nat) (k0:Bool->Option R) (k1:zO.l5.K1 R) (rec:zO.l5.T R) (t45:Int) (t46:Int) (t:zN.T):Option R :=
 bif decide (t46<t45) then bif idx t46 t.2.2.length then bif idx (i64.wrap (t46+1)) t.2.2.length then bif decide ((get zj t.2.2 t46.toNat).1>=(get zj t.2.2 ((i64.wrap (t46+1)).toNat)).1) then k0 false
 else bif decide ((get zj t.2.2 ((i64.wrap (t46+1)).toNat)).1>1099511627776) then k0 false
 else bif (((get zj t.2.2 t46.toNat).2.1.1==(get zj t.2.2 ((i64.wrap (t46+1)).toNat)).2.1.1)&&(((get zj t.2.2 t46.toNat).2.1.2==(get zj t.2.2 ((i64.wrap (t46+1)).toNat)).2.1.2)&&(((get zj t.2.2 t46.toNat).2.2.1.1==(get zj t.2.2 ((i64.wrap (t46+1)).toNat)).2.2.1.1)&&(((get zj t.2.2 t46.toNat).2.2.1.2==(get zj t.2.2 ((i64.wrap (t46+1)).toNat)).2.2.1.2)&&(((get zj t.2.2 t46.toNat).2.2.2.1==(get zj t.2.2 ((i64.wrap (t46+1)).toNat)).2.2.2.1)&&(((get zj t.2.2 t46.toNat).2.2.2.2==(get zj t.2.2 ((i64.wrap (t46+1)).toNat)).2.2.2.2)&&true)))))) then k0 false
 else rec t45 (i64.wrap (t46+1)) t
 else none
 else none
 else k1 t45 t46 (decide (t46<t45)) t
def zO.l5 {R:Type} (F:Nat) (k0:Bool->Option R) (k1:zO.l5.K1 R):Nat->zO.l5.T R
 | 0,_,_,_=>none
 | fu+1,t45,t46,t=>zO.l5.body F k0 k1 (zO.l5 F k0 k1 fu) t45 t46 t
def zO.sh (F:Nat) (t:zN.T):Option zO.sg.R :=
 bif decide (t.1<1) then some ((false,()),())
 else bif decide (t.1>1000000000000) then some ((false,()),())
 else bif decide (t.2.1<0) then some ((false,()),())
 else bif decide (t.2.1>6) then some ((false,()),())
 else bif decide ((t.2.2.length:Int)<1) then some ((false,()),())
 else bif decide ((t.2.2.length:Int)>256) then some ((false,()),())
 else bif idx 0 t.2.2.length then bif ((get zj t.2.2 0).1 != 0) then some ((false,()),())
 else zO.l5 F (fun r21=>some ((r21,()),())) (fun t452 t462 t472 t2=>some ((true,()),())) F (i64.wrap ((t.2.2.length:Int)-1)) 0 t
 else none
def zO.sp (F:Nat):TA zO.sg.args->Option zO.sg.R:=fun x=>zO.sh F x.1
@[reducible] def xE.sg:Sig:={args:=[.d (.g zj),.d (.c (.int .i64))],res:=[.c (.int .i64)]}
def xE.sh (F:Nat) (p:zj.T) (q:Int):Option xE.sg.R :=
 some (((if 1<(if (-1)>i64.wrap (p.1-q) then (-1) else i64.wrap (p.1-q)) then 1 else (if (-1)>i64.wrap (p.1-q) then (-1) else i64.wrap (p.1-q))),()),())
def xE.sp (F:Nat):TA xE.sg.args->Option xE.sg.R:=fun x=>xE.sh F x.1 x.2.1
@[reducible] def ze.sg:Sig:={args:=[.d (.b zj),.d (.c (.int .i64)),.d (.c .fn)],res:=[.c (.int .i64),.c .bool]}
@[reducible] def ze.ds30:Sig:={args:=[.d (.g zj),.d (.c (.int .i64))],res:=[.c (.int .i64)]}
def ze.d30 (F:Nat):Nat->TA ze.ds30.args->Option ze.ds30.R:=mkT ze.ds30 [(wM,xE.sp F)]
@[reducible] def ze.ds46:Sig:={args:=[.d (.g zj),.d (.c (.int .i64))],res:=[.c (.int .i64)]}
def ze.d46 (F:Nat):Nat->TA ze.ds46.args->Option ze.ds46.R:=mkT ze.ds46 [(wM,xE.sp F)]
abbrev ze.l3.K0 (R:Type):Type:=(List zj.T)->Int->Nat->Int->Int->Int->Bool->Option R
abbrev ze.l3.T (R:Type):Type:=(List zj.T)->Int->Nat->Int->Int->Int->Option R
def ze.l3.body {R:Type} (F:Nat) (k0:ze.l3.K0 R) (rec:ze.l3.T R) (x:List zj.T) (target:Int) (cmp:Nat) (n:Int) (i:Int) (j:Int):Option R :=
 bif decide (i<j) then bif idx (i64.wrap ((u64.wrap (i64.wrap (i+j))).fdiv (2^(min (1:Int).toNat IntKind.u64.bits)))) x.length then oB (ze.d30 F cmp ((get zj x ((i64.wrap ((u64.wrap (i64.wrap (i+j))).fdiv (2^(min (1:Int).toNat IntKind.u64.bits)))).toNat)),target,())) fun c_1 =>
 bif decide (c_1.1.1<0) then rec x target cmp n (i64.wrap ((i64.wrap ((u64.wrap (i64.wrap (i+j))).fdiv (2^(min (1:Int).toNat IntKind.u64.bits))))+1)) j
 else rec x target cmp n i (i64.wrap ((u64.wrap (i64.wrap (i+j))).fdiv (2^(min (1:Int).toNat IntKind.u64.bits))))
 else none
 else k0 x target cmp n i j (decide (i<j))
def ze.l3 {R:Type} (F:Nat) (k0:ze.l3.K0 R):Nat->ze.l3.T R
 | 0,_,_,_,_,_,_=>none
 | fu+1,x,target,cmp,n,i,j=>ze.l3.body F k0 (ze.l3 F k0 fu) x target cmp n i j
def ze.sh (F:Nat) (x:List zj.T) (target:Int) (cmp:Nat):Option ze.sg.R :=
 ze.l3 F (fun x2 target2 cmp2 n2 i2 j2 t172=>bif decide (i2<n2) then bif idx i2 x2.length then oB (ze.d46 F cmp2 ((get zj x2 i2.toNat),target2,())) fun c_3 =>
 some ((i2,(c_3.1.1==0),()),())
 else none
 else some ((i2,false,()),())) F x target cmp (x.length:Int) 0 (x.length:Int)
def ze.sp (F:Nat):TA ze.sg.args->Option ze.sg.R:=fun x=>ze.sh F x.1 x.2.1 x.2.2.1
@[reducible] def yC.sg:Sig:={args:=[.d (.g zN),.d (.c (.int .i64))],res:=[.g zg,.c (.int .i64)]}
def yC.j6 {R:Type} (F:Nat) (k0:Int->zg.T->Option R) (q:Int) (i:Int) (t:zN.T) (r4:zg.T):Option R :=
 bif idx i t.2.2.length then oB (yP.sh F (get zj t.2.2 i.toNat).2 t.1 q) fun c_3 =>
 k0 c_3.1.2.1 c_3.1.1
 else none
def yC.sh (F:Nat) (t:zN.T) (q:Int):Option yC.sg.R :=
 oB (zO.sh F t) fun c_1 =>
 bif !c_1.1.1 then some (((0,0),1,()),())
 else bif decide (q<0) then some (((0,0),1,()),())
 else bif decide (q>1099511627776) then some (((0,0),1,()),())
 else oB (ze.sh F t.2.2 q wM) fun c_2 =>
 bif !c_2.1.2.1 then yC.j6 F (fun r54 r44=>some ((r44,r54,()),())) q (i64.wrap (c_2.1.1-1)) t (0,0)
 else yC.j6 F (fun r55 r45=>some ((r45,r55,()),())) q c_2.1.1 t (0,0)
def yC.sp (F:Nat):TA yC.sg.args->Option yC.sg.R:=fun x=>yC.sh F x.1 x.2.1
@[reducible] def xx.sg:Sig:={args:=[.d (.c (.int .i64))],res:=[.g xG]}
def xx.sh (F:Nat) (q:Int):Option xx.sg.R :=
 some (((2,([q]:List Int),([i64.wrap (q+1)]:List Int)),()),())
def xx.sp (F:Nat):TA xx.sg.args->Option xx.sg.R:=fun x=>xx.sh F x.1
@[reducible] def zy.sg:Sig:={args:=[.d (.g (.pair zo (.pair (.int .i64) xH)))],res:=[.c (.int .i64),.c .bool]}
def zy.j8 {R:Type} (F:Nat) (k0:Int->Bool->Option R) (k1:Int->Bool->Option R) (s:zo.T×Int×xH.T) (both:zg.T):Option R :=
 bif (s.2.2.2 != 0) then oB (xp.sh F both) fun c_3 =>
 bif decide (c_3.1.1<0) then bif decide ((i64.wrap ((i64.wrap ((i64.wrap ((i64.wrap (s.2.1+s.2.2.2))-1)).tdiv s.2.2.2))*s.2.2.2))<s.2.2.1) then k0 (i64.wrap ((i64.wrap ((i64.wrap ((i64.wrap (s.2.1+s.2.2.2))-1)).tdiv s.2.2.2))*s.2.2.2)) true
 else k1 0 false
 else k1 0 false
 else none
def zy.sh (F:Nat) (s:zo.T×Int×xH.T):Option zy.sg.R :=
 oB (y7.sh F s.1.2.1 s.1.2.2) fun c_1 =>
 oB (xp.sh F s.1.2.1) fun c_2 =>
 bif decide (c_2.1.1<0) then bif decide (s.2.2.2>1) then bif (s.2.2.2 != 0) then bif ((s.2.1.tmod s.2.2.2)==0) then bif decide ((i64.wrap (s.2.1+1))<s.2.2.1) then some ((i64.wrap (s.2.1+1),true,()),())
 else zy.j8 F (fun r24 r34=>some ((r24,r34,()),())) (fun r25 r35=>some ((r25,r35,()),())) s c_1.1.1
 else bif decide (s.2.1<s.2.2.1) then some ((s.2.1,true,()),())
 else zy.j8 F (fun r26 r36=>some ((r26,r36,()),())) (fun r27 r37=>some ((r27,r37,()),())) s c_1.1.1
 else none
 else zy.j8 F (fun r28 r38=>some ((r28,r38,()),())) (fun r29 r39=>some ((r29,r39,()),())) s c_1.1.1
 else zy.j8 F (fun r210 r310=>some ((r210,r310,()),())) (fun r211 r311=>some ((r211,r311,()),())) s c_1.1.1
def zy.sp (F:Nat):TA zy.sg.args->Option zy.sg.R:=fun x=>zy.sh F x.1
@[reducible] def zi.sg:Sig:={args:=[.d (.g zN)],res:=[.g xG,.c (.int .i64)]}
abbrev zi.l4.K0 (R:Type):Type:=Int->xG.T->Option R
abbrev zi.l4.K1 (R:Type):Type:=(List zj.T)->Int->Int->Bool->zN.T->xG.T->Option R
abbrev zi.l4.T (R:Type):Type:=(List zj.T)->Int->Int->zN.T->xG.T->Option R
def zi.l4.body {R:Type} (F:Nat) (k0:zi.l4.K0 R) (k1:zi.l4.K1 R) (rec:zi.l4.T R) (t22:List zj.T) (t23:Int) (t24:Int) (t:zN.T) (r2:xG.T):Option R :=
 bif decide (t24<t23) then bif idx t24 t22.length then oB (xJ.sh F (get zj t22 t24.toNat).2 t.1) fun c_2 =>
 bif (c_2.1.2.1 != 0) then k0 10 (0,[],[])
 else oB (xF.sh F c_2.1.1 (4611686018427387904,0)) fun c_3 =>
 bif decide (c_3.1.1>0) then k0 10 (0,[],[])
 else rec t22 t23 (i64.wrap (t24+1)) t r2
 else none
 else k1 t22 t23 t24 (decide (t24<t23)) t r2
def zi.l4 {R:Type} (F:Nat) (k0:zi.l4.K0 R) (k1:zi.l4.K1 R):Nat->zi.l4.T R
 | 0,_,_,_,_,_=>none
 | fu+1,t22,t23,t24,t,r2=>zi.l4.body F k0 k1 (zi.l4 F k0 k1 fu) t22 t23 t24 t r2
def zi.j20 {R:Type} (F:Nat) (k0:Int->xG.T->Option R) (k1:Int->(List zj.T)->Int->Int->Bool->zN.T->xG.T->Option R) (t47:List zj.T) (t48:Int) (t49:Int) (t:zN.T) (r2:xG.T) (s:zo.T×Int×xH.T):Option R :=
 oB (zy.sh F s) fun c_10 =>
 bif c_10.1.2.1 then oB (xx.sh F c_10.1.1) fun c_11 =>
 k0 0 c_11.1.1
 else k1 c_10.1.1 t47 t48 t49 c_10.1.2.1 t r2
abbrev zi.l11.K0 (R:Type):Type:=Int->xG.T->Option R
abbrev zi.l11.K1 (R:Type):Type:=Int->xG.T->Option R
abbrev zi.l11.K2 (R:Type):Type:=(List zj.T)->Int->Int->Bool->zN.T->xG.T->Option R
abbrev zi.l11.T (R:Type):Type:=(List zj.T)->Int->Int->zN.T->xG.T->Option R
def zi.l11.body {R:Type} (F:Nat) (k0:zi.l11.K0 R) (k1:zi.l11.K1 R) (k2:zi.l11.K2 R) (rec:zi.l11.T R) (t47:List zj.T) (t48:Int) (t49:Int) (t:zN.T) (r2:xG.T):Option R :=
 bif decide (t49<t48) then bif idx t49 t47.length then bif decide ((i64.wrap (t49+1))<(t.2.2.length:Int)) then bif idx (i64.wrap (t49+1)) t.2.2.length then oB (yC.sh F t (i64.wrap ((get zj t.2.2 ((i64.wrap (t49+1)).toNat)).1-1))) fun c_6 =>
 oB (yC.sh F t (i64.wrap ((i64.wrap ((get zj t.2.2 ((i64.wrap (t49+1)).toNat)).1-1))+1))) fun c_7 =>
 oB (xF.sh F c_6.1.1 c_7.1.1) fun c_8 =>
 bif decide (c_8.1.1>0) then oB (xx.sh F (i64.wrap ((get zj t.2.2 ((i64.wrap (t49+1)).toNat)).1-1))) fun c_9 =>
 k0 0 c_9.1.1
 else zi.j20 F (fun r312 r212=>k1 r312 r212) (fun q13 t4713 t4813 t4913 t10313 t13 r213=>rec t4713 t4813 (i64.wrap (t4913+1)) t13 r213) t47 t48 t49 t r2 ((get zj t47 t49.toNat).2,(get zj t47 t49.toNat).1,i64.wrap ((get zj t.2.2 ((i64.wrap (t49+1)).toNat)).1-1),t.1)
 else none
 else zi.j20 F (fun r314 r214=>k1 r314 r214) (fun q15 t4715 t4815 t4915 t10315 t15 r215=>rec t4715 t4815 (i64.wrap (t4915+1)) t15 r215) t47 t48 t49 t r2 ((get zj t47 t49.toNat).2,(get zj t47 t49.toNat).1,1099511627776,t.1)
 else none
 else k2 t47 t48 t49 (decide (t49<t48)) t r2
def zi.l11 {R:Type} (F:Nat) (k0:zi.l11.K0 R) (k1:zi.l11.K1 R) (k2:zi.l11.K2 R):Nat->zi.l11.T R
 | 0,_,_,_,_,_=>none
 | fu+1,t47,t48,t49,t,r2=>zi.l11.body F k0 k1 k2 (zi.l11 F k0 k1 k2 fu) t47 t48 t49 t r2
def zi.sh (F:Nat) (t:zN.T):Option zi.sg.R :=
 oB (zO.sh F t) fun c_1 =>
 bif !c_1.1.1 then some (((0,[],[]),1,()),())
 else zi.l4 F (fun r34 r24=>some ((r24,r34,()),())) (fun t225 t235 t245 t255 t5 r25=>zi.l11 F (fun r316 r216=>some ((r216,r316,()),())) (fun r317 r217=>some ((r217,r317,()),())) (fun t4718 t4818 t4918 t5018 t18 r218=>some (((1,[],[]),0,()),())) F t5.2.2 (t5.2.2.length:Int) 0 t5 r25) F t.2.2 (t.2.2.length:Int) 0 t (0,[],[])
def zi.sp (F:Nat):TA zi.sg.args->Option zi.sg.R:=fun x=>zi.sh F x.1
@[reducible] def zL.sg:Sig:={args:=[.d (.g xZ)],res:=[.g xG,.c (.int .i64),.c (.int .i64)]}
abbrev zL.l10.K0 (R:Type):Type:=Bool->Int->Int->Bool->xZ.T->xG.T->Option R
abbrev zL.l10.T (R:Type):Type:=Bool->Int->Int->xZ.T->xG.T->Option R
def zL.l10.body {R:Type} (F:Nat) (k0:zL.l10.K0 R) (rec:zL.l10.T R) (rising:Bool) (t44:Int) (t45:Int) (p:xZ.T) (r2:xG.T):Option R :=
 bif decide (t45<t44) then bif rising then none
 else rec false t44 (i64.wrap (t45+1)) p r2
 else k0 rising t44 t45 (decide (t45<t44)) p r2
def zL.l10 {R:Type} (F:Nat) (k0:zL.l10.K0 R):Nat->zL.l10.T R
 | 0,_,_,_,_,_=>none
 | fu+1,rising,t44,t45,p,r2=>zL.l10.body F k0 (zL.l10 F k0 fu) rising t44 t45 p r2
def zL.sh (F:Nat) (p:xZ.T):Option zL.sg.R :=
 oB (xQ.sh F p) fun c_1 =>
 bif (c_1.1.2.2.1 != 0) then some (((0,[],[]),c_1.1.2.1,c_1.1.2.2.1,()),())
 else oB (zI.sh F p) fun c_2 =>
 bif (c_2.1.2.2.1==0) then oB (zi.sh F c_2.1.1) fun c_3 =>
 some ((c_3.1.1,0,0,()),())
 else zL.l10 F (fun rising4 t444 t454 t464 p4 r24=>bif rising4 then some (((1,[],[]),0,0,()),())
 else none) F true (p.2.1.length:Int) 0 p (0,[],[])
def zL.sp (F:Nat):TA zL.sg.args->Option zL.sg.R:=fun x=>zL.sh F x.1
@[reducible] def yx.sg:Sig:={args:=[],res:=[.c .bool]}
def yx.sh (F:Nat):Option yx.sg.R :=
 oB (xd.sh F ([(3,0,0,0,[],0),(2,3,0,0,[],0),(8,0,0,0,[],0)]:List zT.T)) fun c_1 =>
 oB (zL.sh F c_1.1.1) fun c_2 =>
 oB (xd.sh F ([(3,0,0,0,[],0),(2,3,0,0,[],0),(8,0,0,0,[],0),(5,0,0,0,[],0)]:List zT.T)) fun c_3 =>
 oB (zL.sh F c_3.1.1) fun c_4 =>
 oB (zi.sh F (0,0,[])) fun c_5 =>
 bif (c_2.1.2.1==0) then bif (c_2.1.2.2.1==0) then bif (c_2.1.1.1==1) then bif (c_4.1.2.1==0) then bif (c_4.1.2.2.1==0) then bif (c_4.1.1.1==2) then some (((c_5.1.2.1==1),()),())
 else some ((false,()),())
 else some ((false,()),())
 else some ((false,()),())
 else some ((false,()),())
 else some ((false,()),())
 else some ((false,()),())
def yx.sp (F:Nat):TA yx.sg.args->Option yx.sg.R:=fun x=>yx.sh F
@[reducible] def zl.sg:Sig:={args:=[.d (.g zN)],res:=[.c .bool]}
def zl.j8 {R:Type} (F:Nat) (k0:Bool->Option R) (k1:Int->Bool->zN.T->Option R) (i:Int) (t:zN.T):Option R :=
 bif decide (i>0) then bif idx (i64.wrap (i-1)) t.2.2.length then bif idx i t.2.2.length then bif decide ((get zj t.2.2 ((i64.wrap (i-1)).toNat)).1>=(get zj t.2.2 i.toNat).1) then k0 false
 else bif idx (i64.wrap (i-1)) t.2.2.length then bif idx i t.2.2.length then bif (((get zj t.2.2 ((i64.wrap (i-1)).toNat)).2.1.1==(get zj t.2.2 i.toNat).2.1.1)&&(((get zj t.2.2 ((i64.wrap (i-1)).toNat)).2.1.2==(get zj t.2.2 i.toNat).2.1.2)&&(((get zj t.2.2 ((i64.wrap (i-1)).toNat)).2.2.1.1==(get zj t.2.2 i.toNat).2.2.1.1)&&(((get zj t.2.2 ((i64.wrap (i-1)).toNat)).2.2.1.2==(get zj t.2.2 i.toNat).2.2.1.2)&&(((get zj t.2.2 ((i64.wrap (i-1)).toNat)).2.2.2.1==(get zj t.2.2 i.toNat).2.2.2.1)&&(((get zj t.2.2 ((i64.wrap (i-1)).toNat)).2.2.2.2==(get zj t.2.2 i.toNat).2.2.2.2)&&true)))))) then k0 false
 else k1 i (((get zj t.2.2 ((i64.wrap (i-1)).toNat)).2.1.1==(get zj t.2.2 i.toNat).2.1.1)&&(((get zj t.2.2 ((i64.wrap (i-1)).toNat)).2.1.2==(get zj t.2.2 i.toNat).2.1.2)&&(((get zj t.2.2 ((i64.wrap (i-1)).toNat)).2.2.1.1==(get zj t.2.2 i.toNat).2.2.1.1)&&(((get zj t.2.2 ((i64.wrap (i-1)).toNat)).2.2.1.2==(get zj t.2.2 i.toNat).2.2.1.2)&&(((get zj t.2.2 ((i64.wrap (i-1)).toNat)).2.2.2.1==(get zj t.2.2 i.toNat).2.2.2.1)&&(((get zj t.2.2 ((i64.wrap (i-1)).toNat)).2.2.2.2==(get zj t.2.2 i.toNat).2.2.2.2)&&true)))))) t
 else none
 else none
 else none
 else none
 else k1 i false t
abbrev zl.l4.K2 (R:Type):Type:=Int->Bool->zN.T->Option R
abbrev zl.l4.T (R:Type):Type:=Int->zN.T->Option R
def zl.l4.body {R:Type} (F:Nat) (k0:Bool->Option R) (k1:Bool->Option R) (k2:zl.l4.K2 R) (rec:zl.l4.T R) (i:Int) (t:zN.T):Option R :=
 bif decide (i<(t.2.2.length:Int)) then bif idx i t.2.2.length then bif decide ((get zj t.2.2 i.toNat).1>1099511627776) then k0 false
 else bif (i==0) then bif idx i t.2.2.length then bif ((get zj t.2.2 i.toNat).1 != 0) then k0 false
 else zl.j8 F (fun r21=>k1 r21) (fun i2 t942 t2=>rec (i64.wrap (i2+1)) t2) i t
 else none
 else zl.j8 F (fun r23=>k1 r23) (fun i4 t944 t4=>rec (i64.wrap (i4+1)) t4) i t
 else none
 else k2 i (decide (i<(t.2.2.length:Int))) t
def zl.l4 {R:Type} (F:Nat) (k0:Bool->Option R) (k1:Bool->Option R) (k2:zl.l4.K2 R):Nat->zl.l4.T R
 | 0,_,_=>none
 | fu+1,i,t=>zl.l4.body F k0 k1 k2 (zl.l4 F k0 k1 k2 fu) i t
def zl.sh (F:Nat) (t:zN.T):Option zl.sg.R :=
 bif decide (t.1<1) then some ((false,()),())
 else bif decide (t.1>1000000000000) then some ((false,()),())
 else bif decide (t.2.1<0) then some ((false,()),())
 else bif decide (t.2.1>6) then some ((false,()),())
 else bif ((t.2.2.length:Int)==0) then some ((false,()),())
 else bif decide ((t.2.2.length:Int)>256) then some ((false,()),())
 else zl.l4 F (fun r25=>some ((r25,()),())) (fun r26=>some ((r26,()),())) (fun i7 t387 t7=>some ((true,()),())) F 0 t
def zl.sp (F:Nat):TA zl.sg.args->Option zl.sg.R:=fun x=>zl.sh F x.1
@[reducible] def yB.sg:Sig:={args:=[.d (.c (.int .i64)),.d (.c (.int .i64))],res:=[.c .bool]}
def yB.sh (F:Nat) (size:Int) (q:Int):Option yB.sg.R :=
 bif decide (size>=1) then bif decide (size<=1000000000000) then bif decide (q>=0) then some ((decide (q<=1099511627776),()),())
 else some ((false,()),())
 else some ((false,()),())
 else some ((false,()),())
def yB.sp (F:Nat):TA yB.sg.args->Option yB.sg.R:=fun x=>yB.sh F x.1 x.2.1
@[reducible] def zk.sg:Sig:={args:=[.d (.g zg)],res:=[.a .u64]}
abbrev zk.l3.K0 (R:Type):Type:=Int->Bool->zg.T->(List Int)->(List Int)->Option R
abbrev zk.l3.T (R:Type):Type:=Int->zg.T->(List Int)->(List Int)->Option R
def zk.l3.body {R:Type} (F:Nat) (k0:zk.l3.K0 R) (rec:zk.l3.T R) (i:Int) (w:zg.T) (r2:List Int) (l:List Int):Option R :=
 bif decide (i<4) then bif decide (0<=(u64.wrap (i64.wrap (16*i)))) then bif (idx i 12&&Nat.beq 12 l.length) then bif decide (0<=(u64.wrap (i64.wrap (16*i)))) then bif (idx (i64.wrap (i+4)) 12&&Nat.beq 12 (l.set i.toNat ((w.2.fdiv (2^(min (u64.wrap (i64.wrap (16*i))).toNat IntKind.u64.bits))).tmod 65536)).length) then rec (i64.wrap (i+1)) w r2 ((l.set i.toNat ((w.2.fdiv (2^(min (u64.wrap (i64.wrap (16*i))).toNat IntKind.u64.bits))).tmod 65536)).set ((i64.wrap (i+4)).toNat) (((u64.wrap w.1).fdiv (2^(min (u64.wrap (i64.wrap (16*i))).toNat IntKind.u64.bits))).tmod 65536))
 else none
 else none
 else none
 else none
 else k0 i (decide (i<4)) w r2 l
def zk.l3 {R:Type} (F:Nat) (k0:zk.l3.K0 R):Nat->zk.l3.T R
 | 0,_,_,_,_=>none
 | fu+1,i,w,r2,l=>zk.l3.body F k0 (zk.l3 F k0 fu) i w r2 l
abbrev zk.l9.K0 (R:Type):Type:=Int->Bool->(List Int)->(List Int)->Option R
abbrev zk.l9.T (R:Type):Type:=Int->(List Int)->(List Int)->Option R
def zk.l9.body {R:Type} (F:Nat) (k0:zk.l9.K0 R) (rec:zk.l9.T R) (i:Int) (r2:List Int) (l:List Int):Option R :=
 bif decide (i<12) then bif (idx i 12&&Nat.beq 12 l.length) then rec (i64.wrap (i+1)) r2 (l.set i.toNat 65535)
 else none
 else k0 i (decide (i<12)) r2 l
def zk.l9 {R:Type} (F:Nat) (k0:zk.l9.K0 R):Nat->zk.l9.T R
 | 0,_,_,_=>none
 | fu+1,i,r2,l=>zk.l9.body F k0 (zk.l9 F k0 fu) i r2 l
def zk.sh (F:Nat) (w:zg.T):Option zk.sg.R :=
 zk.l3 F (fun i1 t71 w1 r21 l1=>bif decide (w1.1<0) then zk.l9 F (fun i2 t342 r22 l2=>bif Nat.beq 12 l2.length then bif (Nat.beq l2.length r22.length&&Nat.beq 12 r22.length) then bif (Nat.beq 12 l2.length&&true) then some ((l2,()),())
 else none
 else none
 else none) F 8 r21 l1
 else bif Nat.beq 12 l1.length then bif (Nat.beq l1.length r21.length&&Nat.beq 12 r21.length) then bif (Nat.beq 12 l1.length&&true) then some ((l1,()),())
 else none
 else none
 else none) F 0 w (List.replicate 12 0) (List.replicate 12 0)
def zk.sp (F:Nat):TA zk.sg.args->Option zk.sg.R:=fun x=>zk.sh F x.1
@[reducible] def zw.sg:Sig:={args:=[.d (.a .u64),.d (.a .u64)],res:=[.a .u64]}
abbrev zw.l3.K0 (R:Type):Type:=Int->Int->Bool->(List Int)->(List Int)->(List Int)->Option R
abbrev zw.l3.T (R:Type):Type:=Int->Int->(List Int)->(List Int)->(List Int)->Option R
def zw.l3.body {R:Type} (F:Nat) (k0:zw.l3.K0 R) (rec:zw.l3.T R) (c:Int) (i:Int) (a:List Int) (b:List Int) (r4:List Int):Option R :=
 bif decide (i<12) then bif (idx i 12&&Nat.beq 12 a.length) then bif (idx i 12&&Nat.beq 12 b.length) then bif (idx i 12&&Nat.beq 12 a.length) then rec (u64.wrap ((u64.wrap ((u64.wrap (c+(a.getD i.toNat 0)))+(b.getD i.toNat 0))).tdiv 65536)) (i64.wrap (i+1)) (a.set i.toNat ((u64.wrap ((u64.wrap (c+(a.getD i.toNat 0)))+(b.getD i.toNat 0))).tmod 65536)) b r4
 else none
 else none
 else none
 else k0 c i (decide (i<12)) a b r4
def zw.l3 {R:Type} (F:Nat) (k0:zw.l3.K0 R):Nat->zw.l3.T R
 | 0,_,_,_,_,_=>none
 | fu+1,c,i,a,b,r4=>zw.l3.body F k0 (zw.l3 F k0 fu) c i a b r4
def zw.sh (F:Nat) (a:List Int) (b:List Int):Option zw.sg.R :=
 zw.l3 F (fun c1 i1 t81 a1 b1 r41=>bif Nat.beq 12 a1.length then bif (Nat.beq a1.length r41.length&&Nat.beq 12 r41.length) then bif (Nat.beq 12 a1.length&&true) then some ((a1,()),())
 else none
 else none
 else none) F 0 0 a b (List.replicate 12 0)
def zw.sp (F:Nat):TA zw.sg.args->Option zw.sg.R:=fun x=>zw.sh F x.1 x.2.1
@[reducible] def zq.sg:Sig:={args:=[.d (.a .u64)],res:=[.a .u64]}
abbrev zq.l2.K0 (R:Type):Type:=Int->Bool->(List Int)->(List Int)->Option R
abbrev zq.l2.T (R:Type):Type:=Int->(List Int)->(List Int)->Option R
def zq.l2.body {R:Type} (F:Nat) (k0:zq.l2.K0 R) (rec:zq.l2.T R) (i:Int) (a:List Int) (r2:List Int):Option R :=
 bif decide (i<12) then bif (idx i 12&&Nat.beq 12 a.length) then bif (idx i 12&&Nat.beq 12 a.length) then rec (i64.wrap (i+1)) (a.set i.toNat (u64.wrap (65535-(a.getD i.toNat 0)))) r2
 else none
 else none
 else k0 i (decide (i<12)) a r2
def zq.l2 {R:Type} (F:Nat) (k0:zq.l2.K0 R):Nat->zq.l2.T R
 | 0,_,_,_=>none
 | fu+1,i,a,r2=>zq.l2.body F k0 (zq.l2 F k0 fu) i a r2
def zq.sh (F:Nat) (a:List Int):Option zq.sg.R :=
 zq.l2 F (fun i1 t51 a1 r21=>bif Nat.beq 12 a1.length then oB (zw.sh F a1 ((List.replicate 12 0).set 0 1)) fun c_2 =>
 bif (Nat.beq c_2.1.1.length r21.length&&Nat.beq 12 r21.length) then bif (Nat.beq 12 c_2.1.1.length&&true) then some ((c_2.1.1,()),())
 else none
 else none
 else none) F 0 a (List.replicate 12 0)
def zq.sp (F:Nat):TA zq.sg.args->Option zq.sg.R:=fun x=>zq.sh F x.1
@[reducible] def zn.sg:Sig:={args:=[.d (.a .u64)],res:=[.g zg,.c .bool]}
abbrev zn.l5.K0 (R:Type):Type:=Bool->zg.T->Option R
abbrev zn.l5.K1 (R:Type):Type:=Int->Int->Bool->(List Int)->zg.T->Option R
abbrev zn.l5.T (R:Type):Type:=Int->Int->(List Int)->zg.T->Option R
def zn.l5.body {R:Type} (F:Nat) (k0:zn.l5.K0 R) (k1:zn.l5.K1 R) (rec:zn.l5.T R) (top:Int) (i:Int) (l:List Int) (r2:zg.T):Option R :=
 bif decide (i<12) then bif (idx i 12&&Nat.beq 12 l.length) then bif ((l.getD i.toNat 0) != top) then k0 false (0,0)
 else rec top (i64.wrap (i+1)) l r2
 else none
 else k1 top i (decide (i<12)) l r2
def zn.l5 {R:Type} (F:Nat) (k0:zn.l5.K0 R) (k1:zn.l5.K1 R):Nat->zn.l5.T R
 | 0,_,_,_,_=>none
 | fu+1,top,i,l,r2=>zn.l5.body F k0 k1 (zn.l5 F k0 k1 fu) top i l r2
abbrev zn.l12.K0 (R:Type):Type:=Int->Int->Int->Bool->(List Int)->zg.T->Option R
abbrev zn.l12.T (R:Type):Type:=Int->Int->Int->(List Int)->zg.T->Option R
def zn.l12.body {R:Type} (F:Nat) (k0:zn.l12.K0 R) (rec:zn.l12.T R) (lo:Int) (hi:Int) (i:Int) (l:List Int) (r2:zg.T):Option R :=
 bif decide (i>=0) then bif (idx i 12&&Nat.beq 12 l.length) then bif (idx (i64.wrap (i+4)) 12&&Nat.beq 12 l.length) then rec (u64.wrap ((u64.wrap (lo*65536))+(l.getD i.toNat 0))) (u64.wrap ((u64.wrap (hi*65536))+(l.getD ((i64.wrap (i+4)).toNat) 0))) (i64.wrap (i-1)) l r2
 else none
 else none
 else k0 lo hi i (decide (i>=0)) l r2
def zn.l12 {R:Type} (F:Nat) (k0:zn.l12.K0 R):Nat->zn.l12.T R
 | 0,_,_,_,_,_=>none
 | fu+1,lo,hi,i,l,r2=>zn.l12.body F k0 (zn.l12 F k0 fu) lo hi i l r2
def zn.j4 {R:Type} (F:Nat) (k0:Bool->zg.T->Option R) (k1:Bool->zg.T->Option R) (top:Int) (l:List Int) (r2:zg.T):Option R :=
 zn.l5 F (fun r31 r21=>k0 r31 r21) (fun top2 i2 t132 l2 r22=>zn.l12 F (fun lo3 hi3 i3 t233 l3 r23=>k1 true (i64.wrap hi3,lo3)) F 0 0 3 l2 r22) F top 8 l r2
def zn.sh (F:Nat) (l:List Int):Option zn.sg.R :=
 bif (idx 7 12&&Nat.beq 12 l.length) then bif decide ((l.getD 7 0)>=32768) then zn.j4 F (fun r34 r24=>some ((r24,r34,()),())) (fun r35 r25=>some ((r25,r35,()),())) 65535 l (0,0)
 else zn.j4 F (fun r36 r26=>some ((r26,r36,()),())) (fun r37 r27=>some ((r27,r37,()),())) 0 l (0,0)
 else none
def zn.sp (F:Nat):TA zn.sg.args->Option zn.sg.R:=fun x=>zn.sh F x.1
@[reducible] def zR.sg:Sig:={args:=[.d (.a .u64)],res:=[.g zg,.c (.int .i64)]}
def zR.sh (F:Nat) (l:List Int):Option zR.sg.R :=
 bif Nat.beq 12 l.length then oB (zn.sh F l) fun c_1 =>
 bif !c_1.1.2.1 then some (((0,0),10,()),())
 else some ((c_1.1.1,0,()),())
 else none
def zR.sp (F:Nat):TA zR.sg.args->Option zR.sg.R:=fun x=>zR.sh F x.1
@[reducible] def yZ.sg:Sig:={args:=[.d (.g zg)],res:=[.g zg,.c (.int .i64)]}
def yZ.sh (F:Nat) (a:zg.T):Option yZ.sg.R :=
 oB (zk.sh F a) fun c_1 =>
 oB (zq.sh F c_1.1.1) fun c_2 =>
 oB (zR.sh F c_2.1.1) fun c_3 =>
 some ((c_3.1.1,c_3.1.2.1,()),())
def yZ.sp (F:Nat):TA yZ.sg.args->Option yZ.sg.R:=fun x=>yZ.sh F x.1
@[reducible] def yD.sg:Sig:={args:=[.d (.g zg)],res:=[.g zg,.c (.int .i64)]}
def yD.sh (F:Nat) (w:zg.T):Option yD.sg.R :=
 bif decide (w.1<0) then oB (yZ.sh F w) fun c_1 =>
 some ((c_1.1.1,c_1.1.2.1,()),())
 else some ((w,0,()),())
def yD.sp (F:Nat):TA yD.sg.args->Option yD.sg.R:=fun x=>yD.sh F x.1
@[reducible] def xc.sg:Sig:={args:=[.d (.c (.int .i64))],res:=[.g zg]}
def xc.sh (F:Nat) (v:Int):Option xc.sg.R :=
 bif decide (v<0) then some ((((-1),u64.wrap v),()),())
 else some (((0,u64.wrap v),()),())
def xc.sp (F:Nat):TA xc.sg.args->Option xc.sg.R:=fun x=>xc.sh F x.1
@[reducible] def yk.sg:Sig:={args:=[.d (.a .u64)],res:=[.c .bool]}
def yk.sh (F:Nat) (a:List Int):Option yk.sg.R :=
 bif (idx 11 12&&Nat.beq 12 a.length) then some ((decide ((a.getD 11 0)>=32768),()),())
 else none
def yk.sp (F:Nat):TA yk.sg.args->Option yk.sg.R:=fun x=>yk.sh F x.1
@[reducible] def zx.sg:Sig:={args:=[.d (.g zg)],res:=[.c (.int .u64),.c (.int .u64)]}
abbrev zx.l7.K0 (R:Type):Type:=Int->Int->Int->Bool->(List Int)->Option R
abbrev zx.l7.T (R:Type):Type:=Int->Int->Int->(List Int)->Option R
def zx.l7.body {R:Type} (F:Nat) (k0:zx.l7.K0 R) (rec:zx.l7.T R) (hi:Int) (lo:Int) (i:Int) (l:List Int):Option R :=
 bif decide (i>=0) then bif (idx i 12&&Nat.beq 12 l.length) then bif (idx (i64.wrap (i+4)) 12&&Nat.beq 12 l.length) then rec (u64.wrap ((u64.wrap (hi*65536))+(l.getD ((i64.wrap (i+4)).toNat) 0))) (u64.wrap ((u64.wrap (lo*65536))+(l.getD i.toNat 0))) (i64.wrap (i-1)) l
 else none
 else none
 else k0 hi lo i (decide (i>=0)) l
def zx.l7 {R:Type} (F:Nat) (k0:zx.l7.K0 R):Nat->zx.l7.T R
 | 0,_,_,_,_=>none
 | fu+1,hi,lo,i,l=>zx.l7.body F k0 (zx.l7 F k0 fu) hi lo i l
def zx.j4 {R:Type} (F:Nat) (k0:Int->Int->Option R) (l:List Int):Option R :=
 zx.l7 F (fun hi4 lo4 i4 t154 l4=>k0 hi4 lo4) F 0 0 3 l
def zx.sh (F:Nat) (w:zg.T):Option zx.sg.R :=
 oB (zk.sh F w) fun c_1 =>
 bif (Nat.beq c_1.1.1.length (List.replicate 12 0).length&&Nat.beq 12 (List.replicate 12 0).length) then bif Nat.beq 12 c_1.1.1.length then oB (yk.sh F c_1.1.1) fun c_2 =>
 bif c_2.1.1 then bif Nat.beq 12 c_1.1.1.length then oB (zq.sh F c_1.1.1) fun c_3 =>
 bif (Nat.beq c_3.1.1.length c_1.1.1.length&&Nat.beq 12 c_1.1.1.length) then zx.j4 F (fun r25 r35=>some ((r25,r35,()),())) c_3.1.1
 else none
 else none
 else zx.j4 F (fun r26 r36=>some ((r26,r36,()),())) c_1.1.1
 else none
 else none
def zx.sp (F:Nat):TA zx.sg.args->Option zx.sg.R:=fun x=>zx.sh F x.1
@[reducible] def zA.sg:Sig:={args:=[.d (.c (.int .u64)),.d (.c (.int .u64))],res:=[.a .u64]}
abbrev zA.l3.K0 (R:Type):Type:=Int->Int->Int->Bool->(List Int)->(List Int)->Option R
abbrev zA.l3.T (R:Type):Type:=Int->Int->Int->(List Int)->(List Int)->Option R
def zA.l3.body {R:Type} (F:Nat) (k0:zA.l3.K0 R) (rec:zA.l3.T R) (hi:Int) (lo:Int) (i:Int) (r4:List Int) (d:List Int):Option R :=
 bif decide (i<4) then bif decide (0<=(u64.wrap (i64.wrap (16*i)))) then bif (idx i 8&&Nat.beq 8 d.length) then bif decide (0<=(u64.wrap (i64.wrap (16*i)))) then bif (idx (i64.wrap (i+4)) 8&&Nat.beq 8 (d.set i.toNat ((lo.fdiv (2^(min (u64.wrap (i64.wrap (16*i))).toNat IntKind.u64.bits))).tmod 65536)).length) then rec hi lo (i64.wrap (i+1)) r4 ((d.set i.toNat ((lo.fdiv (2^(min (u64.wrap (i64.wrap (16*i))).toNat IntKind.u64.bits))).tmod 65536)).set ((i64.wrap (i+4)).toNat) ((hi.fdiv (2^(min (u64.wrap (i64.wrap (16*i))).toNat IntKind.u64.bits))).tmod 65536))
 else none
 else none
 else none
 else none
 else k0 hi lo i (decide (i<4)) r4 d
def zA.l3 {R:Type} (F:Nat) (k0:zA.l3.K0 R):Nat->zA.l3.T R
 | 0,_,_,_,_,_=>none
 | fu+1,hi,lo,i,r4,d=>zA.l3.body F k0 (zA.l3 F k0 fu) hi lo i r4 d
def zA.sh (F:Nat) (hi:Int) (lo:Int):Option zA.sg.R :=
 zA.l3 F (fun hi1 lo1 i1 t81 r41 d1=>bif Nat.beq 8 d1.length then bif (Nat.beq d1.length r41.length&&Nat.beq 8 r41.length) then bif (Nat.beq 8 d1.length&&true) then some ((d1,()),())
 else none
 else none
 else none) F hi lo 0 (List.replicate 8 0) (List.replicate 8 0)
def zA.sp (F:Nat):TA zA.sg.args->Option zA.sg.R:=fun x=>zA.sh F x.1 x.2.1
@[reducible] def zB.sg:Sig:={args:=[.d (.c .bool),.d (.c (.int .u64)),.d (.c (.int .u64))],res:=[.g zg,.c (.int .i64)]}
abbrev zB.l3.K0 (R:Type):Type:=Bool->Int->Int->Int->Bool->zg.T->(List Int)->Option R
abbrev zB.l3.T (R:Type):Type:=Bool->Int->Int->Int->zg.T->(List Int)->Option R
def zB.l3.body {R:Type} (F:Nat) (k0:zB.l3.K0 R) (rec:zB.l3.T R) (below:Bool) (hi:Int) (lo:Int) (i:Int) (r6:zg.T) (l:List Int):Option R :=
 bif decide (i<4) then bif decide (0<=(u64.wrap (i64.wrap (16*i)))) then bif (idx i 12&&Nat.beq 12 l.length) then bif decide (0<=(u64.wrap (i64.wrap (16*i)))) then bif (idx (i64.wrap (i+4)) 12&&Nat.beq 12 (l.set i.toNat ((lo.fdiv (2^(min (u64.wrap (i64.wrap (16*i))).toNat IntKind.u64.bits))).tmod 65536)).length) then rec below hi lo (i64.wrap (i+1)) r6 ((l.set i.toNat ((lo.fdiv (2^(min (u64.wrap (i64.wrap (16*i))).toNat IntKind.u64.bits))).tmod 65536)).set ((i64.wrap (i+4)).toNat) ((hi.fdiv (2^(min (u64.wrap (i64.wrap (16*i))).toNat IntKind.u64.bits))).tmod 65536))
 else none
 else none
 else none
 else none
 else k0 below hi lo i (decide (i<4)) r6 l
def zB.l3 {R:Type} (F:Nat) (k0:zB.l3.K0 R):Nat->zB.l3.T R
 | 0,_,_,_,_,_,_=>none
 | fu+1,below,hi,lo,i,r6,l=>zB.l3.body F k0 (zB.l3 F k0 fu) below hi lo i r6 l
def zB.sh (F:Nat) (below:Bool) (hi:Int) (lo:Int):Option zB.sg.R :=
 zB.l3 F (fun below1 hi1 lo1 i1 t111 r61 l1=>bif below1 then bif Nat.beq 12 l1.length then oB (zq.sh F l1) fun c_2 =>
 bif (Nat.beq c_2.1.1.length l1.length&&Nat.beq 12 l1.length) then bif Nat.beq 12 c_2.1.1.length then oB (zR.sh F c_2.1.1) fun c_3 =>
 some ((c_3.1.1,c_3.1.2.1,()),())
 else none
 else none
 else none
 else bif Nat.beq 12 l1.length then oB (zR.sh F l1) fun c_4 =>
 some ((c_4.1.1,c_4.1.2.1,()),())
 else none) F below hi lo 0 (0,0) (List.replicate 12 0)
def zB.sp (F:Nat):TA zB.sg.args->Option zB.sg.R:=fun x=>zB.sh F x.1 x.2.1 x.2.2.1
@[reducible] def zf.sg:Sig:={args:=[.d (.g zg),.d (.g zg)],res:=[.g zg,.c (.int .i64)]}
abbrev zf.l9.K0 (R:Type):Type:=Int->Int->Int->Bool->zg.T->zg.T->zg.T->(List Int)->(List Int)->(List Int)->Option R
abbrev zf.l9.T (R:Type):Type:=Int->Int->Int->zg.T->zg.T->zg.T->(List Int)->(List Int)->(List Int)->Option R
def zf.l9.body {R:Type} (F:Nat) (k0:zf.l9.K0 R) (rec:zf.l9.T R) (i:Int) (c:Int) (j:Int) (a:zg.T) (b:zg.T) (r4:zg.T) (x:List Int) (y:List Int) (p:List Int):Option R :=
 bif decide (j<8) then bif (idx (i64.wrap (i+j)) 17&&Nat.beq 17 p.length) then bif (idx i 8&&Nat.beq 8 x.length) then bif (idx j 8&&Nat.beq 8 y.length) then bif (idx (i64.wrap (i+j)) 17&&Nat.beq 17 p.length) then rec i (u64.wrap ((u64.wrap ((u64.wrap (c+(p.getD ((i64.wrap (i+j)).toNat) 0)))+(u64.wrap ((x.getD i.toNat 0)*(y.getD j.toNat 0))))).tdiv 65536)) (i64.wrap (j+1)) a b r4 x y (p.set ((i64.wrap (i+j)).toNat) ((u64.wrap ((u64.wrap (c+(p.getD ((i64.wrap (i+j)).toNat) 0)))+(u64.wrap ((x.getD i.toNat 0)*(y.getD j.toNat 0))))).tmod 65536))
 else none
 else none
 else none
 else none
 else k0 i c j (decide (j<8)) a b r4 x y p
def zf.l9 {R:Type} (F:Nat) (k0:zf.l9.K0 R):Nat->zf.l9.T R
 | 0,_,_,_,_,_,_,_,_,_=>none
 | fu+1,i,c,j,a,b,r4,x,y,p=>zf.l9.body F k0 (zf.l9 F k0 fu) i c j a b r4 x y p
abbrev zf.l5.K0 (R:Type):Type:=Int->Bool->zg.T->zg.T->zg.T->(List Int)->(List Int)->(List Int)->Option R
abbrev zf.l5.T (R:Type):Type:=Int->zg.T->zg.T->zg.T->(List Int)->(List Int)->(List Int)->Option R
def zf.l5.body {R:Type} (F:Nat) (k0:zf.l5.K0 R) (rec:zf.l5.T R) (i:Int) (a:zg.T) (b:zg.T) (r4:zg.T) (x:List Int) (y:List Int) (p:List Int):Option R :=
 bif decide (i<8) then zf.l9 F (fun i5 c5 j5 t315 a5 b5 r45 x5 y5 p5=>bif (idx (i64.wrap (i5+8)) 17&&Nat.beq 17 p5.length) then rec (i64.wrap (i5+1)) a5 b5 r45 x5 y5 (p5.set ((i64.wrap (i5+8)).toNat) c5)
 else none) F i 0 0 a b r4 x y p
 else k0 i (decide (i<8)) a b r4 x y p
def zf.l5 {R:Type} (F:Nat) (k0:zf.l5.K0 R):Nat->zf.l5.T R
 | 0,_,_,_,_,_,_,_=>none
 | fu+1,i,a,b,r4,x,y,p=>zf.l5.body F k0 (zf.l5 F k0 fu) i a b r4 x y p
abbrev zf.l16.K1 (R:Type):Type:=Int->Bool->zg.T->zg.T->zg.T->(List Int)->Option R
abbrev zf.l16.T (R:Type):Type:=Int->zg.T->zg.T->zg.T->(List Int)->Option R
def zf.l16.body {R:Type} (F:Nat) (k0:Int->zg.T->Option R) (k1:zf.l16.K1 R) (rec:zf.l16.T R) (i:Int) (a:zg.T) (b:zg.T) (r4:zg.T) (p:List Int):Option R :=
 bif decide (i<17) then bif (idx i 17&&Nat.beq 17 p.length) then bif ((p.getD i.toNat 0) != 0) then k0 10 (0,0)
 else rec (i64.wrap (i+1)) a b r4 p
 else none
 else k1 i (decide (i<17)) a b r4 p
def zf.l16 {R:Type} (F:Nat) (k0:Int->zg.T->Option R) (k1:zf.l16.K1 R):Nat->zf.l16.T R
 | 0,_,_,_,_,_=>none
 | fu+1,i,a,b,r4,p=>zf.l16.body F k0 k1 (zf.l16 F k0 k1 fu) i a b r4 p
abbrev zf.l23.K0 (R:Type):Type:=Int->Int->Int->Bool->zg.T->zg.T->zg.T->(List Int)->Option R
abbrev zf.l23.T (R:Type):Type:=Int->Int->Int->zg.T->zg.T->zg.T->(List Int)->Option R
def zf.l23.body {R:Type} (F:Nat) (k0:zf.l23.K0 R) (rec:zf.l23.T R) (hi:Int) (lo:Int) (i:Int) (a:zg.T) (b:zg.T) (r4:zg.T) (p:List Int):Option R :=
 bif decide (i>=0) then bif (idx i 17&&Nat.beq 17 p.length) then bif (idx (i64.wrap (i+4)) 17&&Nat.beq 17 p.length) then rec (u64.wrap ((u64.wrap (hi*65536))+(p.getD ((i64.wrap (i+4)).toNat) 0))) (u64.wrap ((u64.wrap (lo*65536))+(p.getD i.toNat 0))) (i64.wrap (i-1)) a b r4 p
 else none
 else none
 else k0 hi lo i (decide (i>=0)) a b r4 p
def zf.l23 {R:Type} (F:Nat) (k0:zf.l23.K0 R):Nat->zf.l23.T R
 | 0,_,_,_,_,_,_,_=>none
 | fu+1,hi,lo,i,a,b,r4,p=>zf.l23.body F k0 (zf.l23 F k0 fu) hi lo i a b r4 p
def zf.sh (F:Nat) (a:zg.T) (b:zg.T):Option zf.sg.R :=
 oB (zx.sh F a) fun c_1 =>
 oB (zA.sh F c_1.1.1 c_1.1.2.1) fun c_2 =>
 bif (Nat.beq c_2.1.1.length (List.replicate 8 0).length&&Nat.beq 8 (List.replicate 8 0).length) then oB (zx.sh F b) fun c_3 =>
 oB (zA.sh F c_3.1.1 c_3.1.2.1) fun c_4 =>
 bif (Nat.beq c_4.1.1.length (List.replicate 8 0).length&&Nat.beq 8 (List.replicate 8 0).length) then zf.l5 F (fun i6 t276 a6 b6 r46 x6 y6 p6=>zf.l16 F (fun r57 r47=>some ((r47,r57,()),())) (fun i8 t628 a8 b8 r48 p8=>zf.l23 F (fun hi9 lo9 i9 t719 a9 b9 r49 p9=>oB (zB.sh F (!(decide (a9.1<0)==decide (b9.1<0))) hi9 lo9) fun c_10 =>
 some ((c_10.1.1,c_10.1.2.1,()),())) F 0 0 3 a8 b8 r48 p8) F 8 a6 b6 r46 p6) F 0 a b (0,0) c_2.1.1 c_4.1.1 (List.replicate 17 0)
 else none
 else none
def zf.sp (F:Nat):TA zf.sg.args->Option zf.sg.R:=fun x=>zf.sh F x.1 x.2.1
@[reducible] def yA.sg:Sig:={args:=[.d (.c (.int .i64)),.d (.c (.int .i64))],res:=[.c (.int .i64)]}
def yA.sh (F:Nat) (q:Int) (size:Int):Option yA.sg.R :=
 bif (size != 0) then bif (size != 0) then bif ((q.tmod size) != 0) then some ((i64.wrap ((i64.wrap (q.tdiv size))+1),()),())
 else some ((i64.wrap (q.tdiv size),()),())
 else none
 else none
def yA.sp (F:Nat):TA yA.sg.args->Option yA.sg.R:=fun x=>yA.sh F x.1 x.2.1
@[reducible] def yL.sg:Sig:={args:=[.d (.g zg),.d (.g zg)],res:=[.g zg,.c (.int .i64)]}
def yL.sh (F:Nat) (a:zg.T) (b:zg.T):Option yL.sg.R :=
 oB (zk.sh F a) fun c_1 =>
 oB (zk.sh F b) fun c_2 =>
 oB (zw.sh F c_1.1.1 c_2.1.1) fun c_3 =>
 oB (zR.sh F c_3.1.1) fun c_4 =>
 some ((c_4.1.1,c_4.1.2.1,()),())
def yL.sp (F:Nat):TA yL.sg.args->Option yL.sg.R:=fun x=>yL.sh F x.1 x.2.1
@[reducible] def yg.sg:Sig:={args:=[.d (.g zo),.d (.c (.int .i64)),.d (.c (.int .i64))],res:=[.g zg,.c (.int .i64)]}
def yg.sh (F:Nat) (l:zo.T) (size:Int) (q:Int):Option yg.sg.R :=
 oB (yB.sh F size q) fun c_1 =>
 bif !c_1.1.1 then some (((0,0),1,()),())
 else oB (xc.sh F q) fun c_2 =>
 oB (zf.sh F l.2.1 c_2.1.1) fun c_3 =>
 oB (yA.sh F q size) fun c_4 =>
 oB (xc.sh F c_4.1.1) fun c_5 =>
 oB (zf.sh F l.2.2 c_5.1.1) fun c_6 =>
 bif (c_3.1.2.1 != 0) then some (((0,0),10,()),())
 else bif (c_6.1.2.1 != 0) then some (((0,0),10,()),())
 else oB (yL.sh F l.1 c_3.1.1) fun c_7 =>
 bif (c_7.1.2.1 != 0) then some (((0,0),10,()),())
 else oB (yL.sh F c_7.1.1 c_6.1.1) fun c_8 =>
 some ((c_8.1.1,c_8.1.2.1,()),())
def yg.sp (F:Nat):TA yg.sg.args->Option yg.sg.R:=fun x=>yg.sh F x.1 x.2.1 x.2.2.1
@[reducible] def yH.sg:Sig:={args:=[.d (.g zo),.d (.c (.int .i64))],res:=[.g zg,.c (.int .i64)]}
def yH.sh (F:Nat) (l:zo.T) (size:Int):Option yH.sg.R :=
 oB (yB.sh F size 0) fun c_1 =>
 bif !c_1.1.1 then some (((0,0),1,()),())
 else oB (yD.sh F l.1) fun c_2 =>
 oB (yD.sh F l.2.1) fun c_3 =>
 oB (yD.sh F l.2.2) fun c_4 =>
 bif (c_2.1.2.1 != 0) then some (((0,0),10,()),())
 else bif (c_3.1.2.1 != 0) then some (((0,0),10,()),())
 else bif (c_4.1.2.1 != 0) then some (((0,0),10,()),())
 else oB (yg.sh F (c_2.1.1,c_3.1.1,c_4.1.1) size 1099511627776) fun c_5 =>
 some ((c_5.1.1,c_5.1.2.1,()),())
def yH.sp (F:Nat):TA yH.sg.args->Option yH.sg.R:=fun x=>yH.sh F x.1 x.2.1
@[reducible] def yw.sg:Sig:={args:=[.d (.g zg),.d (.g zg)],res:=[.c (.int .i64)]}
def yw.sh (F:Nat) (a:zg.T) (b:zg.T):Option yw.sg.R :=
 oB (zk.sh F a) fun c_1 =>
 oB (zk.sh F b) fun c_2 =>
 oB (zq.sh F c_2.1.1) fun c_3 =>
 oB (zw.sh F c_1.1.1 c_3.1.1) fun c_4 =>
 bif (Nat.beq c_4.1.1.length (List.replicate 12 0).length&&Nat.beq 12 (List.replicate 12 0).length) then bif Nat.beq 12 c_4.1.1.length then oB (yk.sh F c_4.1.1) fun c_5 =>
 bif c_5.1.1 then some (((-1),()),())
 else bif Nat.beq 12 c_4.1.1.length then bif (Nat.beq c_4.1.1.length (List.replicate 12 0).length&&Nat.beq c_4.1.1.length 12) then bif (c_4.1.1==List.replicate 12 0) then some ((0,()),())
 else some ((1,()),())
 else none
 else none
 else none
 else none
def yw.sp (F:Nat):TA yw.sg.args->Option yw.sg.R:=fun x=>yw.sh F x.1 x.2.1
@[reducible] def yG.sg:Sig:={args:=[.d (.g zo),.d (.c (.int .i64))],res:=[.c .bool]}
def yG.sh (F:Nat) (l:zo.T) (size:Int):Option yG.sg.R :=
 oB (yH.sh F l size) fun c_1 =>
 bif (c_1.1.2.1 != 0) then some ((true,()),())
 else oB (yw.sh F c_1.1.1 (4611686018427387904,0)) fun c_2 =>
 some ((decide (c_2.1.1>0),()),())
def yG.sp (F:Nat):TA yG.sg.args->Option yG.sg.R:=fun x=>yG.sh F x.1 x.2.1
@[reducible] def zD.sg:Sig:={args:=[.d (.b zj),.d (.c (.int .i64))],res:=[.c (.int .i64)]}
abbrev zD.l2.K0 (R:Type):Type:=(List zj.T)->Int->Int->Bool->Option R
abbrev zD.l2.T (R:Type):Type:=(List zj.T)->Int->Int->Option R
def zD.l2.body {R:Type} (F:Nat) (k0:zD.l2.K0 R) (rec:zD.l2.T R) (l:List zj.T) (q:Int) (i:Int):Option R :=
 bif decide (i<(i64.wrap ((l.length:Int)-1))) then bif idx (i64.wrap (i+1)) l.length then bif decide ((get zj l ((i64.wrap (i+1)).toNat)).1<=q) then rec l q (i64.wrap (i+1))
 else k0 l q i (decide ((get zj l ((i64.wrap (i+1)).toNat)).1<=q))
 else none
 else k0 l q i false
def zD.l2 {R:Type} (F:Nat) (k0:zD.l2.K0 R):Nat->zD.l2.T R
 | 0,_,_,_=>none
 | fu+1,l,q,i=>zD.l2.body F k0 (zD.l2 F k0 fu) l q i
def zD.sh (F:Nat) (l:List zj.T) (q:Int):Option zD.sg.R :=
 zD.l2 F (fun l1 q1 i1 t201=>some ((i1,()),())) F l q 0
def zD.sp (F:Nat):TA zD.sg.args->Option zD.sg.R:=fun x=>zD.sh F x.1 x.2.1
@[reducible] def yY.sg:Sig:={args:=[.d (.g zN),.d (.c (.int .i64))],res:=[.g zg,.c (.int .i64)]}
def yY.sh (F:Nat) (t:zN.T) (q:Int):Option yY.sg.R :=
 oB (zl.sh F t) fun c_1 =>
 bif !c_1.1.1 then some (((0,0),1,()),())
 else bif decide (q<0) then some (((0,0),1,()),())
 else bif decide (q>1099511627776) then some (((0,0),1,()),())
 else oB (zD.sh F t.2.2 q) fun c_2 =>
 bif idx c_2.1.1 t.2.2.length then oB (yg.sh F (get zj t.2.2 c_2.1.1.toNat).2 t.1 q) fun c_3 =>
 some ((c_3.1.1,c_3.1.2.1,()),())
 else none
def yY.sp (F:Nat):TA yY.sg.args->Option yY.sg.R:=fun x=>yY.sh F x.1 x.2.1
@[reducible] def yp.sg:Sig:={args:=[.d (.g zN),.d (.c (.int .i64))],res:=[.c .bool]}
def yp.sh (F:Nat) (t:zN.T) (q:Int):Option yp.sg.R :=
 oB (yY.sh F t q) fun c_1 =>
 oB (yY.sh F t (i64.wrap (q+1))) fun c_2 =>
 oB (yw.sh F c_1.1.1 c_2.1.1) fun c_3 =>
 some ((decide (c_3.1.1>0),()),())
def yp.sp (F:Nat):TA yp.sg.args->Option yp.sg.R:=fun x=>yp.sh F x.1 x.2.1
@[reducible] def zb.sg:Sig:={args:=[.d (.g zN)],res:=[.c .bool]}
abbrev zb.l11.K1 (R:Type):Type:=Int->Int->Int->Int->Bool->zN.T->Option R
abbrev zb.l11.T (R:Type):Type:=Int->Int->Int->Int->zN.T->Option R
def zb.l11.body {R:Type} (F:Nat) (k0:Bool->Option R) (k1:zb.l11.K1 R) (rec:zb.l11.T R) (i:Int) (lo:Int) (hi:Int) (q:Int) (t:zN.T):Option R :=
 bif decide (q<hi) then bif decide (q<(i64.wrap (lo+3))) then oB (yp.sh F t q) fun c_2 =>
 bif c_2.1.1 then k0 true
 else rec i lo hi (i64.wrap (q+1)) t
 else k1 i lo hi q (decide (q<(i64.wrap (lo+3)))) t
 else k1 i lo hi q false t
def zb.l11 {R:Type} (F:Nat) (k0:Bool->Option R) (k1:zb.l11.K1 R):Nat->zb.l11.T R
 | 0,_,_,_,_,_=>none
 | fu+1,i,lo,hi,q,t=>zb.l11.body F k0 k1 (zb.l11 F k0 k1 fu) i lo hi q t
abbrev zb.l17.K1 (R:Type):Type:=Int->Int->Int->Int->Int->Bool->zN.T->Option R
abbrev zb.l17.T (R:Type):Type:=Int->Int->Int->Int->Int->zN.T->Option R
def zb.l17.body {R:Type} (F:Nat) (k0:Bool->Option R) (k1:zb.l17.K1 R) (rec:zb.l17.T R) (i:Int) (lo:Int) (hi:Int) (edge:Int) (q:Int) (t:zN.T):Option R :=
 bif decide (q<=(i64.wrap (edge+2))) then bif decide (q>=lo) then bif decide (q<hi) then oB (yp.sh F t q) fun c_5 =>
 bif c_5.1.1 then k0 true
 else rec i lo hi edge (i64.wrap (q+1)) t
 else rec i lo hi edge (i64.wrap (q+1)) t
 else rec i lo hi edge (i64.wrap (q+1)) t
 else k1 i lo hi edge q (decide (q<=(i64.wrap (edge+2)))) t
def zb.l17 {R:Type} (F:Nat) (k0:Bool->Option R) (k1:zb.l17.K1 R):Nat->zb.l17.T R
 | 0,_,_,_,_,_,_=>none
 | fu+1,i,lo,hi,edge,q,t=>zb.l17.body F k0 k1 (zb.l17 F k0 k1 fu) i lo hi edge q t
def zb.j10 {R:Type} (F:Nat) (k0:Bool->Option R) (k1:Bool->Option R) (k2:Int->Int->Int->Int->Int->Bool->zN.T->Option R) (i:Int) (lo:Int) (hi:Int) (t:zN.T):Option R :=
 zb.l11 F (fun r23=>k0 r23) (fun i4 lo4 hi4 q4 t484 t4=>bif (t4.1 != 0) then zb.l17 F (fun r26=>k1 r26) (fun i7 lo7 hi7 edge7 q7 t677 t7=>k2 i7 lo7 hi7 edge7 q7 t677 t7) F i4 lo4 hi4 (i64.wrap ((i64.wrap ((i64.wrap (lo4.tdiv t4.1))+1))*t4.1)) (i64.wrap ((i64.wrap ((i64.wrap ((i64.wrap (lo4.tdiv t4.1))+1))*t4.1))-2)) t4
 else none) F i lo hi lo t
abbrev zb.l2.K3 (R:Type):Type:=Int->Bool->zN.T->Option R
abbrev zb.l2.T (R:Type):Type:=Int->zN.T->Option R
def zb.l2.body {R:Type} (F:Nat) (k0:Bool->Option R) (k1:Bool->Option R) (k2:Bool->Option R) (k3:zb.l2.K3 R) (rec:zb.l2.T R) (i:Int) (t:zN.T):Option R :=
 bif decide (i<(t.2.2.length:Int)) then bif idx i t.2.2.length then bif decide (i<(i64.wrap ((t.2.2.length:Int)-1))) then bif idx (i64.wrap (i+1)) t.2.2.length then oB (yp.sh F t (i64.wrap ((get zj t.2.2 ((i64.wrap (i+1)).toNat)).1-1))) fun c_1 =>
 bif c_1.1.1 then k0 true
 else zb.j10 F (fun r28=>k1 r28) (fun r29=>k2 r29) (fun i10 lo10 hi10 edge10 q10 t6710 t10=>rec (i64.wrap (i10+1)) t10) i (get zj t.2.2 i.toNat).1 (i64.wrap ((get zj t.2.2 ((i64.wrap (i+1)).toNat)).1-1)) t
 else none
 else zb.j10 F (fun r211=>k1 r211) (fun r212=>k2 r212) (fun i13 lo13 hi13 edge13 q13 t6713 t13=>rec (i64.wrap (i13+1)) t13) i (get zj t.2.2 i.toNat).1 1099511627776 t
 else none
 else k3 i (decide (i<(t.2.2.length:Int))) t
def zb.l2 {R:Type} (F:Nat) (k0:Bool->Option R) (k1:Bool->Option R) (k2:Bool->Option R) (k3:zb.l2.K3 R):Nat->zb.l2.T R
 | 0,_,_=>none
 | fu+1,i,t=>zb.l2.body F k0 k1 k2 k3 (zb.l2 F k0 k1 k2 k3 fu) i t
def zb.sh (F:Nat) (t:zN.T):Option zb.sg.R :=
 zb.l2 F (fun r214=>some ((r214,()),())) (fun r215=>some ((r215,()),())) (fun r216=>some ((r216,()),())) (fun i17 t1317 t17=>some ((false,()),())) F 0 t
def zb.sp (F:Nat):TA zb.sg.args->Option zb.sg.R:=fun x=>zb.sh F x.1
@[reducible] def zv.sg:Sig:={args:=[.d (.g zN)],res:=[.c (.int .i64),.c (.int .i64)]}
abbrev zv.l4.K1 (R:Type):Type:=Int->Bool->zN.T->Option R
abbrev zv.l4.T (R:Type):Type:=Int->zN.T->Option R
def zv.l4.body {R:Type} (F:Nat) (k0:Int->Int->Option R) (k1:zv.l4.K1 R) (rec:zv.l4.T R) (i:Int) (t:zN.T):Option R :=
 bif decide (i<(t.2.2.length:Int)) then bif idx i t.2.2.length then oB (yG.sh F (get zj t.2.2 i.toNat).2 t.1) fun c_2 =>
 bif c_2.1.1 then k0 0 10
 else rec (i64.wrap (i+1)) t
 else none
 else k1 i (decide (i<(t.2.2.length:Int))) t
def zv.l4 {R:Type} (F:Nat) (k0:Int->Int->Option R) (k1:zv.l4.K1 R):Nat->zv.l4.T R
 | 0,_,_=>none
 | fu+1,i,t=>zv.l4.body F k0 k1 (zv.l4 F k0 k1 fu) i t
def zv.sh (F:Nat) (t:zN.T):Option zv.sg.R :=
 oB (zl.sh F t) fun c_1 =>
 bif !c_1.1.1 then some ((0,1,()),())
 else zv.l4 F (fun r23 r33=>some ((r23,r33,()),())) (fun i4 t124 t4=>oB (zb.sh F t4) fun c_5 =>
 bif c_5.1.1 then some ((2,0,()),())
 else some ((1,0,()),())) F 0 t
def zv.sp (F:Nat):TA zv.sg.args->Option zv.sg.R:=fun x=>zv.sh F x.1
@[reducible] def zE.sg:Sig:={args:=[.d (.g zN)],res:=[.c .bool]}
def zE.sh (F:Nat) (t:zN.T):Option zE.sg.R :=
 oB (yx.sh F) fun c_1 =>
 bif !c_1.1.1 then some ((false,()),())
 else oB (zi.sh F t) fun c_2 =>
 oB (zv.sh F t) fun c_3 =>
 bif (c_2.1.2.1 != c_3.1.2.1) then some ((false,()),())
 else bif (c_2.1.1.1 != c_3.1.1) then some ((false,()),())
 else bif (c_3.1.1 != 2) then bif ((c_2.1.1.2.1.length:Int)==0) then some ((((c_2.1.1.2.2.length:Int)==0),()),())
 else some ((false,()),())
 else bif ((c_2.1.1.2.1.length:Int) != 1) then some ((false,()),())
 else bif ((c_2.1.1.2.2.length:Int) != 1) then some ((false,()),())
 else bif idx 0 c_2.1.1.2.1.length then bif idx 0 c_2.1.1.2.2.length then bif decide ((get (.int .i64) c_2.1.1.2.1 0)>=(get (.int .i64) c_2.1.1.2.2 0)) then some ((false,()),())
 else bif idx 0 c_2.1.1.2.1.length then oB (yC.sh F t (get (.int .i64) c_2.1.1.2.1 0)) fun c_4 =>
 bif idx 0 c_2.1.1.2.2.length then oB (yC.sh F t (get (.int .i64) c_2.1.1.2.2 0)) fun c_5 =>
 bif (c_4.1.2.1==0) then bif (c_5.1.2.1==0) then oB (xF.sh F c_4.1.1 c_5.1.1) fun c_6 =>
 some ((decide (c_6.1.1>0),()),())
 else some ((false,()),())
 else some ((false,()),())
 else none
 else none
 else none
 else none
def zE.sp (F:Nat):TA zE.sg.args->Option zE.sg.R:=fun x=>zE.sh F x.1
end Go.VS
