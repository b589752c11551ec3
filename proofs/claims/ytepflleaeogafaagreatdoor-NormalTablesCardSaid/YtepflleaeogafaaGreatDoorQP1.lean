import Derived.Test.YtepflleaeogafaaGreatDoorQH
set_option linter.unusedVariables false
set_option linter.unusedSimpArgs false
set_option linter.unusedSectionVars false
set_option linter.unusedVariables false
set_option maxRecDepth 100000
namespace Go.VS
open Go IntKind
@[reducible] def wQ.sg:Sig:={args:=[.d (.c (.sl zx))],res:=[.g yr]}
def wQ.sh (F:Nat) (nodes:List zx.T):Option wQ.sg.R :=
 some ((((⟨#[112]⟩:ByteArray),([((⟨#[97]⟩:ByteArray),10)]:List wV.T),0,nodes),()),())
def wQ.sp (F:Nat):TA wQ.sg.args->Option wQ.sg.R:=fun x=>wQ.sh F x.1
@[reducible] def wW.sg:Sig:={args:=[.d (.c (.int .u8))],res:=[.c .bool]}
def wW.sh (F:Nat) (c:Int):Option wW.sg.R :=
 bif decide (c>=97) then some ((decide (c<=122),()),())
 else some ((false,()),())
def wW.sp (F:Nat):TA wW.sg.args->Option wW.sg.R:=fun x=>wW.sh F x.1
@[reducible] def vZ.sg:Sig:={args:=[.d (.c (.int .u8))],res:=[.c .bool]}
def vZ.sh (F:Nat) (c:Int):Option vZ.sg.R :=
 bif decide (c>=48) then some ((decide (c<=57),()),())
 else some ((false,()),())
def vZ.sp (F:Nat):TA vZ.sg.args->Option vZ.sg.R:=fun x=>vZ.sh F x.1
@[reducible] def vL.sg:Sig:={args:=[.d (.c (.int .u8))],res:=[.c .bool]}
def vL.sh (F:Nat) (c:Int):Option vL.sg.R :=
 oB (wW.sh F c) fun c_1 =>
 bif c_1.1.1 then some ((true,()),())
 else oB (vZ.sh F c) fun c_2 =>
 bif c_2.1.1 then some ((true,()),())
 else some (((c==95),()),())
def vL.sp (F:Nat):TA vL.sg.args->Option vL.sg.R:=fun x=>vL.sh F x.1
@[reducible] def xA.sg:Sig:={args:=[.d (.c .str),.d (.c .fn)],res:=[.c (.int .i64)]}
@[reducible] def xA.ds15:Sig:={args:=[.d (.c (.int .u8))],res:=[.c .bool]}
def xA.d15 (F:Nat):Nat->TA xA.ds15.args->Option xA.ds15.R:=mkT xA.ds15 [(qM,vL.sp F),(qx,wW.sp F)]
abbrev xA.l2.K0 (R:Type):Type:=ByteArray->Nat->Int->Bool->Option R
abbrev xA.l2.T (R:Type):Type:=ByteArray->Nat->Int->Option R
def xA.l2.body {R:Type} (F:Nat) (k0:xA.l2.K0 R) (rec:xA.l2.T R) (s:ByteArray) (of:Nat) (n:Int):Option R :=
 bif decide (n<(s.size:Int)) then bif idx n s.size then oB (xA.d15 F of (bt s n,())) fun c_1 =>
 bif c_1.1.1 then rec s of (i64.wrap (n+1))
 else k0 s of n c_1.1.1
 else none
 else k0 s of n false
def xA.l2 {R:Type} (F:Nat) (k0:xA.l2.K0 R):Nat->xA.l2.T R
 | 0,_,_,_=>none
 | fu+1,s,of,n=>xA.l2.body F k0 (xA.l2 F k0 fu) s of n
def xA.sh (F:Nat) (s:ByteArray) (of_:Nat):Option xA.sg.R :=
 xA.l2 F (fun s2 of2 n2 t162=>some ((n2,()),())) F s of_ 0
def xA.sp (F:Nat):TA xA.sg.args->Option xA.sg.R:=fun x=>xA.sh F x.1 x.2.1
@[reducible] def ux.sg:Sig:={args:=[.d (.c .str)],res:=[.c .bool]}
def ux.sh (F:Nat) (s:ByteArray):Option ux.sg.R :=
 bif !(s.toList==(⟨#[]⟩:ByteArray).toList) then oB (xA.sh F s qx) fun c_1 =>
 bif (c_1.1.1==(s.size:Int)) then bif Nat.ble ((⟨#[32]⟩:ByteArray).size+s.size) vc then bif Nat.ble (((⟨#[32]⟩:ByteArray)++s).size+(⟨#[32]⟩:ByteArray).size) vc then oB (wM.sh F (⟨#[32,112,108,97,110,32,114,111,117,110,100,32,98,121,32,98,108,111,99,107,115,32,109,105,110,32,109,97,120,32,111,118,101,114,32,117,112,116,111,32,103,114,97,100,117,97,116,101,100,32,118,111,108,117,109,101,32,111,102,102,32,105,102,32,102,108,111,111,114,32,99,101,105,108,32,122,101,114,111,32,104,97,108,102,32,101,118,101,110,32]⟩:ByteArray) (((⟨#[32]⟩:ByteArray)++s)++(⟨#[32]⟩:ByteArray))) fun c_2 =>
 some ((c_2.1.1,()),())
 else none
 else none
 else some ((false,()),())
 else some ((false,()),())
def ux.sp (F:Nat):TA ux.sg.args->Option ux.sg.R:=fun x=>ux.sh F x.1
@[reducible] def uf.sg:Sig:={args:=[.d (.c .str)],res:=[.c .bool]}
def uf.sh (F:Nat) (s:ByteArray):Option uf.sg.R :=
 bif !(s.toList==(⟨#[]⟩:ByteArray).toList) then bif decide ((s.size:Int)<=32) then bif idx 0 s.size then oB (wW.sh F (bt s 0)) fun c_1 =>
 bif c_1.1.1 then oB (xA.sh F s qM) fun c_2 =>
 bif (c_2.1.1==(s.size:Int)) then oB (ux.sh F s) fun c_3 =>
 some ((!c_3.1.1,()),())
 else some ((false,()),())
 else some ((false,()),())
 else none
 else some ((false,()),())
 else some ((false,()),())
def uf.sp (F:Nat):TA uf.sg.args->Option uf.sg.R:=fun x=>uf.sh F x.1
@[reducible] def vr.sg:Sig:={args:=[.d (.g wV),.d (.p wV)],res:=[.c .bool]}
def vr.sh (F:Nat) (e:wV.T) (t1:wV.T):Option vr.sg.R :=
 some (((e.1.toList==t1.1.toList),()),())
def vr.sp (F:Nat):TA vr.sg.args->Option vr.sg.R:=fun x=>vr.sh F x.1 x.2.1
@[reducible] def zt.sg:Sig:={args:=[.d (.b wV),.d (.cl wV)],res:=[.c (.int .i64)]}
@[reducible] def zt.ds16:Sig:={args:=[.d (.g wV),.d (.p wV)],res:=[.c .bool]}
def zt.d16 (F:Nat):Nat->TA zt.ds16.args->Option zt.ds16.R:=mkT zt.ds16 [(X3,vr.sp F)]
abbrev zt.l2.K1 (R:Type):Type:=(List wV.T)->(Nat×wV.T)->Int->Int->Bool->Option R
abbrev zt.l2.T (R:Type):Type:=(List wV.T)->(Nat×wV.T)->Int->Int->Option R
def zt.l2.body {R:Type} (F:Nat) (k0:Int->Option R) (k1:zt.l2.K1 R) (rec:zt.l2.T R) (s:List wV.T) (f:Nat×wV.T) (t7:Int) (t8:Int):Option R :=
 bif decide (t8<t7) then bif idx t8 s.length then oB (zt.d16 F (f.1+1) ((get wV s t8.toNat),f.2,())) fun c_1 =>
 bif c_1.1.1 then k0 t8
 else rec s (f.1,f.2) t7 (i64.wrap (t8+1))
 else none
 else k1 s (f.1,f.2) t7 t8 (decide (t8<t7))
def zt.l2 {R:Type} (F:Nat) (k0:Int->Option R) (k1:zt.l2.K1 R):Nat->zt.l2.T R
 | 0,_,_,_,_=>none
 | fu+1,s,f,t7,t8=>zt.l2.body F k0 k1 (zt.l2 F k0 k1 fu) s f t7 t8
def zt.sh (F:Nat) (s:List wV.T) (f:Nat×wV.T):Option zt.sg.R :=
 zt.l2 F (fun r42=>some ((r42,()),())) (fun s3 f3 t73 t83 t93=>some (((-1),()),())) F s (f.1,f.2) (s.length:Int) 0
def zt.sp (F:Nat):TA zt.sg.args->Option zt.sg.R:=fun x=>zt.sh F x.1 x.2.1
@[reducible] def y4.sg:Sig:={args:=[.d (.b wV),.d (.cl wV)],res:=[.c .bool]}
def y4.sh (F:Nat) (s:List wV.T) (f:Nat×wV.T):Option y4.sg.R :=
 oB (zt.sh F s (f.1,f.2)) fun c_1 =>
 some ((decide (c_1.1.1>=0),()),())
def y4.sp (F:Nat):TA y4.sg.args->Option y4.sg.R:=fun x=>y4.sh F x.1 x.2.1
@[reducible] def xg.sg:Sig:={args:=[.d (.g yr)],res:=[.c (.int .i64)]}
abbrev xg.l6.K2 (R:Type):Type:=(List wV.T)->Int->Int->Bool->yr.T->Option R
abbrev xg.l6.T (R:Type):Type:=(List wV.T)->Int->Int->yr.T->Option R
def xg.l6.body {R:Type} (F:Nat) (k0:Int->Option R) (k1:Int->Option R) (k2:xg.l6.K2 R) (rec:xg.l6.T R) (t21:List wV.T) (t22:Int) (t23:Int) (p:yr.T):Option R :=
 bif decide (t23<t22) then bif idx t23 t21.length then oB (uf.sh F (get wV t21 t23.toNat).1) fun c_2 =>
 bif !c_2.1.1 then k0 61
 else bif (zI p.2.1.length none (some t23)).1 then oB (y4.sh F ((p.2.1.take (zI p.2.1.length none (some t23)).2.2).drop (zI p.2.1.length none (some t23)).2.1) (tD,(get wV t21 t23.toNat))) fun c_3 =>
 bif c_3.1.1 then k0 61
 else bif decide ((get wV t21 t23.toNat).2<1) then k1 50
 else bif decide ((get wV t21 t23.toNat).2>1000000000000) then k1 50
 else rec t21 t22 (i64.wrap (t23+1)) p
 else none
 else none
 else k2 t21 t22 t23 (decide (t23<t22)) p
def xg.l6 {R:Type} (F:Nat) (k0:Int->Option R) (k1:Int->Option R) (k2:xg.l6.K2 R):Nat->xg.l6.T R
 | 0,_,_,_,_=>none
 | fu+1,t21,t22,t23,p=>xg.l6.body F k0 k1 k2 (xg.l6 F k0 k1 k2 fu) t21 t22 t23 p
def xg.sh (F:Nat) (p:yr.T):Option xg.sg.R :=
 oB (uf.sh F p.1) fun c_1 =>
 bif !c_1.1.1 then some ((61,()),())
 else bif decide ((p.2.1.length:Int)<1) then some ((100,()),())
 else bif decide ((p.2.1.length:Int)>4) then some ((100,()),())
 else xg.l6 F (fun r24=>some ((r24,()),())) (fun r25=>some ((r25,()),())) (fun t216 t226 t236 t246 p6=>bif decide (p6.2.2.1<0) then some ((50,()),())
 else bif decide (p6.2.2.1>4) then some ((50,()),())
 else some ((0,()),())) F p.2.1 (p.2.1.length:Int) 0 p
def xg.sp (F:Nat):TA xg.sg.args->Option xg.sg.R:=fun x=>xg.sh F x.1
@[reducible] def wK.sg:Sig:={args:=[.d (.g zx)],res:=[.c (.int .i64)]}
def wK.sh (F:Nat) (n:zx.T):Option wK.sg.R :=
 bif idx n.1 17 then bif decide ((get vg qu n.1.toNat).1>=0) then some (((get vg qu n.1.toNat).1,()),())
 else some ((n.2.2.2.1,()),())
 else none
def wK.sp (F:Nat):TA wK.sg.args->Option wK.sg.R:=fun x=>wK.sh F x.1
@[reducible] def yA.sg:Sig:={args:=[.d (.b yp)],res:=[.c .bool]}
abbrev yA.l4.K1 (R:Type):Type:=(List yp.T)->(List yp.T)->Int->Int->Bool->Option R
abbrev yA.l4.T (R:Type):Type:=(List yp.T)->(List yp.T)->Int->Int->Option R
def yA.l4.body {R:Type} (F:Nat) (k0:Bool->Option R) (k1:yA.l4.K1 R) (rec:yA.l4.T R) (tiers:List yp.T) (t20:List yp.T) (t21:Int) (t22:Int):Option R :=
 bif decide (t22<t21) then bif idx t22 t20.length then bif decide (t22>0) then bif idx (i64.wrap (t22-1)) tiers.length then bif decide ((get yp t20 t22.toNat).1<=(get yp tiers ((i64.wrap (t22-1)).toNat)).1) then k0 false
 else bif decide ((get yp t20 t22.toNat).1>1000000000000) then k0 false
 else bif decide ((get yp t20 t22.toNat).2<(-1000000000000)) then k0 false
 else bif decide ((get yp t20 t22.toNat).2>1000000000000) then k0 false
 else rec tiers t20 t21 (i64.wrap (t22+1))
 else none
 else bif decide ((get yp t20 t22.toNat).1>1000000000000) then k0 false
 else bif decide ((get yp t20 t22.toNat).2<(-1000000000000)) then k0 false
 else bif decide ((get yp t20 t22.toNat).2>1000000000000) then k0 false
 else rec tiers t20 t21 (i64.wrap (t22+1))
 else none
 else k1 tiers t20 t21 t22 (decide (t22<t21))
def yA.l4 {R:Type} (F:Nat) (k0:Bool->Option R) (k1:yA.l4.K1 R):Nat->yA.l4.T R
 | 0,_,_,_,_=>none
 | fu+1,tiers,t20,t21,t22=>yA.l4.body F k0 k1 (yA.l4 F k0 k1 fu) tiers t20 t21 t22
def yA.sh (F:Nat) (tiers:List yp.T):Option yA.sg.R :=
 bif decide ((tiers.length:Int)<1) then some ((false,()),())
 else bif decide ((tiers.length:Int)>16) then some ((false,()),())
 else bif idx 0 tiers.length then bif ((get yp tiers 0).1 != 0) then some ((false,()),())
 else yA.l4 F (fun r21=>some ((r21,()),())) (fun tiers2 t202 t212 t222 t232=>some ((true,()),())) F tiers tiers (tiers.length:Int) 0
 else none
def yA.sp (F:Nat):TA yA.sg.args->Option yA.sg.R:=fun x=>yA.sh F x.1
@[reducible] def yZ.sg:Sig:={args:=[.d (.g zx),.d (.c (.int .i64)),.d (.c (.int .i64))],res:=[.c (.int .i64)]}
def yZ.j13 {R:Type} (F:Nat) (k0:Int->Option R) (k1:Int->Option R) (k2:Int->Option R) (pile:Int) (most:Int) (kids:Bool) (op:Bool) (n:zx.T) (k:vg.T):Option R :=
 bif decide (n.2.1<0) then k0 50
 else bif decide (n.2.1>most) then k0 50
 else bif !kids then k0 50
 else bif !op then k0 50
 else bif !k.2.2.1 then bif decide ((n.2.2.2.2.1.length:Int)>0) then k0 50
 else oB (wK.sh F n) fun c_1 =>
 bif decide (pile<c_1.1.1) then k0 50
 else bif k.2.2.1 then oB (yA.sh F n.2.2.2.2.1) fun c_2 =>
 bif !c_2.1.1 then k1 51
 else k2 0
 else k2 0
 else oB (wK.sh F n) fun c_3 =>
 bif decide (pile<c_3.1.1) then k0 50
 else bif k.2.2.1 then oB (yA.sh F n.2.2.2.2.1) fun c_4 =>
 bif !c_4.1.1 then k1 51
 else k2 0
 else k2 0
def yZ.j10 {R:Type} (F:Nat) (k0:Int->Option R) (k1:Int->Option R) (k2:Int->Option R) (pile:Int) (most:Int) (kids:Bool) (n:zx.T) (k:vg.T):Option R :=
 bif k.2.2.2 then bif decide (n.2.2.1>=1) then yZ.j13 F (fun r65=>k0 r65) (fun r66=>k1 r66) (fun r67=>k2 r67) pile most kids (decide (n.2.2.1<=6)) n k
 else yZ.j13 F (fun r68=>k0 r68) (fun r69=>k1 r69) (fun r610=>k2 r610) pile most kids false n k
 else yZ.j13 F (fun r611=>k0 r611) (fun r612=>k1 r612) (fun r613=>k2 r613) pile most kids (n.2.2.1==0) n k
def yZ.j7 {R:Type} (F:Nat) (k0:Int->Option R) (k1:Int->Option R) (k2:Int->Option R) (pile:Int) (most:Int) (n:zx.T) (k:vg.T):Option R :=
 bif decide (k.1<0) then bif decide (n.2.2.2.1>=2) then yZ.j10 F (fun r614=>k0 r614) (fun r615=>k1 r615) (fun r616=>k2 r616) pile most (decide (n.2.2.2.1<=16)) n k
 else yZ.j10 F (fun r617=>k0 r617) (fun r618=>k1 r618) (fun r619=>k2 r619) pile most false n k
 else yZ.j10 F (fun r620=>k0 r620) (fun r621=>k1 r621) (fun r622=>k2 r622) pile most (n.2.2.2.1==0) n k
def yZ.sh (F:Nat) (n:zx.T) (dims:Int) (pile:Int):Option yZ.sg.R :=
 bif decide (n.1<1) then some ((50,()),())
 else bif decide (n.1>16) then some ((50,()),())
 else bif idx n.1 17 then bif decide ((get vg qu n.1.toNat).2.1<0) then yZ.j7 F (fun r623=>some ((r623,()),())) (fun r624=>some ((r624,()),())) (fun r625=>some ((r625,()),())) pile (i64.wrap (dims-1)) n (get vg qu n.1.toNat)
 else yZ.j7 F (fun r626=>some ((r626,()),())) (fun r627=>some ((r627,()),())) (fun r628=>some ((r628,()),())) pile (get vg qu n.1.toNat).2.1 n (get vg qu n.1.toNat)
 else none
def yZ.sp (F:Nat):TA yZ.sg.args->Option yZ.sg.R:=fun x=>yZ.sh F x.1 x.2.1 x.2.2.1
@[reducible] def yF.sg:Sig:={args:=[.d (.g yr)],res:=[.c (.int .i64),.c (.int .i64)]}
abbrev yF.l8.K1 (R:Type):Type:=Int->(List zx.T)->Int->Int->Bool->yr.T->Option R
abbrev yF.l8.T (R:Type):Type:=Int->(List zx.T)->Int->Int->yr.T->Option R
def yF.l8.body {R:Type} (F:Nat) (k0:Int->Int->Option R) (k1:yF.l8.K1 R) (rec:yF.l8.T R) (pile:Int) (t19:List zx.T) (t20:Int) (t21:Int) (p:yr.T):Option R :=
 bif decide (t21<t20) then bif idx t21 t19.length then oB (yZ.sh F (get zx t19 t21.toNat) (p.2.1.length:Int) pile) fun c_2 =>
 bif (c_2.1.1 != 0) then k0 t21 c_2.1.1
 else oB (wK.sh F (get zx t19 t21.toNat)) fun c_3 =>
 rec (i64.wrap (pile+(i64.wrap (1-c_3.1.1)))) t19 t20 (i64.wrap (t21+1)) p
 else none
 else k1 pile t19 t20 t21 (decide (t21<t20)) p
def yF.l8 {R:Type} (F:Nat) (k0:Int->Int->Option R) (k1:yF.l8.K1 R):Nat->yF.l8.T R
 | 0,_,_,_,_,_=>none
 | fu+1,pile,t19,t20,t21,p=>yF.l8.body F k0 k1 (yF.l8 F k0 k1 fu) pile t19 t20 t21 p
def yF.sh (F:Nat) (p:yr.T):Option yF.sg.R :=
 oB (xg.sh F p) fun c_1 =>
 bif (c_1.1.1 != 0) then some (((-1),c_1.1.1,()),())
 else bif decide ((p.2.2.2.length:Int)>1024) then some ((1024,2,()),())
 else yF.l8 F (fun r24 r34=>some ((r24,r34,()),())) (fun pile5 t195 t205 t215 t225 p5=>bif (pile5 != 1) then some (((p5.2.2.2.length:Int),50,()),())
 else some ((0,0,()),())) F 0 p.2.2.2 (p.2.2.2.length:Int) 0 p
def yF.sp (F:Nat):TA yF.sg.args->Option yF.sg.R:=fun x=>yF.sh F x.1
@[reducible] def yf.sg:Sig:={args:=[.d (.g yr)],res:=[.c (.sl (.int .i64))]}
abbrev yf.l3.K0 (R:Type):Type:=(List zx.T)->Int->Int->Bool->(List Int)->(List Int)->Option R
abbrev yf.l3.T (R:Type):Type:=(List zx.T)->Int->Int->(List Int)->(List Int)->Option R
def yf.l3.body {R:Type} (F:Nat) (k0:yf.l3.K0 R) (rec:yf.l3.T R) (t10:List zx.T) (t11:Int) (t12:Int) (list:List Int) (pile:List Int):Option R :=
 bif decide (t12<t11) then bif idx t12 t10.length then oB (wK.sh F (get zx t10 t12.toNat)) fun c_1 =>
 bif decide (c_1.1.1>0) then bif idx (i64.wrap ((pile.length:Int)-c_1.1.1)) pile.length then bif (zI pile.length none (some (i64.wrap ((pile.length:Int)-c_1.1.1)))).1 then bif Nat.ble ((pile.take (zI pile.length none (some (i64.wrap ((pile.length:Int)-c_1.1.1)))).2.2).length+([get (.int .i64) pile ((i64.wrap ((pile.length:Int)-c_1.1.1)).toNat)]:List Int).length) vc then bif Nat.ble (list.length+([get (.int .i64) pile ((i64.wrap ((pile.length:Int)-c_1.1.1)).toNat)]:List Int).length) vc then rec t10 t11 (i64.wrap (t12+1)) (list++([get (.int .i64) pile ((i64.wrap ((pile.length:Int)-c_1.1.1)).toNat)]:List Int)) ((pile.take (zI pile.length none (some (i64.wrap ((pile.length:Int)-c_1.1.1)))).2.2)++([get (.int .i64) pile ((i64.wrap ((pile.length:Int)-c_1.1.1)).toNat)]:List Int))
 else none
 else none
 else none
 else none
 else bif Nat.ble (pile.length+([t12]:List Int).length) vc then bif Nat.ble (list.length+([t12]:List Int).length) vc then rec t10 t11 (i64.wrap (t12+1)) (list++([t12]:List Int)) (pile++([t12]:List Int))
 else none
 else none
 else none
 else k0 t10 t11 t12 (decide (t12<t11)) list pile
def yf.l3 {R:Type} (F:Nat) (k0:yf.l3.K0 R):Nat->yf.l3.T R
 | 0,_,_,_,_,_=>none
 | fu+1,t10,t11,t12,list,pile=>yf.l3.body F k0 (yf.l3 F k0 fu) t10 t11 t12 list pile
def yf.j13 {R:Type} (F:Nat) (k0:(List Int)->Option R) (list:List Int):Option R :=
 k0 list
def yf.sh (F:Nat) (p:yr.T):Option yf.sg.R :=
 yf.l3 F (fun t102 t112 t122 t132 list2 pile2=>yf.j13 F (fun r23=>some ((r23,()),())) list2) F p.2.2.2 (p.2.2.2.length:Int) 0 ([]) ([])
def yf.sp (F:Nat):TA yf.sg.args->Option yf.sg.R:=fun x=>yf.sh F x.1
@[reducible] def vA.sg:Sig:={args:=[.d (.g yr)],res:=[.c (.sl (.int .i64)),.c (.int .i64)]}
def vA.sh (F:Nat) (p:yr.T):Option vA.sg.R :=
 oB (yF.sh F p) fun c_1 =>
 bif (c_1.1.2.1 != 0) then some (([],c_1.1.2.1,()),())
 else oB (yf.sh F p) fun c_2 =>
 some ((c_2.1.1,0,()),())
def vA.sp (F:Nat):TA vA.sg.args->Option vA.sg.R:=fun x=>vA.sh F x.1
@[reducible] def zV.sg:Sig:={args:=[.d (.g yr)],res:=[.c (.sl .bool),.c (.int .i64)]}
abbrev zV.l7.K0 (R:Type):Type:=(List Int)->Int->(List zx.T)->Int->Int->Bool->(List Bool)->Option R
abbrev zV.l7.T (R:Type):Type:=(List Int)->Int->(List zx.T)->Int->Int->(List Bool)->Option R
def zV.l7.body {R:Type} (F:Nat) (k0:zV.l7.K0 R) (rec:zV.l7.T R) (list:List Int) (last:Int) (t22:List zx.T) (t23:Int) (t24:Int) (out:List Bool):Option R :=
 bif decide (t24<t23) then bif idx t24 t22.length then bif ((get zx t22 t24.toNat).1==3) then bif idx t24 list.length then bif idx t24 out.length then rec list t24 t22 t23 (i64.wrap (t24+1)) (out.set t24.toNat (decide (t24<(get (.int .i64) list t24.toNat))))
 else none
 else none
 else bif ((get zx t22 t24.toNat).1==4) then bif idx t24 list.length then bif idx t24 out.length then rec list t24 t22 t23 (i64.wrap (t24+1)) (out.set t24.toNat (decide (t24<(get (.int .i64) list t24.toNat))))
 else none
 else none
 else bif idx t24 list.length then bif idx t24 out.length then rec list last t22 t23 (i64.wrap (t24+1)) (out.set t24.toNat (decide (last<(get (.int .i64) list t24.toNat))))
 else none
 else none
 else none
 else k0 list last t22 t23 t24 (decide (t24<t23)) out
def zV.l7 {R:Type} (F:Nat) (k0:zV.l7.K0 R):Nat->zV.l7.T R
 | 0,_,_,_,_,_,_=>none
 | fu+1,list,last,t22,t23,t24,out=>zV.l7.body F k0 (zV.l7 F k0 fu) list last t22 t23 t24 out
def zV.j13 {R:Type} (F:Nat) (k0:(List Bool)->Int->Option R) (out:List Bool):Option R :=
 k0 out 0
def zV.sh (F:Nat) (p:yr.T):Option zV.sg.R :=
 oB (vA.sh F p) fun c_1 =>
 bif (c_1.1.2.1 != 0) then some (([],c_1.1.2.1,()),())
 else bif (decide (0<=(c_1.1.1.length:Int))&&decide ((c_1.1.1.length:Int)<=(c_1.1.1.length:Int))&&decide ((c_1.1.1.length:Int)<=(vc:Int))) then zV.l7 F (fun list2 last2 t222 t232 t242 t252 out2=>zV.j13 F (fun r23 r33=>some ((r23,r33,()),())) out2) F c_1.1.1 (-1) p.2.2.2 (p.2.2.2.length:Int) 0 (Z3 .bool ((c_1.1.1.length:Int).toNat))
 else none
def zV.sp (F:Nat):TA zV.sg.args->Option zV.sg.R:=fun x=>zV.sh F x.1
@[reducible] def vH.sg:Sig:={args:=[.d (.c (.int .i64))],res:=[.c .fn,.c (.int .i64)]}
def vH.sh (F:Nat) (kind:Int):Option vH.sg.R :=
 bif idx kind (([Ty.dflt (.pair .fn (.int .i64)),(uW,0),(ta,0),(ur,0),(uD,0),(yI,1),(yI,2),(yI,2),(uy,2),(yI,(-1)),(yI,(-1)),(w9,1),(w9,1),(vf,1),(vf,1),(uZ,1),(uU,3)]:List (Nat×Int)).length) then bif idx kind (([Ty.dflt (.pair .fn (.int .i64)),(uW,0),(ta,0),(ur,0),(uD,0),(yI,1),(yI,2),(yI,2),(uy,2),(yI,(-1)),(yI,(-1)),(w9,1),(w9,1),(vf,1),(vf,1),(uZ,1),(uU,3)]:List (Nat×Int)).length) then some (((get (.pair .fn (.int .i64)) ([Ty.dflt (.pair .fn (.int .i64)),(uW,0),(ta,0),(ur,0),(uD,0),(yI,1),(yI,2),(yI,2),(uy,2),(yI,(-1)),(yI,(-1)),(w9,1),(w9,1),(vf,1),(vf,1),(uZ,1),(uU,3)]:List (Nat×Int)) kind.toNat).1,(get (.pair .fn (.int .i64)) ([Ty.dflt (.pair .fn (.int .i64)),(uW,0),(ta,0),(ur,0),(uD,0),(yI,1),(yI,2),(yI,2),(uy,2),(yI,(-1)),(yI,(-1)),(w9,1),(w9,1),(vf,1),(vf,1),(uZ,1),(uU,3)]:List (Nat×Int)) kind.toNat).2,()),())
 else none
 else none
def vH.sp (F:Nat):TA vH.sg.args->Option vH.sg.R:=fun x=>vH.sh F x.1
@[reducible] def ya.sg:Sig:={args:=[.d (.g xM),.d (.c (.int .i64))],res:=[.c (.int .i64)]}
abbrev ya.l2.K1 (R:Type):Type:=Int->(List Int)->Int->Int->Bool->xM.T->Option R
abbrev ya.l2.T (R:Type):Type:=Int->(List Int)->Int->Int->xM.T->Option R
def ya.l2.body {R:Type} (F:Nat) (k0:Int->Option R) (k1:ya.l2.K1 R) (rec:ya.l2.T R) (from_:Int) (t10:List Int) (t11:Int) (t12:Int) (n:xM.T):Option R :=
 bif decide (t12<t11) then bif idx t12 t10.length then bif idx from_ n.2.1.length then bif ((get (.int .i64) t10 t12.toNat) != (get (.int .i64) n.2.1 from_.toNat)) then k0 (-1)
 else rec from_ t10 t11 (i64.wrap (t12+1)) n
 else none
 else none
 else k1 from_ t10 t11 t12 (decide (t12<t11)) n
def ya.l2 {R:Type} (F:Nat) (k0:Int->Option R) (k1:ya.l2.K1 R):Nat->ya.l2.T R
 | 0,_,_,_,_,_=>none
 | fu+1,from_,t10,t11,t12,n=>ya.l2.body F k0 k1 (ya.l2 F k0 k1 fu) from_ t10 t11 t12 n
def ya.sh (F:Nat) (n:xM.T) (from_:Int):Option ya.sg.R :=
 bif (zI n.2.1.length (some from_) none).1 then ya.l2 F (fun r41=>some ((r41,()),())) (fun from_2 t102 t112 t122 t132 n2=>bif idx from_2 n2.2.1.length then some ((get (.int .i64) n2.2.1 from_2.toNat,()),())
 else none) F from_ ((n.2.1.take (zI n.2.1.length (some from_) none).2.2).drop (zI n.2.1.length (some from_) none).2.1) (((n.2.1.take (zI n.2.1.length (some from_) none).2.2).drop (zI n.2.1.length (some from_) none).2.1).length:Int) 0 n
 else none
def ya.sp (F:Nat):TA ya.sg.args->Option ya.sg.R:=fun x=>ya.sh F x.1 x.2.1
@[reducible] def xE.sg:Sig:={args:=[.d (.g xM)],res:=[.c (.int .i64)]}
def xE.sh (F:Nat) (n:xM.T):Option xE.sg.R :=
 oB (ya.sh F n 0) fun c_1 =>
 some ((c_1.1.1,()),())
def xE.sp (F:Nat):TA xE.sg.args->Option xE.sg.R:=fun x=>xE.sh F x.1
@[reducible] def x9.sg:Sig:={args:=[.d (.g xM)],res:=[.c (.int .i64)]}
def x9.sh (F:Nat) (n:xM.T):Option x9.sg.R :=
 some ((i64.wrap (3+(i64.wrap (2*n.1.2.1))),()),())
def x9.sp (F:Nat):TA x9.sg.args->Option x9.sg.R:=fun x=>x9.sh F x.1
@[reducible] def wA.sg:Sig:={args:=[.d (.c (.int .i64))],res:=[.c .bool]}
def wA.sh (F:Nat) (t:Int):Option wA.sg.R :=
 some ((decide (t>=2),()),())
def wA.sp (F:Nat):TA wA.sg.args->Option wA.sg.R:=fun x=>wA.sh F x.1
@[reducible] def xB.sg:Sig:={args:=[.d (.g xM)],res:=[.c (.int .i64)]}
def xB.sh (F:Nat) (n:xM.T):Option xB.sg.R :=
 bif idx 0 n.2.1.length then oB (wA.sh F (get (.int .i64) n.2.1 0)) fun c_1 =>
 bif c_1.1.1 then bif idx 0 n.2.1.length then some ((get (.int .i64) n.2.1 0,()),())
 else none
 else some (((-1),()),())
 else none
def xB.sp (F:Nat):TA xB.sg.args->Option xB.sg.R:=fun x=>xB.sh F x.1
@[reducible] def wZ.sg:Sig:={args:=[.d (.g xM)],res:=[.c (.int .i64)]}
def wZ.sh (F:Nat) (n:xM.T):Option wZ.sg.R :=
 some ((1,()),())
def wZ.sp (F:Nat):TA wZ.sg.args->Option wZ.sg.R:=fun x=>wZ.sh F x.1
@[reducible] def wR.sg:Sig:={args:=[.d (.g xM)],res:=[.c (.int .i64)]}
def wR.sh (F:Nat) (n:xM.T):Option wR.sg.R :=
 some ((0,()),())
def wR.sp (F:Nat):TA wR.sg.args->Option wR.sg.R:=fun x=>wR.sh F x.1
@[reducible] def wN.sg:Sig:={args:=[.d (.g xM)],res:=[.c (.int .i64)]}
def wN.sh (F:Nat) (n:xM.T):Option wN.sg.R :=
 bif idx 0 n.2.1.length then bif ((get (.int .i64) n.2.1 0)==1) then some ((1,()),())
 else some (((-1),()),())
 else none
def wN.sp (F:Nat):TA wN.sg.args->Option wN.sg.R:=fun x=>wN.sh F x.1
@[reducible] def xQ.sg:Sig:={args:=[.d (.g xM)],res:=[.c (.int .i64)]}
def xQ.sh (F:Nat) (n:xM.T):Option xQ.sg.R :=
 bif idx 0 n.2.1.length then oB (wA.sh F (get (.int .i64) n.2.1 0)) fun c_1 =>
 bif c_1.1.1 then some ((1,()),())
 else some (((-1),()),())
 else none
def xQ.sp (F:Nat):TA xQ.sg.args->Option xQ.sg.R:=fun x=>xQ.sh F x.1
@[reducible] def xL.sg:Sig:={args:=[.d (.g xM)],res:=[.c (.int .i64)]}
def xL.sh (F:Nat) (n:xM.T):Option xL.sg.R :=
 bif idx 0 n.2.1.length then bif idx 1 n.2.1.length then bif ((get (.int .i64) n.2.1 0)==0) then some ((get (.int .i64) n.2.1 1,()),())
 else bif ((get (.int .i64) n.2.1 1)==0) then some ((get (.int .i64) n.2.1 0,()),())
 else oB (wA.sh F (get (.int .i64) n.2.1 0)) fun c_1 =>
 bif c_1.1.1 then bif ((get (.int .i64) n.2.1 1)==1) then bif ((get (.int .i64) n.2.1 1)==1) then some ((1,()),())
 else some (((-1),()),())
 else oB (wA.sh F (get (.int .i64) n.2.1 1)) fun c_2 =>
 bif c_2.1.1 then bif ((get (.int .i64) n.2.1 0)==1) then some ((1,()),())
 else some (((-1),()),())
 else some (((-1),()),())
 else oB (wA.sh F (get (.int .i64) n.2.1 1)) fun c_3 =>
 bif c_3.1.1 then bif ((get (.int .i64) n.2.1 0)==1) then some ((1,()),())
 else some (((-1),()),())
 else some (((-1),()),())
 else none
 else none
def xL.sp (F:Nat):TA xL.sg.args->Option xL.sg.R:=fun x=>xL.sh F x.1
@[reducible] def xH.sg:Sig:={args:=[.d (.g xM)],res:=[.c (.int .i64)]}
def xH.sh (F:Nat) (n:xM.T):Option xH.sg.R :=
 some ((i64.wrap (2+(i64.wrap (2*n.1.2.1))),()),())
def xH.sp (F:Nat):TA xH.sg.args->Option xH.sg.R:=fun x=>xH.sh F x.1
@[reducible] def wD.sg:Sig:={args:=[.d (.g xM)],res:=[.c (.int .i64)]}
def wD.sh (F:Nat) (n:xM.T):Option wD.sg.R :=
 bif idx 0 n.2.1.length then oB (wA.sh F (get (.int .i64) n.2.1 0)) fun c_1 =>
 bif c_1.1.1 then oB (ya.sh F n 1) fun c_2 =>
 some ((c_2.1.1,()),())
 else some (((-1),()),())
 else none
def wD.sp (F:Nat):TA wD.sg.args->Option wD.sg.R:=fun x=>wD.sh F x.1
@[reducible] def zE.sg:Sig:={args:=[.d (.g yr)],res:=[.c (.sl (.int .i64)),.c (.int .i64),.c (.int .i64)]}
@[reducible] def zE.ds63:Sig:={args:=[.d (.g xM)],res:=[.c (.int .i64)]}
def zE.d63 (F:Nat):Nat->TA zE.ds63.args->Option zE.ds63.R:=mkT zE.ds63 [(yI,xE.sp F),(uD,x9.sp F),(w9,xB.sp F),(ta,wZ.sp F),(uW,wR.sp F),(uZ,wN.sp F),(vf,xQ.sp F),(uy,xL.sp F),(ur,xH.sp F),(uU,wD.sp F)]
abbrev zE.l8.K0 (R:Type):Type:=(List Int)->Int->Int->Option R
abbrev zE.l8.K1 (R:Type):Type:=(List Int)->Int->Int->Option R
abbrev zE.l8.K2 (R:Type):Type:=(List Bool)->(List zx.T)->Int->Int->Bool->(List Int)->(List Int)->(List Bool)->Option R
abbrev zE.l8.T (R:Type):Type:=(List Bool)->(List zx.T)->Int->Int->(List Int)->(List Int)->(List Bool)->Option R
def zE.l8.body {R:Type} (F:Nat) (k0:zE.l8.K0 R) (k1:zE.l8.K1 R) (k2:zE.l8.K2 R) (rec:zE.l8.T R) (fixed:List Bool) (t33:List zx.T) (t34:Int) (t35:Int) (types:List Int) (pile:List Int) (fix:List Bool):Option R :=
 bif decide (t35<t34) then bif idx t35 t33.length then oB (vH.sh F (get zx t33 t35.toNat).1) fun c_3 =>
 bif decide (c_3.1.2.1<0) then bif (zI pile.length (some (i64.wrap ((pile.length:Int)-(get zx t33 t35.toNat).2.2.2.1))) none).1 then bif (zI fix.length (some (i64.wrap ((pile.length:Int)-(get zx t33 t35.toNat).2.2.2.1))) none).1 then oB (zE.d63 F c_3.1.1 (((get zx t33 t35.toNat),(pile.take (zI pile.length (some (i64.wrap ((pile.length:Int)-(get zx t33 t35.toNat).2.2.2.1))) none).2.2).drop (zI pile.length (some (i64.wrap ((pile.length:Int)-(get zx t33 t35.toNat).2.2.2.1))) none).2.1,(fix.take (zI fix.length (some (i64.wrap ((pile.length:Int)-(get zx t33 t35.toNat).2.2.2.1))) none).2.2).drop (zI fix.length (some (i64.wrap ((pile.length:Int)-(get zx t33 t35.toNat).2.2.2.1))) none).2.1),())) fun c_4 =>
 bif (c_4.1.1==(-1)) then k0 ([]) t35 80
 else bif ((get zx t33 t35.toNat).1==8) then bif idx (i64.wrap ((pile.length:Int)-(get zx t33 t35.toNat).2.2.2.1)) fix.length then bif !(get .bool fix ((i64.wrap ((pile.length:Int)-(get zx t33 t35.toNat).2.2.2.1)).toNat)) then bif idx (i64.wrap ((i64.wrap ((pile.length:Int)-(get zx t33 t35.toNat).2.2.2.1))+1)) fix.length then bif !(get .bool fix ((i64.wrap ((i64.wrap ((pile.length:Int)-(get zx t33 t35.toNat).2.2.2.1))+1)).toNat)) then k1 ([]) t35 81
 else bif Nat.ble (types.length+([c_4.1.1]:List Int).length) vc then bif (zI pile.length none (some (i64.wrap ((pile.length:Int)-(get zx t33 t35.toNat).2.2.2.1)))).1 then bif Nat.ble ((zI pile.length none (some (i64.wrap ((pile.length:Int)-(get zx t33 t35.toNat).2.2.2.1)))).2.2+([c_4.1.1]:List Int).length) vc then bif (zI fix.length none (some (i64.wrap ((pile.length:Int)-(get zx t33 t35.toNat).2.2.2.1)))).1 then bif idx t35 fixed.length then bif Nat.ble ((zI fix.length none (some (i64.wrap ((pile.length:Int)-(get zx t33 t35.toNat).2.2.2.1)))).2.2+([get .bool fixed t35.toNat]:List Bool).length) vc then rec fixed t33 t34 (i64.wrap (t35+1)) (types++([c_4.1.1]:List Int)) (pile.take (zI pile.length none (some (i64.wrap ((pile.length:Int)-(get zx t33 t35.toNat).2.2.2.1)))).2.2++([c_4.1.1]:List Int)) (fix.take (zI fix.length none (some (i64.wrap ((pile.length:Int)-(get zx t33 t35.toNat).2.2.2.1)))).2.2++([get .bool fixed t35.toNat]:List Bool))
 else none
 else none
 else none
 else none
 else none
 else none
 else none
 else bif Nat.ble (types.length+([c_4.1.1]:List Int).length) vc then bif (zI pile.length none (some (i64.wrap ((pile.length:Int)-(get zx t33 t35.toNat).2.2.2.1)))).1 then bif Nat.ble ((zI pile.length none (some (i64.wrap ((pile.length:Int)-(get zx t33 t35.toNat).2.2.2.1)))).2.2+([c_4.1.1]:List Int).length) vc then bif (zI fix.length none (some (i64.wrap ((pile.length:Int)-(get zx t33 t35.toNat).2.2.2.1)))).1 then bif idx t35 fixed.length then bif Nat.ble ((zI fix.length none (some (i64.wrap ((pile.length:Int)-(get zx t33 t35.toNat).2.2.2.1)))).2.2+([get .bool fixed t35.toNat]:List Bool).length) vc then rec fixed t33 t34 (i64.wrap (t35+1)) (types++([c_4.1.1]:List Int)) (pile.take (zI pile.length none (some (i64.wrap ((pile.length:Int)-(get zx t33 t35.toNat).2.2.2.1)))).2.2++([c_4.1.1]:List Int)) (fix.take (zI fix.length none (some (i64.wrap ((pile.length:Int)-(get zx t33 t35.toNat).2.2.2.1)))).2.2++([get .bool fixed t35.toNat]:List Bool))
 else none
 else none
 else none
 else none
 else none
 else none
 else none
 else bif Nat.ble (types.length+([c_4.1.1]:List Int).length) vc then bif (zI pile.length none (some (i64.wrap ((pile.length:Int)-(get zx t33 t35.toNat).2.2.2.1)))).1 then bif Nat.ble ((zI pile.length none (some (i64.wrap ((pile.length:Int)-(get zx t33 t35.toNat).2.2.2.1)))).2.2+([c_4.1.1]:List Int).length) vc then bif (zI fix.length none (some (i64.wrap ((pile.length:Int)-(get zx t33 t35.toNat).2.2.2.1)))).1 then bif idx t35 fixed.length then bif Nat.ble ((zI fix.length none (some (i64.wrap ((pile.length:Int)-(get zx t33 t35.toNat).2.2.2.1)))).2.2+([get .bool fixed t35.toNat]:List Bool).length) vc then rec fixed t33 t34 (i64.wrap (t35+1)) (types++([c_4.1.1]:List Int)) (pile.take (zI pile.length none (some (i64.wrap ((pile.length:Int)-(get zx t33 t35.toNat).2.2.2.1)))).2.2++([c_4.1.1]:List Int)) (fix.take (zI fix.length none (some (i64.wrap ((pile.length:Int)-(get zx t33 t35.toNat).2.2.2.1)))).2.2++([get .bool fixed t35.toNat]:List Bool))
 else none
 else none
 else none
 else none
 else none
 else none
 else none
 else none
 else bif (zI pile.length (some (i64.wrap ((pile.length:Int)-c_3.1.2.1))) none).1 then bif (zI fix.length (some (i64.wrap ((pile.length:Int)-c_3.1.2.1))) none).1 then oB (zE.d63 F c_3.1.1 (((get zx t33 t35.toNat),(pile.take (zI pile.length (some (i64.wrap ((pile.length:Int)-c_3.1.2.1))) none).2.2).drop (zI pile.length (some (i64.wrap ((pile.length:Int)-c_3.1.2.1))) none).2.1,(fix.take (zI fix.length (some (i64.wrap ((pile.length:Int)-c_3.1.2.1))) none).2.2).drop (zI fix.length (some (i64.wrap ((pile.length:Int)-c_3.1.2.1))) none).2.1),())) fun c_5 =>
 bif (c_5.1.1==(-1)) then k0 ([]) t35 80
 else bif ((get zx t33 t35.toNat).1==8) then bif idx (i64.wrap ((pile.length:Int)-c_3.1.2.1)) fix.length then bif !(get .bool fix ((i64.wrap ((pile.length:Int)-c_3.1.2.1)).toNat)) then bif idx (i64.wrap ((i64.wrap ((pile.length:Int)-c_3.1.2.1))+1)) fix.length then bif !(get .bool fix ((i64.wrap ((i64.wrap ((pile.length:Int)-c_3.1.2.1))+1)).toNat)) then k1 ([]) t35 81
 else bif Nat.ble (types.length+([c_5.1.1]:List Int).length) vc then bif (zI pile.length none (some (i64.wrap ((pile.length:Int)-c_3.1.2.1)))).1 then bif Nat.ble ((zI pile.length none (some (i64.wrap ((pile.length:Int)-c_3.1.2.1)))).2.2+([c_5.1.1]:List Int).length) vc then bif (zI fix.length none (some (i64.wrap ((pile.length:Int)-c_3.1.2.1)))).1 then bif idx t35 fixed.length then bif Nat.ble ((zI fix.length none (some (i64.wrap ((pile.length:Int)-c_3.1.2.1)))).2.2+([get .bool fixed t35.toNat]:List Bool).length) vc then rec fixed t33 t34 (i64.wrap (t35+1)) (types++([c_5.1.1]:List Int)) (pile.take (zI pile.length none (some (i64.wrap ((pile.length:Int)-c_3.1.2.1)))).2.2++([c_5.1.1]:List Int)) (fix.take (zI fix.length none (some (i64.wrap ((pile.length:Int)-c_3.1.2.1)))).2.2++([get .bool fixed t35.toNat]:List Bool))
 else none
 else none
 else none
 else none
 else none
 else none
 else none
 else bif Nat.ble (types.length+([c_5.1.1]:List Int).length) vc then bif (zI pile.length none (some (i64.wrap ((pile.length:Int)-c_3.1.2.1)))).1 then bif Nat.ble ((zI pile.length none (some (i64.wrap ((pile.length:Int)-c_3.1.2.1)))).2.2+([c_5.1.1]:List Int).length) vc then bif (zI fix.length none (some (i64.wrap ((pile.length:Int)-c_3.1.2.1)))).1 then bif idx t35 fixed.length then bif Nat.ble ((zI fix.length none (some (i64.wrap ((pile.length:Int)-c_3.1.2.1)))).2.2+([get .bool fixed t35.toNat]:List Bool).length) vc then rec fixed t33 t34 (i64.wrap (t35+1)) (types++([c_5.1.1]:List Int)) (pile.take (zI pile.length none (some (i64.wrap ((pile.length:Int)-c_3.1.2.1)))).2.2++([c_5.1.1]:List Int)) (fix.take (zI fix.length none (some (i64.wrap ((pile.length:Int)-c_3.1.2.1)))).2.2++([get .bool fixed t35.toNat]:List Bool))
 else none
 else none
 else none
 else none
 else none
 else none
 else none
 else bif Nat.ble (types.length+([c_5.1.1]:List Int).length) vc then bif (zI pile.length none (some (i64.wrap ((pile.length:Int)-c_3.1.2.1)))).1 then bif Nat.ble ((zI pile.length none (some (i64.wrap ((pile.length:Int)-c_3.1.2.1)))).2.2+([c_5.1.1]:List Int).length) vc then bif (zI fix.length none (some (i64.wrap ((pile.length:Int)-c_3.1.2.1)))).1 then bif idx t35 fixed.length then bif Nat.ble ((zI fix.length none (some (i64.wrap ((pile.length:Int)-c_3.1.2.1)))).2.2+([get .bool fixed t35.toNat]:List Bool).length) vc then rec fixed t33 t34 (i64.wrap (t35+1)) (types++([c_5.1.1]:List Int)) (pile.take (zI pile.length none (some (i64.wrap ((pile.length:Int)-c_3.1.2.1)))).2.2++([c_5.1.1]:List Int)) (fix.take (zI fix.length none (some (i64.wrap ((pile.length:Int)-c_3.1.2.1)))).2.2++([get .bool fixed t35.toNat]:List Bool))
 else none
 else none
 else none
 else none
 else none
 else none
 else none
 else none
 else none
 else k2 fixed t33 t34 t35 (decide (t35<t34)) types pile fix
def zE.l8 {R:Type} (F:Nat) (k0:zE.l8.K0 R) (k1:zE.l8.K1 R) (k2:zE.l8.K2 R):Nat->zE.l8.T R
 | 0,_,_,_,_,_,_,_=>none
 | fu+1,fixed,t33,t34,t35,types,pile,fix=>zE.l8.body F k0 k1 k2 (zE.l8 F k0 k1 k2 fu) fixed t33 t34 t35 types pile fix
def zE.j23 {R:Type} (F:Nat) (k0:(List Int)->Int->Int->Option R) (k1:(List Int)->Int->Int->Option R) (types:List Int) (pile:List Int):Option R :=
 bif idx 0 pile.length then bif ((get (.int .i64) pile 0) != 1) then k0 ([]) (i64.wrap ((types.length:Int)-1)) 80
 else k1 types 0 0
 else none
def zE.sh (F:Nat) (p:yr.T):Option zE.sg.R :=
 oB (yF.sh F p) fun c_1 =>
 bif (c_1.1.2.1 != 0) then some (([],c_1.1.1,c_1.1.2.1,()),())
 else oB (zV.sh F p) fun c_2 =>
 zE.l8 F (fun r26 r36 r46=>some ((r26,r36,r46,()),())) (fun r27 r37 r47=>some ((r27,r37,r47,()),())) (fun fixed8 t338 t348 t358 t368 types8 pile8 fix8=>zE.j23 F (fun r29 r39 r49=>some ((r29,r39,r49,()),())) (fun r210 r310 r410=>some ((r210,r310,r410,()),())) types8 pile8) F c_2.1.1 p.2.2.2 (p.2.2.2.length:Int) 0 ([]) ([]) ([])
def zE.sp (F:Nat):TA zE.sg.args->Option zE.sg.R:=fun x=>zE.sh F x.1
@[reducible] def yi.sg:Sig:={args:=[.d (.b (.int .i64))],res:=[.c (.int .i64)]}
abbrev yi.l5.K0 (R:Type):Type:=(List Int)->Int->Int->Bool->Option R
abbrev yi.l5.T (R:Type):Type:=(List Int)->Int->Int->Option R
def yi.l5.body {R:Type} (F:Nat) (k0:yi.l5.K0 R) (rec:yi.l5.T R) (x:List Int) (m:Int) (i:Int):Option R :=
 bif decide (i<(x.length:Int)) then bif idx i x.length then rec x (if get (.int .i64) x i.toNat>m then get (.int .i64) x i.toNat else m) (i64.wrap (i+1))
 else none
 else k0 x m i (decide (i<(x.length:Int)))
def yi.l5 {R:Type} (F:Nat) (k0:yi.l5.K0 R):Nat->yi.l5.T R
 | 0,_,_,_=>none
 | fu+1,x,m,i=>yi.l5.body F k0 (yi.l5 F k0 fu) x m i
def yi.sh (F:Nat) (x:List Int):Option yi.sg.R :=
 bif decide ((x.length:Int)<1) then none
 else bif idx 0 x.length then yi.l5 F (fun x1 m1 i1 t151=>some ((m1,()),())) F x (get (.int .i64) x 0) 1
 else none
def yi.sp (F:Nat):TA yi.sg.args->Option yi.sg.R:=fun x=>yi.sh F x.1
@[reducible] def yq.sg:Sig:={args:=[.d (.g yr)],res:=[.c (.int .i64),.c (.int .i64)]}
abbrev yq.l6.K0 (R:Type):Type:=(List zx.T)->Int->Int->Bool->(List Int)->Option R
abbrev yq.l6.T (R:Type):Type:=(List zx.T)->Int->Int->(List Int)->Option R
def yq.l6.body {R:Type} (F:Nat) (k0:yq.l6.K0 R) (rec:yq.l6.T R) (t20:List zx.T) (t21:Int) (t22:Int) (pile:List Int):Option R :=
 bif decide (t22<t21) then bif idx t22 t20.length then oB (wK.sh F (get zx t20 t22.toNat)) fun c_2 =>
 bif decide (c_2.1.1>0) then bif (zI pile.length (some (i64.wrap ((pile.length:Int)-c_2.1.1))) none).1 then oB (yi.sh F ((List.take (zI pile.length (some (i64.wrap ((pile.length:Int)-c_2.1.1))) none).2.2 pile).drop (zI pile.length (some (i64.wrap ((pile.length:Int)-c_2.1.1))) none).2.1)) fun c_3 =>
 bif (zI pile.length none (some (i64.wrap ((pile.length:Int)-c_2.1.1)))).1 then bif ((get zx t20 t22.toNat).1==15) then bif Nat.ble ((pile.take (zI pile.length none (some (i64.wrap ((pile.length:Int)-c_2.1.1)))).2.2).length+([i64.wrap (c_3.1.1+1)]:List Int).length) vc then rec t20 t21 (i64.wrap (t22+1)) ((pile.take (zI pile.length none (some (i64.wrap ((pile.length:Int)-c_2.1.1)))).2.2)++([i64.wrap (c_3.1.1+1)]:List Int))
 else none
 else bif Nat.ble ((pile.take (zI pile.length none (some (i64.wrap ((pile.length:Int)-c_2.1.1)))).2.2).length+([c_3.1.1]:List Int).length) vc then rec t20 t21 (i64.wrap (t22+1)) ((pile.take (zI pile.length none (some (i64.wrap ((pile.length:Int)-c_2.1.1)))).2.2)++([c_3.1.1]:List Int))
 else none
 else none
 else none
 else bif ((get zx t20 t22.toNat).1==15) then bif Nat.ble (pile.length+([i64.wrap (0+1)]:List Int).length) vc then rec t20 t21 (i64.wrap (t22+1)) (pile++([i64.wrap (0+1)]:List Int))
 else none
 else bif Nat.ble (pile.length+([0]:List Int).length) vc then rec t20 t21 (i64.wrap (t22+1)) (pile++([0]:List Int))
 else none
 else none
 else k0 t20 t21 t22 (decide (t22<t21)) pile
def yq.l6 {R:Type} (F:Nat) (k0:yq.l6.K0 R):Nat->yq.l6.T R
 | 0,_,_,_,_=>none
 | fu+1,t20,t21,t22,pile=>yq.l6.body F k0 (yq.l6 F k0 fu) t20 t21 t22 pile
def yq.j17 {R:Type} (F:Nat) (k0:Int->Int->Option R) (pile:List Int):Option R :=
 bif idx 0 pile.length then k0 (get (.int .i64) pile 0) 0
 else none
def yq.sh (F:Nat) (p:yr.T):Option yq.sg.R :=
 oB (yF.sh F p) fun c_1 =>
 bif (c_1.1.2.1 != 0) then some ((0,c_1.1.2.1,()),())
 else yq.l6 F (fun t204 t214 t224 t234 pile4=>yq.j17 F (fun r25 r35=>some ((r25,r35,()),())) pile4) F p.2.2.2 (p.2.2.2.length:Int) 0 ([])
def yq.sp (F:Nat):TA yq.sg.args->Option yq.sg.R:=fun x=>yq.sh F x.1
@[reducible] def yQ.sg:Sig:={args:=[.d (.c (.int .i64))],res:=[.g zh]}
def yQ.sh (F:Nat) (v:Int):Option yQ.sg.R :=
 some (((v.fdiv (2^(min (63:Int).toNat IntKind.i64.bits)),u64.wrap v),()),())
def yQ.sp (F:Nat):TA yQ.sg.args->Option yQ.sg.R:=fun x=>yQ.sh F x.1
@[reducible] def vG.sg:Sig:={args:=[.d (.g zh)],res:=[.c (.int .u64),.c (.int .u64)]}
def vG.sh (F:Nat) (w:zh.T):Option vG.sg.R :=
 bif decide (w.1>=0) then some ((u64.wrap w.1,w.2,()),())
 else oB (y9.sh F 0 w.2 0) fun c_1 =>
 oB (y9.sh F 0 (u64.wrap w.1) c_1.1.2.1) fun c_2 =>
 some ((c_2.1.1,c_1.1.1,()),())
def vG.sp (F:Nat):TA vG.sg.args->Option vG.sg.R:=fun x=>vG.sh F x.1
@[reducible] def wF.sg:Sig:={args:=[.d (.c (.int .u64)),.d (.c (.int .u64))],res:=[.c (.int .u64),.c (.int .u64)]}
def wF.sh (F:Nat) (x:Int) (y:Int):Option wF.sg.R :=
 some ((u64.wrap ((u64.wrap ((u64.wrap ((x.fdiv (2^(min (32:Int).toNat IntKind.u64.bits)))*(y.fdiv (2^(min (32:Int).toNat IntKind.u64.bits)))))+((u64.wrap ((u64.wrap ((x.fdiv (2^(min (32:Int).toNat IntKind.u64.bits)))*(u64.wrap ((BitVec.ofInt IntKind.u64.bits y &&& BitVec.ofInt IntKind.u64.bits 4294967295).toNat))))+((u64.wrap ((u64.wrap ((BitVec.ofInt IntKind.u64.bits x &&& BitVec.ofInt IntKind.u64.bits 4294967295).toNat))*(u64.wrap ((BitVec.ofInt IntKind.u64.bits y &&& BitVec.ofInt IntKind.u64.bits 4294967295).toNat)))).fdiv (2^(min (32:Int).toNat IntKind.u64.bits))))).fdiv (2^(min (32:Int).toNat IntKind.u64.bits)))))+((u64.wrap ((u64.wrap ((BitVec.ofInt IntKind.u64.bits (u64.wrap ((u64.wrap ((x.fdiv (2^(min (32:Int).toNat IntKind.u64.bits)))*(u64.wrap ((BitVec.ofInt IntKind.u64.bits y &&& BitVec.ofInt IntKind.u64.bits 4294967295).toNat))))+((u64.wrap ((u64.wrap ((BitVec.ofInt IntKind.u64.bits x &&& BitVec.ofInt IntKind.u64.bits 4294967295).toNat))*(u64.wrap ((BitVec.ofInt IntKind.u64.bits y &&& BitVec.ofInt IntKind.u64.bits 4294967295).toNat)))).fdiv (2^(min (32:Int).toNat IntKind.u64.bits))))) &&& BitVec.ofInt IntKind.u64.bits 4294967295).toNat))+(u64.wrap ((u64.wrap ((BitVec.ofInt IntKind.u64.bits x &&& BitVec.ofInt IntKind.u64.bits 4294967295).toNat))*(y.fdiv (2^(min (32:Int).toNat IntKind.u64.bits))))))).fdiv (2^(min (32:Int).toNat IntKind.u64.bits)))),u64.wrap (x*y),()),())
def wF.sp (F:Nat):TA wF.sg.args->Option wF.sg.R:=fun x=>wF.sh F x.1 x.2.1
@[reducible] def vW.sg:Sig:={args:=[.d (.c .bool),.d (.c (.int .u64)),.d (.c (.int .u64))],res:=[.c (.int .u64)]}
def vW.sh (F:Nat) (first_:Bool) (a:Int) (b:Int):Option vW.sg.R :=
 bif first_ then some ((a,()),())
 else some ((b,()),())
def vW.sp (F:Nat):TA vW.sg.args->Option vW.sg.R:=fun x=>vW.sh F x.1 x.2.1 x.2.2.1
@[reducible] def vK.sg:Sig:={args:=[.d (.g zh),.d (.g zh)],res:=[.g zh,.c (.int .i64)]}
def vK.sh (F:Nat) (a:zh.T) (b:zh.T):Option vK.sg.R :=
 oB (y9.sh F a.2 b.2 0) fun c_1 =>
 oB (y9.sh F (u64.wrap a.1) (u64.wrap b.1) c_1.1.2.1) fun c_2 =>
 bif (!(decide (a.1<0)==decide (b.1<0))) then bif (!(decide ((i64.wrap c_2.1.1)<0)==decide (a.1<0))) then some (((0,0),10,()),())
 else some (((i64.wrap c_2.1.1,c_1.1.1),0,()),())
 else some (((i64.wrap c_2.1.1,c_1.1.1),0,()),())
def vK.sp (F:Nat):TA vK.sg.args->Option vK.sg.R:=fun x=>vK.sh F x.1 x.2.1
@[reducible] def vT.sg:Sig:={args:=[.d (.g zh)],res:=[.g zh,.c (.int .i64)]}
def vT.sh (F:Nat) (a:zh.T):Option vT.sg.R :=
 oB (vK.sh F (0,0) a) fun c_1 =>
 some ((c_1.1.1,c_1.1.2.1,()),())
def vT.sp (F:Nat):TA vT.sg.args->Option vT.sg.R:=fun x=>vT.sh F x.1
@[reducible] def vI.sg:Sig:={args:=[.d (.c .bool),.d (.c (.int .u64)),.d (.c (.int .u64))],res:=[.g zh,.c (.int .i64)]}
def vI.sh (F:Nat) (below:Bool) (hi:Int) (lo:Int):Option vI.sg.R :=
 bif ((hi.fdiv (2^(min (63:Int).toNat IntKind.u64.bits)))==0) then bif below then oB (vT.sh F (i64.wrap hi,lo)) fun c_1 =>
 some ((c_1.1.1,c_1.1.2.1,()),())
 else some (((i64.wrap hi,lo),0,()),())
 else bif below then bif (hi==9223372036854775808) then bif (lo==0) then some ((((-9223372036854775808),0),0,()),())
 else some (((0,0),10,()),())
 else some (((0,0),10,()),())
 else some (((0,0),10,()),())
def vI.sp (F:Nat):TA vI.sg.args->Option vI.sg.R:=fun x=>vI.sh F x.1 x.2.1 x.2.2.1
@[reducible] def xc.sg:Sig:={args:=[.d (.g zh),.d (.g zh)],res:=[.g zh,.c (.int .i64)]}
def xc.j5 {R:Type} (F:Nat) (k0:Int->zh.T->Option R) (k1:Int->zh.T->Option R) (ah:Int) (al:Int) (bh:Int) (bl:Int) (a:zh.T) (b:zh.T) (r4:zh.T):Option R :=
 oB (wF.sh F al bl) fun c_3 =>
 oB (vW.sh F (ah != 0) bl al) fun c_4 =>
 oB (wF.sh F (u64.wrap ((BitVec.ofInt IntKind.u64.bits ah ||| BitVec.ofInt IntKind.u64.bits bh).toNat)) c_4.1.1) fun c_5 =>
 oB (xy.sh F c_3.1.1 c_5.1.2.1 0) fun c_6 =>
 bif (c_5.1.1 != 0) then k0 10 (0,0)
 else bif (c_6.1.2.1 != 0) then k0 10 (0,0)
 else oB (vI.sh F (!(decide (a.1<0)==decide (b.1<0))) c_6.1.1 c_3.1.2.1) fun c_7 =>
 k1 c_7.1.2.1 c_7.1.1
def xc.sh (F:Nat) (a:zh.T) (b:zh.T):Option xc.sg.R :=
 oB (vG.sh F a) fun c_1 =>
 oB (vG.sh F b) fun c_2 =>
 bif (c_1.1.1 != 0) then bif (c_2.1.1 != 0) then some (((0,0),10,()),())
 else xc.j5 F (fun r58 r48=>some ((r48,r58,()),())) (fun r59 r49=>some ((r49,r59,()),())) c_1.1.1 c_1.1.2.1 c_2.1.1 c_2.1.2.1 a b (0,0)
 else xc.j5 F (fun r510 r410=>some ((r410,r510,()),())) (fun r511 r411=>some ((r411,r511,()),())) c_1.1.1 c_1.1.2.1 c_2.1.1 c_2.1.2.1 a b (0,0)
def xc.sp (F:Nat):TA xc.sg.args->Option xc.sg.R:=fun x=>xc.sh F x.1 x.2.1
@[reducible] def yV.sg:Sig:={args:=[.d (.c (.int .i64))],res:=[.g zh,.c (.int .i64)]}
abbrev yV.l7.K0 (R:Type):Type:=Int->Int->Bool->zh.T->zh.T->Option R
abbrev yV.l7.T (R:Type):Type:=Int->Int->zh.T->zh.T->Option R
def yV.l7.body {R:Type} (F:Nat) (k0:yV.l7.K0 R) (rec:yV.l7.T R) (t12:Int) (t13:Int) (r2:zh.T) (p:zh.T):Option R :=
 bif decide (t13<t12) then oB (yQ.sh F 10000) fun c_2 =>
 oB (xc.sh F p c_2.1.1) fun c_3 =>
 rec t12 (i64.wrap (t13+1)) r2 c_3.1.1
 else k0 t12 t13 (decide (t13<t12)) r2 p
def yV.l7 {R:Type} (F:Nat) (k0:yV.l7.K0 R):Nat->yV.l7.T R
 | 0,_,_,_,_=>none
 | fu+1,t12,t13,r2,p=>yV.l7.body F k0 (yV.l7 F k0 fu) t12 t13 r2 p
def yV.sh (F:Nat) (k:Int):Option yV.sg.R :=
 bif decide (k<0) then some (((0,0),1,()),())
 else bif decide (k>9) then some (((0,0),10,()),())
 else oB (yQ.sh F 1) fun c_1 =>
 yV.l7 F (fun t124 t134 t144 r24 p4=>some ((p4,0,()),())) F k 0 (0,0) c_1.1.1
def yV.sp (F:Nat):TA yV.sg.args->Option yV.sg.R:=fun x=>yV.sh F x.1
@[reducible] def yX.sg:Sig:={args:=[.d (.g zx)],res:=[.c (.int .i64)]}
def yX.j10 {R:Type} (F:Nat) (k0:Int->Option R) (k1:Int->Option R) (k2:Int->Option R) (k3:Bool->Option R) (t4:Int) (t10:Bool) (n:zx.T):Option R :=
 bif t10 then k0 2
 else bif (t4==9) then bif (t4==9) then k1 n.2.2.2.1
 else bif (t4==16) then k2 3
 else k3 (t4==16)
 else bif (t4==10) then k1 n.2.2.2.1
 else bif (t4==16) then k2 3
 else k3 (t4==16)
def yX.j6 {R:Type} (F:Nat) (k0:Int->Option R) (k1:Int->Option R) (k2:Int->Option R) (k3:Int->Option R) (k4:Bool->Option R) (t4:Int) (t5:Bool) (n:zx.T):Option R :=
 bif t5 then k0 0
 else bif (t4==6) then yX.j10 F (fun r21=>k1 r21) (fun r22=>k2 r22) (fun r23=>k3 r23) (fun t194=>k4 t194) t4 (t4==6) n
 else bif (t4==7) then yX.j10 F (fun r25=>k1 r25) (fun r26=>k2 r26) (fun r27=>k3 r27) (fun t198=>k4 t198) t4 (t4==7) n
 else yX.j10 F (fun r29=>k1 r29) (fun r210=>k2 r210) (fun r211=>k3 r211) (fun t1912=>k4 t1912) t4 (t4==8) n
def yX.sh (F:Nat) (n:zx.T):Option yX.sg.R :=
 bif (n.1==1) then yX.j6 F (fun r213=>some ((r213,()),())) (fun r214=>some ((r214,()),())) (fun r215=>some ((r215,()),())) (fun r216=>some ((r216,()),())) (fun t1917=>some ((1,()),())) n.1 (n.1==1) n
 else bif (n.1==2) then yX.j6 F (fun r218=>some ((r218,()),())) (fun r219=>some ((r219,()),())) (fun r220=>some ((r220,()),())) (fun r221=>some ((r221,()),())) (fun t1922=>some ((1,()),())) n.1 (n.1==2) n
 else bif (n.1==3) then yX.j6 F (fun r223=>some ((r223,()),())) (fun r224=>some ((r224,()),())) (fun r225=>some ((r225,()),())) (fun r226=>some ((r226,()),())) (fun t1927=>some ((1,()),())) n.1 (n.1==3) n
 else yX.j6 F (fun r228=>some ((r228,()),())) (fun r229=>some ((r229,()),())) (fun r230=>some ((r230,()),())) (fun r231=>some ((r231,()),())) (fun t1932=>some ((1,()),())) n.1 (n.1==4) n
def yX.sp (F:Nat):TA yX.sg.args->Option yX.sg.R:=fun x=>yX.sh F x.1
@[reducible] def xn.sg:Sig:={args:=[.io zj,.d (.g zh),.d (.c (.int .i64))],res:=[.g zh]}
def xn.sh (F:Nat) (m:zj.T) (w:zh.T) (e:Int):Option xn.sg.R :=
 bif m.2 then some ((w,()),((m.1,true),()))
 else some ((w,()),((m.1,(e != 0)),()))
def xn.sp (F:Nat):TA xn.sg.args->Option xn.sg.R:=fun x=>xn.sh F x.1 x.2.1 x.2.2.1
@[reducible] def xk.sg:Sig:={args:=[.io zj,.d (.g zh),.d (.g zh)],res:=[.g zh]}
def xk.sh (F:Nat) (m:zj.T) (a:zh.T) (b:zh.T):Option xk.sg.R :=
 oB (xc.sh F a b) fun c_1 =>
 oB (xn.sh F m c_1.1.1 c_1.1.2.1) fun c_2 =>
 some ((c_2.1.1,()),(c_2.2.1,()))
def xk.sp (F:Nat):TA xk.sg.args->Option xk.sg.R:=fun x=>xk.sh F x.1 x.2.1 x.2.2.1
@[reducible] def yC.sg:Sig:={args:=[.d (.c (.int .u64))],res:=[.c (.int .i64)]}
def yC.j7 {R:Type} (F:Nat) (k0:Int->Option R) (x:Int) (n:Int):Option R :=
 bif decide (x>=256) then bif idx (IntKind.u8.wrap (x.fdiv (2^(min (8:Int).toNat IntKind.u64.bits)))) ((⟨#[0,1,2,2,3,3,3,3,4,4,4,4,4,4,4,4,5,5,5,5,5,5,5,5,5,5,5,5,5,5,5,5,6,6,6,6,6,6,6,6,6,6,6,6,6,6,6,6,6,6,6,6,6,6,6,6,6,6,6,6,6,6,6,6,7,7,7,7,7,7,7,7,7,7,7,7,7,7,7,7,7,7,7,7,7,7,7,7,7,7,7,7,7,7,7,7,7,7,7,7,7,7,7,7,7,7,7,7,7,7,7,7,7,7,7,7,7,7,7,7,7,7,7,7,7,7,7,7,8,8,8,8,8,8,8,8,8,8,8,8,8,8,8,8,8,8,8,8,8,8,8,8,8,8,8,8,8,8,8,8,8,8,8,8,8,8,8,8,8,8,8,8,8,8,8,8,8,8,8,8,8,8,8,8,8,8,8,8,8,8,8,8,8,8,8,8,8,8,8,8,8,8,8,8,8,8,8,8,8,8,8,8,8,8,8,8,8,8,8,8,8,8,8,8,8,8,8,8,8,8,8,8,8,8,8,8,8,8,8,8,8,8,8,8,8,8,8,8,8,8,8,8,8,8,8,8]⟩:ByteArray).size) then k0 (i64.wrap ((i64.wrap (n+8))+(i64.wrap (bt (⟨#[0,1,2,2,3,3,3,3,4,4,4,4,4,4,4,4,5,5,5,5,5,5,5,5,5,5,5,5,5,5,5,5,6,6,6,6,6,6,6,6,6,6,6,6,6,6,6,6,6,6,6,6,6,6,6,6,6,6,6,6,6,6,6,6,7,7,7,7,7,7,7,7,7,7,7,7,7,7,7,7,7,7,7,7,7,7,7,7,7,7,7,7,7,7,7,7,7,7,7,7,7,7,7,7,7,7,7,7,7,7,7,7,7,7,7,7,7,7,7,7,7,7,7,7,7,7,7,7,8,8,8,8,8,8,8,8,8,8,8,8,8,8,8,8,8,8,8,8,8,8,8,8,8,8,8,8,8,8,8,8,8,8,8,8,8,8,8,8,8,8,8,8,8,8,8,8,8,8,8,8,8,8,8,8,8,8,8,8,8,8,8,8,8,8,8,8,8,8,8,8,8,8,8,8,8,8,8,8,8,8,8,8,8,8,8,8,8,8,8,8,8,8,8,8,8,8,8,8,8,8,8,8,8,8,8,8,8,8,8,8,8,8,8,8,8,8,8,8,8,8,8,8,8,8,8,8]⟩:ByteArray) (IntKind.u8.wrap (x.fdiv (2^(min (8:Int).toNat IntKind.u64.bits))))))))
 else none
 else bif idx (IntKind.u8.wrap x) ((⟨#[0,1,2,2,3,3,3,3,4,4,4,4,4,4,4,4,5,5,5,5,5,5,5,5,5,5,5,5,5,5,5,5,6,6,6,6,6,6,6,6,6,6,6,6,6,6,6,6,6,6,6,6,6,6,6,6,6,6,6,6,6,6,6,6,7,7,7,7,7,7,7,7,7,7,7,7,7,7,7,7,7,7,7,7,7,7,7,7,7,7,7,7,7,7,7,7,7,7,7,7,7,7,7,7,7,7,7,7,7,7,7,7,7,7,7,7,7,7,7,7,7,7,7,7,7,7,7,7,8,8,8,8,8,8,8,8,8,8,8,8,8,8,8,8,8,8,8,8,8,8,8,8,8,8,8,8,8,8,8,8,8,8,8,8,8,8,8,8,8,8,8,8,8,8,8,8,8,8,8,8,8,8,8,8,8,8,8,8,8,8,8,8,8,8,8,8,8,8,8,8,8,8,8,8,8,8,8,8,8,8,8,8,8,8,8,8,8,8,8,8,8,8,8,8,8,8,8,8,8,8,8,8,8,8,8,8,8,8,8,8,8,8,8,8,8,8,8,8,8,8,8,8,8,8,8,8]⟩:ByteArray).size) then k0 (i64.wrap (n+(i64.wrap (bt (⟨#[0,1,2,2,3,3,3,3,4,4,4,4,4,4,4,4,5,5,5,5,5,5,5,5,5,5,5,5,5,5,5,5,6,6,6,6,6,6,6,6,6,6,6,6,6,6,6,6,6,6,6,6,6,6,6,6,6,6,6,6,6,6,6,6,7,7,7,7,7,7,7,7,7,7,7,7,7,7,7,7,7,7,7,7,7,7,7,7,7,7,7,7,7,7,7,7,7,7,7,7,7,7,7,7,7,7,7,7,7,7,7,7,7,7,7,7,7,7,7,7,7,7,7,7,7,7,7,7,8,8,8,8,8,8,8,8,8,8,8,8,8,8,8,8,8,8,8,8,8,8,8,8,8,8,8,8,8,8,8,8,8,8,8,8,8,8,8,8,8,8,8,8,8,8,8,8,8,8,8,8,8,8,8,8,8,8,8,8,8,8,8,8,8,8,8,8,8,8,8,8,8,8,8,8,8,8,8,8,8,8,8,8,8,8,8,8,8,8,8,8,8,8,8,8,8,8,8,8,8,8,8,8,8,8,8,8,8,8,8,8,8,8,8,8,8,8,8,8,8,8,8,8,8,8,8,8]⟩:ByteArray) (IntKind.u8.wrap x)))))
 else none
def yC.j4 {R:Type} (F:Nat) (k0:Int->Option R) (x:Int) (n:Int):Option R :=
 bif decide (x>=65536) then yC.j7 F (fun n1=>k0 n1) (x.fdiv (2^(min (16:Int).toNat IntKind.u64.bits))) (i64.wrap (n+16))
 else yC.j7 F (fun n2=>k0 n2) x n
def yC.sh (F:Nat) (x:Int):Option yC.sg.R :=
 bif decide (x>=4294967296) then yC.j4 F (fun n3=>some ((n3,()),())) (x.fdiv (2^(min (32:Int).toNat IntKind.u64.bits))) 32
 else yC.j4 F (fun n4=>some ((n4,()),())) x 0
def yC.sp (F:Nat):TA yC.sg.args->Option yC.sg.R:=fun x=>yC.sh F x.1
@[reducible] def yY.sg:Sig:={args:=[.d (.c (.int .u64))],res:=[.c (.int .i64)]}
def yY.sh (F:Nat) (x:Int):Option yY.sg.R :=
 oB (yC.sh F x) fun c_1 =>
 some ((i64.wrap (64-c_1.1.1),()),())
def yY.sp (F:Nat):TA yY.sg.args->Option yY.sg.R:=fun x=>yY.sh F x.1
@[reducible] def zu.sg:Sig:={args:=[.d (.c (.int .u64)),.d (.c (.int .u64)),.d (.c (.int .u64))],res:=[.c (.int .u64),.c (.int .u64)]}
abbrev zu.l17.K0 (R:Type):Type:=Int->Int->Int->Int->Int->Int->Int->Int->Int->Bool->Option R
abbrev zu.l17.K1 (R:Type):Type:=Int->Int->Int->Int->Int->Int->Int->Int->Int->Bool->Option R
abbrev zu.l17.T (R:Type):Type:=Int->Int->Int->Int->Int->Int->Int->Int->Int->Option R
def zu.l17.body {R:Type} (F:Nat) (k0:zu.l17.K0 R) (k1:zu.l17.K1 R) (rec:zu.l17.T R) (y:Int) (s:Int) (yn1:Int) (yn0:Int) (un32:Int) (un1:Int) (un0:Int) (q1:Int) (rhat:Int):Option R :=
 bif decide (q1>=4294967296) then bif decide ((u64.wrap (rhat+yn1))>=4294967296) then k0 y s yn1 yn0 un32 un1 un0 (u64.wrap (q1-1)) (u64.wrap (rhat+yn1)) (decide ((u64.wrap (rhat+yn1))>=4294967296))
 else rec y s yn1 yn0 un32 un1 un0 (u64.wrap (q1-1)) (u64.wrap (rhat+yn1))
 else bif decide ((u64.wrap (q1*yn0))>(u64.wrap ((u64.wrap (4294967296*rhat))+un1))) then bif decide ((u64.wrap (rhat+yn1))>=4294967296) then k0 y s yn1 yn0 un32 un1 un0 (u64.wrap (q1-1)) (u64.wrap (rhat+yn1)) (decide ((u64.wrap (rhat+yn1))>=4294967296))
 else rec y s yn1 yn0 un32 un1 un0 (u64.wrap (q1-1)) (u64.wrap (rhat+yn1))
 else k1 y s yn1 yn0 un32 un1 un0 q1 rhat (decide ((u64.wrap (q1*yn0))>(u64.wrap ((u64.wrap (4294967296*rhat))+un1))))
def zu.l17 {R:Type} (F:Nat) (k0:zu.l17.K0 R) (k1:zu.l17.K1 R):Nat->zu.l17.T R
 | 0,_,_,_,_,_,_,_,_,_=>none
 | fu+1,y,s,yn1,yn0,un32,un1,un0,q1,rhat=>zu.l17.body F k0 k1 (zu.l17 F k0 k1 fu) y s yn1 yn0 un32 un1 un0 q1 rhat
abbrev zu.l24.K0 (R:Type):Type:=Int->Int->Int->Int->Int->Int->Int->Int->Int->Bool->Option R
abbrev zu.l24.K1 (R:Type):Type:=Int->Int->Int->Int->Int->Int->Int->Int->Int->Bool->Option R
abbrev zu.l24.T (R:Type):Type:=Int->Int->Int->Int->Int->Int->Int->Int->Int->Option R
def zu.l24.body {R:Type} (F:Nat) (k0:zu.l24.K0 R) (k1:zu.l24.K1 R) (rec:zu.l24.T R) (y:Int) (s:Int) (yn1:Int) (yn0:Int) (un0:Int) (q1:Int) (rhat:Int) (un21:Int) (q0:Int):Option R :=
 bif decide (q0>=4294967296) then bif decide ((u64.wrap (rhat+yn1))>=4294967296) then k0 y s yn1 yn0 un0 q1 (u64.wrap (rhat+yn1)) un21 (u64.wrap (q0-1)) (decide ((u64.wrap (rhat+yn1))>=4294967296))
 else rec y s yn1 yn0 un0 q1 (u64.wrap (rhat+yn1)) un21 (u64.wrap (q0-1))
 else bif decide ((u64.wrap (q0*yn0))>(u64.wrap ((u64.wrap (4294967296*rhat))+un0))) then bif decide ((u64.wrap (rhat+yn1))>=4294967296) then k0 y s yn1 yn0 un0 q1 (u64.wrap (rhat+yn1)) un21 (u64.wrap (q0-1)) (decide ((u64.wrap (rhat+yn1))>=4294967296))
 else rec y s yn1 yn0 un0 q1 (u64.wrap (rhat+yn1)) un21 (u64.wrap (q0-1))
 else k1 y s yn1 yn0 un0 q1 rhat un21 q0 (decide ((u64.wrap (q0*yn0))>(u64.wrap ((u64.wrap (4294967296*rhat))+un0))))
def zu.l24 {R:Type} (F:Nat) (k0:zu.l24.K0 R) (k1:zu.l24.K1 R):Nat->zu.l24.T R
 | 0,_,_,_,_,_,_,_,_,_=>none
 | fu+1,y,s,yn1,yn0,un0,q1,rhat,un21,q0=>zu.l24.body F k0 k1 (zu.l24 F k0 k1 fu) y s yn1 yn0 un0 q1 rhat un21 q0
def zu.j28 {R:Type} (F:Nat) (k0:Int->Int->Option R) (y:Int) (s:Int) (un0:Int) (q1:Int) (un21:Int) (q0:Int):Option R :=
 bif decide (0<=s) then k0 (u64.wrap ((u64.wrap (q1*4294967296))+q0)) ((u64.wrap ((u64.wrap ((u64.wrap (un21*4294967296))+un0))-(u64.wrap (q0*y)))).fdiv (2^(min s.toNat IntKind.u64.bits)))
 else none
def zu.j21 {R:Type} (F:Nat) (k0:Int->Int->Option R) (y:Int) (s:Int) (yn1:Int) (yn0:Int) (un32:Int) (un1:Int) (un0:Int) (q1:Int):Option R :=
 bif (yn1 != 0) then zu.l24 F (fun y3 s3 yn13 yn03 un03 q13 rhat3 un213 q03 t1203=>zu.j28 F (fun quo4 rem4=>k0 quo4 rem4) y3 s3 un03 q13 un213 q03) (fun y5 s5 yn15 yn05 un05 q15 rhat5 un215 q05 t1135=>zu.j28 F (fun quo6 rem6=>k0 quo6 rem6) y5 s5 un05 q15 un215 q05) F y s yn1 yn0 un0 q1 (u64.wrap ((u64.wrap ((u64.wrap ((u64.wrap (un32*4294967296))+un1))-(u64.wrap (q1*y))))-(u64.wrap ((u64.wrap ((u64.wrap ((u64.wrap ((u64.wrap (un32*4294967296))+un1))-(u64.wrap (q1*y)))).tdiv yn1))*yn1)))) (u64.wrap ((u64.wrap ((u64.wrap (un32*4294967296))+un1))-(u64.wrap (q1*y)))) (u64.wrap ((u64.wrap ((u64.wrap ((u64.wrap (un32*4294967296))+un1))-(u64.wrap (q1*y)))).tdiv yn1))
 else none
def zu.sh (F:Nat) (hi:Int) (lo:Int) (y:Int):Option zu.sg.R :=
 bif (y==0) then none
 else bif decide (y<=hi) then none
 else bif (hi==0) then bif (y != 0) then bif (y != 0) then some ((u64.wrap (lo.tdiv y),lo.tmod y,()),())
 else none
 else none
 else oB (yY.sh F y) fun c_1 =>
 bif decide (0<=(u64.wrap c_1.1.1)) then bif decide (0<=(u64.wrap c_1.1.1)) then bif decide (0<=(u64.wrap (64-(u64.wrap c_1.1.1)))) then bif decide (0<=(u64.wrap c_1.1.1)) then bif (((u64.wrap (y*2^(min (u64.wrap c_1.1.1).toNat IntKind.u64.bits))).fdiv (2^(min (32:Int).toNat IntKind.u64.bits))) != 0) then zu.l17 F (fun y2 s2 yn12 yn02 un322 un12 un02 q12 rhat2 t852=>zu.j21 F (fun quo7 rem7=>some ((quo7,rem7,()),())) y2 s2 yn12 yn02 un322 un12 un02 q12) (fun y8 s8 yn18 yn08 un328 un18 un08 q18 rhat8 t788=>zu.j21 F (fun quo9 rem9=>some ((quo9,rem9,()),())) y8 s8 yn18 yn08 un328 un18 un08 q18) F (u64.wrap (y*2^(min (u64.wrap c_1.1.1).toNat IntKind.u64.bits))) (u64.wrap c_1.1.1) ((u64.wrap (y*2^(min (u64.wrap c_1.1.1).toNat IntKind.u64.bits))).fdiv (2^(min (32:Int).toNat IntKind.u64.bits))) (u64.wrap ((BitVec.ofInt IntKind.u64.bits (u64.wrap (y*2^(min (u64.wrap c_1.1.1).toNat IntKind.u64.bits))) &&& BitVec.ofInt IntKind.u64.bits 4294967295).toNat)) (u64.wrap ((BitVec.ofInt IntKind.u64.bits (u64.wrap (hi*2^(min (u64.wrap c_1.1.1).toNat IntKind.u64.bits))) ||| BitVec.ofInt IntKind.u64.bits (lo.fdiv (2^(min (u64.wrap (64-(u64.wrap c_1.1.1))).toNat IntKind.u64.bits)))).toNat)) ((u64.wrap (lo*2^(min (u64.wrap c_1.1.1).toNat IntKind.u64.bits))).fdiv (2^(min (32:Int).toNat IntKind.u64.bits))) (u64.wrap ((BitVec.ofInt IntKind.u64.bits (u64.wrap (lo*2^(min (u64.wrap c_1.1.1).toNat IntKind.u64.bits))) &&& BitVec.ofInt IntKind.u64.bits 4294967295).toNat)) (u64.wrap ((u64.wrap ((BitVec.ofInt IntKind.u64.bits (u64.wrap (hi*2^(min (u64.wrap c_1.1.1).toNat IntKind.u64.bits))) ||| BitVec.ofInt IntKind.u64.bits (lo.fdiv (2^(min (u64.wrap (64-(u64.wrap c_1.1.1))).toNat IntKind.u64.bits)))).toNat)).tdiv ((u64.wrap (y*2^(min (u64.wrap c_1.1.1).toNat IntKind.u64.bits))).fdiv (2^(min (32:Int).toNat IntKind.u64.bits))))) (u64.wrap ((u64.wrap ((BitVec.ofInt IntKind.u64.bits (u64.wrap (hi*2^(min (u64.wrap c_1.1.1).toNat IntKind.u64.bits))) ||| BitVec.ofInt IntKind.u64.bits (lo.fdiv (2^(min (u64.wrap (64-(u64.wrap c_1.1.1))).toNat IntKind.u64.bits)))).toNat))-(u64.wrap ((u64.wrap ((u64.wrap ((BitVec.ofInt IntKind.u64.bits (u64.wrap (hi*2^(min (u64.wrap c_1.1.1).toNat IntKind.u64.bits))) ||| BitVec.ofInt IntKind.u64.bits (lo.fdiv (2^(min (u64.wrap (64-(u64.wrap c_1.1.1))).toNat IntKind.u64.bits)))).toNat)).tdiv ((u64.wrap (y*2^(min (u64.wrap c_1.1.1).toNat IntKind.u64.bits))).fdiv (2^(min (32:Int).toNat IntKind.u64.bits)))))*((u64.wrap (y*2^(min (u64.wrap c_1.1.1).toNat IntKind.u64.bits))).fdiv (2^(min (32:Int).toNat IntKind.u64.bits)))))))
 else none
 else none
 else none
 else none
 else none
def zu.sp (F:Nat):TA zu.sg.args->Option zu.sg.R:=fun x=>zu.sh F x.1 x.2.1 x.2.2.1
@[reducible] def yM.sg:Sig:={args:=[.d (.c (.int .u64)),.d (.c (.int .u64)),.d (.c (.int .u64)),.d (.c (.int .u64))],res:=[.c (.int .u64),.c (.int .u64),.c (.int .u64),.c (.int .u64)]}
abbrev yM.l7.K0 (R:Type):Type:=Int->Int->Int->Int->Int->Int->Int->Bool->Option R
abbrev yM.l7.T (R:Type):Type:=Int->Int->Int->Int->Int->Int->Int->Option R
def yM.l7.body {R:Type} (F:Nat) (k0:yM.l7.K0 R) (rec:yM.l7.T R) (al:Int) (bh:Int) (bl:Int) (ql:Int) (rh:Int) (rl:Int) (i:Int):Option R :=
 bif decide (i>=0) then bif decide (0<=i) then bif decide ((u64.wrap ((BitVec.ofInt IntKind.u64.bits (u64.wrap (rh*2^(min (1:Int).toNat IntKind.u64.bits))) ||| BitVec.ofInt IntKind.u64.bits (rl.fdiv (2^(min (63:Int).toNat IntKind.u64.bits)))).toNat))>bh) then oB (y9.sh F (u64.wrap ((BitVec.ofInt IntKind.u64.bits (u64.wrap (rl*2^(min (1:Int).toNat IntKind.u64.bits))) ||| BitVec.ofInt IntKind.u64.bits (u64.wrap ((BitVec.ofInt IntKind.u64.bits (al.fdiv (2^(min i.toNat IntKind.u64.bits))) &&& BitVec.ofInt IntKind.u64.bits 1).toNat))).toNat)) bl 0) fun c_2 =>
 oB (y9.sh F (u64.wrap ((BitVec.ofInt IntKind.u64.bits (u64.wrap (rh*2^(min (1:Int).toNat IntKind.u64.bits))) ||| BitVec.ofInt IntKind.u64.bits (rl.fdiv (2^(min (63:Int).toNat IntKind.u64.bits)))).toNat)) bh c_2.1.2.1) fun c_3 =>
 bif decide (0<=i) then rec al bh bl (u64.wrap ((BitVec.ofInt IntKind.u64.bits ql ||| BitVec.ofInt IntKind.u64.bits (u64.wrap (1*2^(min i.toNat IntKind.u64.bits)))).toNat)) c_3.1.1 c_2.1.1 (i64.wrap (i-1))
 else none
 else bif ((u64.wrap ((BitVec.ofInt IntKind.u64.bits (u64.wrap (rh*2^(min (1:Int).toNat IntKind.u64.bits))) ||| BitVec.ofInt IntKind.u64.bits (rl.fdiv (2^(min (63:Int).toNat IntKind.u64.bits)))).toNat))==bh) then bif decide ((u64.wrap ((BitVec.ofInt IntKind.u64.bits (u64.wrap (rl*2^(min (1:Int).toNat IntKind.u64.bits))) ||| BitVec.ofInt IntKind.u64.bits (u64.wrap ((BitVec.ofInt IntKind.u64.bits (al.fdiv (2^(min i.toNat IntKind.u64.bits))) &&& BitVec.ofInt IntKind.u64.bits 1).toNat))).toNat))>=bl) then oB (y9.sh F (u64.wrap ((BitVec.ofInt IntKind.u64.bits (u64.wrap (rl*2^(min (1:Int).toNat IntKind.u64.bits))) ||| BitVec.ofInt IntKind.u64.bits (u64.wrap ((BitVec.ofInt IntKind.u64.bits (al.fdiv (2^(min i.toNat IntKind.u64.bits))) &&& BitVec.ofInt IntKind.u64.bits 1).toNat))).toNat)) bl 0) fun c_4 =>
 oB (y9.sh F (u64.wrap ((BitVec.ofInt IntKind.u64.bits (u64.wrap (rh*2^(min (1:Int).toNat IntKind.u64.bits))) ||| BitVec.ofInt IntKind.u64.bits (rl.fdiv (2^(min (63:Int).toNat IntKind.u64.bits)))).toNat)) bh c_4.1.2.1) fun c_5 =>
 bif decide (0<=i) then rec al bh bl (u64.wrap ((BitVec.ofInt IntKind.u64.bits ql ||| BitVec.ofInt IntKind.u64.bits (u64.wrap (1*2^(min i.toNat IntKind.u64.bits)))).toNat)) c_5.1.1 c_4.1.1 (i64.wrap (i-1))
 else none
 else rec al bh bl ql (u64.wrap ((BitVec.ofInt IntKind.u64.bits (u64.wrap (rh*2^(min (1:Int).toNat IntKind.u64.bits))) ||| BitVec.ofInt IntKind.u64.bits (rl.fdiv (2^(min (63:Int).toNat IntKind.u64.bits)))).toNat)) (u64.wrap ((BitVec.ofInt IntKind.u64.bits (u64.wrap (rl*2^(min (1:Int).toNat IntKind.u64.bits))) ||| BitVec.ofInt IntKind.u64.bits (u64.wrap ((BitVec.ofInt IntKind.u64.bits (al.fdiv (2^(min i.toNat IntKind.u64.bits))) &&& BitVec.ofInt IntKind.u64.bits 1).toNat))).toNat)) (i64.wrap (i-1))
 else rec al bh bl ql (u64.wrap ((BitVec.ofInt IntKind.u64.bits (u64.wrap (rh*2^(min (1:Int).toNat IntKind.u64.bits))) ||| BitVec.ofInt IntKind.u64.bits (rl.fdiv (2^(min (63:Int).toNat IntKind.u64.bits)))).toNat)) (u64.wrap ((BitVec.ofInt IntKind.u64.bits (u64.wrap (rl*2^(min (1:Int).toNat IntKind.u64.bits))) ||| BitVec.ofInt IntKind.u64.bits (u64.wrap ((BitVec.ofInt IntKind.u64.bits (al.fdiv (2^(min i.toNat IntKind.u64.bits))) &&& BitVec.ofInt IntKind.u64.bits 1).toNat))).toNat)) (i64.wrap (i-1))
 else none
 else k0 al bh bl ql rh rl i (decide (i>=0))
def yM.l7 {R:Type} (F:Nat) (k0:yM.l7.K0 R):Nat->yM.l7.T R
 | 0,_,_,_,_,_,_,_=>none
 | fu+1,al,bh,bl,ql,rh,rl,i=>yM.l7.body F k0 (yM.l7 F k0 fu) al bh bl ql rh rl i
def yM.sh (F:Nat) (ah:Int) (al:Int) (bh:Int) (bl:Int):Option yM.sg.R :=
 bif (bh==0) then bif (bl != 0) then bif (bl != 0) then oB (zu.sh F (ah.tmod bl) al bl) fun c_1 =>
 some ((u64.wrap (ah.tdiv bl),c_1.1.1,0,c_1.1.2.1,()),())
 else none
 else none
 else yM.l7 F (fun al6 bh6 bl6 ql6 rh6 rl6 i6 t346=>some ((0,ql6,rh6,rl6,()),())) F al bh bl 0 0 ah 63
def yM.sp (F:Nat):TA yM.sg.args->Option yM.sg.R:=fun x=>yM.sh F x.1 x.2.1 x.2.2.1 x.2.2.2.1
@[reducible] def vd.sg:Sig:={args:=[.d (.g zh),.d (.g zh)],res:=[.g zh,.g zh,.c (.int .i64)]}
def vd.sh (F:Nat) (a:zh.T) (b:zh.T):Option vd.sg.R :=
 bif ((b.1==0)&&((b.2==0)&&true)) then some (((0,0),(0,0),20,()),())
 else oB (vG.sh F a) fun c_1 =>
 oB (vG.sh F b) fun c_2 =>
 oB (yM.sh F c_1.1.1 c_1.1.2.1 c_2.1.1 c_2.1.2.1) fun c_3 =>
 oB (vI.sh F (!(decide (a.1<0)==decide (b.1<0))) c_3.1.1 c_3.1.2.1) fun c_4 =>
 bif (c_4.1.2.1 != 0) then some (((0,0),(0,0),c_4.1.2.1,()),())
 else oB (vI.sh F (decide (a.1<0)) c_3.1.2.2.1 c_3.1.2.2.2.1) fun c_5 =>
 some ((c_4.1.1,c_5.1.1,c_5.1.2.1,()),())
def vd.sp (F:Nat):TA vd.sg.args->Option vd.sg.R:=fun x=>vd.sh F x.1 x.2.1
@[reducible] def vD.sg:Sig:={args:=[.d (.g zh),.d (.g zh),.d (.g zh),.d (.c (.int .i64))],res:=[.c .bool]}
def vD.sh (F:Nat) (q:zh.T) (r:zh.T) (b:zh.T) (mode:Int):Option vD.sg.R :=
 bif (mode==0) then some (((!(decide (r.1<0)==decide (b.1<0))),()),())
 else bif (mode==1) then some ((!(!(decide (r.1<0)==decide (b.1<0))),()),())
 else bif (mode==2) then some ((false,()),())
 else oB (vG.sh F r) fun c_1 =>
 oB (vG.sh F b) fun c_2 =>
 oB (y9.sh F c_2.1.2.1 c_1.1.2.1 0) fun c_3 =>
 oB (y9.sh F c_2.1.1 c_1.1.1 c_3.1.2.1) fun c_4 =>
 bif decide (c_1.1.1>c_4.1.1) then some ((true,()),())
 else bif (c_1.1.1==c_4.1.1) then bif decide (c_1.1.2.1>c_3.1.1) then some ((true,()),())
 else bif (c_1.1.1==c_4.1.1) then bif (c_1.1.2.1==c_3.1.1) then bif (mode==3) then some ((true,()),())
 else some ((((u64.wrap ((BitVec.ofInt IntKind.u64.bits q.2 &&& BitVec.ofInt IntKind.u64.bits 1).toNat))==1),()),())
 else some ((false,()),())
 else some ((false,()),())
 else bif (c_1.1.1==c_4.1.1) then bif (c_1.1.2.1==c_3.1.1) then bif (mode==3) then some ((true,()),())
 else some ((((u64.wrap ((BitVec.ofInt IntKind.u64.bits q.2 &&& BitVec.ofInt IntKind.u64.bits 1).toNat))==1),()),())
 else some ((false,()),())
 else some ((false,()),())
def vD.sp (F:Nat):TA vD.sg.args->Option vD.sg.R:=fun x=>vD.sh F x.1 x.2.1 x.2.2.1 x.2.2.2.1
@[reducible] def wU.sg:Sig:={args:=[.d (.g zh),.d (.g zh)],res:=[.g zh,.c (.int .i64)]}
def wU.sh (F:Nat) (a:zh.T) (b:zh.T):Option wU.sg.R :=
 oB (xy.sh F a.2 b.2 0) fun c_1 =>
 oB (xy.sh F (u64.wrap a.1) (u64.wrap b.1) c_1.1.2.1) fun c_2 =>
 bif (decide (a.1<0)==decide (b.1<0)) then bif (!(decide ((i64.wrap c_2.1.1)<0)==decide (a.1<0))) then some (((0,0),10,()),())
 else some (((i64.wrap c_2.1.1,c_1.1.1),0,()),())
 else some (((i64.wrap c_2.1.1,c_1.1.1),0,()),())
def wU.sp (F:Nat):TA wU.sg.args->Option wU.sg.R:=fun x=>wU.sh F x.1 x.2.1
@[reducible] def vn.sg:Sig:={args:=[.d (.g zh),.d (.g zh),.d (.c (.int .i64))],res:=[.g zh,.c (.int .i64)]}
def vn.sh (F:Nat) (a:zh.T) (b:zh.T) (mode:Int):Option vn.sg.R :=
 bif decide (mode<0) then some (((0,0),1,()),())
 else bif decide (mode>4) then some (((0,0),1,()),())
 else oB (vd.sh F a b) fun c_1 =>
 bif (c_1.1.2.2.1 != 0) then some ((c_1.1.1,c_1.1.2.2.1,()),())
 else bif ((c_1.1.2.1.1==0)&&((c_1.1.2.1.2==0)&&true)) then some ((c_1.1.1,c_1.1.2.2.1,()),())
 else oB (vD.sh F c_1.1.1 c_1.1.2.1 b mode) fun c_2 =>
 bif !c_2.1.1 then some ((c_1.1.1,c_1.1.2.2.1,()),())
 else bif (!(decide (a.1<0)==decide (b.1<0))) then oB (yQ.sh F 1) fun c_3 =>
 oB (vK.sh F c_1.1.1 c_3.1.1) fun c_4 =>
 some ((c_4.1.1,c_4.1.2.1,()),())
 else oB (yQ.sh F 1) fun c_5 =>
 oB (wU.sh F c_1.1.1 c_5.1.1) fun c_6 =>
 some ((c_6.1.1,c_6.1.2.1,()),())
def vn.sp (F:Nat):TA vn.sg.args->Option vn.sg.R:=fun x=>vn.sh F x.1 x.2.1 x.2.2.1
@[reducible] def v7.sg:Sig:={args:=[.d (.c (.int .i64))],res:=[.c (.int .i64)]}
def v7.sh (F:Nat) (v:Int):Option v7.sg.R :=
 some (((if i64.wrap (0-v)>v then i64.wrap (0-v) else v),()),())
def v7.sp (F:Nat):TA v7.sg.args->Option v7.sg.R:=fun x=>v7.sh F x.1
@[reducible] def xp.sg:Sig:={args:=[.io zj,.d (.g zh),.d (.g zh)],res:=[.g zh]}
def xp.sh (F:Nat) (m:zj.T) (a:zh.T) (b:zh.T):Option xp.sg.R :=
 oB (wU.sh F a b) fun c_1 =>
 oB (xn.sh F m c_1.1.1 c_1.1.2.1) fun c_2 =>
 some ((c_2.1.1,()),(c_2.2.1,()))
def xp.sp (F:Nat):TA xp.sg.args->Option xp.sg.R:=fun x=>xp.sh F x.1 x.2.1 x.2.2.1
@[reducible] def zN.sg:Sig:={args:=[.io zj,.d (.g zh),.d (.b yp)],res:=[.g zh]}
abbrev zN.l3.K0 (R:Type):Type:=(List yp.T)->Int->(List yp.T)->Int->Int->Bool->zj.T->zh.T->zh.T->zh.T->Option R
abbrev zN.l3.T (R:Type):Type:=(List yp.T)->Int->(List yp.T)->Int->Int->zj.T->zh.T->zh.T->zh.T->Option R
def zN.l3.body {R:Type} (F:Nat) (k0:zN.l3.K0 R) (rec:zN.l3.T R) (tiers:List yp.T) (rate:Int) (t13:List yp.T) (t14:Int) (t15:Int) (m:zj.T) (x:zh.T) (r6:zh.T) (ways:zh.T):Option R :=
 bif decide (t15<t14) then bif idx t15 t13.length then oB (v7.sh F (get yp t13 t15.toNat).2) fun c_1 =>
 bif decide ((i64.wrap (t15+1))<(tiers.length:Int)) then oB (v7.sh F (get yp t13 t15.toNat).2) fun c_2 =>
 oB (yQ.sh F c_2.1.1) fun c_3 =>
 bif idx (i64.wrap (t15+1)) tiers.length then oB (yQ.sh F (i64.wrap ((get yp tiers ((i64.wrap (t15+1)).toNat)).1-(get yp t13 t15.toNat).1))) fun c_4 =>
 oB (xk.sh F m c_3.1.1 c_4.1.1) fun c_5 =>
 bif (((m.1.1==c_5.2.1.1.1)&&((m.1.2==c_5.2.1.1.2)&&true))&&true) then oB (xp.sh F c_5.2.1 ways c_5.1.1) fun c_6 =>
 bif (((c_5.2.1.1.1==c_6.2.1.1.1)&&((c_5.2.1.1.2==c_6.2.1.1.2)&&true))&&true) then rec tiers (if c_1.1.1>rate then c_1.1.1 else rate) t13 t14 (i64.wrap (t15+1)) c_6.2.1 x r6 c_6.1.1
 else none
 else none
 else none
 else rec tiers (if c_1.1.1>rate then c_1.1.1 else rate) t13 t14 (i64.wrap (t15+1)) m x r6 ways
 else none
 else k0 tiers rate t13 t14 t15 (decide (t15<t14)) m x r6 ways
def zN.l3 {R:Type} (F:Nat) (k0:zN.l3.K0 R):Nat->zN.l3.T R
 | 0,_,_,_,_,_,_,_,_,_=>none
 | fu+1,tiers,rate,t13,t14,t15,m,x,r6,ways=>zN.l3.body F k0 (zN.l3 F k0 fu) tiers rate t13 t14 t15 m x r6 ways
def zN.sh (F:Nat) (m:zj.T) (x:zh.T) (tiers:List yp.T):Option zN.sg.R :=
 zN.l3 F (fun tiers7 rate7 t137 t147 t157 t167 m7 x7 r67 ways7=>bif idx (i64.wrap ((tiers7.length:Int)-1)) tiers7.length then oB (yQ.sh F (get yp tiers7 ((i64.wrap ((tiers7.length:Int)-1)).toNat)).1) fun c_8 =>
 oB (xp.sh F m7 x7 c_8.1.1) fun c_9 =>
 bif (((m7.1.1==c_9.2.1.1.1)&&((m7.1.2==c_9.2.1.1.2)&&true))&&true) then oB (yQ.sh F rate7) fun c_10 =>
 oB (xk.sh F c_9.2.1 c_10.1.1 c_9.1.1) fun c_11 =>
 bif (((c_9.2.1.1.1==c_11.2.1.1.1)&&((c_9.2.1.1.2==c_11.2.1.1.2)&&true))&&true) then oB (xp.sh F c_11.2.1 c_11.1.1 ways7) fun c_12 =>
 bif (((c_11.2.1.1.1==c_12.2.1.1.1)&&((c_11.2.1.1.2==c_12.2.1.1.2)&&true))&&true) then oB (xk.sh F c_12.2.1 c_9.2.1.1 c_12.1.1) fun c_13 =>
 bif (((c_12.2.1.1.1==c_13.2.1.1.1)&&((c_12.2.1.1.2==c_13.2.1.1.2)&&true))&&true) then some ((c_13.1.1,()),(c_13.2.1,()))
 else none
 else none
 else none
 else none
 else none) F tiers 0 tiers (tiers.length:Int) 0 m x (0,0) (0,0)
def zN.sp (F:Nat):TA zN.sg.args->Option zN.sg.R:=fun x=>zN.sh F x.1 x.2.1 x.2.2.1
@[reducible] def xJ.sg:Sig:={args:=[.d (.b zh)],res:=[.g zh,.c (.int .i64)]}
abbrev xJ.l4.K0 (R:Type):Type:=Int->Int->Int->(List zh.T)->Int->Int->Bool->zh.T->Option R
abbrev xJ.l4.T (R:Type):Type:=Int->Int->Int->(List zh.T)->Int->Int->zh.T->Option R
def xJ.l4.body {R:Type} (F:Nat) (k0:xJ.l4.K0 R) (rec:xJ.l4.T R) (lo:Int) (hi:Int) (top:Int) (t11:List zh.T) (t12:Int) (t13:Int) (r2:zh.T):Option R :=
 bif decide (t13<t12) then bif idx t13 t11.length then oB (xy.sh F lo (get zh t11 t13.toNat).2 0) fun c_1 =>
 oB (xy.sh F hi (u64.wrap (get zh t11 t13.toNat).1) c_1.1.2.1) fun c_2 =>
 rec c_1.1.1 c_2.1.1 (i64.wrap (top+(i64.wrap (((get zh t11 t13.toNat).1.fdiv (2^(min (63:Int).toNat IntKind.i64.bits)))+(i64.wrap c_2.1.2.1))))) t11 t12 (i64.wrap (t13+1)) r2
 else none
 else k0 lo hi top t11 t12 t13 (decide (t13<t12)) r2
def xJ.l4 {R:Type} (F:Nat) (k0:xJ.l4.K0 R):Nat->xJ.l4.T R
 | 0,_,_,_,_,_,_,_=>none
 | fu+1,lo,hi,top,t11,t12,t13,r2=>xJ.l4.body F k0 (xJ.l4 F k0 fu) lo hi top t11 t12 t13 r2
def xJ.sh (F:Nat) (list:List zh.T):Option xJ.sg.R :=
 xJ.l4 F (fun lo3 hi3 top3 t113 t123 t133 t143 r23=>bif (top3 != ((i64.wrap hi3).fdiv (2^(min (63:Int).toNat IntKind.i64.bits)))) then some (((0,0),10,()),())
 else some (((i64.wrap hi3,lo3),0,()),())) F 0 0 0 list (list.length:Int) 0 (0,0)
def xJ.sp (F:Nat):TA xJ.sg.args->Option xJ.sg.R:=fun x=>xJ.sh F x.1
@[reducible] def z8.sg:Sig:={args:=[.io zj,.d (.g yr),.d (.g zx),.d (.b zh)],res:=[.g zh]}
def z8.j18 {R:Type} (F:Nat) (k0:zj.T->zh.T->Option R) (kids:List zh.T) (m:zj.T) (n:zx.T) (r8:zh.T):Option R :=
 oB (xJ.sh F kids) fun c_13 =>
 oB (xn.sh F m c_13.1.1 c_13.1.2.1) fun c_14 =>
 bif (n.1==11) then oB (yQ.sh F n.2.1) fun c_15 =>
 oB (xp.sh F c_14.2.1 c_14.1.1 c_15.1.1) fun c_16 =>
 k0 c_16.2.1 c_16.1.1
 else bif (n.1==12) then oB (yQ.sh F n.2.1) fun c_17 =>
 oB (xp.sh F c_14.2.1 c_14.1.1 c_17.1.1) fun c_18 =>
 k0 c_18.2.1 c_18.1.1
 else bif (n.1==16) then oB (yQ.sh F n.2.1) fun c_19 =>
 oB (xp.sh F c_14.2.1 c_14.1.1 c_19.1.1) fun c_20 =>
 k0 c_20.2.1 c_20.1.1
 else k0 c_14.2.1 c_14.1.1
def z8.sh (F:Nat) (m:zj.T) (p:yr.T) (n:zx.T) (kids:List zh.T):Option z8.sg.R :=
 bif (n.1==1) then oB (yQ.sh F n.2.1) fun c_1 =>
 some ((c_1.1.1,()),(m,()))
 else bif (n.1==2) then oB (yQ.sh F n.2.1) fun c_2 =>
 oB (xk.sh F m c_2.1.1 m.1) fun c_3 =>
 some ((c_3.1.1,()),(c_3.2.1,()))
 else bif (n.1==3) then oB (yQ.sh F 1099511627776) fun c_4 =>
 some ((c_4.1.1,()),(m,()))
 else bif (n.1==4) then oB (yQ.sh F 1099511627776) fun c_5 =>
 bif idx n.2.1 p.2.1.length then oB (yQ.sh F (get wV p.2.1 n.2.1.toNat).2) fun c_6 =>
 oB (vn.sh F c_5.1.1 c_6.1.1 1) fun c_7 =>
 oB (xn.sh F m c_7.1.1 c_7.1.2.1) fun c_8 =>
 some ((c_8.1.1,()),(c_8.2.1,()))
 else none
 else bif (n.1==8) then bif idx 0 kids.length then bif idx 1 kids.length then oB (xk.sh F m (get zh kids 0) (get zh kids 1)) fun c_9 =>
 some ((c_9.1.1,()),(c_9.2.1,()))
 else none
 else none
 else bif (n.1==13) then bif (n.1==13) then bif idx 0 kids.length then oB (zN.sh F m (get zh kids 0) n.2.2.2.2.1) fun c_10 =>
 some ((c_10.1.1,()),(c_10.2.1,()))
 else none
 else bif (n.1==15) then bif idx 0 kids.length then oB (yQ.sh F 10000) fun c_11 =>
 oB (xk.sh F m (get zh kids 0) c_11.1.1) fun c_12 =>
 bif idx 0 kids.length then some (((get zh kids 0),()),(c_12.2.1,()))
 else none
 else none
 else z8.j18 F (fun m21 r821=>some ((r821,()),(m21,()))) kids m n (0,0)
 else bif (n.1==14) then bif idx 0 kids.length then oB (zN.sh F m (get zh kids 0) n.2.2.2.2.1) fun c_22 =>
 some ((c_22.1.1,()),(c_22.2.1,()))
 else none
 else bif (n.1==15) then bif idx 0 kids.length then oB (yQ.sh F 10000) fun c_23 =>
 oB (xk.sh F m (get zh kids 0) c_23.1.1) fun c_24 =>
 bif idx 0 kids.length then some (((get zh kids 0),()),(c_24.2.1,()))
 else none
 else none
 else z8.j18 F (fun m25 r825=>some ((r825,()),(m25,()))) kids m n (0,0)
def z8.sp (F:Nat):TA z8.sg.args->Option z8.sg.R:=fun x=>z8.sh F x.1 x.2.1 x.2.2.1 x.2.2.2.1
@[reducible] def v8.sg:Sig:={args:=[.d (.g zh),.d (.g zh)],res:=[.c (.int .i64)]}
def v8.sh (F:Nat) (a:zh.T) (b:zh.T):Option v8.sg.R :=
 bif ((a.1==b.1)&&((a.2==b.2)&&true)) then some ((0,()),())
 else bif decide (a.1<b.1) then bif decide (a.1<b.1) then some (((-1),()),())
 else some ((1,()),())
 else bif (a.1==b.1) then bif decide (a.2<b.2) then some (((-1),()),())
 else some ((1,()),())
 else some ((1,()),())
def v8.sp (F:Nat):TA v8.sg.args->Option v8.sg.R:=fun x=>v8.sh F x.1 x.2.1
@[reducible] def vu.sg:Sig:={args:=[.d (.g zx),.d (.g zh)],res:=[.c .bool]}
def vu.sh (F:Nat) (n:zx.T) (mag:zh.T):Option vu.sg.R :=
 bif (n.1==15) then oB (yQ.sh F 10000) fun c_1 =>
 oB (xc.sh F mag c_1.1.1) fun c_2 =>
 oB (v8.sh F c_2.1.1 (72057594037927936,0)) fun c_3 =>
 some ((decide (c_3.1.1>0),()),())
 else oB (v8.sh F mag (72057594037927936,0)) fun c_4 =>
 some ((decide (c_4.1.1>0),()),())
def vu.sp (F:Nat):TA vu.sg.args->Option vu.sg.R:=fun x=>vu.sh F x.1 x.2.1
@[reducible] def zJ.sg:Sig:={args:=[.d (.g yr),.d (.g zh)],res:=[.c (.sl zh),.c (.int .i64)]}
abbrev zJ.l4.K0 (R:Type):Type:=(List zh.T)->Int->Option R
abbrev zJ.l4.K1 (R:Type):Type:=(List zx.T)->Int->Int->Bool->yr.T->zj.T->(List zh.T)->(List zh.T)->Option R
abbrev zJ.l4.T (R:Type):Type:=(List zx.T)->Int->Int->yr.T->zj.T->(List zh.T)->(List zh.T)->Option R
def zJ.l4.body {R:Type} (F:Nat) (k0:zJ.l4.K0 R) (k1:zJ.l4.K1 R) (rec:zJ.l4.T R) (t17:List zx.T) (t18:Int) (t19:Int) (p:yr.T) (m:zj.T) (mags:List zh.T) (pile:List zh.T):Option R :=
 bif decide (t19<t18) then bif idx t19 t17.length then oB (yX.sh F (get zx t17 t19.toNat)) fun c_1 =>
 bif (zI pile.length (some (i64.wrap ((pile.length:Int)-c_1.1.1))) none).1 then oB (z8.sh F m p (get zx t17 t19.toNat) ((List.take (zI pile.length (some (i64.wrap ((pile.length:Int)-c_1.1.1))) none).2.2 pile).drop (zI pile.length (some (i64.wrap ((pile.length:Int)-c_1.1.1))) none).2.1)) fun c_2 =>
 bif c_2.2.1.2 then k0 ([]) t19
 else oB (vu.sh F (get zx t17 t19.toNat) c_2.1.1) fun c_3 =>
 bif c_3.1.1 then k0 ([]) t19
 else bif Nat.ble (mags.length+([c_2.1.1]:List zh.T).length) vc then bif (zI pile.length none (some (i64.wrap ((pile.length:Int)-c_1.1.1)))).1 then bif Nat.ble ((zI pile.length none (some (i64.wrap ((pile.length:Int)-c_1.1.1)))).2.2+([c_2.1.1]:List zh.T).length) vc then rec t17 t18 (i64.wrap (t19+1)) p c_2.2.1 (mags++([c_2.1.1]:List zh.T)) (pile.take (zI pile.length none (some (i64.wrap ((pile.length:Int)-c_1.1.1)))).2.2++([c_2.1.1]:List zh.T))
 else none
 else none
 else none
 else none
 else none
 else k1 t17 t18 t19 (decide (t19<t18)) p m mags pile
def zJ.l4 {R:Type} (F:Nat) (k0:zJ.l4.K0 R) (k1:zJ.l4.K1 R):Nat->zJ.l4.T R
 | 0,_,_,_,_,_,_,_=>none
 | fu+1,t17,t18,t19,p,m,mags,pile=>zJ.l4.body F k0 k1 (zJ.l4 F k0 k1 fu) t17 t18 t19 p m mags pile
def zJ.j13 {R:Type} (F:Nat) (k0:(List zh.T)->Int->Option R) (mags:List zh.T):Option R :=
 k0 mags (-1)
def zJ.sh (F:Nat) (p:yr.T) (unit:zh.T):Option zJ.sg.R :=
 zJ.l4 F (fun r44 r54=>some ((r44,r54,()),())) (fun t175 t185 t195 t205 p5 m5 mags5 pile5=>zJ.j13 F (fun r46 r56=>some ((r46,r56,()),())) mags5) F p.2.2.2 (p.2.2.2.length:Int) 0 p (unit,false) ([]) ([])
def zJ.sp (F:Nat):TA zJ.sg.args->Option zJ.sg.R:=fun x=>zJ.sh F x.1 x.2.1
@[reducible] def vC.sg:Sig:={args:=[.d (.g yr)],res:=[.g zh,.c (.int .i64),.c (.int .i64)]}
def vC.sh (F:Nat) (p:yr.T):Option vC.sg.R :=
 oB (zE.sh F p) fun c_1 =>
 bif (c_1.1.2.2.1 != 0) then some (((0,0),c_1.1.2.1,c_1.1.2.2.1,()),())
 else oB (yq.sh F p) fun c_2 =>
 bif decide (c_2.1.1>6) then some (((0,0),i64.wrap ((p.2.2.2.length:Int)-1),90,()),())
 else oB (yV.sh F c_2.1.1) fun c_3 =>
 oB (zJ.sh F p c_3.1.1) fun c_4 =>
 bif decide (c_4.1.2.1>=0) then some (((0,0),c_4.1.2.1,90,()),())
 else some ((c_3.1.1,0,c_3.1.2.1,()),())
def vC.sp (F:Nat):TA vC.sg.args->Option vC.sg.R:=fun x=>vC.sh F x.1
@[reducible] def xq.sg:Sig:={args:=[.d (.g za)],res:=[.c (.sl zo)]}
def xq.sh (F:Nat) (m:za.T):Option xq.sg.R :=
 bif (m.1.1==1) then oB (yQ.sh F m.1.2.1) fun c_1 =>
 some ((([(0,c_1.1.1,(0,0),0,0)]:List zo.T),()),())
 else bif (m.1.1==2) then oB (yQ.sh F m.1.2.1) fun c_2 =>
 oB (xc.sh F c_2.1.1 m.2.1) fun c_3 =>
 some ((([(0,c_3.1.1,(0,0),0,0)]:List zo.T),()),())
 else bif (m.1.1==3) then oB (yQ.sh F 1) fun c_4 =>
 some ((([(0,(0,0),c_4.1.1,0,0)]:List zo.T),()),())
 else bif (m.1.1==4) then oB (yQ.sh F 1) fun c_5 =>
 some ((([(0,(0,0),(0,0),c_5.1.1)]:List zo.T),()),())
 else some ((([(0,(0,0),(0,0),0,0)]:List zo.T),()),())
def xq.sp (F:Nat):TA xq.sg.args->Option xq.sg.R:=fun x=>xq.sh F x.1
@[reducible] def xd.sg:Sig:={args:=[.d (.g za)],res:=[.c (.bnd za),.c (.int .i64)]}
def xd.sh (F:Nat) (m:za.T):Option xd.sg.R :=
 bif idx m.1.1 (([Ty.dflt (.pair (.bnd za) (.int .i64)),Ty.dflt (.pair (.bnd za) (.int .i64)),Ty.dflt (.pair (.bnd za) (.int .i64)),Ty.dflt (.pair (.bnd za) (.int .i64)),Ty.dflt (.pair (.bnd za) (.int .i64)),((uO,m),1),((uQ,m),2),((uM,m),2),((uP,m),2),((uz,m),m.1.2.2.2.1),((uH,m),m.1.2.2.2.1),((uG,m),1),((uE,m),1),((vR,m),1),((ut,m),1),((uN,m),1),((uF,m),3)]:List ((Nat×za.T)×Int)).length) then bif idx m.1.1 (([Ty.dflt (.pair (.bnd za) (.int .i64)),Ty.dflt (.pair (.bnd za) (.int .i64)),Ty.dflt (.pair (.bnd za) (.int .i64)),Ty.dflt (.pair (.bnd za) (.int .i64)),Ty.dflt (.pair (.bnd za) (.int .i64)),((uO,m),1),((uQ,m),2),((uM,m),2),((uP,m),2),((uz,m),m.1.2.2.2.1),((uH,m),m.1.2.2.2.1),((uG,m),1),((uE,m),1),((vR,m),1),((ut,m),1),((uN,m),1),((uF,m),3)]:List ((Nat×za.T)×Int)).length) then some (((get (.pair (.bnd za) (.int .i64)) ([Ty.dflt (.pair (.bnd za) (.int .i64)),Ty.dflt (.pair (.bnd za) (.int .i64)),Ty.dflt (.pair (.bnd za) (.int .i64)),Ty.dflt (.pair (.bnd za) (.int .i64)),Ty.dflt (.pair (.bnd za) (.int .i64)),((uO,m),1),((uQ,m),2),((uM,m),2),((uP,m),2),((uz,m),m.1.2.2.2.1),((uH,m),m.1.2.2.2.1),((uG,m),1),((uE,m),1),((vR,m),1),((ut,m),1),((uN,m),1),((uF,m),3)]:List ((Nat×za.T)×Int)) m.1.1.toNat).1,(get (.pair (.bnd za) (.int .i64)) ([Ty.dflt (.pair (.bnd za) (.int .i64)),Ty.dflt (.pair (.bnd za) (.int .i64)),Ty.dflt (.pair (.bnd za) (.int .i64)),Ty.dflt (.pair (.bnd za) (.int .i64)),Ty.dflt (.pair (.bnd za) (.int .i64)),((uO,m),1),((uQ,m),2),((uM,m),2),((uP,m),2),((uz,m),m.1.2.2.2.1),((uH,m),m.1.2.2.2.1),((uG,m),1),((uE,m),1),((vR,m),1),((ut,m),1),((uN,m),1),((uF,m),3)]:List ((Nat×za.T)×Int)) m.1.1.toNat).2,()),())
 else none
 else none
def xd.sp (F:Nat):TA xd.sg.args->Option xd.sg.R:=fun x=>xd.sh F x.1
@[reducible] def vJ.sg:Sig:={args:=[.d (.g zh),.d (.g zh),.d (.g zh),.d (.c (.int .i64)),.d (.c (.int .i64)),.d (.c (.int .i64))],res:=[.g zf,.c (.int .i64)]}
def vJ.sh (F:Nat) (a:zh.T) (b:zh.T) (c:zh.T) (e:Int) (f:Int) (g:Int):Option vJ.sg.R :=
 bif (e != 0) then some ((((0,0),(0,0),0,0),10,()),())
 else bif (f != 0) then some ((((0,0),(0,0),0,0),10,()),())
 else bif (g != 0) then some ((((0,0),(0,0),0,0),10,()),())
 else some (((a,b,c),0,()),())
def vJ.sp (F:Nat):TA vJ.sg.args->Option vJ.sg.R:=fun x=>vJ.sh F x.1 x.2.1 x.2.2.1 x.2.2.2.1 x.2.2.2.2.1 x.2.2.2.2.2.1
@[reducible] def uK.sg:Sig:={args:=[.d (.g zf),.d (.g zf)],res:=[.g zf,.c (.int .i64)]}
def uK.sh (F:Nat) (l:zf.T) (m:zf.T):Option uK.sg.R :=
 oB (wU.sh F l.1 m.1) fun c_1 =>
 oB (wU.sh F l.2.1 m.2.1) fun c_2 =>
 oB (wU.sh F l.2.2 m.2.2) fun c_3 =>
 oB (vJ.sh F c_1.1.1 c_2.1.1 c_3.1.1 c_1.1.2.1 c_2.1.2.1 c_3.1.2.1) fun c_4 =>
 some ((c_4.1.1,c_4.1.2.1,()),())
def uK.sp (F:Nat):TA uK.sg.args->Option uK.sg.R:=fun x=>uK.sh F x.1 x.2.1
@[reducible] def vv.sg:Sig:={args:=[.d (.g zf),.d (.g zf)],res:=[.g zf]}
def vv.sh (F:Nat) (l:zf.T) (m:zf.T):Option vv.sg.R :=
 oB (uK.sh F l m) fun c_1 =>
 some ((c_1.1.1,()),())
def vv.sp (F:Nat):TA vv.sg.args->Option vv.sg.R:=fun x=>vv.sh F x.1 x.2.1
@[reducible] def wy.sg:Sig:={args:=[.d (.g za),.d (.b zf),.d (.c (.int .i64))],res:=[.g zf,.c (.sl zf)]}
def wy.sh (F:Nat) (m:za.T) (k:List zf.T) (t2:Int):Option wy.sg.R :=
 bif idx 0 k.length then bif idx 1 k.length then oB (vv.sh F (get zf k 0) (get zf k 1)) fun c_1 =>
 some ((c_1.1.1,[],()),())
 else none
 else none
def wy.sp (F:Nat):TA wy.sg.args->Option wy.sg.R:=fun x=>wy.sh F x.1 x.2.1 x.2.2.1
@[reducible] def y7.sg:Sig:={args:=[.d (.g zh)],res:=[.g zf]}
def y7.sh (F:Nat) (w:zh.T):Option y7.sg.R :=
 some (((w,(0,0),0,0),()),())
def y7.sp (F:Nat):TA y7.sg.args->Option y7.sg.R:=fun x=>y7.sh F x.1
@[reducible] def uJ.sg:Sig:={args:=[.d (.g zf),.d (.g zf)],res:=[.g zf,.c (.int .i64)]}
def uJ.sh (F:Nat) (l:zf.T) (m:zf.T):Option uJ.sg.R :=
 oB (vK.sh F l.1 m.1) fun c_1 =>
 oB (vK.sh F l.2.1 m.2.1) fun c_2 =>
 oB (vK.sh F l.2.2 m.2.2) fun c_3 =>
 oB (vJ.sh F c_1.1.1 c_2.1.1 c_3.1.1 c_1.1.2.1 c_2.1.2.1 c_3.1.2.1) fun c_4 =>
 some ((c_4.1.1,c_4.1.2.1,()),())
def uJ.sp (F:Nat):TA uJ.sg.args->Option uJ.sg.R:=fun x=>uJ.sh F x.1 x.2.1
@[reducible] def xP.sg:Sig:={args:=[.d (.g zf),.d (.g zf)],res:=[.g zf]}
def xP.sh (F:Nat) (l:zf.T) (m:zf.T):Option xP.sg.R :=
 oB (uJ.sh F l m) fun c_1 =>
 some ((c_1.1.1,()),())
def xP.sp (F:Nat):TA xP.sg.args->Option xP.sg.R:=fun x=>xP.sh F x.1 x.2.1
@[reducible] def yW.sg:Sig:={args:=[.d (.c (.int .i64)),.d (.p zf),.d (.p za)],res:=[.g zf]}
def yW.sh (F:Nat) (i:Int) (t1:zf.T) (t2:za.T):Option yW.sg.R :=
 bif idx i t2.1.2.2.2.2.1.length then oB (yQ.sh F (get yp t2.1.2.2.2.2.1 i.toNat).1) fun c_1 =>
 oB (y7.sh F c_1.1.1) fun c_2 =>
 oB (xP.sh F t1 c_2.1.1) fun c_3 =>
 some ((c_3.1.1,()),())
 else none
def yW.sp (F:Nat):TA yW.sg.args->Option yW.sg.R:=fun x=>yW.sh F x.1 x.2.1 x.2.2.1
@[reducible] def ui.sg:Sig:={args:=[.d (.c (.int .i64)),.d (.c (.int .i64))],res:=[.c .bool]}
def ui.sh (F:Nat) (size:Int) (q:Int):Option ui.sg.R :=
 bif decide (size>=1) then bif decide (size<=1000000000000) then bif decide (q>=0) then some ((decide (q<=1099511627776),()),())
 else some ((false,()),())
 else some ((false,()),())
 else some ((false,()),())
def ui.sp (F:Nat):TA ui.sg.args->Option ui.sg.R:=fun x=>ui.sh F x.1 x.2.1
@[reducible] def vo.sg:Sig:={args:=[.d (.c (.int .i64)),.d (.c (.int .i64))],res:=[.c (.int .i64)]}
def vo.sh (F:Nat) (q:Int) (size:Int):Option vo.sg.R :=
 bif (size != 0) then bif (size != 0) then some ((i64.wrap ((i64.wrap (q.tdiv size))+(if 1<q.tmod size then 1 else q.tmod size)),()),())
 else none
 else none
def vo.sp (F:Nat):TA vo.sg.args->Option vo.sg.R:=fun x=>vo.sh F x.1 x.2.1
@[reducible] def wS.sg:Sig:={args:=[.d (.g zf),.d (.c (.int .i64)),.d (.c (.int .i64))],res:=[.g zh,.c (.int .i64)]}
def wS.sh (F:Nat) (l:zf.T) (size:Int) (q:Int):Option wS.sg.R :=
 oB (ui.sh F size q) fun c_1 =>
 bif !c_1.1.1 then some (((0,0),1,()),())
 else oB (yQ.sh F q) fun c_2 =>
 oB (xc.sh F l.2.1 c_2.1.1) fun c_3 =>
 bif (c_3.1.2.1 != 0) then some (((0,0),c_3.1.2.1,()),())
 else oB (vo.sh F q size) fun c_4 =>
 oB (yQ.sh F c_4.1.1) fun c_5 =>
 oB (xc.sh F l.2.2 c_5.1.1) fun c_6 =>
 bif (c_6.1.2.1 != 0) then some (((0,0),c_6.1.2.1,()),())
 else oB (wU.sh F l.1 c_3.1.1) fun c_7 =>
 bif (c_7.1.2.1 != 0) then some (((0,0),c_7.1.2.1,()),())
 else oB (wU.sh F c_7.1.1 c_6.1.1) fun c_8 =>
 some ((c_8.1.1,c_8.1.2.1,()),())
def wS.sp (F:Nat):TA wS.sg.args->Option wS.sg.R:=fun x=>wS.sh F x.1 x.2.1 x.2.2.1
@[reducible] def vp.sg:Sig:={args:=[.d (.g zh)],res:=[.c (.int .i64)]}
def vp.sh (F:Nat) (w:zh.T):Option vp.sg.R :=
 bif decide (w.1<0) then some (((-1),()),())
 else bif ((w.1==0)&&((w.2==0)&&true)) then some ((0,()),())
 else some ((1,()),())
def vp.sp (F:Nat):TA vp.sg.args->Option vp.sg.R:=fun x=>vp.sh F x.1
@[reducible] def yx.sg:Sig:={args:=[.d (.g za),.d (.g zf),.d (.c (.int .i64))],res:=[.c .bool]}
def yx.sh (F:Nat) (m:za.T) (l:zf.T) (q:Int):Option yx.sg.R :=
 oB (wS.sh F l m.2.2 q) fun c_1 =>
 oB (vp.sh F c_1.1.1) fun c_2 =>
 some ((decide (c_2.1.1>0),()),())
def yx.sp (F:Nat):TA yx.sg.args->Option yx.sg.R:=fun x=>yx.sh F x.1 x.2.1 x.2.2.1
@[reducible] def zk.sg:Sig:={args:=[.d (.g za),.d (.g zf),.d (.c (.int .i64))],res:=[.c (.int .i64),.c (.sl zf)]}
@[reducible] def zk.ds22:Sig:={args:=[.d (.c (.int .i64)),.d (.p zf),.d (.p za)],res:=[.g zf]}
def zk.d22 (F:Nat):Nat->TA zk.ds22.args->Option zk.ds22.R:=mkT zk.ds22 [(qy,yW.sp F)]
@[reducible] def zk.ds34:Sig:={args:=[.d (.c (.int .i64)),.d (.p zf),.d (.p za)],res:=[.g zf]}
def zk.d34 (F:Nat):Nat->TA zk.ds34.args->Option zk.ds34.R:=mkT zk.ds34 [(qy,yW.sp F)]
@[reducible] def zk.ds46:Sig:={args:=[.d (.c (.int .i64)),.d (.p zf),.d (.p za)],res:=[.g zf]}
def zk.d46 (F:Nat):Nat->TA zk.ds46.args->Option zk.ds46.R:=mkT zk.ds46 [(qy,yW.sp F)]
abbrev zk.l3.K0 (R:Type):Type:=Int->za.T->(Nat×zf.T×za.T)->Int->Bool->Option R
abbrev zk.l3.T (R:Type):Type:=Int->za.T->(Nat×zf.T×za.T)->Int->Option R
def zk.l3.body {R:Type} (F:Nat) (k0:zk.l3.K0 R) (rec:zk.l3.T R) (q:Int) (m:za.T) (from_:Nat×zf.T×za.T) (n:Int):Option R :=
 bif decide (n<(m.1.2.2.2.2.1.length:Int)) then oB (zk.d22 F (from_.1+1) (n,from_.2.1,from_.2.2,())) fun c_1 =>
 oB (yx.sh F m c_1.1.1 q) fun c_2 =>
 bif c_2.1.1 then rec q m from_ (i64.wrap (n+1))
 else k0 q m from_ n c_2.1.1
 else k0 q m from_ n false
def zk.l3 {R:Type} (F:Nat) (k0:zk.l3.K0 R):Nat->zk.l3.T R
 | 0,_,_,_,_=>none
 | fu+1,q,m,from_,n=>zk.l3.body F k0 (zk.l3 F k0 fu) q m from_ n
def zk.j10 {R:Type} (F:Nat) (k0:Int->(List zf.T)->Option R) (n:Int) (turn:List zf.T):Option R :=
 k0 n turn
def zk.j8 {R:Type} (F:Nat) (k0:Int->(List zf.T)->Option R) (m:za.T) (from_:Nat×zf.T×za.T) (n:Int) (turn:List zf.T):Option R :=
 bif decide (n<(m.1.2.2.2.2.1.length:Int)) then oB (zk.d46 F (from_.1+1) (n,from_.2.1,from_.2.2,())) fun c_5 =>
 bif Nat.ble (turn.length+([c_5.1.1]:List zf.T).length) vc then zk.j10 F (fun r66 r76=>k0 r66 r76) n (turn++([c_5.1.1]:List zf.T))
 else none
 else zk.j10 F (fun r67 r77=>k0 r67 r77) n turn
def zk.sh (F:Nat) (m:za.T) (l:zf.T) (q:Int):Option zk.sg.R :=
 zk.l3 F (fun q3 m3 from_3 n3 t253=>bif decide (n3>0) then oB (zk.d34 F (from_3.1+1) (i64.wrap (n3-1),from_3.2.1,from_3.2.2,())) fun c_4 =>
 bif Nat.ble (0+([c_4.1.1]:List zf.T).length) vc then zk.j8 F (fun r68 r78=>some ((r68,r78,()),())) m3 from_3 n3 ([c_4.1.1]:List zf.T)
 else none
 else zk.j8 F (fun r69 r79=>some ((r69,r79,()),())) m3 from_3 n3 ([])) F q m (vP,l,m) 0
def zk.sp (F:Nat):TA zk.sg.args->Option zk.sg.R:=fun x=>zk.sh F x.1 x.2.1 x.2.2.1
@[reducible] def vQ.sg:Sig:={args:=[.d (.g zf),.d (.g zh)],res:=[.g zf,.c (.int .i64)]}
def vQ.sh (F:Nat) (l:zf.T) (k:zh.T):Option vQ.sg.R :=
 oB (xc.sh F l.1 k) fun c_1 =>
 oB (xc.sh F l.2.1 k) fun c_2 =>
 oB (xc.sh F l.2.2 k) fun c_3 =>
 oB (vJ.sh F c_1.1.1 c_2.1.1 c_3.1.1 c_1.1.2.1 c_2.1.2.1 c_3.1.2.1) fun c_4 =>
 some ((c_4.1.1,c_4.1.2.1,()),())
def vQ.sp (F:Nat):TA vQ.sg.args->Option vQ.sg.R:=fun x=>vQ.sh F x.1 x.2.1
@[reducible] def vk.sg:Sig:={args:=[.d (.g zf),.d (.g zh)],res:=[.g zf]}
def vk.sh (F:Nat) (l:zf.T) (k:zh.T):Option vk.sg.R :=
 oB (vQ.sh F l k) fun c_1 =>
 some ((c_1.1.1,()),())
def vk.sp (F:Nat):TA vk.sg.args->Option vk.sg.R:=fun x=>vk.sh F x.1 x.2.1
@[reducible] def zO.sg:Sig:={args:=[.d (.g za),.d (.b zf),.d (.c (.int .i64))],res:=[.g zf,.c (.sl zf)]}
abbrev zO.l7.K0 (R:Type):Type:=(List zf.T)->Int->(List zf.T)->(List yp.T)->Int->Int->Bool->za.T->zf.T->zh.T->Option R
abbrev zO.l7.T (R:Type):Type:=(List zf.T)->Int->(List zf.T)->(List yp.T)->Int->Int->za.T->zf.T->zh.T->Option R
def zO.l7.body {R:Type} (F:Nat) (k0:zO.l7.K0 R) (rec:zO.l7.T R) (k:List zf.T) (n:Int) (turn:List zf.T) (t:List yp.T) (t34:Int) (t35:Int) (m:za.T) (r6:zf.T) (base:zh.T):Option R :=
 bif decide (t35<t34) then bif idx t35 t.length then oB (yQ.sh F (get yp t t35.toNat).2) fun c_2 =>
 bif idx (i64.wrap (t35+1)) t.length then bif idx t35 t.length then oB (yQ.sh F (i64.wrap ((get yp t ((i64.wrap (t35+1)).toNat)).1-(get yp t t35.toNat).1))) fun c_3 =>
 oB (xc.sh F c_2.1.1 c_3.1.1) fun c_4 =>
 oB (wU.sh F base c_4.1.1) fun c_5 =>
 rec k n turn t t34 (i64.wrap (t35+1)) m r6 c_5.1.1
 else none
 else none
 else none
 else k0 k n turn t t34 t35 (decide (t35<t34)) m r6 base
def zO.l7 {R:Type} (F:Nat) (k0:zO.l7.K0 R):Nat->zO.l7.T R
 | 0,_,_,_,_,_,_,_,_,_=>none
 | fu+1,k,n,turn,t,t34,t35,m,r6,base=>zO.l7.body F k0 (zO.l7 F k0 fu) k n turn t t34 t35 m r6 base
def zO.sh (F:Nat) (m:za.T) (k:List zf.T) (q:Int):Option zO.sg.R :=
 bif idx 0 k.length then oB (zk.sh F m (get zf k 0) q) fun c_1 =>
 bif (c_1.1.1==0) then some ((((0,0),(0,0),0,0),c_1.1.2.1,()),())
 else zO.l7 F (fun k6 n6 turn6 t6 t346 t356 t366 m6 r66 base6=>bif idx 0 k6.length then bif idx (i64.wrap (n6-1)) t6.length then oB (yQ.sh F (get yp t6 ((i64.wrap (n6-1)).toNat)).1) fun c_7 =>
 oB (y7.sh F c_7.1.1) fun c_8 =>
 oB (xP.sh F (get zf k6 0) c_8.1.1) fun c_9 =>
 bif idx (i64.wrap (n6-1)) t6.length then oB (yQ.sh F (get yp t6 ((i64.wrap (n6-1)).toNat)).2) fun c_10 =>
 oB (vk.sh F c_9.1.1 c_10.1.1) fun c_11 =>
 oB (y7.sh F base6) fun c_12 =>
 oB (vv.sh F c_11.1.1 c_12.1.1) fun c_13 =>
 oB (vk.sh F c_13.1.1 m6.2.1) fun c_14 =>
 some ((c_14.1.1,turn6,()),())
 else none
 else none
 else none) F k c_1.1.1 c_1.1.2.1 m.1.2.2.2.2.1 (i64.wrap (c_1.1.1-1)) 0 m ((0,0),(0,0),0,0) (0,0)
 else none
def zO.sp (F:Nat):TA zO.sg.args->Option zO.sg.R:=fun x=>zO.sh F x.1 x.2.1 x.2.2.1
@[reducible] def xT.sg:Sig:={args:=[.d (.g za),.d (.b zf),.d (.c (.int .i64))],res:=[.g zf,.c (.sl zf)]}
def xT.sh (F:Nat) (m:za.T) (k:List zf.T) (q:Int):Option xT.sg.R :=
 bif idx 0 k.length then bif idx 1 k.length then oB (xP.sh F (get zf k 0) (get zf k 1)) fun c_1 =>
 oB (yx.sh F m c_1.1.1 q) fun c_2 =>
 bif c_2.1.1 then bif idx 1 k.length then some (((get zf k 1),([c_1.1.1]:List zf.T),()),())
 else none
 else bif idx 0 k.length then some (((get zf k 0),([c_1.1.1]:List zf.T),()),())
 else none
 else none
 else none
def xT.sp (F:Nat):TA xT.sg.args->Option xT.sg.R:=fun x=>xT.sh F x.1 x.2.1 x.2.2.1
@[reducible] def wg.sg:Sig:={args:=[.d (.g za),.d (.b zf),.d (.c (.int .i64))],res:=[.g zf,.c (.sl zf)]}
def wg.sh (F:Nat) (m:za.T) (k:List zf.T) (q:Int):Option wg.sg.R :=
 bif idx 1 k.length then bif idx 0 k.length then oB (xP.sh F (get zf k 1) (get zf k 0)) fun c_1 =>
 oB (yx.sh F m c_1.1.1 q) fun c_2 =>
 bif c_2.1.1 then bif idx 1 k.length then some (((get zf k 1),([c_1.1.1]:List zf.T),()),())
 else none
 else bif idx 0 k.length then some (((get zf k 0),([c_1.1.1]:List zf.T),()),())
 else none
 else none
 else none
def wg.sp (F:Nat):TA wg.sg.args->Option wg.sg.R:=fun x=>wg.sh F x.1 x.2.1 x.2.2.1
@[reducible] def wx.sg:Sig:={args:=[.d (.g za),.d (.b zf),.d (.c (.int .i64))],res:=[.g zf,.c (.sl zf)]}
def wx.sh (F:Nat) (m:za.T) (k:List zf.T) (t2:Int):Option wx.sg.R :=
 bif idx 0 k.length then bif idx 0 k.length then oB (y7.sh F (get zf k 0).1) fun c_1 =>
 bif (((get zf k 0).1.1==c_1.1.1.1.1)&&(((get zf k 0).1.2==c_1.1.1.1.2)&&(((get zf k 0).2.1.1==c_1.1.1.2.1.1)&&(((get zf k 0).2.1.2==c_1.1.1.2.1.2)&&(((get zf k 0).2.2.1==c_1.1.1.2.2.1)&&(((get zf k 0).2.2.2==c_1.1.1.2.2.2)&&true)))))) then bif idx 1 k.length then bif idx 0 k.length then oB (vk.sh F (get zf k 1) (get zf k 0).1) fun c_2 =>
 some ((c_2.1.1,[],()),())
 else none
 else none
 else bif idx 0 k.length then bif idx 1 k.length then oB (vk.sh F (get zf k 0) (get zf k 1).1) fun c_3 =>
 some ((c_3.1.1,[],()),())
 else none
 else none
 else none
 else none
def wx.sp (F:Nat):TA wx.sg.args->Option wx.sg.R:=fun x=>wx.sh F x.1 x.2.1 x.2.2.1
@[reducible] def ww.sg:Sig:={args:=[.d (.g za),.d (.b zf),.d (.c (.int .i64))],res:=[.g zf,.c (.sl zf)]}
def ww.sh (F:Nat) (m:za.T) (k:List zf.T) (t2:Int):Option ww.sg.R :=
 bif idx 0 k.length then oB (xP.sh F ((0,0),(0,0),0,0) (get zf k 0)) fun c_1 =>
 some ((c_1.1.1,[],()),())
 else none
def ww.sp (F:Nat):TA ww.sg.args->Option ww.sg.R:=fun x=>ww.sh F x.1 x.2.1 x.2.2.1
@[reducible] def xi.sg:Sig:={args:=[.d (.g zh),.d (.p za)],res:=[.g zh]}
def xi.sh (F:Nat) (w:zh.T) (t1:za.T):Option xi.sg.R :=
 oB (yQ.sh F (i64.wrap (10000-t1.1.2.1))) fun c_1 =>
 oB (xc.sh F w c_1.1.1) fun c_2 =>
 oB (yQ.sh F 10000) fun c_3 =>
 oB (vn.sh F c_2.1.1 c_3.1.1 2) fun c_4 =>
 some ((c_4.1.1,()),())
def xi.sp (F:Nat):TA xi.sg.args->Option xi.sg.R:=fun x=>xi.sh F x.1 x.2.1
@[reducible] def yj.sg:Sig:={args:=[.d (.g za),.d (.b zf),.d (.c (.int .i64))],res:=[.g zf,.c (.sl zf)]}
@[reducible] def yj.ds15:Sig:={args:=[.d (.g zh),.d (.p za)],res:=[.g zh]}
def yj.d15 (F:Nat):Nat->TA yj.ds15.args->Option yj.ds15.R:=mkT yj.ds15 [(qE,xi.sp F)]
@[reducible] def yj.ds21:Sig:={args:=[.d (.g zh),.d (.p za)],res:=[.g zh]}
def yj.d21 (F:Nat):Nat->TA yj.ds21.args->Option yj.ds21.R:=mkT yj.ds21 [(qE,xi.sp F)]
@[reducible] def yj.ds27:Sig:={args:=[.d (.g zh),.d (.p za)],res:=[.g zh]}
def yj.d27 (F:Nat):Nat->TA yj.ds27.args->Option yj.ds27.R:=mkT yj.ds27 [(qE,xi.sp F)]
def yj.sh (F:Nat) (m:za.T) (k:List zf.T) (t2:Int):Option yj.sg.R :=
 bif idx 0 k.length then oB (yj.d15 F (vF+1) ((get zf k 0).1,m,())) fun c_1 =>
 bif idx 0 k.length then oB (yj.d21 F (vF+1) ((get zf k 0).2.1,m,())) fun c_2 =>
 bif idx 0 k.length then oB (yj.d27 F (vF+1) ((get zf k 0).2.2,m,())) fun c_3 =>
 some (((c_1.1.1,c_2.1.1,c_3.1.1),[],()),())
 else none
 else none
 else none
def yj.sp (F:Nat):TA yj.sg.args->Option yj.sg.R:=fun x=>yj.sh F x.1 x.2.1 x.2.2.1
@[reducible] def yJ.sg:Sig:={args:=[.d (.g za),.d (.g zf),.d (.c (.int .i64))],res:=[.g zf]}
def yJ.sh (F:Nat) (m:za.T) (l:zf.T) (more:Int):Option yJ.sg.R :=
 oB (yQ.sh F (i64.wrap (m.1.2.1-more))) fun c_1 =>
 oB (y7.sh F c_1.1.1) fun c_2 =>
 oB (xP.sh F l c_2.1.1) fun c_3 =>
 some ((c_3.1.1,()),())
def yJ.sp (F:Nat):TA yJ.sg.args->Option yJ.sg.R:=fun x=>yJ.sh F x.1 x.2.1 x.2.2.1
@[reducible] def we.sg:Sig:={args:=[.d (.g za),.d (.b zf),.d (.c (.int .i64))],res:=[.g zf,.c (.sl zf)]}
def we.sh (F:Nat) (m:za.T) (k:List zf.T) (q:Int):Option we.sg.R :=
 bif idx 0 k.length then oB (yJ.sh F m (get zf k 0) 0) fun c_1 =>
 oB (yx.sh F m c_1.1.1 q) fun c_2 =>
 bif c_2.1.1 then some ((c_1.1.1,([c_1.1.1]:List zf.T),()),())
 else some ((((0,0),(0,0),0,0),([c_1.1.1]:List zf.T),()),())
 else none
def we.sp (F:Nat):TA we.sg.args->Option we.sg.R:=fun x=>we.sh F x.1 x.2.1 x.2.2.1
@[reducible] def wv.sg:Sig:={args:=[.d (.g za),.d (.b zf),.d (.c (.int .i64))],res:=[.g zf,.c (.sl zf)]}
def wv.sh (F:Nat) (m:za.T) (k:List zf.T) (t2:Int):Option wv.sg.R :=
 bif idx 0 k.length then bif idx 1 k.length then oB (xP.sh F (get zf k 0) (get zf k 1)) fun c_1 =>
 some ((c_1.1.1,[],()),())
 else none
 else none
def wv.sp (F:Nat):TA wv.sg.args->Option wv.sg.R:=fun x=>wv.sh F x.1 x.2.1 x.2.2.1
@[reducible] def wd.sg:Sig:={args:=[.d (.g za),.d (.b zf),.d (.c (.int .i64))],res:=[.g zf,.c (.sl zf)]}
def wd.sh (F:Nat) (m:za.T) (k:List zf.T) (q:Int):Option wd.sg.R :=
 bif idx 0 k.length then oB (yJ.sh F m (get zf k 0) 0) fun c_1 =>
 bif idx 0 k.length then oB (yJ.sh F m (get zf k 0) 1) fun c_2 =>
 oB (yx.sh F m c_1.1.1 q) fun c_3 =>
 oB (yx.sh F m c_2.1.1 q) fun c_4 =>
 bif c_4.1.1 then bif !c_4.1.1 then bif idx m.1.2.2.1 (([false,!c_4.1.1,!c_3.1.1,c_3.1.1,c_4.1.1,!c_3.1.1,true]:List Bool).length) then bif get .bool ([false,!c_4.1.1,!c_3.1.1,c_3.1.1,c_4.1.1,!c_3.1.1,true]:List Bool) m.1.2.2.1.toNat then bif idx 1 k.length then some (((get zf k 1),([c_1.1.1,c_2.1.1]:List zf.T),()),())
 else none
 else bif idx 2 k.length then some (((get zf k 2),([c_1.1.1,c_2.1.1]:List zf.T),()),())
 else none
 else none
 else bif idx m.1.2.2.1 (([false,!c_4.1.1,!c_3.1.1,c_3.1.1,c_4.1.1,!c_3.1.1,c_3.1.1]:List Bool).length) then bif get .bool ([false,!c_4.1.1,!c_3.1.1,c_3.1.1,c_4.1.1,!c_3.1.1,c_3.1.1]:List Bool) m.1.2.2.1.toNat then bif idx 1 k.length then some (((get zf k 1),([c_1.1.1,c_2.1.1]:List zf.T),()),())
 else none
 else bif idx 2 k.length then some (((get zf k 2),([c_1.1.1,c_2.1.1]:List zf.T),()),())
 else none
 else none
 else bif !c_4.1.1 then bif idx m.1.2.2.1 (([false,!c_4.1.1,!c_3.1.1,c_3.1.1,c_4.1.1,false,true]:List Bool).length) then bif get .bool ([false,!c_4.1.1,!c_3.1.1,c_3.1.1,c_4.1.1,false,true]:List Bool) m.1.2.2.1.toNat then bif idx 1 k.length then some (((get zf k 1),([c_1.1.1,c_2.1.1]:List zf.T),()),())
 else none
 else bif idx 2 k.length then some (((get zf k 2),([c_1.1.1,c_2.1.1]:List zf.T),()),())
 else none
 else none
 else bif idx m.1.2.2.1 (([false,!c_4.1.1,!c_3.1.1,c_3.1.1,c_4.1.1,false,c_3.1.1]:List Bool).length) then bif get .bool ([false,!c_4.1.1,!c_3.1.1,c_3.1.1,c_4.1.1,false,c_3.1.1]:List Bool) m.1.2.2.1.toNat then bif idx 1 k.length then some (((get zf k 1),([c_1.1.1,c_2.1.1]:List zf.T),()),())
 else none
 else bif idx 2 k.length then some (((get zf k 2),([c_1.1.1,c_2.1.1]:List zf.T),()),())
 else none
 else none
 else none
 else none
def wd.sp (F:Nat):TA wd.sg.args->Option wd.sg.R:=fun x=>wd.sh F x.1 x.2.1 x.2.2.1
@[reducible] def wb.sg:Sig:={args:=[.d (.g za),.d (.b zf),.d (.c (.int .i64))],res:=[.g zf,.c (.sl zf)]}
def wb.sh (F:Nat) (m:za.T) (k:List zf.T) (q:Int):Option wb.sg.R :=
 bif idx 0 k.length then oB (yJ.sh F m (get zf k 0) 0) fun c_1 =>
 oB (yx.sh F m c_1.1.1 q) fun c_2 =>
 bif c_2.1.1 then oB (yQ.sh F m.1.2.1) fun c_3 =>
 oB (y7.sh F c_3.1.1) fun c_4 =>
 some ((c_4.1.1,([c_1.1.1]:List zf.T),()),())
 else bif idx 0 k.length then some (((get zf k 0),([c_1.1.1]:List zf.T),()),())
 else none
 else none
def wb.sp (F:Nat):TA wb.sg.args->Option wb.sg.R:=fun x=>wb.sh F x.1 x.2.1 x.2.2.1
@[reducible] def xI.sg:Sig:={args:=[.d (.g za),.d (.b zf),.d (.c (.int .i64))],res:=[.g zf,.c (.sl zf)]}
def xI.sh (F:Nat) (m:za.T) (k:List zf.T) (q:Int):Option xI.sg.R :=
 bif idx 0 k.length then oB (zk.sh F m (get zf k 0) q) fun c_1 =>
 bif (c_1.1.1==0) then some ((((0,0),(0,0),0,0),c_1.1.2.1,()),())
 else bif idx 0 k.length then bif idx (i64.wrap (c_1.1.1-1)) m.1.2.2.2.2.1.length then oB (yQ.sh F (get yp m.1.2.2.2.2.1 ((i64.wrap (c_1.1.1-1)).toNat)).2) fun c_2 =>
 oB (vk.sh F (get zf k 0) c_2.1.1) fun c_3 =>
 oB (vk.sh F c_3.1.1 m.2.1) fun c_4 =>
 some ((c_4.1.1,c_1.1.2.1,()),())
 else none
 else none
 else none
def xI.sp (F:Nat):TA xI.sg.args->Option xI.sg.R:=fun x=>xI.sh F x.1 x.2.1 x.2.2.1
@[reducible] def uv.sg:Sig:={args:=[.d (.g zh)],res:=[.g zh,.c (.int .i64)]}
def uv.sh (F:Nat) (w:zh.T):Option uv.sg.R :=
 bif decide (w.1<0) then oB (vT.sh F w) fun c_1 =>
 some ((c_1.1.1,c_1.1.2.1,()),())
 else some ((w,0,()),())
def uv.sp (F:Nat):TA uv.sg.args->Option uv.sg.R:=fun x=>uv.sh F x.1
@[reducible] def uj.sg:Sig:={args:=[.d (.g zf),.d (.c (.int .i64))],res:=[.g zh,.c (.int .i64)]}
def uj.sh (F:Nat) (l:zf.T) (size:Int):Option uj.sg.R :=
 oB (ui.sh F size 0) fun c_1 =>
 bif !c_1.1.1 then some (((0,0),1,()),())
 else oB (uv.sh F l.1) fun c_2 =>
 oB (uv.sh F l.2.1) fun c_3 =>
 oB (uv.sh F l.2.2) fun c_4 =>
 bif (c_2.1.2.1 != 0) then some (((0,0),10,()),())
 else bif (c_3.1.2.1 != 0) then some (((0,0),10,()),())
 else bif (c_4.1.2.1 != 0) then some (((0,0),10,()),())
 else oB (wS.sh F (c_2.1.1,c_3.1.1,c_4.1.1) size 1099511627776) fun c_5 =>
 some ((c_5.1.1,c_5.1.2.1,()),())
def uj.sp (F:Nat):TA uj.sg.args->Option uj.sg.R:=fun x=>uj.sh F x.1 x.2.1
@[reducible] def wH.sg:Sig:={args:=[.d (.g (.pair zf (.pair (.int .i64) .bool))),.d (.c (.int .i64))],res:=[.g zh]}
def wH.sh (F:Nat) (w:zf.T×Int×Bool) (q:Int):Option wH.sg.R :=
 oB (wS.sh F w.1 w.2.1 q) fun c_1 =>
 some ((c_1.1.1,()),())
def wH.sp (F:Nat):TA wH.sg.args->Option wH.sg.R:=fun x=>wH.sh F x.1 x.2.1
@[reducible] def uA.sg:Sig:={args:=[.d (.g zh)],res:=[.c (.int .i64),.c .bool]}
def uA.sh (F:Nat) (w:zh.T):Option uA.sg.R :=
 bif (w.1 != ((i64.wrap w.2).fdiv (2^(min (63:Int).toNat IntKind.i64.bits)))) then some ((0,false,()),())
 else some ((i64.wrap w.2,true,()),())
def uA.sp (F:Nat):TA uA.sg.args->Option uA.sg.R:=fun x=>uA.sh F x.1
@[reducible] def yo.sg:Sig:={args:=[.d (.g (.pair zf (.pair (.int .i64) .bool))),.d (.g zh),.d (.g zh),.d (.c (.int .i64))],res:=[.c (.int .i64),.c .bool]}
def yo.j10 {R:Type} (F:Nat) (k0:Int->Bool->Option R) (most:Int) (n:zh.T):Option R :=
 oB (uA.sh F n) fun c_7 =>
 bif c_7.1.2.1 then k0 c_7.1.1 (decide (c_7.1.1<=most))
 else k0 c_7.1.1 false
def yo.j5 {R:Type} (F:Nat) (k0:Int->Bool->Option R) (most:Int) (w:zf.T×Int×Bool) (v:zh.T) (d:zh.T):Option R :=
 oB (vT.sh F v) fun c_4 =>
 oB (vn.sh F c_4.1.1 d 0) fun c_5 =>
 bif w.2.2 then oB (vn.sh F c_4.1.1 d 1) fun c_6 =>
 yo.j10 F (fun r88 r98=>k0 r88 r98) most c_6.1.1
 else oB (yQ.sh F 1) fun c_9 =>
 oB (wU.sh F c_5.1.1 c_9.1.1) fun c_10 =>
 yo.j10 F (fun r811 r911=>k0 r811 r911) most c_10.1.1
def yo.sh (F:Nat) (w:zf.T×Int×Bool) (v:zh.T) (d:zh.T) (most:Int):Option yo.sg.R :=
 oB (vp.sh F v) fun c_1 =>
 bif (!(decide (c_1.1.1>0)==w.2.2)) then some ((0,true,()),())
 else bif w.2.2 then oB (vp.sh F d) fun c_2 =>
 bif decide (c_2.1.1>=0) then some ((0,false,()),())
 else bif !w.2.2 then oB (vp.sh F d) fun c_3 =>
 bif decide (c_3.1.1<=0) then some ((0,false,()),())
 else yo.j5 F (fun r812 r912=>some ((r812,r912,()),())) most w v d
 else yo.j5 F (fun r813 r913=>some ((r813,r913,()),())) most w v d
 else bif !w.2.2 then oB (vp.sh F d) fun c_14 =>
 bif decide (c_14.1.1<=0) then some ((0,false,()),())
 else yo.j5 F (fun r815 r915=>some ((r815,r915,()),())) most w v d
 else yo.j5 F (fun r816 r916=>some ((r816,r916,()),())) most w v d
def yo.sp (F:Nat):TA yo.sg.args->Option yo.sg.R:=fun x=>yo.sh F x.1 x.2.1 x.2.2.1 x.2.2.2.1
@[reducible] def xZ.sg:Sig:={args:=[.d (.g (.pair zf (.pair (.int .i64) .bool))),.d (.c (.int .i64)),.d (.c (.int .i64))],res:=[.c (.int .i64),.c .bool]}
def xZ.sh (F:Nat) (w:zf.T×Int×Bool) (lo:Int) (hi:Int):Option xZ.sg.R :=
 bif decide (lo>hi) then some ((0,false,()),())
 else oB (wH.sh F w lo) fun c_1 =>
 oB (yo.sh F w c_1.1.1 w.1.2.1 (i64.wrap (hi-lo))) fun c_2 =>
 some ((i64.wrap (lo+c_2.1.1),c_2.1.2.1,()),())
def xZ.sp (F:Nat):TA xZ.sg.args->Option xZ.sg.R:=fun x=>xZ.sh F x.1 x.2.1 x.2.2.1
@[reducible] def xY.sg:Sig:={args:=[.d (.g (.pair zf (.pair (.int .i64) .bool))),.d (.c (.int .i64))],res:=[.c (.int .i64),.c (.int .i64)]}
def xY.sh (F:Nat) (w:zf.T×Int×Bool) (k:Int):Option xY.sg.R :=
 some ((i64.wrap ((i64.wrap ((i64.wrap (k-1))*w.2.1))+1),(if 1099511627776<i64.wrap (k*w.2.1) then 1099511627776 else i64.wrap (k*w.2.1)),()),())
def xY.sp (F:Nat):TA xY.sg.args->Option xY.sg.R:=fun x=>xY.sh F x.1 x.2.1
@[reducible] def wG.sg:Sig:={args:=[.d (.g (.pair zf (.pair (.int .i64) .bool))),.d (.c (.int .i64)),.d (.c (.int .i64))],res:=[.c (.int .i64),.c .bool]}
def wG.sh (F:Nat) (w:zf.T×Int×Bool) (k:Int) (most:Int):Option wG.sg.R :=
 bif decide (k>most) then some ((0,false,()),())
 else oB (yQ.sh F w.2.1) fun c_1 =>
 oB (xc.sh F w.1.2.1 c_1.1.1) fun c_2 =>
 oB (wU.sh F c_2.1.1 w.1.2.2) fun c_3 =>
 oB (xY.sh F w k) fun c_4 =>
 oB (wH.sh F w c_4.1.1) fun c_5 =>
 oB (yo.sh F w c_5.1.1 c_3.1.1 (i64.wrap (most-k))) fun c_6 =>
 oB (wH.sh F w c_4.1.2.1) fun c_7 =>
 oB (yo.sh F w c_7.1.1 c_3.1.1 (i64.wrap (most-k))) fun c_8 =>
 bif c_6.1.2.1 then bif c_8.1.2.1 then some ((i64.wrap (k+(if c_8.1.1<c_6.1.1 then c_8.1.1 else c_6.1.1)),true,()),())
 else bif c_6.1.2.1 then some ((i64.wrap (k+c_6.1.1),true,()),())
 else some ((i64.wrap (k+c_8.1.1),c_8.1.2.1,()),())
 else bif c_6.1.2.1 then some ((i64.wrap (k+c_6.1.1),true,()),())
 else some ((i64.wrap (k+c_8.1.1),c_8.1.2.1,()),())
def wG.sp (F:Nat):TA wG.sg.args->Option wG.sg.R:=fun x=>wG.sh F x.1 x.2.1 x.2.2.1
@[reducible] def wJ.sg:Sig:={args:=[.d (.g zf),.d (.c (.int .i64)),.d (.c (.int .i64))],res:=[.c (.int .i64),.c (.int .i64)]}
def wJ.j15 {R:Type} (F:Nat) (k0:Int->Int->Option R) (k1:Int->Int->Option R) (k2:Int->Int->Option R) (last:Int) (j:Int) (w:zf.T×Int×Bool):Option R :=
 bif decide (j>last) then k0 1099511627777 0
 else oB (xY.sh F w j) fun c_10 =>
 oB (xZ.sh F w c_10.1.1 c_10.1.2.1) fun c_11 =>
 bif c_11.1.2.1 then k1 c_11.1.1 0
 else k2 1099511627777 0
def wJ.sh (F:Nat) (l:zf.T) (size:Int) (q:Int):Option wJ.sg.R :=
 oB (ui.sh F size q) fun c_1 =>
 bif !c_1.1.1 then some ((0,1,()),())
 else oB (uj.sh F l size) fun c_2 =>
 bif (c_2.1.2.1 != 0) then some ((0,10,()),())
 else oB (v8.sh F c_2.1.1 (4611686018427387904,0)) fun c_3 =>
 bif decide (c_3.1.1>0) then some ((0,10,()),())
 else oB (wH.sh F (l,size,false) q) fun c_4 =>
 oB (vp.sh F c_4.1.1) fun c_5 =>
 oB (vo.sh F q size) fun c_6 =>
 oB (vo.sh F 1099511627776 size) fun c_7 =>
 oB (xZ.sh F (l,size,decide (c_5.1.1>0)) (i64.wrap (q+1)) (if 1099511627776<i64.wrap (c_6.1.1*size) then 1099511627776 else i64.wrap (c_6.1.1*size))) fun c_8 =>
 bif c_8.1.2.1 then some ((c_8.1.1,0,()),())
 else oB (wG.sh F (l,size,decide (c_5.1.1>0)) (i64.wrap (c_6.1.1+1)) (i64.wrap (c_7.1.1-1))) fun c_9 =>
 bif !c_9.1.2.1 then wJ.j15 F (fun r612 r712=>some ((r612,r712,()),())) (fun r613 r713=>some ((r613,r713,()),())) (fun r614 r714=>some ((r614,r714,()),())) c_7.1.1 (if i64.wrap (c_6.1.1+1)>c_7.1.1 then i64.wrap (c_6.1.1+1) else c_7.1.1) (l,size,decide (c_5.1.1>0))
 else wJ.j15 F (fun r615 r715=>some ((r615,r715,()),())) (fun r616 r716=>some ((r616,r716,()),())) (fun r617 r717=>some ((r617,r717,()),())) c_7.1.1 c_9.1.1 (l,size,decide (c_5.1.1>0))
def wJ.sp (F:Nat):TA wJ.sg.args->Option wJ.sg.R:=fun x=>wJ.sh F x.1 x.2.1 x.2.2.1
@[reducible] def zb.sg:Sig:={args:=[.d (.g za),.d (.c (.bnd za)),.d (.b (.sl zo))],res:=[.c (.sl zo),.c .bool]}
@[reducible] def zb.ds99:Sig:={args:=[.d (.g za),.d (.b zf),.d (.c (.int .i64))],res:=[.g zf,.c (.sl zf)]}
def zb.d99 (F:Nat):Nat->TA zb.ds99.args->Option zb.ds99.R:=mkT zb.ds99 [(uQ,wy.sp F),(vR,zO.sp F),(uz,xT.sp F),(uH,wg.sp F),(uP,wx.sp F),(uO,ww.sp F),(uN,yj.sp F),(uG,we.sp F),(uM,wv.sp F),(uF,wd.sp F),(uE,wb.sp F),(ut,xI.sp F)]
abbrev zb.l11.K0 (R:Type):Type:=(Nat×za.T)->(List (List zo.T))->Int->Int->Int->Int->(List zo.T)->(List (List zo.T))->Int->Int->Bool->za.T->(List zo.T)->(List Int)->(List zf.T)->Option R
abbrev zb.l11.T (R:Type):Type:=(Nat×za.T)->(List (List zo.T))->Int->Int->Int->Int->(List zo.T)->(List (List zo.T))->Int->Int->za.T->(List zo.T)->(List Int)->(List zf.T)->Option R
def zb.l11.body {R:Type} (F:Nat) (k0:zb.l11.K0 R) (rec:zb.l11.T R) (of:Nat×za.T) (kids:List (List zo.T)) (runs:Int) (q:Int) (next:Int) (i:Int) (k:List zo.T) (t30:List (List zo.T)) (t31:Int) (t32:Int) (m:za.T) (out:List zo.T) (at_:List Int) (lines:List zf.T):Option R :=
 bif idx i at_.length then bif decide ((i64.wrap ((get (.int .i64) at_ i.toNat)+1))<(k.length:Int)) then bif idx i at_.length then bif idx (i64.wrap ((get (.int .i64) at_ i.toNat)+1)) k.length then bif decide ((get zo k ((i64.wrap ((get (.int .i64) at_ i.toNat)+1)).toNat)).1<=q) then bif idx i at_.length then bif idx i at_.length then rec of kids runs q next i k t30 t31 t32 m out (at_.set i.toNat (i64.wrap ((get (.int .i64) at_ i.toNat)+1))) lines
 else none
 else none
 else k0 of kids runs q next i k t30 t31 t32 (decide ((get zo k ((i64.wrap ((get (.int .i64) at_ i.toNat)+1)).toNat)).1<=q)) m out at_ lines
 else none
 else none
 else k0 of kids runs q next i k t30 t31 t32 false m out at_ lines
 else none
def zb.l11 {R:Type} (F:Nat) (k0:zb.l11.K0 R):Nat->zb.l11.T R
 | 0,_,_,_,_,_,_,_,_,_,_,_,_,_,_=>none
 | fu+1,of,kids,runs,q,next,i,k,t30,t31,t32,m,out,at_,lines=>zb.l11.body F k0 (zb.l11 F k0 fu) of kids runs q next i k t30 t31 t32 m out at_ lines
abbrev zb.l9.K0 (R:Type):Type:=(Nat×za.T)->(List (List zo.T))->Int->Int->Int->(List (List zo.T))->Int->Int->Bool->za.T->(List zo.T)->(List Int)->(List zf.T)->Option R
abbrev zb.l9.T (R:Type):Type:=(Nat×za.T)->(List (List zo.T))->Int->Int->Int->(List (List zo.T))->Int->Int->za.T->(List zo.T)->(List Int)->(List zf.T)->Option R
def zb.l9.body {R:Type} (F:Nat) (k0:zb.l9.K0 R) (rec:zb.l9.T R) (of:Nat×za.T) (kids:List (List zo.T)) (runs:Int) (q:Int) (next:Int) (t30:List (List zo.T)) (t31:Int) (t32:Int) (m:za.T) (out:List zo.T) (at_:List Int) (lines:List zf.T):Option R :=
 bif decide (t32<t31) then bif idx t32 t30.length then zb.l11 F (fun of1 kids1 runs1 q1 next1 i1 k1 t301 t311 t321 t571 m1 out1 at_1 lines1=>bif idx i1 at_1.length then bif decide ((i64.wrap ((get (.int .i64) at_1 i1.toNat)+1))<(k1.length:Int)) then bif idx i1 at_1.length then bif idx (i64.wrap ((get (.int .i64) at_1 i1.toNat)+1)) k1.length then bif idx i1 at_1.length then bif idx (get (.int .i64) at_1 i1.toNat) k1.length then bif idx i1 lines1.length then rec of1 kids1 runs1 q1 (if (get zo k1 ((i64.wrap ((get (.int .i64) at_1 i1.toNat)+1)).toNat)).1<next1 then (get zo k1 ((i64.wrap ((get (.int .i64) at_1 i1.toNat)+1)).toNat)).1 else next1) t301 t311 (i64.wrap (t321+1)) m1 out1 at_1 (lines1.set i1.toNat (get zo k1 ((get (.int .i64) at_1 i1.toNat).toNat)).2)
 else none
 else none
 else none
 else none
 else none
 else bif idx i1 at_1.length then bif idx (get (.int .i64) at_1 i1.toNat) k1.length then bif idx i1 lines1.length then rec of1 kids1 runs1 q1 next1 t301 t311 (i64.wrap (t321+1)) m1 out1 at_1 (lines1.set i1.toNat (get zo k1 ((get (.int .i64) at_1 i1.toNat).toNat)).2)
 else none
 else none
 else none
 else none) F of kids runs q next t32 (get (.sl zo) t30 t32.toNat) t30 t31 t32 m out at_ lines
 else none
 else k0 of kids runs q next t30 t31 t32 (decide (t32<t31)) m out at_ lines
def zb.l9 {R:Type} (F:Nat) (k0:zb.l9.K0 R):Nat->zb.l9.T R
 | 0,_,_,_,_,_,_,_,_,_,_,_,_=>none
 | fu+1,of,kids,runs,q,next,t30,t31,t32,m,out,at_,lines=>zb.l9.body F k0 (zb.l9 F k0 fu) of kids runs q next t30 t31 t32 m out at_ lines
abbrev zb.l19.K0 (R:Type):Type:=(Nat×za.T)->(List (List zo.T))->Int->Int->Int->(List zf.T)->Int->Int->Bool->za.T->zf.T->(List zo.T)->(List Int)->(List zf.T)->Option R
abbrev zb.l19.T (R:Type):Type:=(Nat×za.T)->(List (List zo.T))->Int->Int->Int->(List zf.T)->Int->Int->za.T->zf.T->(List zo.T)->(List Int)->(List zf.T)->Option R
def zb.l19.body {R:Type} (F:Nat) (k0:zb.l19.K0 R) (rec:zb.l19.T R) (of:Nat×za.T) (kids:List (List zo.T)) (runs:Int) (q:Int) (next:Int) (t102:List zf.T) (t103:Int) (t104:Int) (m:za.T) (l:zf.T) (out:List zo.T) (at_:List Int) (lines:List zf.T):Option R :=
 bif decide (t104<t103) then bif idx t104 t102.length then oB (wJ.sh F (get zf t102 t104.toNat) m.2.2 q) fun c_4 =>
 rec of kids runs q (if c_4.1.1<next then c_4.1.1 else next) t102 t103 (i64.wrap (t104+1)) m l out at_ lines
 else none
 else k0 of kids runs q next t102 t103 t104 (decide (t104<t103)) m l out at_ lines
def zb.l19 {R:Type} (F:Nat) (k0:zb.l19.K0 R):Nat->zb.l19.T R
 | 0,_,_,_,_,_,_,_,_,_,_,_,_,_=>none
 | fu+1,of,kids,runs,q,next,t102,t103,t104,m,l,out,at_,lines=>zb.l19.body F k0 (zb.l19 F k0 fu) of kids runs q next t102 t103 t104 m l out at_ lines
abbrev zb.l6.K0 (R:Type):Type:=(List zo.T)->Bool->Option R
abbrev zb.l6.K1 (R:Type):Type:=(Nat×za.T)->(List (List zo.T))->Int->Int->Bool->za.T->(List zo.T)->(List Int)->(List zf.T)->Option R
abbrev zb.l6.T (R:Type):Type:=(Nat×za.T)->(List (List zo.T))->Int->Int->za.T->(List zo.T)->(List Int)->(List zf.T)->Option R
def zb.l6.body {R:Type} (F:Nat) (k0:zb.l6.K0 R) (k1:zb.l6.K1 R) (rec:zb.l6.T R) (of:Nat×za.T) (kids:List (List zo.T)) (runs:Int) (q:Int) (m:za.T) (out:List zo.T) (at_:List Int) (lines:List zf.T):Option R :=
 bif decide (q<=1099511627776) then zb.l9 F (fun of2 kids2 runs2 q2 next2 t302 t312 t322 t332 m2 out2 at_2 lines2=>oB (zb.d99 F of2.1 (of2.2,lines2,q2,())) fun c_3 =>
 zb.l19 F (fun of5 kids5 runs5 q5 next5 t1025 t1035 t1045 t1055 m5 l5 out5 at_5 lines5=>bif ((out5.length:Int)==0) then bif Nat.ble (out5.length+([(q5,l5)]:List zo.T).length) vc then bif decide ((i64.wrap (runs5+1))>4096) then k0 ([]) false
 else bif decide (((out5++([(q5,l5)]:List zo.T)).length:Int)>256) then k0 ([]) false
 else rec of5 kids5 (i64.wrap (runs5+1)) next5 m5 (out5++([(q5,l5)]:List zo.T)) at_5 lines5
 else none
 else bif idx (i64.wrap ((out5.length:Int)-1)) out5.length then bif !(((get zo out5 ((i64.wrap ((out5.length:Int)-1)).toNat)).2.1.1==l5.1.1)&&(((get zo out5 ((i64.wrap ((out5.length:Int)-1)).toNat)).2.1.2==l5.1.2)&&(((get zo out5 ((i64.wrap ((out5.length:Int)-1)).toNat)).2.2.1.1==l5.2.1.1)&&(((get zo out5 ((i64.wrap ((out5.length:Int)-1)).toNat)).2.2.1.2==l5.2.1.2)&&(((get zo out5 ((i64.wrap ((out5.length:Int)-1)).toNat)).2.2.2.1==l5.2.2.1)&&(((get zo out5 ((i64.wrap ((out5.length:Int)-1)).toNat)).2.2.2.2==l5.2.2.2)&&true)))))) then bif Nat.ble (out5.length+([(q5,l5)]:List zo.T).length) vc then bif decide ((i64.wrap (runs5+1))>4096) then k0 ([]) false
 else bif decide (((out5++([(q5,l5)]:List zo.T)).length:Int)>256) then k0 ([]) false
 else rec of5 kids5 (i64.wrap (runs5+1)) next5 m5 (out5++([(q5,l5)]:List zo.T)) at_5 lines5
 else none
 else bif decide ((i64.wrap (runs5+1))>4096) then k0 ([]) false
 else bif decide ((out5.length:Int)>256) then k0 ([]) false
 else rec of5 kids5 (i64.wrap (runs5+1)) next5 m5 out5 at_5 lines5
 else none) F of2 kids2 runs2 q2 next2 c_3.1.2.1 (c_3.1.2.1.length:Int) 0 m2 c_3.1.1 out2 at_2 lines2) F of kids runs q 1099511627777 kids (kids.length:Int) 0 m out at_ lines
 else k1 of kids runs q (decide (q<=1099511627776)) m out at_ lines
def zb.l6 {R:Type} (F:Nat) (k0:zb.l6.K0 R) (k1:zb.l6.K1 R):Nat->zb.l6.T R
 | 0,_,_,_,_,_,_,_,_=>none
 | fu+1,of,kids,runs,q,m,out,at_,lines=>zb.l6.body F k0 k1 (zb.l6 F k0 k1 fu) of kids runs q m out at_ lines
def zb.j30 {R:Type} (F:Nat) (k0:(List zo.T)->Bool->Option R) (out:List zo.T):Option R :=
 k0 out true
def zb.sh (F:Nat) (m:za.T) (of_:Nat×za.T) (kids:List (List zo.T)):Option zb.sg.R :=
 bif (decide (0<=(kids.length:Int))&&decide ((kids.length:Int)<=(kids.length:Int))&&decide ((kids.length:Int)<=(vc:Int))) then bif (decide (0<=(kids.length:Int))&&decide ((kids.length:Int)<=(kids.length:Int))&&decide ((kids.length:Int)<=(vc:Int))) then zb.l6 F (fun r66 r76=>some ((r66,r76,()),())) (fun of7 kids7 runs7 q7 t297 m7 out7 at_7 lines7=>zb.j30 F (fun r68 r78=>some ((r68,r78,()),())) out7) F of_ kids 0 0 m ([]) (Z3 (.int .i64) ((kids.length:Int).toNat)) (Z3 zf ((kids.length:Int).toNat))
 else none
 else none
def zb.sp (F:Nat):TA zb.sg.args->Option zb.sg.R:=fun x=>zb.sh F x.1 x.2.1 x.2.2.1
@[reducible] def zw.sg:Sig:={args:=[.d (.g za),.d (.c (.bnd za)),.d (.b (.sl zo))],res:=[.c (.sl zo),.c .bool]}
abbrev zw.l5.K0 (R:Type):Type:=(List zo.T)->Bool->Option R
abbrev zw.l5.K1 (R:Type):Type:=(Nat×za.T)->(List zo.T)->(List (List zo.T))->Int->Int->Bool->za.T->Option R
abbrev zw.l5.T (R:Type):Type:=(Nat×za.T)->(List zo.T)->(List (List zo.T))->Int->Int->za.T->Option R
def zw.l5.body {R:Type} (F:Nat) (k0:zw.l5.K0 R) (k1:zw.l5.K1 R) (rec:zw.l5.T R) (of:Nat×za.T) (made:List zo.T) (t32:List (List zo.T)) (t33:Int) (t34:Int) (m:za.T):Option R :=
 bif decide (t34<t33) then bif idx t34 t32.length then oB (zb.sh F m of ([made,get (.sl zo) t32 t34.toNat]:List (List zo.T))) fun c_2 =>
 bif !c_2.1.2.1 then k0 ([]) false
 else rec of c_2.1.1 t32 t33 (i64.wrap (t34+1)) m
 else none
 else k1 of made t32 t33 t34 (decide (t34<t33)) m
def zw.l5 {R:Type} (F:Nat) (k0:zw.l5.K0 R) (k1:zw.l5.K1 R):Nat->zw.l5.T R
 | 0,_,_,_,_,_,_=>none
 | fu+1,of,made,t32,t33,t34,m=>zw.l5.body F k0 k1 (zw.l5 F k0 k1 fu) of made t32 t33 t34 m
def zw.j3 {R:Type} (F:Nat) (k0:(List zo.T)->Bool->Option R) (k1:(List zo.T)->Bool->Option R) (of:Nat×za.T) (kids:List (List zo.T)) (m:za.T):Option R :=
 bif idx 0 kids.length then bif (zI kids.length (some 1) none).1 then zw.l5 F (fun r63 r73=>k0 r63 r73) (fun of4 made4 t324 t334 t344 t354 m4=>k1 made4 true) F of (get (.sl zo) kids 0) ((kids.take (zI kids.length (some 1) none).2.2).drop (zI kids.length (some 1) none).2.1) (((kids.take (zI kids.length (some 1) none).2.2).drop (zI kids.length (some 1) none).2.1).length:Int) 0 m
 else none
 else none
def zw.sh (F:Nat) (m:za.T) (of_:Nat×za.T) (kids:List (List zo.T)):Option zw.sg.R :=
 bif (m.1.1 != 9) then bif (m.1.1 != 10) then oB (zb.sh F m of_ kids) fun c_1 =>
 some ((c_1.1.1,c_1.1.2.1,()),())
 else zw.j3 F (fun r65 r75=>some ((r65,r75,()),())) (fun r66 r76=>some ((r66,r76,()),())) of_ kids m
 else zw.j3 F (fun r67 r77=>some ((r67,r77,()),())) (fun r68 r78=>some ((r68,r78,()),())) of_ kids m
def zw.sp (F:Nat):TA zw.sg.args->Option zw.sg.R:=fun x=>zw.sh F x.1 x.2.1 x.2.2.1
@[reducible] def zQ.sg:Sig:={args:=[.d (.g yr)],res:=[.g wY,.c (.int .i64),.c (.int .i64)]}
abbrev zQ.l9.K0 (R:Type):Type:=Int->Int->wY.T->Option R
abbrev zQ.l9.K1 (R:Type):Type:=Int->(List zx.T)->Int->Int->Bool->yr.T->wY.T->zh.T->(List (List zo.T))->Option R
abbrev zQ.l9.T (R:Type):Type:=Int->(List zx.T)->Int->Int->yr.T->wY.T->zh.T->(List (List zo.T))->Option R
def zQ.l9.body {R:Type} (F:Nat) (k0:zQ.l9.K0 R) (k1:zQ.l9.K1 R) (rec:zQ.l9.T R) (scale:Int) (t41:List zx.T) (t42:Int) (t43:Int) (p:yr.T) (r2:wY.T) (unit:zh.T) (pile:List (List zo.T)):Option R :=
 bif decide (t43<t42) then bif idx t43 t41.length then bif idx 0 p.2.1.length then bif decide ((get zx t41 t43.toNat).1<=4) then oB (xq.sh F ((get zx t41 t43.toNat),unit,(get wV p.2.1 0).2)) fun c_3 =>
 bif Nat.ble (pile.length+([c_3.1.1]:List (List zo.T)).length) vc then rec scale t41 t42 (i64.wrap (t43+1)) p r2 unit (pile++([c_3.1.1]:List (List zo.T)))
 else none
 else oB (xd.sh F ((get zx t41 t43.toNat),unit,(get wV p.2.1 0).2)) fun c_4 =>
 bif (zI pile.length (some (i64.wrap ((pile.length:Int)-c_4.1.2.1))) none).1 then oB (zw.sh F ((get zx t41 t43.toNat),unit,(get wV p.2.1 0).2) c_4.1.1 ((List.take (zI pile.length (some (i64.wrap ((pile.length:Int)-c_4.1.2.1))) none).2.2 pile).drop (zI pile.length (some (i64.wrap ((pile.length:Int)-c_4.1.2.1))) none).2.1)) fun c_5 =>
 bif !c_5.1.2.1 then k0 t43 120 (0,0,[])
 else bif (zI pile.length none (some (i64.wrap ((pile.length:Int)-c_4.1.2.1)))).1 then bif Nat.ble ((zI pile.length none (some (i64.wrap ((pile.length:Int)-c_4.1.2.1)))).2.2+([c_5.1.1]:List (List zo.T)).length) vc then rec scale t41 t42 (i64.wrap (t43+1)) p r2 unit (pile.take (zI pile.length none (some (i64.wrap ((pile.length:Int)-c_4.1.2.1)))).2.2++([c_5.1.1]:List (List zo.T)))
 else none
 else none
 else none
 else none
 else none
 else k1 scale t41 t42 t43 (decide (t43<t42)) p r2 unit pile
def zQ.l9 {R:Type} (F:Nat) (k0:zQ.l9.K0 R) (k1:zQ.l9.K1 R):Nat->zQ.l9.T R
 | 0,_,_,_,_,_,_,_,_=>none
 | fu+1,scale,t41,t42,t43,p,r2,unit,pile=>zQ.l9.body F k0 k1 (zQ.l9 F k0 k1 fu) scale t41 t42 t43 p r2 unit pile
def zQ.j21 {R:Type} (F:Nat) (k0:Int->Int->wY.T->Option R) (scale:Int) (pile:List (List zo.T)) (p:yr.T) (r2:wY.T):Option R :=
 bif idx 0 p.2.1.length then bif idx 0 pile.length then k0 0 0 ((get wV p.2.1 0).2,scale,get (.sl zo) pile 0)
 else none
 else none
def zQ.sh (F:Nat) (p:yr.T):Option zQ.sg.R :=
 oB (vC.sh F p) fun c_1 =>
 bif (c_1.1.2.2.1 != 0) then some (((0,0,[]),c_1.1.2.1,c_1.1.2.2.1,()),())
 else bif ((p.2.1.length:Int) != 1) then some (((0,0,[]),(-1),100,()),())
 else oB (yq.sh F p) fun c_2 =>
 zQ.l9 F (fun r36 r46 r26=>some ((r26,r36,r46,()),())) (fun scale7 t417 t427 t437 t447 p7 r27 unit7 pile7=>zQ.j21 F (fun r38 r48 r28=>some ((r28,r38,r48,()),())) scale7 pile7 p7 r27) F c_2.1.1 p.2.2.2 (p.2.2.2.length:Int) 0 p (0,0,[]) c_1.1.1 ([])
def zQ.sp (F:Nat):TA zQ.sg.args->Option zQ.sg.R:=fun x=>zQ.sh F x.1
@[reducible] def wt.sg:Sig:={args:=[.d (.c (.int .i64)),.d (.c (.int .i64)),.d (.c (.int .i64))],res:=[.g zf]}
def wt.sh (F:Nat) (a:Int) (b:Int) (c:Int):Option wt.sg.R :=
 oB (yQ.sh F a) fun c_1 =>
 oB (yQ.sh F b) fun c_2 =>
 oB (yQ.sh F c) fun c_3 =>
 some (((c_1.1.1,c_2.1.1,c_3.1.1),()),())
def wt.sp (F:Nat):TA wt.sg.args->Option wt.sg.R:=fun x=>wt.sh F x.1 x.2.1 x.2.2.1
@[reducible] def xa.sg:Sig:={args:=[.d (.g wY)],res:=[.c .bool]}
abbrev xa.l5.K1 (R:Type):Type:=Int->Int->Bool->wY.T->Option R
abbrev xa.l5.T (R:Type):Type:=Int->Int->wY.T->Option R
def xa.l5.body {R:Type} (F:Nat) (k0:Bool->Option R) (k1:xa.l5.K1 R) (rec:xa.l5.T R) (t45:Int) (t46:Int) (t:wY.T):Option R :=
 bif decide (t46<t45) then bif idx t46 t.2.2.length then bif idx (i64.wrap (t46+1)) t.2.2.length then bif decide ((get zo t.2.2 t46.toNat).1>=(get zo t.2.2 ((i64.wrap (t46+1)).toNat)).1) then k0 false
 else bif decide ((get zo t.2.2 ((i64.wrap (t46+1)).toNat)).1>1099511627776) then k0 false
 else bif (((get zo t.2.2 t46.toNat).2.1.1==(get zo t.2.2 ((i64.wrap (t46+1)).toNat)).2.1.1)&&(((get zo t.2.2 t46.toNat).2.1.2==(get zo t.2.2 ((i64.wrap (t46+1)).toNat)).2.1.2)&&(((get zo t.2.2 t46.toNat).2.2.1.1==(get zo t.2.2 ((i64.wrap (t46+1)).toNat)).2.2.1.1)&&(((get zo t.2.2 t46.toNat).2.2.1.2==(get zo t.2.2 ((i64.wrap (t46+1)).toNat)).2.2.1.2)&&(((get zo t.2.2 t46.toNat).2.2.2.1==(get zo t.2.2 ((i64.wrap (t46+1)).toNat)).2.2.2.1)&&(((get zo t.2.2 t46.toNat).2.2.2.2==(get zo t.2.2 ((i64.wrap (t46+1)).toNat)).2.2.2.2)&&true)))))) then k0 false
 else rec t45 (i64.wrap (t46+1)) t
 else none
 else none
 else k1 t45 t46 (decide (t46<t45)) t
def xa.l5 {R:Type} (F:Nat) (k0:Bool->Option R) (k1:xa.l5.K1 R):Nat->xa.l5.T R
 | 0,_,_,_=>none
 | fu+1,t45,t46,t=>xa.l5.body F k0 k1 (xa.l5 F k0 k1 fu) t45 t46 t
def xa.sh (F:Nat) (t:wY.T):Option xa.sg.R :=
 bif decide (t.1<1) then some ((false,()),())
 else bif decide (t.1>1000000000000) then some ((false,()),())
 else bif decide (t.2.1<0) then some ((false,()),())
 else bif decide (t.2.1>6) then some ((false,()),())
 else bif decide ((t.2.2.length:Int)<1) then some ((false,()),())
 else bif decide ((t.2.2.length:Int)>256) then some ((false,()),())
 else bif idx 0 t.2.2.length then bif ((get zo t.2.2 0).1 != 0) then some ((false,()),())
 else xa.l5 F (fun r21=>some ((r21,()),())) (fun t452 t462 t472 t2=>some ((true,()),())) F (i64.wrap ((t.2.2.length:Int)-1)) 0 t
 else none
def xa.sp (F:Nat):TA xa.sg.args->Option xa.sg.R:=fun x=>xa.sh F x.1
@[reducible] def vt.sg:Sig:={args:=[.d (.g zo),.d (.c (.int .i64))],res:=[.c (.int .i64)]}
def vt.sh (F:Nat) (p:zo.T) (q:Int):Option vt.sg.R :=
 some (((if 1<(if (-1)>i64.wrap (p.1-q) then (-1) else i64.wrap (p.1-q)) then 1 else (if (-1)>i64.wrap (p.1-q) then (-1) else i64.wrap (p.1-q))),()),())
def vt.sp (F:Nat):TA vt.sg.args->Option vt.sg.R:=fun x=>vt.sh F x.1 x.2.1
@[reducible] def zq.sg:Sig:={args:=[.d (.b zo),.d (.c (.int .i64)),.d (.c .fn)],res:=[.c (.int .i64),.c .bool]}
@[reducible] def zq.ds30:Sig:={args:=[.d (.g zo),.d (.c (.int .i64))],res:=[.c (.int .i64)]}
def zq.d30 (F:Nat):Nat->TA zq.ds30.args->Option zq.ds30.R:=mkT zq.ds30 [(Yd,vt.sp F)]
@[reducible] def zq.ds46:Sig:={args:=[.d (.g zo),.d (.c (.int .i64))],res:=[.c (.int .i64)]}
def zq.d46 (F:Nat):Nat->TA zq.ds46.args->Option zq.ds46.R:=mkT zq.ds46 [(Yd,vt.sp F)]
abbrev zq.l3.K0 (R:Type):Type:=(List zo.T)->Int->Nat->Int->Int->Int->Bool->Option R
abbrev zq.l3.T (R:Type):Type:=(List zo.T)->Int->Nat->Int->Int->Int->Option R
def zq.l3.body {R:Type} (F:Nat) (k0:zq.l3.K0 R) (rec:zq.l3.T R) (x:List zo.T) (target:Int) (cmp:Nat) (n:Int) (i:Int) (j:Int):Option R :=
 bif decide (i<j) then bif idx (i64.wrap ((u64.wrap (i64.wrap (i+j))).fdiv (2^(min (1:Int).toNat IntKind.u64.bits)))) x.length then oB (zq.d30 F cmp ((get zo x ((i64.wrap ((u64.wrap (i64.wrap (i+j))).fdiv (2^(min (1:Int).toNat IntKind.u64.bits)))).toNat)),target,())) fun c_1 =>
 bif decide (c_1.1.1<0) then rec x target cmp n (i64.wrap ((i64.wrap ((u64.wrap (i64.wrap (i+j))).fdiv (2^(min (1:Int).toNat IntKind.u64.bits))))+1)) j
 else rec x target cmp n i (i64.wrap ((u64.wrap (i64.wrap (i+j))).fdiv (2^(min (1:Int).toNat IntKind.u64.bits))))
 else none
 else k0 x target cmp n i j (decide (i<j))
def zq.l3 {R:Type} (F:Nat) (k0:zq.l3.K0 R):Nat->zq.l3.T R
 | 0,_,_,_,_,_,_=>none
 | fu+1,x,target,cmp,n,i,j=>zq.l3.body F k0 (zq.l3 F k0 fu) x target cmp n i j
def zq.sh (F:Nat) (x:List zo.T) (target:Int) (cmp:Nat):Option zq.sg.R :=
 zq.l3 F (fun x2 target2 cmp2 n2 i2 j2 t172=>bif decide (i2<n2) then bif idx i2 x2.length then oB (zq.d46 F cmp2 ((get zo x2 i2.toNat),target2,())) fun c_3 =>
 some ((i2,(c_3.1.1==0),()),())
 else none
 else some ((i2,false,()),())) F x target cmp (x.length:Int) 0 (x.length:Int)
def zq.sp (F:Nat):TA zq.sg.args->Option zq.sg.R:=fun x=>zq.sh F x.1 x.2.1 x.2.2.1
@[reducible] def vm.sg:Sig:={args:=[.d (.g wY),.d (.c (.int .i64))],res:=[.g zh,.c (.int .i64)]}
def vm.j6 {R:Type} (F:Nat) (k0:Int->zh.T->Option R) (q:Int) (i:Int) (t:wY.T) (r4:zh.T):Option R :=
 bif idx i t.2.2.length then oB (wS.sh F (get zo t.2.2 i.toNat).2 t.1 q) fun c_3 =>
 k0 c_3.1.2.1 c_3.1.1
 else none
def vm.sh (F:Nat) (t:wY.T) (q:Int):Option vm.sg.R :=
 oB (xa.sh F t) fun c_1 =>
 bif !c_1.1.1 then some (((0,0),1,()),())
 else bif decide (q<0) then some (((0,0),1,()),())
 else bif decide (q>1099511627776) then some (((0,0),1,()),())
 else oB (zq.sh F t.2.2 q Yd) fun c_2 =>
 bif !c_2.1.2.1 then vm.j6 F (fun r54 r44=>some ((r44,r54,()),())) q (i64.wrap (c_2.1.1-1)) t (0,0)
 else vm.j6 F (fun r55 r45=>some ((r45,r55,()),())) q c_2.1.1 t (0,0)
def vm.sp (F:Nat):TA vm.sg.args->Option vm.sg.R:=fun x=>vm.sh F x.1 x.2.1
@[reducible] def yg.sg:Sig:={args:=[.d (.g wY),.d (.g wY)],res:=[.c .bool]}
abbrev yg.l4.K1 (R:Type):Type:=Int->Bool->wY.T->wY.T->Option R
abbrev yg.l4.T (R:Type):Type:=Int->wY.T->wY.T->Option R
def yg.l4.body {R:Type} (F:Nat) (k0:Bool->Option R) (k1:yg.l4.K1 R) (rec:yg.l4.T R) (i:Int) (a:wY.T) (b:wY.T):Option R :=
 bif decide (i<(a.2.2.length:Int)) then bif idx i a.2.2.length then bif idx i b.2.2.length then bif !(((get zo a.2.2 i.toNat).1==(get zo b.2.2 i.toNat).1)&&(((get zo a.2.2 i.toNat).2.1.1==(get zo b.2.2 i.toNat).2.1.1)&&(((get zo a.2.2 i.toNat).2.1.2==(get zo b.2.2 i.toNat).2.1.2)&&(((get zo a.2.2 i.toNat).2.2.1.1==(get zo b.2.2 i.toNat).2.2.1.1)&&(((get zo a.2.2 i.toNat).2.2.1.2==(get zo b.2.2 i.toNat).2.2.1.2)&&(((get zo a.2.2 i.toNat).2.2.2.1==(get zo b.2.2 i.toNat).2.2.2.1)&&(((get zo a.2.2 i.toNat).2.2.2.2==(get zo b.2.2 i.toNat).2.2.2.2)&&true))))))) then k0 false
 else rec (i64.wrap (i+1)) a b
 else none
 else none
 else k1 i (decide (i<(a.2.2.length:Int))) a b
def yg.l4 {R:Type} (F:Nat) (k0:Bool->Option R) (k1:yg.l4.K1 R):Nat->yg.l4.T R
 | 0,_,_,_=>none
 | fu+1,i,a,b=>yg.l4.body F k0 k1 (yg.l4 F k0 k1 fu) i a b
def yg.sh (F:Nat) (a:wY.T) (b:wY.T):Option yg.sg.R :=
 bif (a.1 != b.1) then some ((false,()),())
 else bif (a.2.1 != b.2.1) then some ((false,()),())
 else bif ((a.2.2.length:Int) != (b.2.2.length:Int)) then some ((false,()),())
 else yg.l4 F (fun r41=>some ((r41,()),())) (fun i2 t312 a2 b2=>some ((true,()),())) F 0 a b
def yg.sp (F:Nat):TA yg.sg.args->Option yg.sg.R:=fun x=>yg.sh F x.1 x.2.1
@[reducible] def xW.sg:Sig:={args:=[],res:=[.c .bool]}
def xW.sh (F:Nat):Option xW.sg.R :=
 oB (wQ.sh F ([(3,0,0,0,[],0),(11,20,0,0,[],0),(2,3,0,0,[],0),(8,0,0,0,[],0)]:List zx.T)) fun c_1 =>
 oB (zQ.sh F c_1.1.1) fun c_2 =>
 oB (wt.sh F (-60) 3 0) fun c_3 =>
 oB (vm.sh F (10,0,([(0,(0,0),(0,0),0,0),(21,c_3.1.1)]:List zo.T)) 25) fun c_4 =>
 oB (vm.sh F (0,0,[]) 0) fun c_5 =>
 bif (c_2.1.2.1==0) then bif (c_2.1.2.2.1==0) then oB (yg.sh F c_2.1.1 (10,0,([(0,(0,0),(0,0),0,0),(21,c_3.1.1)]:List zo.T))) fun c_6 =>
 bif c_6.1.1 then bif (c_4.1.2.1==0) then oB (yQ.sh F 15) fun c_7 =>
 bif ((c_4.1.1.1==c_7.1.1.1)&&((c_4.1.1.2==c_7.1.1.2)&&true)) then bif (c_5.1.2.1==1) then oB (xa.sh F (10,0,([(0,(0,0),(0,0),0,0),(21,c_3.1.1)]:List zo.T))) fun c_8 =>
 bif c_8.1.1 then oB (xa.sh F (0,0,[])) fun c_9 =>
 some ((!c_9.1.1,()),())
 else some ((false,()),())
 else some ((false,()),())
 else some ((false,()),())
 else some ((false,()),())
 else some ((false,()),())
 else some ((false,()),())
 else some ((false,()),())
def xW.sp (F:Nat):TA xW.sg.args->Option xW.sg.R:=fun x=>xW.sh F
@[reducible] def xS.sg:Sig:={args:=[.d (.c (.int .u8))],res:=[.c .bool]}
def xS.sh (F:Nat) (c:Int):Option xS.sg.R :=
 bif decide (c>=97) then some ((decide (c<=122),()),())
 else some ((false,()),())
def xS.sp (F:Nat):TA xS.sg.args->Option xS.sg.R:=fun x=>xS.sh F x.1
@[reducible] def wC.sg:Sig:={args:=[],res:=[.c (.sl .str)]}
def wC.sh (F:Nat):Option wC.sg.R :=
 some ((([(⟨#[112,108,97,110]⟩:ByteArray),(⟨#[114,111,117,110,100]⟩:ByteArray),(⟨#[98,121]⟩:ByteArray),(⟨#[98,108,111,99,107,115]⟩:ByteArray),(⟨#[109,105,110]⟩:ByteArray),(⟨#[109,97,120]⟩:ByteArray),(⟨#[111,118,101,114]⟩:ByteArray),(⟨#[117,112,116,111]⟩:ByteArray),(⟨#[103,114,97,100,117,97,116,101,100]⟩:ByteArray),(⟨#[118,111,108,117,109,101]⟩:ByteArray),(⟨#[111,102,102]⟩:ByteArray),(⟨#[105,102]⟩:ByteArray),(⟨#[102,108,111,111,114]⟩:ByteArray),(⟨#[99,101,105,108]⟩:ByteArray),(⟨#[122,101,114,111]⟩:ByteArray),(⟨#[104,97,108,102]⟩:ByteArray),(⟨#[101,118,101,110]⟩:ByteArray)]:List ByteArray),()),())
def wC.sp (F:Nat):TA wC.sg.args->Option wC.sg.R:=fun x=>wC.sh F
@[reducible] def zZ.sg:Sig:={args:=[.d (.c .str)],res:=[.c .bool]}
abbrev zZ.l3.K1 (R:Type):Type:=ByteArray->(List ByteArray)->Int->Bool->Option R
abbrev zZ.l3.T (R:Type):Type:=ByteArray->(List ByteArray)->Int->Option R
def zZ.l3.body {R:Type} (F:Nat) (k0:Bool->Option R) (k1:zZ.l3.K1 R) (rec:zZ.l3.T R) (s:ByteArray) (l:List ByteArray) (i:Int):Option R :=
 bif decide (i<(l.length:Int)) then bif idx i l.length then bif ((get .str l i.toNat).toList==s.toList) then k0 true
 else rec s l (i64.wrap (i+1))
 else none
 else k1 s l i (decide (i<(l.length:Int)))
def zZ.l3 {R:Type} (F:Nat) (k0:Bool->Option R) (k1:zZ.l3.K1 R):Nat->zZ.l3.T R
 | 0,_,_,_=>none
 | fu+1,s,l,i=>zZ.l3.body F k0 k1 (zZ.l3 F k0 k1 fu) s l i
def zZ.sh (F:Nat) (s:ByteArray):Option zZ.sg.R :=
 oB (wC.sh F) fun c_1 =>
 zZ.l3 F (fun r22=>some ((r22,()),())) (fun s3 l3 i3 t93=>some ((false,()),())) F s c_1.1.1 0
def zZ.sp (F:Nat):TA zZ.sg.args->Option zZ.sg.R:=fun x=>zZ.sh F x.1
@[reducible] def wq.sg:Sig:={args:=[.d (.c (.int .u8))],res:=[.c .bool]}
def wq.sh (F:Nat) (c:Int):Option wq.sg.R :=
 bif decide (c>=48) then some ((decide (c<=57),()),())
 else some ((false,()),())
def wq.sp (F:Nat):TA wq.sg.args->Option wq.sg.R:=fun x=>wq.sh F x.1
@[reducible] def yt.sg:Sig:={args:=[.d (.c .str)],res:=[.c .bool]}
abbrev yt.l4.K1 (R:Type):Type:=ByteArray->Int->Bool->Option R
abbrev yt.l4.T (R:Type):Type:=ByteArray->Int->Option R
def yt.l4.body {R:Type} (F:Nat) (k0:Bool->Option R) (k1:yt.l4.K1 R) (rec:yt.l4.T R) (s:ByteArray) (i:Int):Option R :=
 bif decide (i<(s.size:Int)) then bif idx i s.size then oB (xS.sh F (bt s i)) fun c_3 =>
 bif !c_3.1.1 then bif idx i s.size then oB (wq.sh F (bt s i)) fun c_4 =>
 bif !c_4.1.1 then bif idx i s.size then bif ((bt s i) != 95) then k0 false
 else rec s (i64.wrap (i+1))
 else none
 else rec s (i64.wrap (i+1))
 else none
 else rec s (i64.wrap (i+1))
 else none
 else k1 s i (decide (i<(s.size:Int)))
def yt.l4 {R:Type} (F:Nat) (k0:Bool->Option R) (k1:yt.l4.K1 R):Nat->yt.l4.T R
 | 0,_,_=>none
 | fu+1,s,i=>yt.l4.body F k0 k1 (yt.l4 F k0 k1 fu) s i
def yt.sh (F:Nat) (s:ByteArray):Option yt.sg.R :=
 bif decide ((s.size:Int)<1) then some ((false,()),())
 else bif decide ((s.size:Int)>32) then some ((false,()),())
 else bif idx 0 s.size then oB (xS.sh F (bt s 0)) fun c_1 =>
 bif !c_1.1.1 then some ((false,()),())
 else oB (zZ.sh F s) fun c_2 =>
 bif c_2.1.1 then some ((false,()),())
 else yt.l4 F (fun r25=>some ((r25,()),())) (fun s6 i6 t256=>some ((true,()),())) F s 1
 else none
def yt.sp (F:Nat):TA yt.sg.args->Option yt.sg.R:=fun x=>yt.sh F x.1
@[reducible] def zL.sg:Sig:={args:=[.d (.g yr)],res:=[.c (.int .i64)]}
abbrev zL.l11.K1 (R:Type):Type:=Int->Int->Bool->yr.T->Option R
abbrev zL.l11.T (R:Type):Type:=Int->Int->yr.T->Option R
def zL.l11.body {R:Type} (F:Nat) (k0:Int->Option R) (k1:zL.l11.K1 R) (rec:zL.l11.T R) (i:Int) (k:Int) (p:yr.T):Option R :=
 bif decide (k<i) then bif idx k p.2.1.length then bif idx i p.2.1.length then bif ((get wV p.2.1 k.toNat).1.toList==(get wV p.2.1 i.toNat).1.toList) then k0 61
 else rec i (i64.wrap (k+1)) p
 else none
 else none
 else k1 i k (decide (k<i)) p
def zL.l11 {R:Type} (F:Nat) (k0:Int->Option R) (k1:zL.l11.K1 R):Nat->zL.l11.T R
 | 0,_,_,_=>none
 | fu+1,i,k,p=>zL.l11.body F k0 k1 (zL.l11 F k0 k1 fu) i k p
abbrev zL.l6.K3 (R:Type):Type:=Int->Bool->yr.T->Option R
def zL.l6.body {R:Type} (F:Nat) (k0:Int->Option R) (k1:Int->Option R) (k2:Int->Option R) (k3:zL.l6.K3 R) (rec:Int->yr.T->Option R) (i:Int) (p:yr.T):Option R :=
 bif decide (i<(p.2.1.length:Int)) then bif idx i p.2.1.length then oB (yt.sh F (get wV p.2.1 i.toNat).1) fun c_2 =>
 bif !c_2.1.1 then k0 61
 else zL.l11 F (fun r23=>k1 r23) (fun i4 k4 t364 p4=>bif idx i4 p4.2.1.length then bif decide ((get wV p4.2.1 i4.toNat).2<1) then k2 50
 else bif idx i4 p4.2.1.length then bif decide ((get wV p4.2.1 i4.toNat).2>1000000000000) then k2 50
 else rec (i64.wrap (i4+1)) p4
 else none
 else none) F i 0 p
 else none
 else k3 i (decide (i<(p.2.1.length:Int))) p
def zL.l6 {R:Type} (F:Nat) (k0:Int->Option R) (k1:Int->Option R) (k2:Int->Option R) (k3:zL.l6.K3 R):Nat->Int->yr.T->Option R
 | 0,_,_=>none
 | fu+1,i,p=>zL.l6.body F k0 k1 k2 k3 (zL.l6 F k0 k1 k2 k3 fu) i p
def zL.sh (F:Nat) (p:yr.T):Option zL.sg.R :=
 oB (yt.sh F p.1) fun c_1 =>
 bif !c_1.1.1 then some ((61,()),())
 else bif ((p.2.1.length:Int)==0) then some ((100,()),())
 else bif decide ((p.2.1.length:Int)>4) then some ((100,()),())
 else zL.l6 F (fun r25=>some ((r25,()),())) (fun r26=>some ((r26,()),())) (fun r27=>some ((r27,()),())) (fun i8 t238 p8=>bif decide (p8.2.2.1<0) then some ((50,()),())
 else bif decide (p8.2.2.1>4) then some ((50,()),())
 else some ((0,()),())) F 0 p
def zL.sp (F:Nat):TA zL.sg.args->Option zL.sg.R:=fun x=>zL.sh F x.1
@[reducible] def zv.sg:Sig:={args:=[.d (.g zx)],res:=[.c (.int .i64)]}
def zv.j17 {R:Type} (F:Nat) (k0:Int->Option R) (k1:Int->Option R) (k2:Int->Option R) (k3:Bool->Option R) (t4:Int) (t17:Bool) (n:zx.T):Option R :=
 bif t17 then k0 2
 else bif (t4==9) then bif (t4==9) then k1 n.2.2.2.1
 else bif (t4==16) then k2 3
 else k3 (t4==16)
 else bif (t4==10) then k1 n.2.2.2.1
 else bif (t4==16) then k2 3
 else k3 (t4==16)
def zv.j13 {R:Type} (F:Nat) (k0:Int->Option R) (k1:Int->Option R) (k2:Int->Option R) (k3:Int->Option R) (k4:Bool->Option R) (t4:Int) (t10:Bool) (n:zx.T):Option R :=
 bif t10 then k0 1
 else bif (t4==6) then zv.j17 F (fun r21=>k1 r21) (fun r22=>k2 r22) (fun r23=>k3 r23) (fun t264=>k4 t264) t4 (t4==6) n
 else bif (t4==7) then zv.j17 F (fun r25=>k1 r25) (fun r26=>k2 r26) (fun r27=>k3 r27) (fun t268=>k4 t268) t4 (t4==7) n
 else zv.j17 F (fun r29=>k1 r29) (fun r210=>k2 r210) (fun r211=>k3 r211) (fun t2612=>k4 t2612) t4 (t4==8) n
def zv.j6 {R:Type} (F:Nat) (k0:Int->Option R) (k1:Int->Option R) (k2:Int->Option R) (k3:Int->Option R) (k4:Int->Option R) (k5:Bool->Option R) (t4:Int) (t5:Bool) (n:zx.T):Option R :=
 bif t5 then k0 0
 else bif (t4==5) then zv.j13 F (fun r213=>k1 r213) (fun r214=>k2 r214) (fun r215=>k3 r215) (fun r216=>k4 r216) (fun t2617=>k5 t2617) t4 (t4==5) n
 else bif (t4==11) then zv.j13 F (fun r218=>k1 r218) (fun r219=>k2 r219) (fun r220=>k3 r220) (fun r221=>k4 r221) (fun t2622=>k5 t2622) t4 (t4==11) n
 else bif (t4==12) then zv.j13 F (fun r223=>k1 r223) (fun r224=>k2 r224) (fun r225=>k3 r225) (fun r226=>k4 r226) (fun t2627=>k5 t2627) t4 (t4==12) n
 else bif (t4==13) then zv.j13 F (fun r228=>k1 r228) (fun r229=>k2 r229) (fun r230=>k3 r230) (fun r231=>k4 r231) (fun t2632=>k5 t2632) t4 (t4==13) n
 else bif (t4==14) then zv.j13 F (fun r233=>k1 r233) (fun r234=>k2 r234) (fun r235=>k3 r235) (fun r236=>k4 r236) (fun t2637=>k5 t2637) t4 (t4==14) n
 else zv.j13 F (fun r238=>k1 r238) (fun r239=>k2 r239) (fun r240=>k3 r240) (fun r241=>k4 r241) (fun t2642=>k5 t2642) t4 (t4==15) n
def zv.sh (F:Nat) (n:zx.T):Option zv.sg.R :=
 bif (n.1==1) then zv.j6 F (fun r243=>some ((r243,()),())) (fun r244=>some ((r244,()),())) (fun r245=>some ((r245,()),())) (fun r246=>some ((r246,()),())) (fun r247=>some ((r247,()),())) (fun t2648=>some (((-1),()),())) n.1 (n.1==1) n
 else bif (n.1==2) then zv.j6 F (fun r249=>some ((r249,()),())) (fun r250=>some ((r250,()),())) (fun r251=>some ((r251,()),())) (fun r252=>some ((r252,()),())) (fun r253=>some ((r253,()),())) (fun t2654=>some (((-1),()),())) n.1 (n.1==2) n
 else bif (n.1==3) then zv.j6 F (fun r255=>some ((r255,()),())) (fun r256=>some ((r256,()),())) (fun r257=>some ((r257,()),())) (fun r258=>some ((r258,()),())) (fun r259=>some ((r259,()),())) (fun t2660=>some (((-1),()),())) n.1 (n.1==3) n
 else zv.j6 F (fun r261=>some ((r261,()),())) (fun r262=>some ((r262,()),())) (fun r263=>some ((r263,()),())) (fun r264=>some ((r264,()),())) (fun r265=>some ((r265,()),())) (fun t2666=>some (((-1),()),())) n.1 (n.1==4) n
def zv.sp (F:Nat):TA zv.sg.args->Option zv.sg.R:=fun x=>zv.sh F x.1
@[reducible] def yG.sg:Sig:={args:=[.d (.c (.int .i64)),.d (.c (.int .i64))],res:=[.c (.int .i64)]}
def yG.j7 {R:Type} (F:Nat) (k0:Int->Option R) (k1:Int->Option R) (k2:Int->Option R) (k3:Bool->Option R) (dims:Int) (t5:Int) (t6:Bool):Option R :=
 bif t6 then k0 1000000000000
 else bif (t5==3) then bif (t5==3) then k1 (i64.wrap (dims-1))
 else bif (t5==15) then k2 10000
 else k3 (t5==15)
 else bif (t5==4) then k1 (i64.wrap (dims-1))
 else bif (t5==15) then k2 10000
 else k3 (t5==15)
def yG.sh (F:Nat) (kind:Int) (dims:Int):Option yG.sg.R :=
 bif (kind==1) then yG.j7 F (fun r41=>some ((r41,()),())) (fun r42=>some ((r42,()),())) (fun r43=>some ((r43,()),())) (fun t174=>some ((0,()),())) dims kind (kind==1)
 else bif (kind==2) then yG.j7 F (fun r45=>some ((r45,()),())) (fun r46=>some ((r46,()),())) (fun r47=>some ((r47,()),())) (fun t178=>some ((0,()),())) dims kind (kind==2)
 else bif (kind==11) then yG.j7 F (fun r49=>some ((r49,()),())) (fun r410=>some ((r410,()),())) (fun r411=>some ((r411,()),())) (fun t1712=>some ((0,()),())) dims kind (kind==11)
 else bif (kind==12) then yG.j7 F (fun r413=>some ((r413,()),())) (fun r414=>some ((r414,()),())) (fun r415=>some ((r415,()),())) (fun t1716=>some ((0,()),())) dims kind (kind==12)
 else yG.j7 F (fun r417=>some ((r417,()),())) (fun r418=>some ((r418,()),())) (fun r419=>some ((r419,()),())) (fun t1720=>some ((0,()),())) dims kind (kind==16)
def yG.sp (F:Nat):TA yG.sg.args->Option yG.sg.R:=fun x=>yG.sh F x.1 x.2.1
@[reducible] def z7.sg:Sig:={args:=[.d (.g zx),.d (.c (.int .i64))],res:=[.c .bool]}
def z7.j13 {R:Type} (F:Nat) (k0:Bool->Option R) (n:zx.T):Option R :=
 bif (n.1==13) then k0 true
 else bif (n.1==14) then k0 true
 else k0 ((n.2.2.2.2.1.length:Int)==0)
def z7.j8 {R:Type} (F:Nat) (k0:Bool->Option R) (k1:Bool->Option R) (k2:Bool->Option R) (n:zx.T):Option R :=
 bif (n.1==9) then bif decide (n.2.2.2.1<2) then k0 false
 else bif decide (n.2.2.2.1>16) then k0 false
 else z7.j13 F (fun r42=>k1 r42) n
 else bif (n.1==10) then bif decide (n.2.2.2.1<2) then k0 false
 else bif decide (n.2.2.2.1>16) then k0 false
 else z7.j13 F (fun r43=>k1 r43) n
 else bif (n.2.2.2.1 != 0) then k2 false
 else z7.j13 F (fun r44=>k1 r44) n
def z7.sh (F:Nat) (n:zx.T) (dims:Int):Option z7.sg.R :=
 bif decide (n.2.1<0) then some ((false,()),())
 else oB (yG.sh F n.1 dims) fun c_1 =>
 bif decide (n.2.1>c_1.1.1) then some ((false,()),())
 else bif (n.1==16) then bif decide (n.2.2.1<1) then some ((false,()),())
 else bif decide (n.2.2.1>6) then some ((false,()),())
 else z7.j8 F (fun r45=>some ((r45,()),())) (fun r46=>some ((r46,()),())) (fun r47=>some ((r47,()),())) n
 else bif (n.2.2.1 != 0) then some ((false,()),())
 else z7.j8 F (fun r48=>some ((r48,()),())) (fun r49=>some ((r49,()),())) (fun r410=>some ((r410,()),())) n
def z7.sp (F:Nat):TA z7.sg.args->Option z7.sg.R:=fun x=>z7.sh F x.1 x.2.1
@[reducible] def zP.sg:Sig:={args:=[.d (.b yp)],res:=[.c .bool]}
def zP.j8 {R:Type} (F:Nat) (k0:Bool->Option R) (k1:(List yp.T)->Int->Bool->Option R) (l:List yp.T) (i:Int):Option R :=
 bif idx i l.length then bif decide ((get yp l i.toNat).1>1000000000000) then k0 false
 else bif idx i l.length then bif decide ((get yp l i.toNat).2>1000000000000) then k0 false
 else bif idx i l.length then bif decide ((get yp l i.toNat).2<(-1000000000000)) then k0 false
 else k1 l i (decide ((get yp l i.toNat).2<(-1000000000000)))
 else none
 else none
 else none
abbrev zP.l4.K2 (R:Type):Type:=(List yp.T)->Int->Bool->Option R
abbrev zP.l4.T (R:Type):Type:=(List yp.T)->Int->Option R
def zP.l4.body {R:Type} (F:Nat) (k0:Bool->Option R) (k1:Bool->Option R) (k2:zP.l4.K2 R) (rec:zP.l4.T R) (l:List yp.T) (i:Int):Option R :=
 bif decide (i<(l.length:Int)) then bif decide (i>0) then bif idx (i64.wrap (i-1)) l.length then bif idx i l.length then bif decide ((get yp l ((i64.wrap (i-1)).toNat)).1>=(get yp l i.toNat).1) then k0 false
 else zP.j8 F (fun r21=>k1 r21) (fun l2 i2 t622=>rec l2 (i64.wrap (i2+1))) l i
 else none
 else none
 else zP.j8 F (fun r23=>k1 r23) (fun l4 i4 t624=>rec l4 (i64.wrap (i4+1))) l i
 else k2 l i (decide (i<(l.length:Int)))
def zP.l4 {R:Type} (F:Nat) (k0:Bool->Option R) (k1:Bool->Option R) (k2:zP.l4.K2 R):Nat->zP.l4.T R
 | 0,_,_=>none
 | fu+1,l,i=>zP.l4.body F k0 k1 k2 (zP.l4 F k0 k1 k2 fu) l i
def zP.sh (F:Nat) (l:List yp.T):Option zP.sg.R :=
 bif ((l.length:Int)==0) then some ((false,()),())
 else bif decide ((l.length:Int)>16) then some ((false,()),())
 else bif idx 0 l.length then bif ((get yp l 0).1 != 0) then some ((false,()),())
 else zP.l4 F (fun r25=>some ((r25,()),())) (fun r26=>some ((r26,()),())) (fun l7 i7 t227=>some ((true,()),())) F l 0
 else none
def zP.sp (F:Nat):TA zP.sg.args->Option zP.sg.R:=fun x=>zP.sh F x.1
@[reducible] def zX.sg:Sig:={args:=[.d (.g yr)],res:=[.c (.int .i64),.c (.int .i64)]}
abbrev zX.l8.K2 (R:Type):Type:=Int->Int->Bool->yr.T->Option R
abbrev zX.l8.T (R:Type):Type:=Int->Int->yr.T->Option R
def zX.l8.body {R:Type} (F:Nat) (k0:Int->Int->Option R) (k1:Int->Int->Option R) (k2:zX.l8.K2 R) (rec:zX.l8.T R) (pile:Int) (i:Int) (p:yr.T):Option R :=
 bif decide (i<(p.2.2.2.length:Int)) then bif idx i p.2.2.2.length then oB (zv.sh F (get zx p.2.2.2 i.toNat)) fun c_2 =>
 bif decide (c_2.1.1<0) then k0 i 50
 else oB (z7.sh F (get zx p.2.2.2 i.toNat) (p.2.1.length:Int)) fun c_3 =>
 bif !c_3.1.1 then k0 i 50
 else bif decide (pile<c_2.1.1) then k0 i 50
 else bif ((get zx p.2.2.2 i.toNat).1==13) then oB (zP.sh F (get zx p.2.2.2 i.toNat).2.2.2.2.1) fun c_4 =>
 bif !c_4.1.1 then k1 i 51
 else rec (i64.wrap ((i64.wrap (pile-c_2.1.1))+1)) (i64.wrap (i+1)) p
 else bif ((get zx p.2.2.2 i.toNat).1==14) then oB (zP.sh F (get zx p.2.2.2 i.toNat).2.2.2.2.1) fun c_5 =>
 bif !c_5.1.1 then k1 i 51
 else rec (i64.wrap ((i64.wrap (pile-c_2.1.1))+1)) (i64.wrap (i+1)) p
 else rec (i64.wrap ((i64.wrap (pile-c_2.1.1))+1)) (i64.wrap (i+1)) p
 else none
 else k2 pile i (decide (i<(p.2.2.2.length:Int))) p
def zX.l8 {R:Type} (F:Nat) (k0:Int->Int->Option R) (k1:Int->Int->Option R) (k2:zX.l8.K2 R):Nat->zX.l8.T R
 | 0,_,_,_=>none
 | fu+1,pile,i,p=>zX.l8.body F k0 k1 k2 (zX.l8 F k0 k1 k2 fu) pile i p
def zX.sh (F:Nat) (p:yr.T):Option zX.sg.R :=
 oB (zL.sh F p) fun c_1 =>
 bif (c_1.1.1 != 0) then some (((-1),c_1.1.1,()),())
 else bif decide ((p.2.2.2.length:Int)>1024) then some ((1024,2,()),())
 else zX.l8 F (fun r26 r36=>some ((r26,r36,()),())) (fun r27 r37=>some ((r27,r37,()),())) (fun pile8 i8 t228 p8=>bif (pile8 != 1) then some (((p8.2.2.2.length:Int),50,()),())
 else some ((0,0,()),())) F 0 0 p
def zX.sp (F:Nat):TA zX.sg.args->Option zX.sg.R:=fun x=>zX.sh F x.1
@[reducible] def zS.sg:Sig:={args:=[.d (.g yr),.d (.c (.int .i64))],res:=[.c (.int .i64)]}
abbrev zS.l3.T (R:Type):Type:=Int->Int->yr.T->Option R
def zS.l3.body {R:Type} (F:Nat) (k0:Int->Option R) (rec:zS.l3.T R) (want:Int) (i:Int) (p:yr.T):Option R :=
 bif idx i p.2.2.2.length then oB (zv.sh F (get zx p.2.2.2 i.toNat)) fun c_1 =>
 bif ((i64.wrap ((i64.wrap (want-1))+c_1.1.1))==0) then k0 i
 else rec (i64.wrap ((i64.wrap (want-1))+c_1.1.1)) (i64.wrap (i-1)) p
 else none
def zS.l3 {R:Type} (F:Nat) (k0:Int->Option R):Nat->zS.l3.T R
 | 0,_,_,_=>none
 | fu+1,want,i,p=>zS.l3.body F k0 (zS.l3 F k0 fu) want i p
def zS.sh (F:Nat) (p:yr.T) (node:Int):Option zS.sg.R :=
 zS.l3 F (fun r42=>some ((r42,()),())) F 1 node p
def zS.sp (F:Nat):TA zS.sg.args->Option zS.sg.R:=fun x=>zS.sh F x.1 x.2.1
@[reducible] def zl.sg:Sig:={args:=[.d (.g yr)],res:=[.c (.sl .bool),.c (.int .i64)]}
abbrev zl.l10.K0 (R:Type):Type:=Int->Bool->Int->Bool->yr.T->(List Bool)->Option R
abbrev zl.l10.T (R:Type):Type:=Int->Bool->Int->yr.T->(List Bool)->Option R
def zl.l10.body {R:Type} (F:Nat) (k0:zl.l10.K0 R) (rec:zl.l10.T R) (i:Int) (is:Bool) (k:Int) (p:yr.T) (out:List Bool):Option R :=
 bif decide (k<=i) then bif is then bif idx k p.2.2.2.length then bif ((get zx p.2.2.2 k.toNat).1 != 3) then bif idx k p.2.2.2.length then rec i ((get zx p.2.2.2 k.toNat).1 != 4) (i64.wrap (k+1)) p out
 else none
 else rec i false (i64.wrap (k+1)) p out
 else none
 else rec i false (i64.wrap (k+1)) p out
 else k0 i is k (decide (k<=i)) p out
def zl.l10 {R:Type} (F:Nat) (k0:zl.l10.K0 R):Nat->zl.l10.T R
 | 0,_,_,_,_,_=>none
 | fu+1,i,is,k,p,out=>zl.l10.body F k0 (zl.l10 F k0 fu) i is k p out
abbrev zl.l6.K0 (R:Type):Type:=Int->Bool->yr.T->(List Bool)->Option R
abbrev zl.l6.T (R:Type):Type:=Int->yr.T->(List Bool)->Option R
def zl.l6.body {R:Type} (F:Nat) (k0:zl.l6.K0 R) (rec:zl.l6.T R) (i:Int) (p:yr.T) (out:List Bool):Option R :=
 bif decide (i<(p.2.2.2.length:Int)) then oB (zS.sh F p i) fun c_2 =>
 zl.l10 F (fun i3 is3 k3 t303 p3 out3=>bif Nat.ble (out3.length+([is3]:List Bool).length) vc then rec (i64.wrap (i3+1)) p3 (out3++([is3]:List Bool))
 else none) F i true c_2.1.1 p out
 else k0 i (decide (i<(p.2.2.2.length:Int))) p out
def zl.l6 {R:Type} (F:Nat) (k0:zl.l6.K0 R):Nat->zl.l6.T R
 | 0,_,_,_=>none
 | fu+1,i,p,out=>zl.l6.body F k0 (zl.l6 F k0 fu) i p out
def zl.j14 {R:Type} (F:Nat) (k0:(List Bool)->Int->Option R) (out:List Bool):Option R :=
 k0 out 0
def zl.sh (F:Nat) (p:yr.T):Option zl.sg.R :=
 oB (zX.sh F p) fun c_1 =>
 bif (c_1.1.2.1 != 0) then some (([],c_1.1.2.1,()),())
 else zl.l6 F (fun i4 t224 p4 out4=>zl.j14 F (fun r25 r35=>some ((r25,r35,()),())) out4) F 0 p ([])
def zl.sp (F:Nat):TA zl.sg.args->Option zl.sg.R:=fun x=>zl.sh F x.1
@[reducible] def zz.sg:Sig:={args:=[.d (.b (.int .i64))],res:=[.c (.int .i64)]}
abbrev zz.l2.K1 (R:Type):Type:=(List Int)->Int->Bool->Option R
abbrev zz.l2.T (R:Type):Type:=(List Int)->Int->Option R
def zz.l2.body {R:Type} (F:Nat) (k0:Int->Option R) (k1:zz.l2.K1 R) (rec:zz.l2.T R) (l:List Int) (i:Int):Option R :=
 bif decide (i<(l.length:Int)) then bif idx i l.length then bif idx 0 l.length then bif ((get (.int .i64) l i.toNat) != (get (.int .i64) l 0)) then k0 (-1)
 else rec l (i64.wrap (i+1))
 else none
 else none
 else k1 l i (decide (i<(l.length:Int)))
def zz.l2 {R:Type} (F:Nat) (k0:Int->Option R) (k1:zz.l2.K1 R):Nat->zz.l2.T R
 | 0,_,_=>none
 | fu+1,l,i=>zz.l2.body F k0 k1 (zz.l2 F k0 k1 fu) l i
def zz.sh (F:Nat) (l:List Int):Option zz.sg.R :=
 zz.l2 F (fun r21=>some ((r21,()),())) (fun l2 i2 t72=>bif idx 0 l2.length then some ((get (.int .i64) l2 0,()),())
 else none) F l 1
def zz.sp (F:Nat):TA zz.sg.args->Option zz.sg.R:=fun x=>zz.sh F x.1
@[reducible] def zB.sg:Sig:={args:=[.d (.c (.int .i64))],res:=[.c .bool]}
def zB.sh (F:Nat) (t:Int):Option zB.sg.R :=
 some ((decide (t>=2),()),())
def zB.sp (F:Nat):TA zB.sg.args->Option zB.sg.R:=fun x=>zB.sh F x.1
@[reducible] def xh.sg:Sig:={args:=[.d (.c (.int .i64)),.d (.c (.int .i64))],res:=[.c (.int .i64)]}
def xh.sh (F:Nat) (a:Int) (b:Int):Option xh.sg.R :=
 bif (a==0) then some ((b,()),())
 else bif (b==0) then some ((a,()),())
 else oB (zB.sh F a) fun c_1 =>
 bif c_1.1.1 then bif (b==1) then some ((1,()),())
 else bif (a==1) then oB (zB.sh F b) fun c_2 =>
 bif c_2.1.1 then some ((1,()),())
 else some (((-1),()),())
 else some (((-1),()),())
 else bif (a==1) then oB (zB.sh F b) fun c_3 =>
 bif c_3.1.1 then some ((1,()),())
 else some (((-1),()),())
 else some (((-1),()),())
def xh.sp (F:Nat):TA xh.sg.args->Option xh.sg.R:=fun x=>xh.sh F x.1 x.2.1
@[reducible] def yv.sg:Sig:={args:=[.d (.g zx),.d (.b (.int .i64))],res:=[.c (.int .i64)]}
def yv.sh (F:Nat) (n:zx.T) (l:List Int):Option yv.sg.R :=
 bif (n.1==1) then some ((0,()),())
 else bif (n.1==2) then some ((1,()),())
 else bif (n.1==3) then some ((i64.wrap (2+(i64.wrap (2*n.2.1))),()),())
 else bif (n.1==4) then some ((i64.wrap (3+(i64.wrap (2*n.2.1))),()),())
 else bif (n.1==5) then bif (n.1==5) then oB (zz.sh F l) fun c_1 =>
 some ((c_1.1.1,()),())
 else bif (n.1==8) then bif idx 0 l.length then bif idx 1 l.length then oB (xh.sh F (get (.int .i64) l 0) (get (.int .i64) l 1)) fun c_2 =>
 some ((c_2.1.1,()),())
 else none
 else none
 else bif (n.1==11) then bif (n.1==11) then bif idx 0 l.length then oB (zB.sh F (get (.int .i64) l 0)) fun c_3 =>
 bif c_3.1.1 then bif idx 0 l.length then some ((get (.int .i64) l 0,()),())
 else none
 else some (((-1),()),())
 else none
 else bif (n.1==13) then bif (n.1==13) then bif idx 0 l.length then oB (zB.sh F (get (.int .i64) l 0)) fun c_4 =>
 bif c_4.1.1 then some ((1,()),())
 else some (((-1),()),())
 else none
 else bif (n.1==15) then bif idx 0 l.length then bif ((get (.int .i64) l 0)==1) then bif idx 0 l.length then some ((get (.int .i64) l 0,()),())
 else none
 else some (((-1),()),())
 else none
 else bif (n.1==16) then bif idx 0 l.length then oB (zB.sh F (get (.int .i64) l 0)) fun c_5 =>
 bif c_5.1.1 then bif (zI l.length (some 1) none).1 then oB (zz.sh F ((l.take (zI l.length (some 1) none).2.2).drop (zI l.length (some 1) none).2.1)) fun c_6 =>
 some ((c_6.1.1,()),())
 else none
 else some (((-1),()),())
 else none
 else some (((-1),()),())
 else bif (n.1==14) then bif idx 0 l.length then oB (zB.sh F (get (.int .i64) l 0)) fun c_7 =>
 bif c_7.1.1 then some ((1,()),())
 else some (((-1),()),())
 else none
 else bif (n.1==15) then bif idx 0 l.length then bif ((get (.int .i64) l 0)==1) then bif idx 0 l.length then some ((get (.int .i64) l 0,()),())
 else none
 else some (((-1),()),())
 else none
 else bif (n.1==16) then bif idx 0 l.length then oB (zB.sh F (get (.int .i64) l 0)) fun c_8 =>
 bif c_8.1.1 then bif (zI l.length (some 1) none).1 then oB (zz.sh F ((l.take (zI l.length (some 1) none).2.2).drop (zI l.length (some 1) none).2.1)) fun c_9 =>
 some ((c_9.1.1,()),())
 else none
 else some (((-1),()),())
 else none
 else some (((-1),()),())
 else bif (n.1==12) then bif idx 0 l.length then oB (zB.sh F (get (.int .i64) l 0)) fun c_10 =>
 bif c_10.1.1 then bif idx 0 l.length then some ((get (.int .i64) l 0,()),())
 else none
 else some (((-1),()),())
 else none
 else bif (n.1==13) then bif (n.1==13) then bif idx 0 l.length then oB (zB.sh F (get (.int .i64) l 0)) fun c_11 =>
 bif c_11.1.1 then some ((1,()),())
 else some (((-1),()),())
 else none
 else bif (n.1==15) then bif idx 0 l.length then bif ((get (.int .i64) l 0)==1) then bif idx 0 l.length then some ((get (.int .i64) l 0,()),())
 else none
 else some (((-1),()),())
 else none
 else bif (n.1==16) then bif idx 0 l.length then oB (zB.sh F (get (.int .i64) l 0)) fun c_12 =>
 bif c_12.1.1 then bif (zI l.length (some 1) none).1 then oB (zz.sh F ((l.take (zI l.length (some 1) none).2.2).drop (zI l.length (some 1) none).2.1)) fun c_13 =>
 some ((c_13.1.1,()),())
 else none
 else some (((-1),()),())
 else none
 else some (((-1),()),())
 else bif (n.1==14) then bif idx 0 l.length then oB (zB.sh F (get (.int .i64) l 0)) fun c_14 =>
 bif c_14.1.1 then some ((1,()),())
 else some (((-1),()),())
 else none
 else bif (n.1==15) then bif idx 0 l.length then bif ((get (.int .i64) l 0)==1) then bif idx 0 l.length then some ((get (.int .i64) l 0,()),())
 else none
 else some (((-1),()),())
 else none
 else bif (n.1==16) then bif idx 0 l.length then oB (zB.sh F (get (.int .i64) l 0)) fun c_15 =>
 bif c_15.1.1 then bif (zI l.length (some 1) none).1 then oB (zz.sh F ((l.take (zI l.length (some 1) none).2.2).drop (zI l.length (some 1) none).2.1)) fun c_16 =>
 some ((c_16.1.1,()),())
 else none
 else some (((-1),()),())
 else none
 else some (((-1),()),())
 else bif (n.1==6) then bif (n.1==6) then oB (zz.sh F l) fun c_17 =>
 some ((c_17.1.1,()),())
 else bif (n.1==8) then bif idx 0 l.length then bif idx 1 l.length then oB (xh.sh F (get (.int .i64) l 0) (get (.int .i64) l 1)) fun c_18 =>
 some ((c_18.1.1,()),())
 else none
 else none
 else bif (n.1==11) then bif (n.1==11) then bif idx 0 l.length then oB (zB.sh F (get (.int .i64) l 0)) fun c_19 =>
 bif c_19.1.1 then bif idx 0 l.length then some ((get (.int .i64) l 0,()),())
 else none
 else some (((-1),()),())
 else none
 else bif (n.1==13) then bif (n.1==13) then bif idx 0 l.length then oB (zB.sh F (get (.int .i64) l 0)) fun c_20 =>
 bif c_20.1.1 then some ((1,()),())
 else some (((-1),()),())
 else none
 else bif (n.1==15) then bif idx 0 l.length then bif ((get (.int .i64) l 0)==1) then bif idx 0 l.length then some ((get (.int .i64) l 0,()),())
 else none
 else some (((-1),()),())
 else none
 else bif (n.1==16) then bif idx 0 l.length then oB (zB.sh F (get (.int .i64) l 0)) fun c_21 =>
 bif c_21.1.1 then bif (zI l.length (some 1) none).1 then oB (zz.sh F ((l.take (zI l.length (some 1) none).2.2).drop (zI l.length (some 1) none).2.1)) fun c_22 =>
 some ((c_22.1.1,()),())
 else none
 else some (((-1),()),())
 else none
 else some (((-1),()),())
 else bif (n.1==14) then bif idx 0 l.length then oB (zB.sh F (get (.int .i64) l 0)) fun c_23 =>
 bif c_23.1.1 then some ((1,()),())
 else some (((-1),()),())
 else none
 else bif (n.1==15) then bif idx 0 l.length then bif ((get (.int .i64) l 0)==1) then bif idx 0 l.length then some ((get (.int .i64) l 0,()),())
 else none
 else some (((-1),()),())
 else none
 else bif (n.1==16) then bif idx 0 l.length then oB (zB.sh F (get (.int .i64) l 0)) fun c_24 =>
 bif c_24.1.1 then bif (zI l.length (some 1) none).1 then oB (zz.sh F ((l.take (zI l.length (some 1) none).2.2).drop (zI l.length (some 1) none).2.1)) fun c_25 =>
 some ((c_25.1.1,()),())
 else none
 else some (((-1),()),())
 else none
 else some (((-1),()),())
 else bif (n.1==12) then bif idx 0 l.length then oB (zB.sh F (get (.int .i64) l 0)) fun c_26 =>
 bif c_26.1.1 then bif idx 0 l.length then some ((get (.int .i64) l 0,()),())
 else none
 else some (((-1),()),())
 else none
 else bif (n.1==13) then bif (n.1==13) then bif idx 0 l.length then oB (zB.sh F (get (.int .i64) l 0)) fun c_27 =>
 bif c_27.1.1 then some ((1,()),())
 else some (((-1),()),())
 else none
 else bif (n.1==15) then bif idx 0 l.length then bif ((get (.int .i64) l 0)==1) then bif idx 0 l.length then some ((get (.int .i64) l 0,()),())
 else none
 else some (((-1),()),())
 else none
 else bif (n.1==16) then bif idx 0 l.length then oB (zB.sh F (get (.int .i64) l 0)) fun c_28 =>
 bif c_28.1.1 then bif (zI l.length (some 1) none).1 then oB (zz.sh F ((l.take (zI l.length (some 1) none).2.2).drop (zI l.length (some 1) none).2.1)) fun c_29 =>
 some ((c_29.1.1,()),())
 else none
 else some (((-1),()),())
 else none
 else some (((-1),()),())
 else bif (n.1==14) then bif idx 0 l.length then oB (zB.sh F (get (.int .i64) l 0)) fun c_30 =>
 bif c_30.1.1 then some ((1,()),())
 else some (((-1),()),())
 else none
 else bif (n.1==15) then bif idx 0 l.length then bif ((get (.int .i64) l 0)==1) then bif idx 0 l.length then some ((get (.int .i64) l 0,()),())
 else none
 else some (((-1),()),())
 else none
 else bif (n.1==16) then bif idx 0 l.length then oB (zB.sh F (get (.int .i64) l 0)) fun c_31 =>
 bif c_31.1.1 then bif (zI l.length (some 1) none).1 then oB (zz.sh F ((l.take (zI l.length (some 1) none).2.2).drop (zI l.length (some 1) none).2.1)) fun c_32 =>
 some ((c_32.1.1,()),())
 else none
 else some (((-1),()),())
 else none
 else some (((-1),()),())
 else bif (n.1==7) then bif (n.1==7) then oB (zz.sh F l) fun c_33 =>
 some ((c_33.1.1,()),())
 else bif (n.1==8) then bif idx 0 l.length then bif idx 1 l.length then oB (xh.sh F (get (.int .i64) l 0) (get (.int .i64) l 1)) fun c_34 =>
 some ((c_34.1.1,()),())
 else none
 else none
 else bif (n.1==11) then bif (n.1==11) then bif idx 0 l.length then oB (zB.sh F (get (.int .i64) l 0)) fun c_35 =>
 bif c_35.1.1 then bif idx 0 l.length then some ((get (.int .i64) l 0,()),())
 else none
 else some (((-1),()),())
 else none
 else bif (n.1==13) then bif (n.1==13) then bif idx 0 l.length then oB (zB.sh F (get (.int .i64) l 0)) fun c_36 =>
 bif c_36.1.1 then some ((1,()),())
 else some (((-1),()),())
 else none
 else bif (n.1==15) then bif idx 0 l.length then bif ((get (.int .i64) l 0)==1) then bif idx 0 l.length then some ((get (.int .i64) l 0,()),())
 else none
 else some (((-1),()),())
 else none
 else bif (n.1==16) then bif idx 0 l.length then oB (zB.sh F (get (.int .i64) l 0)) fun c_37 =>
 bif c_37.1.1 then bif (zI l.length (some 1) none).1 then oB (zz.sh F ((l.take (zI l.length (some 1) none).2.2).drop (zI l.length (some 1) none).2.1)) fun c_38 =>
 some ((c_38.1.1,()),())
 else none
 else some (((-1),()),())
 else none
 else some (((-1),()),())
 else bif (n.1==14) then bif idx 0 l.length then oB (zB.sh F (get (.int .i64) l 0)) fun c_39 =>
 bif c_39.1.1 then some ((1,()),())
 else some (((-1),()),())
 else none
 else bif (n.1==15) then bif idx 0 l.length then bif ((get (.int .i64) l 0)==1) then bif idx 0 l.length then some ((get (.int .i64) l 0,()),())
 else none
 else some (((-1),()),())
 else none
 else bif (n.1==16) then bif idx 0 l.length then oB (zB.sh F (get (.int .i64) l 0)) fun c_40 =>
 bif c_40.1.1 then bif (zI l.length (some 1) none).1 then oB (zz.sh F ((l.take (zI l.length (some 1) none).2.2).drop (zI l.length (some 1) none).2.1)) fun c_41 =>
 some ((c_41.1.1,()),())
 else none
 else some (((-1),()),())
 else none
 else some (((-1),()),())
 else bif (n.1==12) then bif idx 0 l.length then oB (zB.sh F (get (.int .i64) l 0)) fun c_42 =>
 bif c_42.1.1 then bif idx 0 l.length then some ((get (.int .i64) l 0,()),())
 else none
 else some (((-1),()),())
 else none
 else bif (n.1==13) then bif (n.1==13) then bif idx 0 l.length then oB (zB.sh F (get (.int .i64) l 0)) fun c_43 =>
 bif c_43.1.1 then some ((1,()),())
 else some (((-1),()),())
 else none
 else bif (n.1==15) then bif idx 0 l.length then bif ((get (.int .i64) l 0)==1) then bif idx 0 l.length then some ((get (.int .i64) l 0,()),())
 else none
 else some (((-1),()),())
 else none
 else bif (n.1==16) then bif idx 0 l.length then oB (zB.sh F (get (.int .i64) l 0)) fun c_44 =>
 bif c_44.1.1 then bif (zI l.length (some 1) none).1 then oB (zz.sh F ((l.take (zI l.length (some 1) none).2.2).drop (zI l.length (some 1) none).2.1)) fun c_45 =>
 some ((c_45.1.1,()),())
 else none
 else some (((-1),()),())
 else none
 else some (((-1),()),())
 else bif (n.1==14) then bif idx 0 l.length then oB (zB.sh F (get (.int .i64) l 0)) fun c_46 =>
 bif c_46.1.1 then some ((1,()),())
 else some (((-1),()),())
 else none
 else bif (n.1==15) then bif idx 0 l.length then bif ((get (.int .i64) l 0)==1) then bif idx 0 l.length then some ((get (.int .i64) l 0,()),())
 else none
 else some (((-1),()),())
 else none
 else bif (n.1==16) then bif idx 0 l.length then oB (zB.sh F (get (.int .i64) l 0)) fun c_47 =>
 bif c_47.1.1 then bif (zI l.length (some 1) none).1 then oB (zz.sh F ((l.take (zI l.length (some 1) none).2.2).drop (zI l.length (some 1) none).2.1)) fun c_48 =>
 some ((c_48.1.1,()),())
 else none
 else some (((-1),()),())
 else none
 else some (((-1),()),())
 else bif (n.1==9) then bif (n.1==9) then oB (zz.sh F l) fun c_49 =>
 some ((c_49.1.1,()),())
 else bif (n.1==8) then bif idx 0 l.length then bif idx 1 l.length then oB (xh.sh F (get (.int .i64) l 0) (get (.int .i64) l 1)) fun c_50 =>
 some ((c_50.1.1,()),())
 else none
 else none
 else bif (n.1==11) then bif (n.1==11) then bif idx 0 l.length then oB (zB.sh F (get (.int .i64) l 0)) fun c_51 =>
 bif c_51.1.1 then bif idx 0 l.length then some ((get (.int .i64) l 0,()),())
 else none
 else some (((-1),()),())
 else none
 else bif (n.1==13) then bif (n.1==13) then bif idx 0 l.length then oB (zB.sh F (get (.int .i64) l 0)) fun c_52 =>
 bif c_52.1.1 then some ((1,()),())
 else some (((-1),()),())
 else none
 else bif (n.1==15) then bif idx 0 l.length then bif ((get (.int .i64) l 0)==1) then bif idx 0 l.length then some ((get (.int .i64) l 0,()),())
 else none
 else some (((-1),()),())
 else none
 else bif (n.1==16) then bif idx 0 l.length then oB (zB.sh F (get (.int .i64) l 0)) fun c_53 =>
 bif c_53.1.1 then bif (zI l.length (some 1) none).1 then oB (zz.sh F ((l.take (zI l.length (some 1) none).2.2).drop (zI l.length (some 1) none).2.1)) fun c_54 =>
 some ((c_54.1.1,()),())
 else none
 else some (((-1),()),())
 else none
 else some (((-1),()),())
 else bif (n.1==14) then bif idx 0 l.length then oB (zB.sh F (get (.int .i64) l 0)) fun c_55 =>
 bif c_55.1.1 then some ((1,()),())
 else some (((-1),()),())
 else none
 else bif (n.1==15) then bif idx 0 l.length then bif ((get (.int .i64) l 0)==1) then bif idx 0 l.length then some ((get (.int .i64) l 0,()),())
 else none
 else some (((-1),()),())
 else none
 else bif (n.1==16) then bif idx 0 l.length then oB (zB.sh F (get (.int .i64) l 0)) fun c_56 =>
 bif c_56.1.1 then bif (zI l.length (some 1) none).1 then oB (zz.sh F ((l.take (zI l.length (some 1) none).2.2).drop (zI l.length (some 1) none).2.1)) fun c_57 =>
 some ((c_57.1.1,()),())
 else none
 else some (((-1),()),())
 else none
 else some (((-1),()),())
 else bif (n.1==12) then bif idx 0 l.length then oB (zB.sh F (get (.int .i64) l 0)) fun c_58 =>
 bif c_58.1.1 then bif idx 0 l.length then some ((get (.int .i64) l 0,()),())
 else none
 else some (((-1),()),())
 else none
 else bif (n.1==13) then bif (n.1==13) then bif idx 0 l.length then oB (zB.sh F (get (.int .i64) l 0)) fun c_59 =>
 bif c_59.1.1 then some ((1,()),())
 else some (((-1),()),())
 else none
 else bif (n.1==15) then bif idx 0 l.length then bif ((get (.int .i64) l 0)==1) then bif idx 0 l.length then some ((get (.int .i64) l 0,()),())
 else none
 else some (((-1),()),())
 else none
 else bif (n.1==16) then bif idx 0 l.length then oB (zB.sh F (get (.int .i64) l 0)) fun c_60 =>
 bif c_60.1.1 then bif (zI l.length (some 1) none).1 then oB (zz.sh F ((l.take (zI l.length (some 1) none).2.2).drop (zI l.length (some 1) none).2.1)) fun c_61 =>
 some ((c_61.1.1,()),())
 else none
 else some (((-1),()),())
 else none
 else some (((-1),()),())
 else bif (n.1==14) then bif idx 0 l.length then oB (zB.sh F (get (.int .i64) l 0)) fun c_62 =>
 bif c_62.1.1 then some ((1,()),())
 else some (((-1),()),())
 else none
 else bif (n.1==15) then bif idx 0 l.length then bif ((get (.int .i64) l 0)==1) then bif idx 0 l.length then some ((get (.int .i64) l 0,()),())
 else none
 else some (((-1),()),())
 else none
 else bif (n.1==16) then bif idx 0 l.length then oB (zB.sh F (get (.int .i64) l 0)) fun c_63 =>
 bif c_63.1.1 then bif (zI l.length (some 1) none).1 then oB (zz.sh F ((l.take (zI l.length (some 1) none).2.2).drop (zI l.length (some 1) none).2.1)) fun c_64 =>
 some ((c_64.1.1,()),())
 else none
 else some (((-1),()),())
 else none
 else some (((-1),()),())
 else bif (n.1==10) then oB (zz.sh F l) fun c_65 =>
 some ((c_65.1.1,()),())
 else bif (n.1==8) then bif idx 0 l.length then bif idx 1 l.length then oB (xh.sh F (get (.int .i64) l 0) (get (.int .i64) l 1)) fun c_66 =>
 some ((c_66.1.1,()),())
 else none
 else none
 else bif (n.1==11) then bif (n.1==11) then bif idx 0 l.length then oB (zB.sh F (get (.int .i64) l 0)) fun c_67 =>
 bif c_67.1.1 then bif idx 0 l.length then some ((get (.int .i64) l 0,()),())
 else none
 else some (((-1),()),())
 else none
 else bif (n.1==13) then bif (n.1==13) then bif idx 0 l.length then oB (zB.sh F (get (.int .i64) l 0)) fun c_68 =>
 bif c_68.1.1 then some ((1,()),())
 else some (((-1),()),())
 else none
 else bif (n.1==15) then bif idx 0 l.length then bif ((get (.int .i64) l 0)==1) then bif idx 0 l.length then some ((get (.int .i64) l 0,()),())
 else none
 else some (((-1),()),())
 else none
 else bif (n.1==16) then bif idx 0 l.length then oB (zB.sh F (get (.int .i64) l 0)) fun c_69 =>
 bif c_69.1.1 then bif (zI l.length (some 1) none).1 then oB (zz.sh F ((l.take (zI l.length (some 1) none).2.2).drop (zI l.length (some 1) none).2.1)) fun c_70 =>
 some ((c_70.1.1,()),())
 else none
 else some (((-1),()),())
 else none
 else some (((-1),()),())
 else bif (n.1==14) then bif idx 0 l.length then oB (zB.sh F (get (.int .i64) l 0)) fun c_71 =>
 bif c_71.1.1 then some ((1,()),())
 else some (((-1),()),())
 else none
 else bif (n.1==15) then bif idx 0 l.length then bif ((get (.int .i64) l 0)==1) then bif idx 0 l.length then some ((get (.int .i64) l 0,()),())
 else none
 else some (((-1),()),())
 else none
 else bif (n.1==16) then bif idx 0 l.length then oB (zB.sh F (get (.int .i64) l 0)) fun c_72 =>
 bif c_72.1.1 then bif (zI l.length (some 1) none).1 then oB (zz.sh F ((l.take (zI l.length (some 1) none).2.2).drop (zI l.length (some 1) none).2.1)) fun c_73 =>
 some ((c_73.1.1,()),())
 else none
 else some (((-1),()),())
 else none
 else some (((-1),()),())
 else bif (n.1==12) then bif idx 0 l.length then oB (zB.sh F (get (.int .i64) l 0)) fun c_74 =>
 bif c_74.1.1 then bif idx 0 l.length then some ((get (.int .i64) l 0,()),())
 else none
 else some (((-1),()),())
 else none
 else bif (n.1==13) then bif (n.1==13) then bif idx 0 l.length then oB (zB.sh F (get (.int .i64) l 0)) fun c_75 =>
 bif c_75.1.1 then some ((1,()),())
 else some (((-1),()),())
 else none
 else bif (n.1==15) then bif idx 0 l.length then bif ((get (.int .i64) l 0)==1) then bif idx 0 l.length then some ((get (.int .i64) l 0,()),())
 else none
 else some (((-1),()),())
 else none
 else bif (n.1==16) then bif idx 0 l.length then oB (zB.sh F (get (.int .i64) l 0)) fun c_76 =>
 bif c_76.1.1 then bif (zI l.length (some 1) none).1 then oB (zz.sh F ((l.take (zI l.length (some 1) none).2.2).drop (zI l.length (some 1) none).2.1)) fun c_77 =>
 some ((c_77.1.1,()),())
 else none
 else some (((-1),()),())
 else none
 else some (((-1),()),())
 else bif (n.1==14) then bif idx 0 l.length then oB (zB.sh F (get (.int .i64) l 0)) fun c_78 =>
 bif c_78.1.1 then some ((1,()),())
 else some (((-1),()),())
 else none
 else bif (n.1==15) then bif idx 0 l.length then bif ((get (.int .i64) l 0)==1) then bif idx 0 l.length then some ((get (.int .i64) l 0,()),())
 else none
 else some (((-1),()),())
 else none
 else bif (n.1==16) then bif idx 0 l.length then oB (zB.sh F (get (.int .i64) l 0)) fun c_79 =>
 bif c_79.1.1 then bif (zI l.length (some 1) none).1 then oB (zz.sh F ((l.take (zI l.length (some 1) none).2.2).drop (zI l.length (some 1) none).2.1)) fun c_80 =>
 some ((c_80.1.1,()),())
 else none
 else some (((-1),()),())
 else none
 else some (((-1),()),())
def yv.sp (F:Nat):TA yv.sg.args->Option yv.sg.R:=fun x=>yv.sh F x.1 x.2.1
@[reducible] def zn.sg:Sig:={args:=[.d (.g yr)],res:=[.c (.sl (.int .i64)),.c (.int .i64),.c (.int .i64)]}
abbrev zn.l13.K0 (R:Type):Type:=(List Bool)->Int->(List Int)->Int->Int->Bool->yr.T->(List Int)->(List Int)->Option R
abbrev zn.l13.T (R:Type):Type:=(List Bool)->Int->(List Int)->Int->Int->yr.T->(List Int)->(List Int)->Option R
def zn.l13.body {R:Type} (F:Nat) (k0:zn.l13.K0 R) (rec:zn.l13.T R) (fix:List Bool) (i:Int) (kids:List Int) (place:Int) (k:Int) (p:yr.T) (out:List Int) (where_:List Int):Option R :=
 bif decide (k>0) then bif idx place out.length then bif Nat.ble (([get (.int .i64) out place.toNat]:List Int).length+kids.length) vc then bif Nat.ble (where_.length+([place]:List Int).length) vc then oB (zS.sh F p place) fun c_4 =>
 rec fix i (([get (.int .i64) out place.toNat]:List Int)++kids) (i64.wrap (c_4.1.1-1)) (i64.wrap (k-1)) p out (where_++([place]:List Int))
 else none
 else none
 else none
 else k0 fix i kids place k (decide (k>0)) p out where_
def zn.l13 {R:Type} (F:Nat) (k0:zn.l13.K0 R):Nat->zn.l13.T R
 | 0,_,_,_,_,_,_,_,_=>none
 | fu+1,fix,i,kids,place,k,p,out,where_=>zn.l13.body F k0 (zn.l13 F k0 fu) fix i kids place k p out where_
abbrev zn.l7.K0 (R:Type):Type:=(List Int)->Int->Int->Option R
abbrev zn.l7.K1 (R:Type):Type:=(List Int)->Int->Int->Option R
abbrev zn.l7.K2 (R:Type):Type:=(List Bool)->Int->Bool->yr.T->(List Int)->Option R
abbrev zn.l7.T (R:Type):Type:=(List Bool)->Int->yr.T->(List Int)->Option R
def zn.l7.body {R:Type} (F:Nat) (k0:zn.l7.K0 R) (k1:zn.l7.K1 R) (k2:zn.l7.K2 R) (rec:zn.l7.T R) (fix:List Bool) (i:Int) (p:yr.T) (out:List Int):Option R :=
 bif decide (i<(p.2.2.2.length:Int)) then bif idx i p.2.2.2.length then oB (zv.sh F (get zx p.2.2.2 i.toNat)) fun c_3 =>
 zn.l13 F (fun fix5 i5 kids5 place5 k5 t465 p5 out5 where_5=>bif idx i5 p5.2.2.2.length then oB (yv.sh F (get zx p5.2.2.2 i5.toNat) kids5) fun c_6 =>
 bif (c_6.1.1==(-1)) then k0 ([]) i5 80
 else bif idx i5 p5.2.2.2.length then bif ((get zx p5.2.2.2 i5.toNat).1==8) then bif idx 0 where_5.length then bif idx (get (.int .i64) where_5 0) fix5.length then bif !(get .bool fix5 ((get (.int .i64) where_5 0).toNat)) then bif idx 1 where_5.length then bif idx (get (.int .i64) where_5 1) fix5.length then bif !(get .bool fix5 ((get (.int .i64) where_5 1).toNat)) then k1 ([]) i5 81
 else bif Nat.ble (out5.length+([c_6.1.1]:List Int).length) vc then rec fix5 (i64.wrap (i5+1)) p5 (out5++([c_6.1.1]:List Int))
 else none
 else none
 else none
 else bif Nat.ble (out5.length+([c_6.1.1]:List Int).length) vc then rec fix5 (i64.wrap (i5+1)) p5 (out5++([c_6.1.1]:List Int))
 else none
 else none
 else none
 else bif Nat.ble (out5.length+([c_6.1.1]:List Int).length) vc then rec fix5 (i64.wrap (i5+1)) p5 (out5++([c_6.1.1]:List Int))
 else none
 else none
 else none) F fix i ([]) (i64.wrap (i-1)) c_3.1.1 p out ([])
 else none
 else k2 fix i (decide (i<(p.2.2.2.length:Int))) p out
def zn.l7 {R:Type} (F:Nat) (k0:zn.l7.K0 R) (k1:zn.l7.K1 R) (k2:zn.l7.K2 R):Nat->zn.l7.T R
 | 0,_,_,_,_=>none
 | fu+1,fix,i,p,out=>zn.l7.body F k0 k1 k2 (zn.l7 F k0 k1 k2 fu) fix i p out
def zn.j24 {R:Type} (F:Nat) (k0:(List Int)->Int->Int->Option R) (k1:(List Int)->Int->Int->Option R) (out:List Int):Option R :=
 bif idx (i64.wrap ((out.length:Int)-1)) out.length then bif ((get (.int .i64) out ((i64.wrap ((out.length:Int)-1)).toNat)) != 1) then k0 ([]) (i64.wrap ((out.length:Int)-1)) 80
 else k1 out 0 0
 else none
def zn.sh (F:Nat) (p:yr.T):Option zn.sg.R :=
 oB (zX.sh F p) fun c_1 =>
 bif (c_1.1.2.1 != 0) then some (([],c_1.1.1,c_1.1.2.1,()),())
 else oB (zl.sh F p) fun c_2 =>
 zn.l7 F (fun r27 r37 r47=>some ((r27,r37,r47,()),())) (fun r28 r38 r48=>some ((r28,r38,r48,()),())) (fun fix9 i9 t349 p9 out9=>zn.j24 F (fun r210 r310 r410=>some ((r210,r310,r410,()),())) (fun r211 r311 r411=>some ((r211,r311,r411,()),())) out9) F c_2.1.1 0 p ([])
def zn.sp (F:Nat):TA zn.sg.args->Option zn.sg.R:=fun x=>zn.sh F x.1
@[reducible] def zm.sg:Sig:={args:=[.d (.g yr)],res:=[.c (.int .i64),.c (.int .i64)]}
abbrev zm.l6.K0 (R:Type):Type:=Int->Bool->yr.T->(List Int)->Option R
abbrev zm.l6.T (R:Type):Type:=Int->yr.T->(List Int)->Option R
def zm.l6.body {R:Type} (F:Nat) (k0:zm.l6.K0 R) (rec:zm.l6.T R) (i:Int) (p:yr.T) (wT:List Int):Option R :=
 bif decide (i<(p.2.2.2.length:Int)) then bif Nat.ble (wT.length+([0]:List Int).length) vc then rec (i64.wrap (i+1)) p (wT++([0]:List Int))
 else none
 else k0 i (decide (i<(p.2.2.2.length:Int))) p wT
def zm.l6 {R:Type} (F:Nat) (k0:zm.l6.K0 R):Nat->zm.l6.T R
 | 0,_,_,_=>none
 | fu+1,i,p,wT=>zm.l6.body F k0 (zm.l6 F k0 fu) i p wT
abbrev zm.l15.K0 (R:Type):Type:=Int->Int->Int->Bool->yr.T->(List Int)->Option R
abbrev zm.l15.T (R:Type):Type:=Int->Int->Int->yr.T->(List Int)->Option R
def zm.l15.body {R:Type} (F:Nat) (k0:zm.l15.K0 R) (rec:zm.l15.T R) (most:Int) (i:Int) (k:Int) (p:yr.T) (wT:List Int):Option R :=
 bif decide (k<=i) then bif idx k wT.length then bif idx k wT.length then bif idx k ((wT.set k.toNat (i64.wrap ((get (.int .i64) wT k.toNat)+1))).length) then bif decide ((get (.int .i64) (wT.set k.toNat (i64.wrap ((get (.int .i64) wT k.toNat)+1))) k.toNat)>most) then bif idx k ((wT.set k.toNat (i64.wrap ((get (.int .i64) wT k.toNat)+1))).length) then rec (get (.int .i64) (wT.set k.toNat (i64.wrap ((get (.int .i64) wT k.toNat)+1))) k.toNat) i (i64.wrap (k+1)) p (wT.set k.toNat (i64.wrap ((get (.int .i64) wT k.toNat)+1)))
 else none
 else rec most i (i64.wrap (k+1)) p (wT.set k.toNat (i64.wrap ((get (.int .i64) wT k.toNat)+1)))
 else none
 else none
 else none
 else k0 most i k (decide (k<=i)) p wT
def zm.l15 {R:Type} (F:Nat) (k0:zm.l15.K0 R):Nat->zm.l15.T R
 | 0,_,_,_,_,_=>none
 | fu+1,most,i,k,p,wT=>zm.l15.body F k0 (zm.l15 F k0 fu) most i k p wT
abbrev zm.l11.K0 (R:Type):Type:=Int->Int->Bool->yr.T->(List Int)->Option R
abbrev zm.l11.T (R:Type):Type:=Int->Int->yr.T->(List Int)->Option R
def zm.l11.body {R:Type} (F:Nat) (k0:zm.l11.K0 R) (rec:zm.l11.T R) (most:Int) (i:Int) (p:yr.T) (wT:List Int):Option R :=
 bif decide (i<(p.2.2.2.length:Int)) then bif idx i p.2.2.2.length then bif ((get zx p.2.2.2 i.toNat).1 != 15) then rec most (i64.wrap (i+1)) p wT
 else oB (zS.sh F p i) fun c_3 =>
 zm.l15 F (fun most4 i4 k4 t484 p4 deep4=>rec most4 (i64.wrap (i4+1)) p4 deep4) F most i c_3.1.1 p wT
 else none
 else k0 most i (decide (i<(p.2.2.2.length:Int))) p wT
def zm.l11 {R:Type} (F:Nat) (k0:zm.l11.K0 R):Nat->zm.l11.T R
 | 0,_,_,_,_=>none
 | fu+1,most,i,p,wT=>zm.l11.body F k0 (zm.l11 F k0 fu) most i p wT
def zm.sh (F:Nat) (p:yr.T):Option zm.sg.R :=
 oB (zX.sh F p) fun c_1 =>
 bif (c_1.1.2.1 != 0) then some ((0,c_1.1.2.1,()),())
 else zm.l6 F (fun i2 t232 p2 deep2=>zm.l11 F (fun most5 i5 t335 p5 deep5=>some ((most5,0,()),())) F 0 0 p2 deep2) F 0 p ([])
def zm.sp (F:Nat):TA zm.sg.args->Option zm.sg.R:=fun x=>zm.sh F x.1
@[reducible] def zU.sg:Sig:={args:=[.d (.c (.int .i64))],res:=[.g zh]}
def zU.sh (F:Nat) (v:Int):Option zU.sg.R :=
 bif decide (v<0) then some ((((-1),u64.wrap v),()),())
 else some (((0,u64.wrap v),()),())
def zU.sp (F:Nat):TA zU.sg.args->Option zU.sg.R:=fun x=>zU.sh F x.1
end Go.VS
