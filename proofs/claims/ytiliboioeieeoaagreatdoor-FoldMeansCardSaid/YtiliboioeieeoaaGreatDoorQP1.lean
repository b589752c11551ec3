import Derived.Test.YtiliboioeieeoaaGreatDoorQH
set_option linter.unusedVariables false
set_option linter.unusedSimpArgs false
set_option linter.unusedSectionVars false
set_option linter.unusedVariables false
set_option maxRecDepth 100000
namespace Go.VS
open Go IntKind
@[reducible] def yY.sg:Sig:={args:=[.d (.c (.int .u8))],res:=[.c .bool]}
def yY.sh (F:Nat) (c:Int):Option yY.sg.R :=
 bif decide (c>=97) then some ((decide (c<=122),()),())
 else some ((false,()),())
def yY.sp (F:Nat):TA yY.sg.args->Option yY.sg.R:=fun x=>yY.sh F x.1
@[reducible] def xP.sg:Sig:={args:=[.d (.c (.int .u8))],res:=[.c .bool]}
def xP.sh (F:Nat) (c:Int):Option xP.sg.R :=
 bif decide (c>=48) then some ((decide (c<=57),()),())
 else some ((false,()),())
def xP.sp (F:Nat):TA xP.sg.args->Option xP.sg.R:=fun x=>xP.sh F x.1
@[reducible] def xJ.sg:Sig:={args:=[.d (.c (.int .u8))],res:=[.c .bool]}
def xJ.sh (F:Nat) (c:Int):Option xJ.sg.R :=
 oB (yY.sh F c) fun c_1 =>
 bif c_1.1.1 then some ((true,()),())
 else oB (xP.sh F c) fun c_2 =>
 bif c_2.1.1 then some ((true,()),())
 else some (((c==95),()),())
def xJ.sp (F:Nat):TA xJ.sg.args->Option xJ.sg.R:=fun x=>xJ.sh F x.1
@[reducible] def yj.sg:Sig:={args:=[.d (.c .str),.d (.c .fn)],res:=[.c (.int .i64)]}
@[reducible] def yj.ds15:Sig:={args:=[.d (.c (.int .u8))],res:=[.c .bool]}
def yj.d15 (F:Nat):Nat->TA yj.ds15.args->Option yj.ds15.R:=mkT yj.ds15 [(v6,xJ.sp F),(vO,yY.sp F)]
abbrev yj.l2.K0 (R:Type):Type:=ByteArray->Nat->Int->Bool->Option R
abbrev yj.l2.T (R:Type):Type:=ByteArray->Nat->Int->Option R
def yj.l2.body {R:Type} (F:Nat) (k0:yj.l2.K0 R) (rec:yj.l2.T R) (s:ByteArray) (of:Nat) (n:Int):Option R :=
 bif decide (n<(s.size:Int)) then bif idx n s.size then oB (yj.d15 F of (bt s n,())) fun c_1 =>
 bif c_1.1.1 then rec s of (i64.wrap (n+1))
 else k0 s of n c_1.1.1
 else none
 else k0 s of n false
def yj.l2 {R:Type} (F:Nat) (k0:yj.l2.K0 R):Nat->yj.l2.T R
 | 0,_,_,_=>none
 | fu+1,s,of,n=>yj.l2.body F k0 (yj.l2 F k0 fu) s of n
def yj.sh (F:Nat) (s:ByteArray) (of_:Nat):Option yj.sg.R :=
 yj.l2 F (fun s2 of2 n2 t162=>some ((n2,()),())) F s of_ 0
def yj.sp (F:Nat):TA yj.sg.args->Option yj.sg.R:=fun x=>yj.sh F x.1 x.2.1
@[reducible] def x8.sg:Sig:={args:=[.d (.c .str)],res:=[.c .bool]}
def x8.sh (F:Nat) (s:ByteArray):Option x8.sg.R :=
 bif !(s.toList==(⟨#[]⟩:ByteArray).toList) then oB (yj.sh F s vO) fun c_1 =>
 bif (c_1.1.1==(s.size:Int)) then bif Nat.ble ((⟨#[32]⟩:ByteArray).size+s.size) xu then bif Nat.ble (((⟨#[32]⟩:ByteArray)++s).size+(⟨#[32]⟩:ByteArray).size) xu then oB (yN.sh F (⟨#[32,112,108,97,110,32,114,111,117,110,100,32,98,121,32,98,108,111,99,107,115,32,109,105,110,32,109,97,120,32,111,118,101,114,32,117,112,116,111,32,103,114,97,100,117,97,116,101,100,32,118,111,108,117,109,101,32,111,102,102,32,105,102,32,102,108,111,111,114,32,99,101,105,108,32,122,101,114,111,32,104,97,108,102,32,101,118,101,110,32]⟩:ByteArray) (((⟨#[32]⟩:ByteArray)++s)++(⟨#[32]⟩:ByteArray))) fun c_2 =>
 some ((c_2.1.1,()),())
 else none
 else none
 else some ((false,()),())
 else some ((false,()),())
def x8.sp (F:Nat):TA x8.sg.args->Option x8.sg.R:=fun x=>x8.sh F x.1
@[reducible] def xV.sg:Sig:={args:=[.d (.c .str)],res:=[.c .bool]}
def xV.sh (F:Nat) (s:ByteArray):Option xV.sg.R :=
 bif !(s.toList==(⟨#[]⟩:ByteArray).toList) then bif decide ((s.size:Int)<=32) then bif idx 0 s.size then oB (yY.sh F (bt s 0)) fun c_1 =>
 bif c_1.1.1 then oB (yj.sh F s v6) fun c_2 =>
 bif (c_2.1.1==(s.size:Int)) then oB (x8.sh F s) fun c_3 =>
 some ((!c_3.1.1,()),())
 else some ((false,()),())
 else some ((false,()),())
 else none
 else some ((false,()),())
 else some ((false,()),())
def xV.sp (F:Nat):TA xV.sg.args->Option xV.sg.R:=fun x=>xV.sh F x.1
@[reducible] def xl.sg:Sig:={args:=[.d (.g yy),.d (.p yy)],res:=[.c .bool]}
def xl.sh (F:Nat) (e:yy.T) (t1:yy.T):Option xl.sg.R :=
 some (((e.1.toList==t1.1.toList),()),())
def xl.sp (F:Nat):TA xl.sg.args->Option xl.sg.R:=fun x=>xl.sh F x.1 x.2.1
@[reducible] def zk.sg:Sig:={args:=[.d (.b yy),.d (.cl yy)],res:=[.c (.int .i64)]}
@[reducible] def zk.ds16:Sig:={args:=[.d (.g yy),.d (.p yy)],res:=[.c .bool]}
def zk.d16 (F:Nat):Nat->TA zk.ds16.args->Option zk.ds16.R:=mkT zk.ds16 [(ZI,xl.sp F)]
abbrev zk.l2.K1 (R:Type):Type:=(List yy.T)->(Nat×yy.T)->Int->Int->Bool->Option R
abbrev zk.l2.T (R:Type):Type:=(List yy.T)->(Nat×yy.T)->Int->Int->Option R
def zk.l2.body {R:Type} (F:Nat) (k0:Int->Option R) (k1:zk.l2.K1 R) (rec:zk.l2.T R) (s:List yy.T) (f:Nat×yy.T) (t7:Int) (t8:Int):Option R :=
 bif decide (t8<t7) then bif idx t8 s.length then oB (zk.d16 F (f.1+1) ((get yy s t8.toNat),f.2,())) fun c_1 =>
 bif c_1.1.1 then k0 t8
 else rec s (f.1,f.2) t7 (i64.wrap (t8+1))
 else none
 else k1 s (f.1,f.2) t7 t8 (decide (t8<t7))
def zk.l2 {R:Type} (F:Nat) (k0:Int->Option R) (k1:zk.l2.K1 R):Nat->zk.l2.T R
 | 0,_,_,_,_=>none
 | fu+1,s,f,t7,t8=>zk.l2.body F k0 k1 (zk.l2 F k0 k1 fu) s f t7 t8
def zk.sh (F:Nat) (s:List yy.T) (f:Nat×yy.T):Option zk.sg.R :=
 zk.l2 F (fun r42=>some ((r42,()),())) (fun s3 f3 t73 t83 t93=>some (((-1),()),())) F s (f.1,f.2) (s.length:Int) 0
def zk.sp (F:Nat):TA zk.sg.args->Option zk.sg.R:=fun x=>zk.sh F x.1 x.2.1
@[reducible] def zY.sg:Sig:={args:=[.d (.b yy),.d (.cl yy)],res:=[.c .bool]}
def zY.sh (F:Nat) (s:List yy.T) (f:Nat×yy.T):Option zY.sg.R :=
 oB (zk.sh F s (f.1,f.2)) fun c_1 =>
 some ((decide (c_1.1.1>=0),()),())
def zY.sp (F:Nat):TA zY.sg.args->Option zY.sg.R:=fun x=>zY.sh F x.1 x.2.1
@[reducible] def z7.sg:Sig:={args:=[.d (.g zL)],res:=[.c (.int .i64)]}
abbrev z7.l6.K2 (R:Type):Type:=(List yy.T)->Int->Int->Bool->zL.T->Option R
abbrev z7.l6.T (R:Type):Type:=(List yy.T)->Int->Int->zL.T->Option R
def z7.l6.body {R:Type} (F:Nat) (k0:Int->Option R) (k1:Int->Option R) (k2:z7.l6.K2 R) (rec:z7.l6.T R) (t21:List yy.T) (t22:Int) (t23:Int) (p:zL.T):Option R :=
 bif decide (t23<t22) then bif idx t23 t21.length then oB (xV.sh F (get yy t21 t23.toNat).1) fun c_2 =>
 bif !c_2.1.1 then k0 61
 else bif (zA p.2.1.length none (some t23)).1 then oB (zY.sh F ((p.2.1.take (zA p.2.1.length none (some t23)).2.2).drop (zA p.2.1.length none (some t23)).2.1) (wZ,(get yy t21 t23.toNat))) fun c_3 =>
 bif c_3.1.1 then k0 61
 else bif decide ((get yy t21 t23.toNat).2<1) then k1 50
 else bif decide ((get yy t21 t23.toNat).2>1000000000000) then k1 50
 else rec t21 t22 (i64.wrap (t23+1)) p
 else none
 else none
 else k2 t21 t22 t23 (decide (t23<t22)) p
def z7.l6 {R:Type} (F:Nat) (k0:Int->Option R) (k1:Int->Option R) (k2:z7.l6.K2 R):Nat->z7.l6.T R
 | 0,_,_,_,_=>none
 | fu+1,t21,t22,t23,p=>z7.l6.body F k0 k1 k2 (z7.l6 F k0 k1 k2 fu) t21 t22 t23 p
def z7.sh (F:Nat) (p:zL.T):Option z7.sg.R :=
 oB (xV.sh F p.1) fun c_1 =>
 bif !c_1.1.1 then some ((61,()),())
 else bif decide ((p.2.1.length:Int)<1) then some ((100,()),())
 else bif decide ((p.2.1.length:Int)>4) then some ((100,()),())
 else z7.l6 F (fun r24=>some ((r24,()),())) (fun r25=>some ((r25,()),())) (fun t216 t226 t236 t246 p6=>bif decide (p6.2.2.1<0) then some ((50,()),())
 else bif decide (p6.2.2.1>4) then some ((50,()),())
 else some ((0,()),())) F p.2.1 (p.2.1.length:Int) 0 p
def z7.sp (F:Nat):TA z7.sg.args->Option z7.sg.R:=fun x=>z7.sh F x.1
@[reducible] def yL.sg:Sig:={args:=[.d (.g zb)],res:=[.c (.int .i64)]}
def yL.sh (F:Nat) (n:zb.T):Option yL.sg.R :=
 bif idx n.1 17 then bif decide ((get yW vn n.1.toNat).1>=0) then some (((get yW vn n.1.toNat).1,()),())
 else some ((n.2.2.2.1,()),())
 else none
def yL.sp (F:Nat):TA yL.sg.args->Option yL.sg.R:=fun x=>yL.sh F x.1
@[reducible] def zJ.sg:Sig:={args:=[.d (.b zN)],res:=[.c .bool]}
abbrev zJ.l4.K1 (R:Type):Type:=(List zN.T)->(List zN.T)->Int->Int->Bool->Option R
abbrev zJ.l4.T (R:Type):Type:=(List zN.T)->(List zN.T)->Int->Int->Option R
def zJ.l4.body {R:Type} (F:Nat) (k0:Bool->Option R) (k1:zJ.l4.K1 R) (rec:zJ.l4.T R) (tiers:List zN.T) (t20:List zN.T) (t21:Int) (t22:Int):Option R :=
 bif decide (t22<t21) then bif idx t22 t20.length then bif decide (t22>0) then bif idx (i64.wrap (t22-1)) tiers.length then bif decide ((get zN t20 t22.toNat).1<=(get zN tiers ((i64.wrap (t22-1)).toNat)).1) then k0 false
 else bif decide ((get zN t20 t22.toNat).1>1000000000000) then k0 false
 else bif decide ((get zN t20 t22.toNat).2<(-1000000000000)) then k0 false
 else bif decide ((get zN t20 t22.toNat).2>1000000000000) then k0 false
 else rec tiers t20 t21 (i64.wrap (t22+1))
 else none
 else bif decide ((get zN t20 t22.toNat).1>1000000000000) then k0 false
 else bif decide ((get zN t20 t22.toNat).2<(-1000000000000)) then k0 false
 else bif decide ((get zN t20 t22.toNat).2>1000000000000) then k0 false
 else rec tiers t20 t21 (i64.wrap (t22+1))
 else none
 else k1 tiers t20 t21 t22 (decide (t22<t21))
def zJ.l4 {R:Type} (F:Nat) (k0:Bool->Option R) (k1:zJ.l4.K1 R):Nat->zJ.l4.T R
 | 0,_,_,_,_=>none
 | fu+1,tiers,t20,t21,t22=>zJ.l4.body F k0 k1 (zJ.l4 F k0 k1 fu) tiers t20 t21 t22
def zJ.sh (F:Nat) (tiers:List zN.T):Option zJ.sg.R :=
 bif decide ((tiers.length:Int)<1) then some ((false,()),())
 else bif decide ((tiers.length:Int)>16) then some ((false,()),())
 else bif idx 0 tiers.length then bif ((get zN tiers 0).1 != 0) then some ((false,()),())
 else zJ.l4 F (fun r21=>some ((r21,()),())) (fun tiers2 t202 t212 t222 t232=>some ((true,()),())) F tiers tiers (tiers.length:Int) 0
 else none
def zJ.sp (F:Nat):TA zJ.sg.args->Option zJ.sg.R:=fun x=>zJ.sh F x.1
@[reducible] def zX.sg:Sig:={args:=[.d (.g zb),.d (.c (.int .i64)),.d (.c (.int .i64))],res:=[.c (.int .i64)]}
def zX.j13 {R:Type} (F:Nat) (k0:Int->Option R) (k1:Int->Option R) (k2:Int->Option R) (pile:Int) (most:Int) (kids:Bool) (op:Bool) (n:zb.T) (k:yW.T):Option R :=
 bif decide (n.2.1<0) then k0 50
 else bif decide (n.2.1>most) then k0 50
 else bif !kids then k0 50
 else bif !op then k0 50
 else bif !k.2.2.1 then bif decide ((n.2.2.2.2.1.length:Int)>0) then k0 50
 else oB (yL.sh F n) fun c_1 =>
 bif decide (pile<c_1.1.1) then k0 50
 else bif k.2.2.1 then oB (zJ.sh F n.2.2.2.2.1) fun c_2 =>
 bif !c_2.1.1 then k1 51
 else k2 0
 else k2 0
 else oB (yL.sh F n) fun c_3 =>
 bif decide (pile<c_3.1.1) then k0 50
 else bif k.2.2.1 then oB (zJ.sh F n.2.2.2.2.1) fun c_4 =>
 bif !c_4.1.1 then k1 51
 else k2 0
 else k2 0
def zX.j10 {R:Type} (F:Nat) (k0:Int->Option R) (k1:Int->Option R) (k2:Int->Option R) (pile:Int) (most:Int) (kids:Bool) (n:zb.T) (k:yW.T):Option R :=
 bif k.2.2.2 then bif decide (n.2.2.1>=1) then zX.j13 F (fun r65=>k0 r65) (fun r66=>k1 r66) (fun r67=>k2 r67) pile most kids (decide (n.2.2.1<=6)) n k
 else zX.j13 F (fun r68=>k0 r68) (fun r69=>k1 r69) (fun r610=>k2 r610) pile most kids false n k
 else zX.j13 F (fun r611=>k0 r611) (fun r612=>k1 r612) (fun r613=>k2 r613) pile most kids (n.2.2.1==0) n k
def zX.j7 {R:Type} (F:Nat) (k0:Int->Option R) (k1:Int->Option R) (k2:Int->Option R) (pile:Int) (most:Int) (n:zb.T) (k:yW.T):Option R :=
 bif decide (k.1<0) then bif decide (n.2.2.2.1>=2) then zX.j10 F (fun r614=>k0 r614) (fun r615=>k1 r615) (fun r616=>k2 r616) pile most (decide (n.2.2.2.1<=16)) n k
 else zX.j10 F (fun r617=>k0 r617) (fun r618=>k1 r618) (fun r619=>k2 r619) pile most false n k
 else zX.j10 F (fun r620=>k0 r620) (fun r621=>k1 r621) (fun r622=>k2 r622) pile most (n.2.2.2.1==0) n k
def zX.sh (F:Nat) (n:zb.T) (dims:Int) (pile:Int):Option zX.sg.R :=
 bif decide (n.1<1) then some ((50,()),())
 else bif decide (n.1>16) then some ((50,()),())
 else bif idx n.1 17 then bif decide ((get yW vn n.1.toNat).2.1<0) then zX.j7 F (fun r623=>some ((r623,()),())) (fun r624=>some ((r624,()),())) (fun r625=>some ((r625,()),())) pile (i64.wrap (dims-1)) n (get yW vn n.1.toNat)
 else zX.j7 F (fun r626=>some ((r626,()),())) (fun r627=>some ((r627,()),())) (fun r628=>some ((r628,()),())) pile (get yW vn n.1.toNat).2.1 n (get yW vn n.1.toNat)
 else none
def zX.sp (F:Nat):TA zX.sg.args->Option zX.sg.R:=fun x=>zX.sh F x.1 x.2.1 x.2.2.1
@[reducible] def zM.sg:Sig:={args:=[.d (.g zL)],res:=[.c (.int .i64),.c (.int .i64)]}
abbrev zM.l8.K1 (R:Type):Type:=Int->(List zb.T)->Int->Int->Bool->zL.T->Option R
abbrev zM.l8.T (R:Type):Type:=Int->(List zb.T)->Int->Int->zL.T->Option R
def zM.l8.body {R:Type} (F:Nat) (k0:Int->Int->Option R) (k1:zM.l8.K1 R) (rec:zM.l8.T R) (pile:Int) (t19:List zb.T) (t20:Int) (t21:Int) (p:zL.T):Option R :=
 bif decide (t21<t20) then bif idx t21 t19.length then oB (zX.sh F (get zb t19 t21.toNat) (p.2.1.length:Int) pile) fun c_2 =>
 bif (c_2.1.1 != 0) then k0 t21 c_2.1.1
 else oB (yL.sh F (get zb t19 t21.toNat)) fun c_3 =>
 rec (i64.wrap (pile+(i64.wrap (1-c_3.1.1)))) t19 t20 (i64.wrap (t21+1)) p
 else none
 else k1 pile t19 t20 t21 (decide (t21<t20)) p
def zM.l8 {R:Type} (F:Nat) (k0:Int->Int->Option R) (k1:zM.l8.K1 R):Nat->zM.l8.T R
 | 0,_,_,_,_,_=>none
 | fu+1,pile,t19,t20,t21,p=>zM.l8.body F k0 k1 (zM.l8 F k0 k1 fu) pile t19 t20 t21 p
def zM.sh (F:Nat) (p:zL.T):Option zM.sg.R :=
 oB (z7.sh F p) fun c_1 =>
 bif (c_1.1.1 != 0) then some (((-1),c_1.1.1,()),())
 else bif decide ((p.2.2.2.length:Int)>1024) then some ((1024,2,()),())
 else zM.l8 F (fun r24 r34=>some ((r24,r34,()),())) (fun pile5 t195 t205 t215 t225 p5=>bif (pile5 != 1) then some (((p5.2.2.2.length:Int),50,()),())
 else some ((0,0,()),())) F 0 p.2.2.2 (p.2.2.2.length:Int) 0 p
def zM.sp (F:Nat):TA zM.sg.args->Option zM.sg.R:=fun x=>zM.sh F x.1
@[reducible] def zB.sg:Sig:={args:=[.d (.g zL)],res:=[.c (.sl (.int .i64))]}
abbrev zB.l3.K0 (R:Type):Type:=(List zb.T)->Int->Int->Bool->(List Int)->(List Int)->Option R
abbrev zB.l3.T (R:Type):Type:=(List zb.T)->Int->Int->(List Int)->(List Int)->Option R
def zB.l3.body {R:Type} (F:Nat) (k0:zB.l3.K0 R) (rec:zB.l3.T R) (t10:List zb.T) (t11:Int) (t12:Int) (list:List Int) (pile:List Int):Option R :=
 bif decide (t12<t11) then bif idx t12 t10.length then oB (yL.sh F (get zb t10 t12.toNat)) fun c_1 =>
 bif decide (c_1.1.1>0) then bif idx (i64.wrap ((pile.length:Int)-c_1.1.1)) pile.length then bif (zA pile.length none (some (i64.wrap ((pile.length:Int)-c_1.1.1)))).1 then bif Nat.ble ((pile.take (zA pile.length none (some (i64.wrap ((pile.length:Int)-c_1.1.1)))).2.2).length+([get (.int .i64) pile ((i64.wrap ((pile.length:Int)-c_1.1.1)).toNat)]:List Int).length) xu then bif Nat.ble (list.length+([get (.int .i64) pile ((i64.wrap ((pile.length:Int)-c_1.1.1)).toNat)]:List Int).length) xu then rec t10 t11 (i64.wrap (t12+1)) (list++([get (.int .i64) pile ((i64.wrap ((pile.length:Int)-c_1.1.1)).toNat)]:List Int)) ((pile.take (zA pile.length none (some (i64.wrap ((pile.length:Int)-c_1.1.1)))).2.2)++([get (.int .i64) pile ((i64.wrap ((pile.length:Int)-c_1.1.1)).toNat)]:List Int))
 else none
 else none
 else none
 else none
 else bif Nat.ble (pile.length+([t12]:List Int).length) xu then bif Nat.ble (list.length+([t12]:List Int).length) xu then rec t10 t11 (i64.wrap (t12+1)) (list++([t12]:List Int)) (pile++([t12]:List Int))
 else none
 else none
 else none
 else k0 t10 t11 t12 (decide (t12<t11)) list pile
def zB.l3 {R:Type} (F:Nat) (k0:zB.l3.K0 R):Nat->zB.l3.T R
 | 0,_,_,_,_,_=>none
 | fu+1,t10,t11,t12,list,pile=>zB.l3.body F k0 (zB.l3 F k0 fu) t10 t11 t12 list pile
def zB.j13 {R:Type} (F:Nat) (k0:(List Int)->Option R) (list:List Int):Option R :=
 k0 list
def zB.sh (F:Nat) (p:zL.T):Option zB.sg.R :=
 zB.l3 F (fun t102 t112 t122 t132 list2 pile2=>zB.j13 F (fun r23=>some ((r23,()),())) list2) F p.2.2.2 (p.2.2.2.length:Int) 0 ([]) ([])
def zB.sp (F:Nat):TA zB.sg.args->Option zB.sg.R:=fun x=>zB.sh F x.1
@[reducible] def xt.sg:Sig:={args:=[.d (.g zL)],res:=[.c (.sl (.int .i64)),.c (.int .i64)]}
def xt.sh (F:Nat) (p:zL.T):Option xt.sg.R :=
 oB (zM.sh F p) fun c_1 =>
 bif (c_1.1.2.1 != 0) then some (([],c_1.1.2.1,()),())
 else oB (zB.sh F p) fun c_2 =>
 some ((c_2.1.1,0,()),())
def xt.sp (F:Nat):TA xt.sg.args->Option xt.sg.R:=fun x=>xt.sh F x.1
@[reducible] def zv.sg:Sig:={args:=[.d (.g zL)],res:=[.c (.sl .bool),.c (.int .i64)]}
abbrev zv.l7.K0 (R:Type):Type:=(List Int)->Int->(List zb.T)->Int->Int->Bool->(List Bool)->Option R
abbrev zv.l7.T (R:Type):Type:=(List Int)->Int->(List zb.T)->Int->Int->(List Bool)->Option R
def zv.l7.body {R:Type} (F:Nat) (k0:zv.l7.K0 R) (rec:zv.l7.T R) (list:List Int) (last:Int) (t22:List zb.T) (t23:Int) (t24:Int) (out:List Bool):Option R :=
 bif decide (t24<t23) then bif idx t24 t22.length then bif ((get zb t22 t24.toNat).1==3) then bif idx t24 list.length then bif idx t24 out.length then rec list t24 t22 t23 (i64.wrap (t24+1)) (out.set t24.toNat (decide (t24<(get (.int .i64) list t24.toNat))))
 else none
 else none
 else bif ((get zb t22 t24.toNat).1==4) then bif idx t24 list.length then bif idx t24 out.length then rec list t24 t22 t23 (i64.wrap (t24+1)) (out.set t24.toNat (decide (t24<(get (.int .i64) list t24.toNat))))
 else none
 else none
 else bif idx t24 list.length then bif idx t24 out.length then rec list last t22 t23 (i64.wrap (t24+1)) (out.set t24.toNat (decide (last<(get (.int .i64) list t24.toNat))))
 else none
 else none
 else none
 else k0 list last t22 t23 t24 (decide (t24<t23)) out
def zv.l7 {R:Type} (F:Nat) (k0:zv.l7.K0 R):Nat->zv.l7.T R
 | 0,_,_,_,_,_,_=>none
 | fu+1,list,last,t22,t23,t24,out=>zv.l7.body F k0 (zv.l7 F k0 fu) list last t22 t23 t24 out
def zv.j13 {R:Type} (F:Nat) (k0:(List Bool)->Int->Option R) (out:List Bool):Option R :=
 k0 out 0
def zv.sh (F:Nat) (p:zL.T):Option zv.sg.R :=
 oB (xt.sh F p) fun c_1 =>
 bif (c_1.1.2.1 != 0) then some (([],c_1.1.2.1,()),())
 else bif (decide (0<=(c_1.1.1.length:Int))&&decide ((c_1.1.1.length:Int)<=(c_1.1.1.length:Int))&&decide ((c_1.1.1.length:Int)<=(xu:Int))) then zv.l7 F (fun list2 last2 t222 t232 t242 t252 out2=>zv.j13 F (fun r23 r33=>some ((r23,r33,()),())) out2) F c_1.1.1 (-1) p.2.2.2 (p.2.2.2.length:Int) 0 (YL .bool ((c_1.1.1.length:Int).toNat))
 else none
def zv.sp (F:Nat):TA zv.sg.args->Option zv.sg.R:=fun x=>zv.sh F x.1
@[reducible] def xE.sg:Sig:={args:=[.d (.c (.int .i64))],res:=[.c .fn,.c (.int .i64)]}
def xE.sh (F:Nat) (kind:Int):Option xE.sg.R :=
 bif idx kind (([Ty.dflt (.pair .fn (.int .i64)),(wA,0),(wH,0),(xY,0),(wj,0),(zO,1),(zO,2),(zO,2),(wa,2),(zO,(-1)),(zO,(-1)),(y6,1),(y6,1),(xc,1),(xc,1),(wF,1),(wy,3)]:List (Nat×Int)).length) then bif idx kind (([Ty.dflt (.pair .fn (.int .i64)),(wA,0),(wH,0),(xY,0),(wj,0),(zO,1),(zO,2),(zO,2),(wa,2),(zO,(-1)),(zO,(-1)),(y6,1),(y6,1),(xc,1),(xc,1),(wF,1),(wy,3)]:List (Nat×Int)).length) then some (((get (.pair .fn (.int .i64)) ([Ty.dflt (.pair .fn (.int .i64)),(wA,0),(wH,0),(xY,0),(wj,0),(zO,1),(zO,2),(zO,2),(wa,2),(zO,(-1)),(zO,(-1)),(y6,1),(y6,1),(xc,1),(xc,1),(wF,1),(wy,3)]:List (Nat×Int)) kind.toNat).1,(get (.pair .fn (.int .i64)) ([Ty.dflt (.pair .fn (.int .i64)),(wA,0),(wH,0),(xY,0),(wj,0),(zO,1),(zO,2),(zO,2),(wa,2),(zO,(-1)),(zO,(-1)),(y6,1),(y6,1),(xc,1),(xc,1),(wF,1),(wy,3)]:List (Nat×Int)) kind.toNat).2,()),())
 else none
 else none
def xE.sp (F:Nat):TA xE.sg.args->Option xE.sg.R:=fun x=>xE.sh F x.1
@[reducible] def zz.sg:Sig:={args:=[.d (.g yt),.d (.c (.int .i64))],res:=[.c (.int .i64)]}
abbrev zz.l2.K1 (R:Type):Type:=Int->(List Int)->Int->Int->Bool->yt.T->Option R
abbrev zz.l2.T (R:Type):Type:=Int->(List Int)->Int->Int->yt.T->Option R
def zz.l2.body {R:Type} (F:Nat) (k0:Int->Option R) (k1:zz.l2.K1 R) (rec:zz.l2.T R) (from_:Int) (t10:List Int) (t11:Int) (t12:Int) (n:yt.T):Option R :=
 bif decide (t12<t11) then bif idx t12 t10.length then bif idx from_ n.2.1.length then bif ((get (.int .i64) t10 t12.toNat) != (get (.int .i64) n.2.1 from_.toNat)) then k0 (-1)
 else rec from_ t10 t11 (i64.wrap (t12+1)) n
 else none
 else none
 else k1 from_ t10 t11 t12 (decide (t12<t11)) n
def zz.l2 {R:Type} (F:Nat) (k0:Int->Option R) (k1:zz.l2.K1 R):Nat->zz.l2.T R
 | 0,_,_,_,_,_=>none
 | fu+1,from_,t10,t11,t12,n=>zz.l2.body F k0 k1 (zz.l2 F k0 k1 fu) from_ t10 t11 t12 n
def zz.sh (F:Nat) (n:yt.T) (from_:Int):Option zz.sg.R :=
 bif (zA n.2.1.length (some from_) none).1 then zz.l2 F (fun r41=>some ((r41,()),())) (fun from_2 t102 t112 t122 t132 n2=>bif idx from_2 n2.2.1.length then some ((get (.int .i64) n2.2.1 from_2.toNat,()),())
 else none) F from_ ((n.2.1.take (zA n.2.1.length (some from_) none).2.2).drop (zA n.2.1.length (some from_) none).2.1) (((n.2.1.take (zA n.2.1.length (some from_) none).2.2).drop (zA n.2.1.length (some from_) none).2.1).length:Int) 0 n
 else none
def zz.sp (F:Nat):TA zz.sg.args->Option zz.sg.R:=fun x=>zz.sh F x.1 x.2.1
@[reducible] def yl.sg:Sig:={args:=[.d (.g yt)],res:=[.c (.int .i64)]}
def yl.sh (F:Nat) (n:yt.T):Option yl.sg.R :=
 oB (zz.sh F n 0) fun c_1 =>
 some ((c_1.1.1,()),())
def yl.sp (F:Nat):TA yl.sg.args->Option yl.sg.R:=fun x=>yl.sh F x.1
@[reducible] def yz.sg:Sig:={args:=[.d (.g yt)],res:=[.c (.int .i64)]}
def yz.sh (F:Nat) (n:yt.T):Option yz.sg.R :=
 some ((i64.wrap (3+(i64.wrap (2*n.1.2.1))),()),())
def yz.sp (F:Nat):TA yz.sg.args->Option yz.sg.R:=fun x=>yz.sh F x.1
@[reducible] def yD.sg:Sig:={args:=[.d (.c (.int .i64))],res:=[.c .bool]}
def yD.sh (F:Nat) (t:Int):Option yD.sg.R :=
 some ((decide (t>=2),()),())
def yD.sp (F:Nat):TA yD.sg.args->Option yD.sg.R:=fun x=>yD.sh F x.1
@[reducible] def yk.sg:Sig:={args:=[.d (.g yt)],res:=[.c (.int .i64)]}
def yk.sh (F:Nat) (n:yt.T):Option yk.sg.R :=
 bif idx 0 n.2.1.length then oB (yD.sh F (get (.int .i64) n.2.1 0)) fun c_1 =>
 bif c_1.1.1 then bif idx 0 n.2.1.length then some ((get (.int .i64) n.2.1 0,()),())
 else none
 else some (((-1),()),())
 else none
def yk.sp (F:Nat):TA yk.sg.args->Option yk.sg.R:=fun x=>yk.sh F x.1
@[reducible] def y4.sg:Sig:={args:=[.d (.g yt)],res:=[.c (.int .i64)]}
def y4.sh (F:Nat) (n:yt.T):Option y4.sg.R :=
 some ((1,()),())
def y4.sp (F:Nat):TA y4.sg.args->Option y4.sg.R:=fun x=>y4.sh F x.1
@[reducible] def yS.sg:Sig:={args:=[.d (.g yt)],res:=[.c (.int .i64)]}
def yS.sh (F:Nat) (n:yt.T):Option yS.sg.R :=
 some ((0,()),())
def yS.sp (F:Nat):TA yS.sg.args->Option yS.sg.R:=fun x=>yS.sh F x.1
@[reducible] def yP.sg:Sig:={args:=[.d (.g yt)],res:=[.c (.int .i64)]}
def yP.sh (F:Nat) (n:yt.T):Option yP.sg.R :=
 bif idx 0 n.2.1.length then bif ((get (.int .i64) n.2.1 0)==1) then some ((1,()),())
 else some (((-1),()),())
 else none
def yP.sp (F:Nat):TA yP.sg.args->Option yP.sg.R:=fun x=>yP.sh F x.1
@[reducible] def yv.sg:Sig:={args:=[.d (.g yt)],res:=[.c (.int .i64)]}
def yv.sh (F:Nat) (n:yt.T):Option yv.sg.R :=
 bif idx 0 n.2.1.length then oB (yD.sh F (get (.int .i64) n.2.1 0)) fun c_1 =>
 bif c_1.1.1 then some ((1,()),())
 else some (((-1),()),())
 else none
def yv.sp (F:Nat):TA yv.sg.args->Option yv.sg.R:=fun x=>yv.sh F x.1
@[reducible] def yr.sg:Sig:={args:=[.d (.g yt)],res:=[.c (.int .i64)]}
def yr.sh (F:Nat) (n:yt.T):Option yr.sg.R :=
 bif idx 0 n.2.1.length then bif idx 1 n.2.1.length then bif ((get (.int .i64) n.2.1 0)==0) then some ((get (.int .i64) n.2.1 1,()),())
 else bif ((get (.int .i64) n.2.1 1)==0) then some ((get (.int .i64) n.2.1 0,()),())
 else oB (yD.sh F (get (.int .i64) n.2.1 0)) fun c_1 =>
 bif c_1.1.1 then bif ((get (.int .i64) n.2.1 1)==1) then bif ((get (.int .i64) n.2.1 1)==1) then some ((1,()),())
 else some (((-1),()),())
 else oB (yD.sh F (get (.int .i64) n.2.1 1)) fun c_2 =>
 bif c_2.1.1 then bif ((get (.int .i64) n.2.1 0)==1) then some ((1,()),())
 else some (((-1),()),())
 else some (((-1),()),())
 else oB (yD.sh F (get (.int .i64) n.2.1 1)) fun c_3 =>
 bif c_3.1.1 then bif ((get (.int .i64) n.2.1 0)==1) then some ((1,()),())
 else some (((-1),()),())
 else some (((-1),()),())
 else none
 else none
def yr.sp (F:Nat):TA yr.sg.args->Option yr.sg.R:=fun x=>yr.sh F x.1
@[reducible] def yn.sg:Sig:={args:=[.d (.g yt)],res:=[.c (.int .i64)]}
def yn.sh (F:Nat) (n:yt.T):Option yn.sg.R :=
 some ((i64.wrap (2+(i64.wrap (2*n.1.2.1))),()),())
def yn.sp (F:Nat):TA yn.sg.args->Option yn.sg.R:=fun x=>yn.sh F x.1
@[reducible] def yE.sg:Sig:={args:=[.d (.g yt)],res:=[.c (.int .i64)]}
def yE.sh (F:Nat) (n:yt.T):Option yE.sg.R :=
 bif idx 0 n.2.1.length then oB (yD.sh F (get (.int .i64) n.2.1 0)) fun c_1 =>
 bif c_1.1.1 then oB (zz.sh F n 1) fun c_2 =>
 some ((c_2.1.1,()),())
 else some (((-1),()),())
 else none
def yE.sp (F:Nat):TA yE.sg.args->Option yE.sg.R:=fun x=>yE.sh F x.1
@[reducible] def zo.sg:Sig:={args:=[.d (.g zL)],res:=[.c (.sl (.int .i64)),.c (.int .i64),.c (.int .i64)]}
@[reducible] def zo.ds63:Sig:={args:=[.d (.g yt)],res:=[.c (.int .i64)]}
def zo.d63 (F:Nat):Nat->TA zo.ds63.args->Option zo.ds63.R:=mkT zo.ds63 [(zO,yl.sp F),(wj,yz.sp F),(y6,yk.sp F),(wH,y4.sp F),(wA,yS.sp F),(wF,yP.sp F),(xc,yv.sp F),(wa,yr.sp F),(xY,yn.sp F),(wy,yE.sp F)]
abbrev zo.l8.K0 (R:Type):Type:=(List Int)->Int->Int->Option R
abbrev zo.l8.K1 (R:Type):Type:=(List Int)->Int->Int->Option R
abbrev zo.l8.K2 (R:Type):Type:=(List Bool)->(List zb.T)->Int->Int->Bool->(List Int)->(List Int)->(List Bool)->Option R
abbrev zo.l8.T (R:Type):Type:=(List Bool)->(List zb.T)->Int->Int->(List Int)->(List Int)->(List Bool)->Option R
def zo.l8.body {R:Type} (F:Nat) (k0:zo.l8.K0 R) (k1:zo.l8.K1 R) (k2:zo.l8.K2 R) (rec:zo.l8.T R) (fixed:List Bool) (t33:List zb.T) (t34:Int) (t35:Int) (types:List Int) (pile:List Int) (fix:List Bool):Option R :=
 bif decide (t35<t34) then bif idx t35 t33.length then oB (xE.sh F (get zb t33 t35.toNat).1) fun c_3 =>
 bif decide (c_3.1.2.1<0) then bif (zA pile.length (some (i64.wrap ((pile.length:Int)-(get zb t33 t35.toNat).2.2.2.1))) none).1 then bif (zA fix.length (some (i64.wrap ((pile.length:Int)-(get zb t33 t35.toNat).2.2.2.1))) none).1 then oB (zo.d63 F c_3.1.1 (((get zb t33 t35.toNat),(pile.take (zA pile.length (some (i64.wrap ((pile.length:Int)-(get zb t33 t35.toNat).2.2.2.1))) none).2.2).drop (zA pile.length (some (i64.wrap ((pile.length:Int)-(get zb t33 t35.toNat).2.2.2.1))) none).2.1,(fix.take (zA fix.length (some (i64.wrap ((pile.length:Int)-(get zb t33 t35.toNat).2.2.2.1))) none).2.2).drop (zA fix.length (some (i64.wrap ((pile.length:Int)-(get zb t33 t35.toNat).2.2.2.1))) none).2.1),())) fun c_4 =>
 bif (c_4.1.1==(-1)) then k0 ([]) t35 80
 else bif ((get zb t33 t35.toNat).1==8) then bif idx (i64.wrap ((pile.length:Int)-(get zb t33 t35.toNat).2.2.2.1)) fix.length then bif !(get .bool fix ((i64.wrap ((pile.length:Int)-(get zb t33 t35.toNat).2.2.2.1)).toNat)) then bif idx (i64.wrap ((i64.wrap ((pile.length:Int)-(get zb t33 t35.toNat).2.2.2.1))+1)) fix.length then bif !(get .bool fix ((i64.wrap ((i64.wrap ((pile.length:Int)-(get zb t33 t35.toNat).2.2.2.1))+1)).toNat)) then k1 ([]) t35 81
 else bif Nat.ble (types.length+([c_4.1.1]:List Int).length) xu then bif (zA pile.length none (some (i64.wrap ((pile.length:Int)-(get zb t33 t35.toNat).2.2.2.1)))).1 then bif Nat.ble ((zA pile.length none (some (i64.wrap ((pile.length:Int)-(get zb t33 t35.toNat).2.2.2.1)))).2.2+([c_4.1.1]:List Int).length) xu then bif (zA fix.length none (some (i64.wrap ((pile.length:Int)-(get zb t33 t35.toNat).2.2.2.1)))).1 then bif idx t35 fixed.length then bif Nat.ble ((zA fix.length none (some (i64.wrap ((pile.length:Int)-(get zb t33 t35.toNat).2.2.2.1)))).2.2+([get .bool fixed t35.toNat]:List Bool).length) xu then rec fixed t33 t34 (i64.wrap (t35+1)) (types++([c_4.1.1]:List Int)) (pile.take (zA pile.length none (some (i64.wrap ((pile.length:Int)-(get zb t33 t35.toNat).2.2.2.1)))).2.2++([c_4.1.1]:List Int)) (fix.take (zA fix.length none (some (i64.wrap ((pile.length:Int)-(get zb t33 t35.toNat).2.2.2.1)))).2.2++([get .bool fixed t35.toNat]:List Bool))
 else none
 else none
 else none
 else none
 else none
 else none
 else none
 else bif Nat.ble (types.length+([c_4.1.1]:List Int).length) xu then bif (zA pile.length none (some (i64.wrap ((pile.length:Int)-(get zb t33 t35.toNat).2.2.2.1)))).1 then bif Nat.ble ((zA pile.length none (some (i64.wrap ((pile.length:Int)-(get zb t33 t35.toNat).2.2.2.1)))).2.2+([c_4.1.1]:List Int).length) xu then bif (zA fix.length none (some (i64.wrap ((pile.length:Int)-(get zb t33 t35.toNat).2.2.2.1)))).1 then bif idx t35 fixed.length then bif Nat.ble ((zA fix.length none (some (i64.wrap ((pile.length:Int)-(get zb t33 t35.toNat).2.2.2.1)))).2.2+([get .bool fixed t35.toNat]:List Bool).length) xu then rec fixed t33 t34 (i64.wrap (t35+1)) (types++([c_4.1.1]:List Int)) (pile.take (zA pile.length none (some (i64.wrap ((pile.length:Int)-(get zb t33 t35.toNat).2.2.2.1)))).2.2++([c_4.1.1]:List Int)) (fix.take (zA fix.length none (some (i64.wrap ((pile.length:Int)-(get zb t33 t35.toNat).2.2.2.1)))).2.2++([get .bool fixed t35.toNat]:List Bool))
 else none
 else none
 else none
 else none
 else none
 else none
 else none
 else bif Nat.ble (types.length+([c_4.1.1]:List Int).length) xu then bif (zA pile.length none (some (i64.wrap ((pile.length:Int)-(get zb t33 t35.toNat).2.2.2.1)))).1 then bif Nat.ble ((zA pile.length none (some (i64.wrap ((pile.length:Int)-(get zb t33 t35.toNat).2.2.2.1)))).2.2+([c_4.1.1]:List Int).length) xu then bif (zA fix.length none (some (i64.wrap ((pile.length:Int)-(get zb t33 t35.toNat).2.2.2.1)))).1 then bif idx t35 fixed.length then bif Nat.ble ((zA fix.length none (some (i64.wrap ((pile.length:Int)-(get zb t33 t35.toNat).2.2.2.1)))).2.2+([get .bool fixed t35.toNat]:List Bool).length) xu then rec fixed t33 t34 (i64.wrap (t35+1)) (types++([c_4.1.1]:List Int)) (pile.take (zA pile.length none (some (i64.wrap ((pile.length:Int)-(get zb t33 t35.toNat).2.2.2.1)))).2.2++([c_4.1.1]:List Int)) (fix.take (zA fix.length none (some (i64.wrap ((pile.length:Int)-(get zb t33 t35.toNat).2.2.2.1)))).2.2++([get .bool fixed t35.toNat]:List Bool))
 else none
 else none
 else none
 else none
 else none
 else none
 else none
 else none
 else bif (zA pile.length (some (i64.wrap ((pile.length:Int)-c_3.1.2.1))) none).1 then bif (zA fix.length (some (i64.wrap ((pile.length:Int)-c_3.1.2.1))) none).1 then oB (zo.d63 F c_3.1.1 (((get zb t33 t35.toNat),(pile.take (zA pile.length (some (i64.wrap ((pile.length:Int)-c_3.1.2.1))) none).2.2).drop (zA pile.length (some (i64.wrap ((pile.length:Int)-c_3.1.2.1))) none).2.1,(fix.take (zA fix.length (some (i64.wrap ((pile.length:Int)-c_3.1.2.1))) none).2.2).drop (zA fix.length (some (i64.wrap ((pile.length:Int)-c_3.1.2.1))) none).2.1),())) fun c_5 =>
 bif (c_5.1.1==(-1)) then k0 ([]) t35 80
 else bif ((get zb t33 t35.toNat).1==8) then bif idx (i64.wrap ((pile.length:Int)-c_3.1.2.1)) fix.length then bif !(get .bool fix ((i64.wrap ((pile.length:Int)-c_3.1.2.1)).toNat)) then bif idx (i64.wrap ((i64.wrap ((pile.length:Int)-c_3.1.2.1))+1)) fix.length then bif !(get .bool fix ((i64.wrap ((i64.wrap ((pile.length:Int)-c_3.1.2.1))+1)).toNat)) then k1 ([]) t35 81
 else bif Nat.ble (types.length+([c_5.1.1]:List Int).length) xu then bif (zA pile.length none (some (i64.wrap ((pile.length:Int)-c_3.1.2.1)))).1 then bif Nat.ble ((zA pile.length none (some (i64.wrap ((pile.length:Int)-c_3.1.2.1)))).2.2+([c_5.1.1]:List Int).length) xu then bif (zA fix.length none (some (i64.wrap ((pile.length:Int)-c_3.1.2.1)))).1 then bif idx t35 fixed.length then bif Nat.ble ((zA fix.length none (some (i64.wrap ((pile.length:Int)-c_3.1.2.1)))).2.2+([get .bool fixed t35.toNat]:List Bool).length) xu then rec fixed t33 t34 (i64.wrap (t35+1)) (types++([c_5.1.1]:List Int)) (pile.take (zA pile.length none (some (i64.wrap ((pile.length:Int)-c_3.1.2.1)))).2.2++([c_5.1.1]:List Int)) (fix.take (zA fix.length none (some (i64.wrap ((pile.length:Int)-c_3.1.2.1)))).2.2++([get .bool fixed t35.toNat]:List Bool))
 else none
 else none
 else none
 else none
 else none
 else none
 else none
 else bif Nat.ble (types.length+([c_5.1.1]:List Int).length) xu then bif (zA pile.length none (some (i64.wrap ((pile.length:Int)-c_3.1.2.1)))).1 then bif Nat.ble ((zA pile.length none (some (i64.wrap ((pile.length:Int)-c_3.1.2.1)))).2.2+([c_5.1.1]:List Int).length) xu then bif (zA fix.length none (some (i64.wrap ((pile.length:Int)-c_3.1.2.1)))).1 then bif idx t35 fixed.length then bif Nat.ble ((zA fix.length none (some (i64.wrap ((pile.length:Int)-c_3.1.2.1)))).2.2+([get .bool fixed t35.toNat]:List Bool).length) xu then rec fixed t33 t34 (i64.wrap (t35+1)) (types++([c_5.1.1]:List Int)) (pile.take (zA pile.length none (some (i64.wrap ((pile.length:Int)-c_3.1.2.1)))).2.2++([c_5.1.1]:List Int)) (fix.take (zA fix.length none (some (i64.wrap ((pile.length:Int)-c_3.1.2.1)))).2.2++([get .bool fixed t35.toNat]:List Bool))
 else none
 else none
 else none
 else none
 else none
 else none
 else none
 else bif Nat.ble (types.length+([c_5.1.1]:List Int).length) xu then bif (zA pile.length none (some (i64.wrap ((pile.length:Int)-c_3.1.2.1)))).1 then bif Nat.ble ((zA pile.length none (some (i64.wrap ((pile.length:Int)-c_3.1.2.1)))).2.2+([c_5.1.1]:List Int).length) xu then bif (zA fix.length none (some (i64.wrap ((pile.length:Int)-c_3.1.2.1)))).1 then bif idx t35 fixed.length then bif Nat.ble ((zA fix.length none (some (i64.wrap ((pile.length:Int)-c_3.1.2.1)))).2.2+([get .bool fixed t35.toNat]:List Bool).length) xu then rec fixed t33 t34 (i64.wrap (t35+1)) (types++([c_5.1.1]:List Int)) (pile.take (zA pile.length none (some (i64.wrap ((pile.length:Int)-c_3.1.2.1)))).2.2++([c_5.1.1]:List Int)) (fix.take (zA fix.length none (some (i64.wrap ((pile.length:Int)-c_3.1.2.1)))).2.2++([get .bool fixed t35.toNat]:List Bool))
 else none
 else none
 else none
 else none
 else none
 else none
 else none
 else none
 else none
 else k2 fixed t33 t34 t35 (decide (t35<t34)) types pile fix
def zo.l8 {R:Type} (F:Nat) (k0:zo.l8.K0 R) (k1:zo.l8.K1 R) (k2:zo.l8.K2 R):Nat->zo.l8.T R
 | 0,_,_,_,_,_,_,_=>none
 | fu+1,fixed,t33,t34,t35,types,pile,fix=>zo.l8.body F k0 k1 k2 (zo.l8 F k0 k1 k2 fu) fixed t33 t34 t35 types pile fix
def zo.j23 {R:Type} (F:Nat) (k0:(List Int)->Int->Int->Option R) (k1:(List Int)->Int->Int->Option R) (types:List Int) (pile:List Int):Option R :=
 bif idx 0 pile.length then bif ((get (.int .i64) pile 0) != 1) then k0 ([]) (i64.wrap ((types.length:Int)-1)) 80
 else k1 types 0 0
 else none
def zo.sh (F:Nat) (p:zL.T):Option zo.sg.R :=
 oB (zM.sh F p) fun c_1 =>
 bif (c_1.1.2.1 != 0) then some (([],c_1.1.1,c_1.1.2.1,()),())
 else oB (zv.sh F p) fun c_2 =>
 zo.l8 F (fun r26 r36 r46=>some ((r26,r36,r46,()),())) (fun r27 r37 r47=>some ((r27,r37,r47,()),())) (fun fixed8 t338 t348 t358 t368 types8 pile8 fix8=>zo.j23 F (fun r29 r39 r49=>some ((r29,r39,r49,()),())) (fun r210 r310 r410=>some ((r210,r310,r410,()),())) types8 pile8) F c_2.1.1 p.2.2.2 (p.2.2.2.length:Int) 0 ([]) ([]) ([])
def zo.sp (F:Nat):TA zo.sg.args->Option zo.sg.R:=fun x=>zo.sh F x.1
@[reducible] def zE.sg:Sig:={args:=[.d (.b (.int .i64))],res:=[.c (.int .i64)]}
abbrev zE.l5.K0 (R:Type):Type:=(List Int)->Int->Int->Bool->Option R
abbrev zE.l5.T (R:Type):Type:=(List Int)->Int->Int->Option R
def zE.l5.body {R:Type} (F:Nat) (k0:zE.l5.K0 R) (rec:zE.l5.T R) (x:List Int) (m:Int) (i:Int):Option R :=
 bif decide (i<(x.length:Int)) then bif idx i x.length then rec x (if get (.int .i64) x i.toNat>m then get (.int .i64) x i.toNat else m) (i64.wrap (i+1))
 else none
 else k0 x m i (decide (i<(x.length:Int)))
def zE.l5 {R:Type} (F:Nat) (k0:zE.l5.K0 R):Nat->zE.l5.T R
 | 0,_,_,_=>none
 | fu+1,x,m,i=>zE.l5.body F k0 (zE.l5 F k0 fu) x m i
def zE.sh (F:Nat) (x:List Int):Option zE.sg.R :=
 bif decide ((x.length:Int)<1) then none
 else bif idx 0 x.length then zE.l5 F (fun x1 m1 i1 t151=>some ((m1,()),())) F x (get (.int .i64) x 0) 1
 else none
def zE.sp (F:Nat):TA zE.sg.args->Option zE.sg.R:=fun x=>zE.sh F x.1
@[reducible] def zF.sg:Sig:={args:=[.d (.g zL)],res:=[.c (.int .i64),.c (.int .i64)]}
abbrev zF.l6.K0 (R:Type):Type:=(List zb.T)->Int->Int->Bool->(List Int)->Option R
abbrev zF.l6.T (R:Type):Type:=(List zb.T)->Int->Int->(List Int)->Option R
def zF.l6.body {R:Type} (F:Nat) (k0:zF.l6.K0 R) (rec:zF.l6.T R) (t20:List zb.T) (t21:Int) (t22:Int) (pile:List Int):Option R :=
 bif decide (t22<t21) then bif idx t22 t20.length then oB (yL.sh F (get zb t20 t22.toNat)) fun c_2 =>
 bif decide (c_2.1.1>0) then bif (zA pile.length (some (i64.wrap ((pile.length:Int)-c_2.1.1))) none).1 then oB (zE.sh F ((List.take (zA pile.length (some (i64.wrap ((pile.length:Int)-c_2.1.1))) none).2.2 pile).drop (zA pile.length (some (i64.wrap ((pile.length:Int)-c_2.1.1))) none).2.1)) fun c_3 =>
 bif (zA pile.length none (some (i64.wrap ((pile.length:Int)-c_2.1.1)))).1 then bif ((get zb t20 t22.toNat).1==15) then bif Nat.ble ((pile.take (zA pile.length none (some (i64.wrap ((pile.length:Int)-c_2.1.1)))).2.2).length+([i64.wrap (c_3.1.1+1)]:List Int).length) xu then rec t20 t21 (i64.wrap (t22+1)) ((pile.take (zA pile.length none (some (i64.wrap ((pile.length:Int)-c_2.1.1)))).2.2)++([i64.wrap (c_3.1.1+1)]:List Int))
 else none
 else bif Nat.ble ((pile.take (zA pile.length none (some (i64.wrap ((pile.length:Int)-c_2.1.1)))).2.2).length+([c_3.1.1]:List Int).length) xu then rec t20 t21 (i64.wrap (t22+1)) ((pile.take (zA pile.length none (some (i64.wrap ((pile.length:Int)-c_2.1.1)))).2.2)++([c_3.1.1]:List Int))
 else none
 else none
 else none
 else bif ((get zb t20 t22.toNat).1==15) then bif Nat.ble (pile.length+([i64.wrap (0+1)]:List Int).length) xu then rec t20 t21 (i64.wrap (t22+1)) (pile++([i64.wrap (0+1)]:List Int))
 else none
 else bif Nat.ble (pile.length+([0]:List Int).length) xu then rec t20 t21 (i64.wrap (t22+1)) (pile++([0]:List Int))
 else none
 else none
 else k0 t20 t21 t22 (decide (t22<t21)) pile
def zF.l6 {R:Type} (F:Nat) (k0:zF.l6.K0 R):Nat->zF.l6.T R
 | 0,_,_,_,_=>none
 | fu+1,t20,t21,t22,pile=>zF.l6.body F k0 (zF.l6 F k0 fu) t20 t21 t22 pile
def zF.j17 {R:Type} (F:Nat) (k0:Int->Int->Option R) (pile:List Int):Option R :=
 bif idx 0 pile.length then k0 (get (.int .i64) pile 0) 0
 else none
def zF.sh (F:Nat) (p:zL.T):Option zF.sg.R :=
 oB (zM.sh F p) fun c_1 =>
 bif (c_1.1.2.1 != 0) then some ((0,c_1.1.2.1,()),())
 else zF.l6 F (fun t204 t214 t224 t234 pile4=>zF.j17 F (fun r25 r35=>some ((r25,r35,()),())) pile4) F p.2.2.2 (p.2.2.2.length:Int) 0 ([])
def zF.sp (F:Nat):TA zF.sg.args->Option zF.sg.R:=fun x=>zF.sh F x.1
@[reducible] def zR.sg:Sig:={args:=[.d (.c (.int .i64))],res:=[.g zd]}
def zR.sh (F:Nat) (v:Int):Option zR.sg.R :=
 some (((v.fdiv (2^(min (63:Int).toNat IntKind.i64.bits)),u64.wrap v),()),())
def zR.sp (F:Nat):TA zR.sg.args->Option zR.sg.R:=fun x=>zR.sh F x.1
@[reducible] def xD.sg:Sig:={args:=[.d (.g zd)],res:=[.c (.int .u64),.c (.int .u64)]}
def xD.sh (F:Nat) (w:zd.T):Option xD.sg.R :=
 bif decide (w.1>=0) then some ((u64.wrap w.1,w.2,()),())
 else oB (z6.sh F 0 w.2 0) fun c_1 =>
 oB (z6.sh F 0 (u64.wrap w.1) c_1.1.2.1) fun c_2 =>
 some ((c_2.1.1,c_1.1.1,()),())
def xD.sp (F:Nat):TA xD.sg.args->Option xD.sg.R:=fun x=>xD.sh F x.1
@[reducible] def yF.sg:Sig:={args:=[.d (.c (.int .u64)),.d (.c (.int .u64))],res:=[.c (.int .u64),.c (.int .u64)]}
def yF.sh (F:Nat) (x:Int) (y:Int):Option yF.sg.R :=
 some ((u64.wrap ((u64.wrap ((u64.wrap ((x.fdiv (2^(min (32:Int).toNat IntKind.u64.bits)))*(y.fdiv (2^(min (32:Int).toNat IntKind.u64.bits)))))+((u64.wrap ((u64.wrap ((x.fdiv (2^(min (32:Int).toNat IntKind.u64.bits)))*(u64.wrap ((BitVec.ofInt IntKind.u64.bits y &&& BitVec.ofInt IntKind.u64.bits 4294967295).toNat))))+((u64.wrap ((u64.wrap ((BitVec.ofInt IntKind.u64.bits x &&& BitVec.ofInt IntKind.u64.bits 4294967295).toNat))*(u64.wrap ((BitVec.ofInt IntKind.u64.bits y &&& BitVec.ofInt IntKind.u64.bits 4294967295).toNat)))).fdiv (2^(min (32:Int).toNat IntKind.u64.bits))))).fdiv (2^(min (32:Int).toNat IntKind.u64.bits)))))+((u64.wrap ((u64.wrap ((BitVec.ofInt IntKind.u64.bits (u64.wrap ((u64.wrap ((x.fdiv (2^(min (32:Int).toNat IntKind.u64.bits)))*(u64.wrap ((BitVec.ofInt IntKind.u64.bits y &&& BitVec.ofInt IntKind.u64.bits 4294967295).toNat))))+((u64.wrap ((u64.wrap ((BitVec.ofInt IntKind.u64.bits x &&& BitVec.ofInt IntKind.u64.bits 4294967295).toNat))*(u64.wrap ((BitVec.ofInt IntKind.u64.bits y &&& BitVec.ofInt IntKind.u64.bits 4294967295).toNat)))).fdiv (2^(min (32:Int).toNat IntKind.u64.bits))))) &&& BitVec.ofInt IntKind.u64.bits 4294967295).toNat))+(u64.wrap ((u64.wrap ((BitVec.ofInt IntKind.u64.bits x &&& BitVec.ofInt IntKind.u64.bits 4294967295).toNat))*(y.fdiv (2^(min (32:Int).toNat IntKind.u64.bits))))))).fdiv (2^(min (32:Int).toNat IntKind.u64.bits)))),u64.wrap (x*y),()),())
def yF.sp (F:Nat):TA yF.sg.args->Option yF.sg.R:=fun x=>yF.sh F x.1 x.2.1
@[reducible] def xO.sg:Sig:={args:=[.d (.c .bool),.d (.c (.int .u64)),.d (.c (.int .u64))],res:=[.c (.int .u64)]}
def xO.sh (F:Nat) (first_:Bool) (a:Int) (b:Int):Option xO.sg.R :=
 bif first_ then some ((a,()),())
 else some ((b,()),())
def xO.sp (F:Nat):TA xO.sg.args->Option xO.sg.R:=fun x=>xO.sh F x.1 x.2.1 x.2.2.1
@[reducible] def xz.sg:Sig:={args:=[.d (.g zd),.d (.g zd)],res:=[.g zd,.c (.int .i64)]}
def xz.sh (F:Nat) (a:zd.T) (b:zd.T):Option xz.sg.R :=
 oB (z6.sh F a.2 b.2 0) fun c_1 =>
 oB (z6.sh F (u64.wrap a.1) (u64.wrap b.1) c_1.1.2.1) fun c_2 =>
 bif (!(decide (a.1<0)==decide (b.1<0))) then bif (!(decide ((i64.wrap c_2.1.1)<0)==decide (a.1<0))) then some (((0,0),10,()),())
 else some (((i64.wrap c_2.1.1,c_1.1.1),0,()),())
 else some (((i64.wrap c_2.1.1,c_1.1.1),0,()),())
def xz.sp (F:Nat):TA xz.sg.args->Option xz.sg.R:=fun x=>xz.sh F x.1 x.2.1
@[reducible] def xT.sg:Sig:={args:=[.d (.g zd)],res:=[.g zd,.c (.int .i64)]}
def xT.sh (F:Nat) (a:zd.T):Option xT.sg.R :=
 oB (xz.sh F (0,0) a) fun c_1 =>
 some ((c_1.1.1,c_1.1.2.1,()),())
def xT.sp (F:Nat):TA xT.sg.args->Option xT.sg.R:=fun x=>xT.sh F x.1
@[reducible] def xG.sg:Sig:={args:=[.d (.c .bool),.d (.c (.int .u64)),.d (.c (.int .u64))],res:=[.g zd,.c (.int .i64)]}
def xG.sh (F:Nat) (below:Bool) (hi:Int) (lo:Int):Option xG.sg.R :=
 bif ((hi.fdiv (2^(min (63:Int).toNat IntKind.u64.bits)))==0) then bif below then oB (xT.sh F (i64.wrap hi,lo)) fun c_1 =>
 some ((c_1.1.1,c_1.1.2.1,()),())
 else some (((i64.wrap hi,lo),0,()),())
 else bif below then bif (hi==9223372036854775808) then bif (lo==0) then some ((((-9223372036854775808),0),0,()),())
 else some (((0,0),10,()),())
 else some (((0,0),10,()),())
 else some (((0,0),10,()),())
def xG.sp (F:Nat):TA xG.sg.args->Option xG.sg.R:=fun x=>xG.sh F x.1 x.2.1 x.2.2.1
@[reducible] def yf.sg:Sig:={args:=[.d (.g zd),.d (.g zd)],res:=[.g zd,.c (.int .i64)]}
def yf.j5 {R:Type} (F:Nat) (k0:Int->zd.T->Option R) (k1:Int->zd.T->Option R) (ah:Int) (al:Int) (bh:Int) (bl:Int) (a:zd.T) (b:zd.T) (r4:zd.T):Option R :=
 oB (yF.sh F al bl) fun c_3 =>
 oB (xO.sh F (ah != 0) bl al) fun c_4 =>
 oB (yF.sh F (u64.wrap ((BitVec.ofInt IntKind.u64.bits ah ||| BitVec.ofInt IntKind.u64.bits bh).toNat)) c_4.1.1) fun c_5 =>
 oB (yh.sh F c_3.1.1 c_5.1.2.1 0) fun c_6 =>
 bif (c_5.1.1 != 0) then k0 10 (0,0)
 else bif (c_6.1.2.1 != 0) then k0 10 (0,0)
 else oB (xG.sh F (!(decide (a.1<0)==decide (b.1<0))) c_6.1.1 c_3.1.2.1) fun c_7 =>
 k1 c_7.1.2.1 c_7.1.1
def yf.sh (F:Nat) (a:zd.T) (b:zd.T):Option yf.sg.R :=
 oB (xD.sh F a) fun c_1 =>
 oB (xD.sh F b) fun c_2 =>
 bif (c_1.1.1 != 0) then bif (c_2.1.1 != 0) then some (((0,0),10,()),())
 else yf.j5 F (fun r58 r48=>some ((r48,r58,()),())) (fun r59 r49=>some ((r49,r59,()),())) c_1.1.1 c_1.1.2.1 c_2.1.1 c_2.1.2.1 a b (0,0)
 else yf.j5 F (fun r510 r410=>some ((r410,r510,()),())) (fun r511 r411=>some ((r411,r511,()),())) c_1.1.1 c_1.1.2.1 c_2.1.1 c_2.1.2.1 a b (0,0)
def yf.sp (F:Nat):TA yf.sg.args->Option yf.sg.R:=fun x=>yf.sh F x.1 x.2.1
@[reducible] def zQ.sg:Sig:={args:=[.d (.c (.int .i64))],res:=[.g zd,.c (.int .i64)]}
abbrev zQ.l7.K0 (R:Type):Type:=Int->Int->Bool->zd.T->zd.T->Option R
abbrev zQ.l7.T (R:Type):Type:=Int->Int->zd.T->zd.T->Option R
def zQ.l7.body {R:Type} (F:Nat) (k0:zQ.l7.K0 R) (rec:zQ.l7.T R) (t12:Int) (t13:Int) (r2:zd.T) (p:zd.T):Option R :=
 bif decide (t13<t12) then oB (zR.sh F 10000) fun c_2 =>
 oB (yf.sh F p c_2.1.1) fun c_3 =>
 rec t12 (i64.wrap (t13+1)) r2 c_3.1.1
 else k0 t12 t13 (decide (t13<t12)) r2 p
def zQ.l7 {R:Type} (F:Nat) (k0:zQ.l7.K0 R):Nat->zQ.l7.T R
 | 0,_,_,_,_=>none
 | fu+1,t12,t13,r2,p=>zQ.l7.body F k0 (zQ.l7 F k0 fu) t12 t13 r2 p
def zQ.sh (F:Nat) (k:Int):Option zQ.sg.R :=
 bif decide (k<0) then some (((0,0),1,()),())
 else bif decide (k>9) then some (((0,0),10,()),())
 else oB (zR.sh F 1) fun c_1 =>
 zQ.l7 F (fun t124 t134 t144 r24 p4=>some ((p4,0,()),())) F k 0 (0,0) c_1.1.1
def zQ.sp (F:Nat):TA zQ.sg.args->Option zQ.sg.R:=fun x=>zQ.sh F x.1
@[reducible] def zV.sg:Sig:={args:=[.d (.g zb)],res:=[.c (.int .i64)]}
def zV.j10 {R:Type} (F:Nat) (k0:Int->Option R) (k1:Int->Option R) (k2:Int->Option R) (k3:Bool->Option R) (t4:Int) (t10:Bool) (n:zb.T):Option R :=
 bif t10 then k0 2
 else bif (t4==9) then bif (t4==9) then k1 n.2.2.2.1
 else bif (t4==16) then k2 3
 else k3 (t4==16)
 else bif (t4==10) then k1 n.2.2.2.1
 else bif (t4==16) then k2 3
 else k3 (t4==16)
def zV.j6 {R:Type} (F:Nat) (k0:Int->Option R) (k1:Int->Option R) (k2:Int->Option R) (k3:Int->Option R) (k4:Bool->Option R) (t4:Int) (t5:Bool) (n:zb.T):Option R :=
 bif t5 then k0 0
 else bif (t4==6) then zV.j10 F (fun r21=>k1 r21) (fun r22=>k2 r22) (fun r23=>k3 r23) (fun t194=>k4 t194) t4 (t4==6) n
 else bif (t4==7) then zV.j10 F (fun r25=>k1 r25) (fun r26=>k2 r26) (fun r27=>k3 r27) (fun t198=>k4 t198) t4 (t4==7) n
 else zV.j10 F (fun r29=>k1 r29) (fun r210=>k2 r210) (fun r211=>k3 r211) (fun t1912=>k4 t1912) t4 (t4==8) n
def zV.sh (F:Nat) (n:zb.T):Option zV.sg.R :=
 bif (n.1==1) then zV.j6 F (fun r213=>some ((r213,()),())) (fun r214=>some ((r214,()),())) (fun r215=>some ((r215,()),())) (fun r216=>some ((r216,()),())) (fun t1917=>some ((1,()),())) n.1 (n.1==1) n
 else bif (n.1==2) then zV.j6 F (fun r218=>some ((r218,()),())) (fun r219=>some ((r219,()),())) (fun r220=>some ((r220,()),())) (fun r221=>some ((r221,()),())) (fun t1922=>some ((1,()),())) n.1 (n.1==2) n
 else bif (n.1==3) then zV.j6 F (fun r223=>some ((r223,()),())) (fun r224=>some ((r224,()),())) (fun r225=>some ((r225,()),())) (fun r226=>some ((r226,()),())) (fun t1927=>some ((1,()),())) n.1 (n.1==3) n
 else zV.j6 F (fun r228=>some ((r228,()),())) (fun r229=>some ((r229,()),())) (fun r230=>some ((r230,()),())) (fun r231=>some ((r231,()),())) (fun t1932=>some ((1,()),())) n.1 (n.1==4) n
def zV.sp (F:Nat):TA zV.sg.args->Option zV.sg.R:=fun x=>zV.sh F x.1
@[reducible] def yd.sg:Sig:={args:=[.io zU [],.d (.g zd),.d (.c (.int .i64))],res:=[.g zd]}
def yd.sh (F:Nat) (m:zU.T) (w:zd.T) (e:Int):Option yd.sg.R :=
 bif m.2 then some ((w,()),((m.1,true),()))
 else some ((w,()),((m.1,(e != 0)),()))
def yd.sp (F:Nat):TA yd.sg.args->Option yd.sg.R:=fun x=>yd.sh F x.1 x.2.1 x.2.2.1
@[reducible] def ya.sg:Sig:={args:=[.io zU [],.d (.g zd),.d (.g zd)],res:=[.g zd]}
def ya.sh (F:Nat) (m:zU.T) (a:zd.T) (b:zd.T):Option ya.sg.R :=
 oB (yf.sh F a b) fun c_1 =>
 oB (yd.sh F m c_1.1.1 c_1.1.2.1) fun c_2 =>
 some ((c_2.1.1,()),(c_2.2.1,()))
def ya.sp (F:Nat):TA ya.sg.args->Option ya.sg.R:=fun x=>ya.sh F x.1 x.2.1 x.2.2.1
@[reducible] def zK.sg:Sig:={args:=[.d (.c (.int .u64))],res:=[.c (.int .i64)]}
def zK.j7 {R:Type} (F:Nat) (k0:Int->Option R) (x:Int) (n:Int):Option R :=
 bif decide (x>=256) then bif idx (IntKind.u8.wrap (x.fdiv (2^(min (8:Int).toNat IntKind.u64.bits)))) ((⟨#[0,1,2,2,3,3,3,3,4,4,4,4,4,4,4,4,5,5,5,5,5,5,5,5,5,5,5,5,5,5,5,5,6,6,6,6,6,6,6,6,6,6,6,6,6,6,6,6,6,6,6,6,6,6,6,6,6,6,6,6,6,6,6,6,7,7,7,7,7,7,7,7,7,7,7,7,7,7,7,7,7,7,7,7,7,7,7,7,7,7,7,7,7,7,7,7,7,7,7,7,7,7,7,7,7,7,7,7,7,7,7,7,7,7,7,7,7,7,7,7,7,7,7,7,7,7,7,7,8,8,8,8,8,8,8,8,8,8,8,8,8,8,8,8,8,8,8,8,8,8,8,8,8,8,8,8,8,8,8,8,8,8,8,8,8,8,8,8,8,8,8,8,8,8,8,8,8,8,8,8,8,8,8,8,8,8,8,8,8,8,8,8,8,8,8,8,8,8,8,8,8,8,8,8,8,8,8,8,8,8,8,8,8,8,8,8,8,8,8,8,8,8,8,8,8,8,8,8,8,8,8,8,8,8,8,8,8,8,8,8,8,8,8,8,8,8,8,8,8,8,8,8,8,8,8,8]⟩:ByteArray).size) then k0 (i64.wrap ((i64.wrap (n+8))+(i64.wrap (bt (⟨#[0,1,2,2,3,3,3,3,4,4,4,4,4,4,4,4,5,5,5,5,5,5,5,5,5,5,5,5,5,5,5,5,6,6,6,6,6,6,6,6,6,6,6,6,6,6,6,6,6,6,6,6,6,6,6,6,6,6,6,6,6,6,6,6,7,7,7,7,7,7,7,7,7,7,7,7,7,7,7,7,7,7,7,7,7,7,7,7,7,7,7,7,7,7,7,7,7,7,7,7,7,7,7,7,7,7,7,7,7,7,7,7,7,7,7,7,7,7,7,7,7,7,7,7,7,7,7,7,8,8,8,8,8,8,8,8,8,8,8,8,8,8,8,8,8,8,8,8,8,8,8,8,8,8,8,8,8,8,8,8,8,8,8,8,8,8,8,8,8,8,8,8,8,8,8,8,8,8,8,8,8,8,8,8,8,8,8,8,8,8,8,8,8,8,8,8,8,8,8,8,8,8,8,8,8,8,8,8,8,8,8,8,8,8,8,8,8,8,8,8,8,8,8,8,8,8,8,8,8,8,8,8,8,8,8,8,8,8,8,8,8,8,8,8,8,8,8,8,8,8,8,8,8,8,8,8]⟩:ByteArray) (IntKind.u8.wrap (x.fdiv (2^(min (8:Int).toNat IntKind.u64.bits))))))))
 else none
 else bif idx (IntKind.u8.wrap x) ((⟨#[0,1,2,2,3,3,3,3,4,4,4,4,4,4,4,4,5,5,5,5,5,5,5,5,5,5,5,5,5,5,5,5,6,6,6,6,6,6,6,6,6,6,6,6,6,6,6,6,6,6,6,6,6,6,6,6,6,6,6,6,6,6,6,6,7,7,7,7,7,7,7,7,7,7,7,7,7,7,7,7,7,7,7,7,7,7,7,7,7,7,7,7,7,7,7,7,7,7,7,7,7,7,7,7,7,7,7,7,7,7,7,7,7,7,7,7,7,7,7,7,7,7,7,7,7,7,7,7,8,8,8,8,8,8,8,8,8,8,8,8,8,8,8,8,8,8,8,8,8,8,8,8,8,8,8,8,8,8,8,8,8,8,8,8,8,8,8,8,8,8,8,8,8,8,8,8,8,8,8,8,8,8,8,8,8,8,8,8,8,8,8,8,8,8,8,8,8,8,8,8,8,8,8,8,8,8,8,8,8,8,8,8,8,8,8,8,8,8,8,8,8,8,8,8,8,8,8,8,8,8,8,8,8,8,8,8,8,8,8,8,8,8,8,8,8,8,8,8,8,8,8,8,8,8,8,8]⟩:ByteArray).size) then k0 (i64.wrap (n+(i64.wrap (bt (⟨#[0,1,2,2,3,3,3,3,4,4,4,4,4,4,4,4,5,5,5,5,5,5,5,5,5,5,5,5,5,5,5,5,6,6,6,6,6,6,6,6,6,6,6,6,6,6,6,6,6,6,6,6,6,6,6,6,6,6,6,6,6,6,6,6,7,7,7,7,7,7,7,7,7,7,7,7,7,7,7,7,7,7,7,7,7,7,7,7,7,7,7,7,7,7,7,7,7,7,7,7,7,7,7,7,7,7,7,7,7,7,7,7,7,7,7,7,7,7,7,7,7,7,7,7,7,7,7,7,8,8,8,8,8,8,8,8,8,8,8,8,8,8,8,8,8,8,8,8,8,8,8,8,8,8,8,8,8,8,8,8,8,8,8,8,8,8,8,8,8,8,8,8,8,8,8,8,8,8,8,8,8,8,8,8,8,8,8,8,8,8,8,8,8,8,8,8,8,8,8,8,8,8,8,8,8,8,8,8,8,8,8,8,8,8,8,8,8,8,8,8,8,8,8,8,8,8,8,8,8,8,8,8,8,8,8,8,8,8,8,8,8,8,8,8,8,8,8,8,8,8,8,8,8,8,8,8]⟩:ByteArray) (IntKind.u8.wrap x)))))
 else none
def zK.j4 {R:Type} (F:Nat) (k0:Int->Option R) (x:Int) (n:Int):Option R :=
 bif decide (x>=65536) then zK.j7 F (fun n1=>k0 n1) (x.fdiv (2^(min (16:Int).toNat IntKind.u64.bits))) (i64.wrap (n+16))
 else zK.j7 F (fun n2=>k0 n2) x n
def zK.sh (F:Nat) (x:Int):Option zK.sg.R :=
 bif decide (x>=4294967296) then zK.j4 F (fun n3=>some ((n3,()),())) (x.fdiv (2^(min (32:Int).toNat IntKind.u64.bits))) 32
 else zK.j4 F (fun n4=>some ((n4,()),())) x 0
def zK.sp (F:Nat):TA zK.sg.args->Option zK.sg.R:=fun x=>zK.sh F x.1
@[reducible] def zW.sg:Sig:={args:=[.d (.c (.int .u64))],res:=[.c (.int .i64)]}
def zW.sh (F:Nat) (x:Int):Option zW.sg.R :=
 oB (zK.sh F x) fun c_1 =>
 some ((i64.wrap (64-c_1.1.1),()),())
def zW.sp (F:Nat):TA zW.sg.args->Option zW.sg.R:=fun x=>zW.sh F x.1
@[reducible] def zl.sg:Sig:={args:=[.d (.c (.int .u64)),.d (.c (.int .u64)),.d (.c (.int .u64))],res:=[.c (.int .u64),.c (.int .u64)]}
abbrev zl.l17.K0 (R:Type):Type:=Int->Int->Int->Int->Int->Int->Int->Int->Int->Bool->Option R
abbrev zl.l17.K1 (R:Type):Type:=Int->Int->Int->Int->Int->Int->Int->Int->Int->Bool->Option R
abbrev zl.l17.T (R:Type):Type:=Int->Int->Int->Int->Int->Int->Int->Int->Int->Option R
def zl.l17.body {R:Type} (F:Nat) (k0:zl.l17.K0 R) (k1:zl.l17.K1 R) (rec:zl.l17.T R) (y:Int) (s:Int) (yn1:Int) (yn0:Int) (un32:Int) (un1:Int) (un0:Int) (q1:Int) (rhat:Int):Option R :=
 bif decide (q1>=4294967296) then bif decide ((u64.wrap (rhat+yn1))>=4294967296) then k0 y s yn1 yn0 un32 un1 un0 (u64.wrap (q1-1)) (u64.wrap (rhat+yn1)) (decide ((u64.wrap (rhat+yn1))>=4294967296))
 else rec y s yn1 yn0 un32 un1 un0 (u64.wrap (q1-1)) (u64.wrap (rhat+yn1))
 else bif decide ((u64.wrap (q1*yn0))>(u64.wrap ((u64.wrap (4294967296*rhat))+un1))) then bif decide ((u64.wrap (rhat+yn1))>=4294967296) then k0 y s yn1 yn0 un32 un1 un0 (u64.wrap (q1-1)) (u64.wrap (rhat+yn1)) (decide ((u64.wrap (rhat+yn1))>=4294967296))
 else rec y s yn1 yn0 un32 un1 un0 (u64.wrap (q1-1)) (u64.wrap (rhat+yn1))
 else k1 y s yn1 yn0 un32 un1 un0 q1 rhat (decide ((u64.wrap (q1*yn0))>(u64.wrap ((u64.wrap (4294967296*rhat))+un1))))
def zl.l17 {R:Type} (F:Nat) (k0:zl.l17.K0 R) (k1:zl.l17.K1 R):Nat->zl.l17.T R
 | 0,_,_,_,_,_,_,_,_,_=>none
 | fu+1,y,s,yn1,yn0,un32,un1,un0,q1,rhat=>zl.l17.body F k0 k1 (zl.l17 F k0 k1 fu) y s yn1 yn0 un32 un1 un0 q1 rhat
abbrev zl.l24.K0 (R:Type):Type:=Int->Int->Int->Int->Int->Int->Int->Int->Int->Bool->Option R
abbrev zl.l24.K1 (R:Type):Type:=Int->Int->Int->Int->Int->Int->Int->Int->Int->Bool->Option R
abbrev zl.l24.T (R:Type):Type:=Int->Int->Int->Int->Int->Int->Int->Int->Int->Option R
def zl.l24.body {R:Type} (F:Nat) (k0:zl.l24.K0 R) (k1:zl.l24.K1 R) (rec:zl.l24.T R) (y:Int) (s:Int) (yn1:Int) (yn0:Int) (un0:Int) (q1:Int) (rhat:Int) (un21:Int) (q0:Int):Option R :=
 bif decide (q0>=4294967296) then bif decide ((u64.wrap (rhat+yn1))>=4294967296) then k0 y s yn1 yn0 un0 q1 (u64.wrap (rhat+yn1)) un21 (u64.wrap (q0-1)) (decide ((u64.wrap (rhat+yn1))>=4294967296))
 else rec y s yn1 yn0 un0 q1 (u64.wrap (rhat+yn1)) un21 (u64.wrap (q0-1))
 else bif decide ((u64.wrap (q0*yn0))>(u64.wrap ((u64.wrap (4294967296*rhat))+un0))) then bif decide ((u64.wrap (rhat+yn1))>=4294967296) then k0 y s yn1 yn0 un0 q1 (u64.wrap (rhat+yn1)) un21 (u64.wrap (q0-1)) (decide ((u64.wrap (rhat+yn1))>=4294967296))
 else rec y s yn1 yn0 un0 q1 (u64.wrap (rhat+yn1)) un21 (u64.wrap (q0-1))
 else k1 y s yn1 yn0 un0 q1 rhat un21 q0 (decide ((u64.wrap (q0*yn0))>(u64.wrap ((u64.wrap (4294967296*rhat))+un0))))
def zl.l24 {R:Type} (F:Nat) (k0:zl.l24.K0 R) (k1:zl.l24.K1 R):Nat->zl.l24.T R
 | 0,_,_,_,_,_,_,_,_,_=>none
 | fu+1,y,s,yn1,yn0,un0,q1,rhat,un21,q0=>zl.l24.body F k0 k1 (zl.l24 F k0 k1 fu) y s yn1 yn0 un0 q1 rhat un21 q0
def zl.j28 {R:Type} (F:Nat) (k0:Int->Int->Option R) (y:Int) (s:Int) (un0:Int) (q1:Int) (un21:Int) (q0:Int):Option R :=
 bif decide (0<=s) then k0 (u64.wrap ((u64.wrap (q1*4294967296))+q0)) ((u64.wrap ((u64.wrap ((u64.wrap (un21*4294967296))+un0))-(u64.wrap (q0*y)))).fdiv (2^(min s.toNat IntKind.u64.bits)))
 else none
def zl.j21 {R:Type} (F:Nat) (k0:Int->Int->Option R) (y:Int) (s:Int) (yn1:Int) (yn0:Int) (un32:Int) (un1:Int) (un0:Int) (q1:Int):Option R :=
 bif (yn1 != 0) then zl.l24 F (fun y3 s3 yn13 yn03 un03 q13 rhat3 un213 q03 t1203=>zl.j28 F (fun quo4 rem4=>k0 quo4 rem4) y3 s3 un03 q13 un213 q03) (fun y5 s5 yn15 yn05 un05 q15 rhat5 un215 q05 t1135=>zl.j28 F (fun quo6 rem6=>k0 quo6 rem6) y5 s5 un05 q15 un215 q05) F y s yn1 yn0 un0 q1 (u64.wrap ((u64.wrap ((u64.wrap ((u64.wrap (un32*4294967296))+un1))-(u64.wrap (q1*y))))-(u64.wrap ((u64.wrap ((u64.wrap ((u64.wrap ((u64.wrap (un32*4294967296))+un1))-(u64.wrap (q1*y)))).tdiv yn1))*yn1)))) (u64.wrap ((u64.wrap ((u64.wrap (un32*4294967296))+un1))-(u64.wrap (q1*y)))) (u64.wrap ((u64.wrap ((u64.wrap ((u64.wrap (un32*4294967296))+un1))-(u64.wrap (q1*y)))).tdiv yn1))
 else none
def zl.sh (F:Nat) (hi:Int) (lo:Int) (y:Int):Option zl.sg.R :=
 bif (y==0) then none
 else bif decide (y<=hi) then none
 else bif (hi==0) then bif (y != 0) then bif (y != 0) then some ((u64.wrap (lo.tdiv y),lo.tmod y,()),())
 else none
 else none
 else oB (zW.sh F y) fun c_1 =>
 bif decide (0<=(u64.wrap c_1.1.1)) then bif decide (0<=(u64.wrap c_1.1.1)) then bif decide (0<=(u64.wrap (64-(u64.wrap c_1.1.1)))) then bif decide (0<=(u64.wrap c_1.1.1)) then bif (((u64.wrap (y*2^(min (u64.wrap c_1.1.1).toNat IntKind.u64.bits))).fdiv (2^(min (32:Int).toNat IntKind.u64.bits))) != 0) then zl.l17 F (fun y2 s2 yn12 yn02 un322 un12 un02 q12 rhat2 t852=>zl.j21 F (fun quo7 rem7=>some ((quo7,rem7,()),())) y2 s2 yn12 yn02 un322 un12 un02 q12) (fun y8 s8 yn18 yn08 un328 un18 un08 q18 rhat8 t788=>zl.j21 F (fun quo9 rem9=>some ((quo9,rem9,()),())) y8 s8 yn18 yn08 un328 un18 un08 q18) F (u64.wrap (y*2^(min (u64.wrap c_1.1.1).toNat IntKind.u64.bits))) (u64.wrap c_1.1.1) ((u64.wrap (y*2^(min (u64.wrap c_1.1.1).toNat IntKind.u64.bits))).fdiv (2^(min (32:Int).toNat IntKind.u64.bits))) (u64.wrap ((BitVec.ofInt IntKind.u64.bits (u64.wrap (y*2^(min (u64.wrap c_1.1.1).toNat IntKind.u64.bits))) &&& BitVec.ofInt IntKind.u64.bits 4294967295).toNat)) (u64.wrap ((BitVec.ofInt IntKind.u64.bits (u64.wrap (hi*2^(min (u64.wrap c_1.1.1).toNat IntKind.u64.bits))) ||| BitVec.ofInt IntKind.u64.bits (lo.fdiv (2^(min (u64.wrap (64-(u64.wrap c_1.1.1))).toNat IntKind.u64.bits)))).toNat)) ((u64.wrap (lo*2^(min (u64.wrap c_1.1.1).toNat IntKind.u64.bits))).fdiv (2^(min (32:Int).toNat IntKind.u64.bits))) (u64.wrap ((BitVec.ofInt IntKind.u64.bits (u64.wrap (lo*2^(min (u64.wrap c_1.1.1).toNat IntKind.u64.bits))) &&& BitVec.ofInt IntKind.u64.bits 4294967295).toNat)) (u64.wrap ((u64.wrap ((BitVec.ofInt IntKind.u64.bits (u64.wrap (hi*2^(min (u64.wrap c_1.1.1).toNat IntKind.u64.bits))) ||| BitVec.ofInt IntKind.u64.bits (lo.fdiv (2^(min (u64.wrap (64-(u64.wrap c_1.1.1))).toNat IntKind.u64.bits)))).toNat)).tdiv ((u64.wrap (y*2^(min (u64.wrap c_1.1.1).toNat IntKind.u64.bits))).fdiv (2^(min (32:Int).toNat IntKind.u64.bits))))) (u64.wrap ((u64.wrap ((BitVec.ofInt IntKind.u64.bits (u64.wrap (hi*2^(min (u64.wrap c_1.1.1).toNat IntKind.u64.bits))) ||| BitVec.ofInt IntKind.u64.bits (lo.fdiv (2^(min (u64.wrap (64-(u64.wrap c_1.1.1))).toNat IntKind.u64.bits)))).toNat))-(u64.wrap ((u64.wrap ((u64.wrap ((BitVec.ofInt IntKind.u64.bits (u64.wrap (hi*2^(min (u64.wrap c_1.1.1).toNat IntKind.u64.bits))) ||| BitVec.ofInt IntKind.u64.bits (lo.fdiv (2^(min (u64.wrap (64-(u64.wrap c_1.1.1))).toNat IntKind.u64.bits)))).toNat)).tdiv ((u64.wrap (y*2^(min (u64.wrap c_1.1.1).toNat IntKind.u64.bits))).fdiv (2^(min (32:Int).toNat IntKind.u64.bits)))))*((u64.wrap (y*2^(min (u64.wrap c_1.1.1).toNat IntKind.u64.bits))).fdiv (2^(min (32:Int).toNat IntKind.u64.bits)))))))
 else none
 else none
 else none
 else none
 else none
def zl.sp (F:Nat):TA zl.sg.args->Option zl.sg.R:=fun x=>zl.sh F x.1 x.2.1 x.2.2.1
@[reducible] def zS.sg:Sig:={args:=[.d (.c (.int .u64)),.d (.c (.int .u64)),.d (.c (.int .u64)),.d (.c (.int .u64))],res:=[.c (.int .u64),.c (.int .u64),.c (.int .u64),.c (.int .u64)]}
abbrev zS.l7.K0 (R:Type):Type:=Int->Int->Int->Int->Int->Int->Int->Bool->Option R
abbrev zS.l7.T (R:Type):Type:=Int->Int->Int->Int->Int->Int->Int->Option R
def zS.l7.body {R:Type} (F:Nat) (k0:zS.l7.K0 R) (rec:zS.l7.T R) (al:Int) (bh:Int) (bl:Int) (ql:Int) (rh:Int) (rl:Int) (i:Int):Option R :=
 bif decide (i>=0) then bif decide (0<=i) then bif decide ((u64.wrap ((BitVec.ofInt IntKind.u64.bits (u64.wrap (rh*2^(min (1:Int).toNat IntKind.u64.bits))) ||| BitVec.ofInt IntKind.u64.bits (rl.fdiv (2^(min (63:Int).toNat IntKind.u64.bits)))).toNat))>bh) then oB (z6.sh F (u64.wrap ((BitVec.ofInt IntKind.u64.bits (u64.wrap (rl*2^(min (1:Int).toNat IntKind.u64.bits))) ||| BitVec.ofInt IntKind.u64.bits (u64.wrap ((BitVec.ofInt IntKind.u64.bits (al.fdiv (2^(min i.toNat IntKind.u64.bits))) &&& BitVec.ofInt IntKind.u64.bits 1).toNat))).toNat)) bl 0) fun c_2 =>
 oB (z6.sh F (u64.wrap ((BitVec.ofInt IntKind.u64.bits (u64.wrap (rh*2^(min (1:Int).toNat IntKind.u64.bits))) ||| BitVec.ofInt IntKind.u64.bits (rl.fdiv (2^(min (63:Int).toNat IntKind.u64.bits)))).toNat)) bh c_2.1.2.1) fun c_3 =>
 bif decide (0<=i) then rec al bh bl (u64.wrap ((BitVec.ofInt IntKind.u64.bits ql ||| BitVec.ofInt IntKind.u64.bits (u64.wrap (1*2^(min i.toNat IntKind.u64.bits)))).toNat)) c_3.1.1 c_2.1.1 (i64.wrap (i-1))
 else none
 else bif ((u64.wrap ((BitVec.ofInt IntKind.u64.bits (u64.wrap (rh*2^(min (1:Int).toNat IntKind.u64.bits))) ||| BitVec.ofInt IntKind.u64.bits (rl.fdiv (2^(min (63:Int).toNat IntKind.u64.bits)))).toNat))==bh) then bif decide ((u64.wrap ((BitVec.ofInt IntKind.u64.bits (u64.wrap (rl*2^(min (1:Int).toNat IntKind.u64.bits))) ||| BitVec.ofInt IntKind.u64.bits (u64.wrap ((BitVec.ofInt IntKind.u64.bits (al.fdiv (2^(min i.toNat IntKind.u64.bits))) &&& BitVec.ofInt IntKind.u64.bits 1).toNat))).toNat))>=bl) then oB (z6.sh F (u64.wrap ((BitVec.ofInt IntKind.u64.bits (u64.wrap (rl*2^(min (1:Int).toNat IntKind.u64.bits))) ||| BitVec.ofInt IntKind.u64.bits (u64.wrap ((BitVec.ofInt IntKind.u64.bits (al.fdiv (2^(min i.toNat IntKind.u64.bits))) &&& BitVec.ofInt IntKind.u64.bits 1).toNat))).toNat)) bl 0) fun c_4 =>
 oB (z6.sh F (u64.wrap ((BitVec.ofInt IntKind.u64.bits (u64.wrap (rh*2^(min (1:Int).toNat IntKind.u64.bits))) ||| BitVec.ofInt IntKind.u64.bits (rl.fdiv (2^(min (63:Int).toNat IntKind.u64.bits)))).toNat)) bh c_4.1.2.1) fun c_5 =>
 bif decide (0<=i) then rec al bh bl (u64.wrap ((BitVec.ofInt IntKind.u64.bits ql ||| BitVec.ofInt IntKind.u64.bits (u64.wrap (1*2^(min i.toNat IntKind.u64.bits)))).toNat)) c_5.1.1 c_4.1.1 (i64.wrap (i-1))
 else none
 else rec al bh bl ql (u64.wrap ((BitVec.ofInt IntKind.u64.bits (u64.wrap (rh*2^(min (1:Int).toNat IntKind.u64.bits))) ||| BitVec.ofInt IntKind.u64.bits (rl.fdiv (2^(min (63:Int).toNat IntKind.u64.bits)))).toNat)) (u64.wrap ((BitVec.ofInt IntKind.u64.bits (u64.wrap (rl*2^(min (1:Int).toNat IntKind.u64.bits))) ||| BitVec.ofInt IntKind.u64.bits (u64.wrap ((BitVec.ofInt IntKind.u64.bits (al.fdiv (2^(min i.toNat IntKind.u64.bits))) &&& BitVec.ofInt IntKind.u64.bits 1).toNat))).toNat)) (i64.wrap (i-1))
 else rec al bh bl ql (u64.wrap ((BitVec.ofInt IntKind.u64.bits (u64.wrap (rh*2^(min (1:Int).toNat IntKind.u64.bits))) ||| BitVec.ofInt IntKind.u64.bits (rl.fdiv (2^(min (63:Int).toNat IntKind.u64.bits)))).toNat)) (u64.wrap ((BitVec.ofInt IntKind.u64.bits (u64.wrap (rl*2^(min (1:Int).toNat IntKind.u64.bits))) ||| BitVec.ofInt IntKind.u64.bits (u64.wrap ((BitVec.ofInt IntKind.u64.bits (al.fdiv (2^(min i.toNat IntKind.u64.bits))) &&& BitVec.ofInt IntKind.u64.bits 1).toNat))).toNat)) (i64.wrap (i-1))
 else none
 else k0 al bh bl ql rh rl i (decide (i>=0))
def zS.l7 {R:Type} (F:Nat) (k0:zS.l7.K0 R):Nat->zS.l7.T R
 | 0,_,_,_,_,_,_,_=>none
 | fu+1,al,bh,bl,ql,rh,rl,i=>zS.l7.body F k0 (zS.l7 F k0 fu) al bh bl ql rh rl i
def zS.sh (F:Nat) (ah:Int) (al:Int) (bh:Int) (bl:Int):Option zS.sg.R :=
 bif (bh==0) then bif (bl != 0) then bif (bl != 0) then oB (zl.sh F (ah.tmod bl) al bl) fun c_1 =>
 some ((u64.wrap (ah.tdiv bl),c_1.1.1,0,c_1.1.2.1,()),())
 else none
 else none
 else zS.l7 F (fun al6 bh6 bl6 ql6 rh6 rl6 i6 t346=>some ((0,ql6,rh6,rl6,()),())) F al bh bl 0 0 ah 63
def zS.sp (F:Nat):TA zS.sg.args->Option zS.sg.R:=fun x=>zS.sh F x.1 x.2.1 x.2.2.1 x.2.2.2.1
@[reducible] def yO.sg:Sig:={args:=[.d (.g zd),.d (.g zd)],res:=[.g zd,.g zd,.c (.int .i64)]}
def yO.sh (F:Nat) (a:zd.T) (b:zd.T):Option yO.sg.R :=
 bif ((b.1==0)&&((b.2==0)&&true)) then some (((0,0),(0,0),20,()),())
 else oB (xD.sh F a) fun c_1 =>
 oB (xD.sh F b) fun c_2 =>
 oB (zS.sh F c_1.1.1 c_1.1.2.1 c_2.1.1 c_2.1.2.1) fun c_3 =>
 oB (xG.sh F (!(decide (a.1<0)==decide (b.1<0))) c_3.1.1 c_3.1.2.1) fun c_4 =>
 bif (c_4.1.2.1 != 0) then some (((0,0),(0,0),c_4.1.2.1,()),())
 else oB (xG.sh F (decide (a.1<0)) c_3.1.2.2.1 c_3.1.2.2.2.1) fun c_5 =>
 some ((c_4.1.1,c_5.1.1,c_5.1.2.1,()),())
def yO.sp (F:Nat):TA yO.sg.args->Option yO.sg.R:=fun x=>yO.sh F x.1 x.2.1
@[reducible] def xw.sg:Sig:={args:=[.d (.g zd),.d (.g zd),.d (.g zd),.d (.c (.int .i64))],res:=[.c .bool]}
def xw.sh (F:Nat) (q:zd.T) (r:zd.T) (b:zd.T) (mode:Int):Option xw.sg.R :=
 bif (mode==0) then some (((!(decide (r.1<0)==decide (b.1<0))),()),())
 else bif (mode==1) then some ((!(!(decide (r.1<0)==decide (b.1<0))),()),())
 else bif (mode==2) then some ((false,()),())
 else oB (xD.sh F r) fun c_1 =>
 oB (xD.sh F b) fun c_2 =>
 oB (z6.sh F c_2.1.2.1 c_1.1.2.1 0) fun c_3 =>
 oB (z6.sh F c_2.1.1 c_1.1.1 c_3.1.2.1) fun c_4 =>
 bif decide (c_1.1.1>c_4.1.1) then some ((true,()),())
 else bif (c_1.1.1==c_4.1.1) then bif decide (c_1.1.2.1>c_3.1.1) then some ((true,()),())
 else bif (c_1.1.1==c_4.1.1) then bif (c_1.1.2.1==c_3.1.1) then bif (mode==3) then some ((true,()),())
 else some ((((u64.wrap ((BitVec.ofInt IntKind.u64.bits q.2 &&& BitVec.ofInt IntKind.u64.bits 1).toNat))==1),()),())
 else some ((false,()),())
 else some ((false,()),())
 else bif (c_1.1.1==c_4.1.1) then bif (c_1.1.2.1==c_3.1.1) then bif (mode==3) then some ((true,()),())
 else some ((((u64.wrap ((BitVec.ofInt IntKind.u64.bits q.2 &&& BitVec.ofInt IntKind.u64.bits 1).toNat))==1),()),())
 else some ((false,()),())
 else some ((false,()),())
def xw.sp (F:Nat):TA xw.sg.args->Option xw.sg.R:=fun x=>xw.sh F x.1 x.2.1 x.2.2.1 x.2.2.2.1
@[reducible] def xA.sg:Sig:={args:=[.d (.g zd),.d (.g zd)],res:=[.g zd,.c (.int .i64)]}
def xA.sh (F:Nat) (a:zd.T) (b:zd.T):Option xA.sg.R :=
 oB (yh.sh F a.2 b.2 0) fun c_1 =>
 oB (yh.sh F (u64.wrap a.1) (u64.wrap b.1) c_1.1.2.1) fun c_2 =>
 bif (decide (a.1<0)==decide (b.1<0)) then bif (!(decide ((i64.wrap c_2.1.1)<0)==decide (a.1<0))) then some (((0,0),10,()),())
 else some (((i64.wrap c_2.1.1,c_1.1.1),0,()),())
 else some (((i64.wrap c_2.1.1,c_1.1.1),0,()),())
def xA.sp (F:Nat):TA xA.sg.args->Option xA.sg.R:=fun x=>xA.sh F x.1 x.2.1
@[reducible] def y9.sg:Sig:={args:=[.d (.g zd),.d (.g zd),.d (.c (.int .i64))],res:=[.g zd,.c (.int .i64)]}
def y9.sh (F:Nat) (a:zd.T) (b:zd.T) (mode:Int):Option y9.sg.R :=
 bif decide (mode<0) then some (((0,0),1,()),())
 else bif decide (mode>4) then some (((0,0),1,()),())
 else oB (yO.sh F a b) fun c_1 =>
 bif (c_1.1.2.2.1 != 0) then some ((c_1.1.1,c_1.1.2.2.1,()),())
 else bif ((c_1.1.2.1.1==0)&&((c_1.1.2.1.2==0)&&true)) then some ((c_1.1.1,c_1.1.2.2.1,()),())
 else oB (xw.sh F c_1.1.1 c_1.1.2.1 b mode) fun c_2 =>
 bif !c_2.1.1 then some ((c_1.1.1,c_1.1.2.2.1,()),())
 else bif (!(decide (a.1<0)==decide (b.1<0))) then oB (zR.sh F 1) fun c_3 =>
 oB (xz.sh F c_1.1.1 c_3.1.1) fun c_4 =>
 some ((c_4.1.1,c_4.1.2.1,()),())
 else oB (zR.sh F 1) fun c_5 =>
 oB (xA.sh F c_1.1.1 c_5.1.1) fun c_6 =>
 some ((c_6.1.1,c_6.1.2.1,()),())
def y9.sp (F:Nat):TA y9.sg.args->Option y9.sg.R:=fun x=>y9.sh F x.1 x.2.1 x.2.2.1
@[reducible] def xR.sg:Sig:={args:=[.d (.c (.int .i64))],res:=[.c (.int .i64)]}
def xR.sh (F:Nat) (v:Int):Option xR.sg.R :=
 some (((if i64.wrap (0-v)>v then i64.wrap (0-v) else v),()),())
def xR.sp (F:Nat):TA xR.sg.args->Option xR.sg.R:=fun x=>xR.sh F x.1
@[reducible] def ye.sg:Sig:={args:=[.io zU [],.d (.g zd),.d (.g zd)],res:=[.g zd]}
def ye.sh (F:Nat) (m:zU.T) (a:zd.T) (b:zd.T):Option ye.sg.R :=
 oB (xA.sh F a b) fun c_1 =>
 oB (yd.sh F m c_1.1.1 c_1.1.2.1) fun c_2 =>
 some ((c_2.1.1,()),(c_2.2.1,()))
def ye.sp (F:Nat):TA ye.sg.args->Option ye.sg.R:=fun x=>ye.sh F x.1 x.2.1 x.2.2.1
@[reducible] def zu.sg:Sig:={args:=[.io zU [],.d (.g zd),.d (.b zN)],res:=[.g zd]}
abbrev zu.l3.K0 (R:Type):Type:=(List zN.T)->Int->(List zN.T)->Int->Int->Bool->zU.T->zd.T->zd.T->zd.T->Option R
abbrev zu.l3.T (R:Type):Type:=(List zN.T)->Int->(List zN.T)->Int->Int->zU.T->zd.T->zd.T->zd.T->Option R
def zu.l3.body {R:Type} (F:Nat) (k0:zu.l3.K0 R) (rec:zu.l3.T R) (tiers:List zN.T) (rate:Int) (t13:List zN.T) (t14:Int) (t15:Int) (m:zU.T) (x:zd.T) (r6:zd.T) (ways:zd.T):Option R :=
 bif decide (t15<t14) then bif idx t15 t13.length then oB (xR.sh F (get zN t13 t15.toNat).2) fun c_1 =>
 bif decide ((i64.wrap (t15+1))<(tiers.length:Int)) then oB (xR.sh F (get zN t13 t15.toNat).2) fun c_2 =>
 oB (zR.sh F c_2.1.1) fun c_3 =>
 bif idx (i64.wrap (t15+1)) tiers.length then oB (zR.sh F (i64.wrap ((get zN tiers ((i64.wrap (t15+1)).toNat)).1-(get zN t13 t15.toNat).1))) fun c_4 =>
 oB (ya.sh F m c_3.1.1 c_4.1.1) fun c_5 =>
 bif (((m.1.1==c_5.2.1.1.1)&&((m.1.2==c_5.2.1.1.2)&&true))&&true) then oB (ye.sh F c_5.2.1 ways c_5.1.1) fun c_6 =>
 bif (((c_5.2.1.1.1==c_6.2.1.1.1)&&((c_5.2.1.1.2==c_6.2.1.1.2)&&true))&&true) then rec tiers (if c_1.1.1>rate then c_1.1.1 else rate) t13 t14 (i64.wrap (t15+1)) c_6.2.1 x r6 c_6.1.1
 else none
 else none
 else none
 else rec tiers (if c_1.1.1>rate then c_1.1.1 else rate) t13 t14 (i64.wrap (t15+1)) m x r6 ways
 else none
 else k0 tiers rate t13 t14 t15 (decide (t15<t14)) m x r6 ways
def zu.l3 {R:Type} (F:Nat) (k0:zu.l3.K0 R):Nat->zu.l3.T R
 | 0,_,_,_,_,_,_,_,_,_=>none
 | fu+1,tiers,rate,t13,t14,t15,m,x,r6,ways=>zu.l3.body F k0 (zu.l3 F k0 fu) tiers rate t13 t14 t15 m x r6 ways
def zu.sh (F:Nat) (m:zU.T) (x:zd.T) (tiers:List zN.T):Option zu.sg.R :=
 zu.l3 F (fun tiers7 rate7 t137 t147 t157 t167 m7 x7 r67 ways7=>bif idx (i64.wrap ((tiers7.length:Int)-1)) tiers7.length then oB (zR.sh F (get zN tiers7 ((i64.wrap ((tiers7.length:Int)-1)).toNat)).1) fun c_8 =>
 oB (ye.sh F m7 x7 c_8.1.1) fun c_9 =>
 bif (((m7.1.1==c_9.2.1.1.1)&&((m7.1.2==c_9.2.1.1.2)&&true))&&true) then oB (zR.sh F rate7) fun c_10 =>
 oB (ya.sh F c_9.2.1 c_10.1.1 c_9.1.1) fun c_11 =>
 bif (((c_9.2.1.1.1==c_11.2.1.1.1)&&((c_9.2.1.1.2==c_11.2.1.1.2)&&true))&&true) then oB (ye.sh F c_11.2.1 c_11.1.1 ways7) fun c_12 =>
 bif (((c_11.2.1.1.1==c_12.2.1.1.1)&&((c_11.2.1.1.2==c_12.2.1.1.2)&&true))&&true) then oB (ya.sh F c_12.2.1 c_9.2.1.1 c_12.1.1) fun c_13 =>
 bif (((c_12.2.1.1.1==c_13.2.1.1.1)&&((c_12.2.1.1.2==c_13.2.1.1.2)&&true))&&true) then some ((c_13.1.1,()),(c_13.2.1,()))
 else none
 else none
 else none
 else none
 else none) F tiers 0 tiers (tiers.length:Int) 0 m x (0,0) (0,0)
def zu.sp (F:Nat):TA zu.sg.args->Option zu.sg.R:=fun x=>zu.sh F x.1 x.2.1 x.2.2.1
@[reducible] def yp.sg:Sig:={args:=[.d (.b zd)],res:=[.g zd,.c (.int .i64)]}
abbrev yp.l4.K0 (R:Type):Type:=Int->Int->Int->(List zd.T)->Int->Int->Bool->zd.T->Option R
abbrev yp.l4.T (R:Type):Type:=Int->Int->Int->(List zd.T)->Int->Int->zd.T->Option R
def yp.l4.body {R:Type} (F:Nat) (k0:yp.l4.K0 R) (rec:yp.l4.T R) (lo:Int) (hi:Int) (top:Int) (t11:List zd.T) (t12:Int) (t13:Int) (r2:zd.T):Option R :=
 bif decide (t13<t12) then bif idx t13 t11.length then oB (yh.sh F lo (get zd t11 t13.toNat).2 0) fun c_1 =>
 oB (yh.sh F hi (u64.wrap (get zd t11 t13.toNat).1) c_1.1.2.1) fun c_2 =>
 rec c_1.1.1 c_2.1.1 (i64.wrap (top+(i64.wrap (((get zd t11 t13.toNat).1.fdiv (2^(min (63:Int).toNat IntKind.i64.bits)))+(i64.wrap c_2.1.2.1))))) t11 t12 (i64.wrap (t13+1)) r2
 else none
 else k0 lo hi top t11 t12 t13 (decide (t13<t12)) r2
def yp.l4 {R:Type} (F:Nat) (k0:yp.l4.K0 R):Nat->yp.l4.T R
 | 0,_,_,_,_,_,_,_=>none
 | fu+1,lo,hi,top,t11,t12,t13,r2=>yp.l4.body F k0 (yp.l4 F k0 fu) lo hi top t11 t12 t13 r2
def yp.sh (F:Nat) (list:List zd.T):Option yp.sg.R :=
 yp.l4 F (fun lo3 hi3 top3 t113 t123 t133 t143 r23=>bif (top3 != ((i64.wrap hi3).fdiv (2^(min (63:Int).toNat IntKind.i64.bits)))) then some (((0,0),10,()),())
 else some (((i64.wrap hi3,lo3),0,()),())) F 0 0 0 list (list.length:Int) 0 (0,0)
def yp.sp (F:Nat):TA yp.sg.args->Option yp.sg.R:=fun x=>yp.sh F x.1
@[reducible] def zy.sg:Sig:={args:=[.io zU [],.d (.g zL),.d (.g zb),.d (.b zd)],res:=[.g zd]}
def zy.j18 {R:Type} (F:Nat) (k0:zU.T->zd.T->Option R) (kids:List zd.T) (m:zU.T) (n:zb.T) (r8:zd.T):Option R :=
 oB (yp.sh F kids) fun c_13 =>
 oB (yd.sh F m c_13.1.1 c_13.1.2.1) fun c_14 =>
 bif (n.1==11) then oB (zR.sh F n.2.1) fun c_15 =>
 oB (ye.sh F c_14.2.1 c_14.1.1 c_15.1.1) fun c_16 =>
 k0 c_16.2.1 c_16.1.1
 else bif (n.1==12) then oB (zR.sh F n.2.1) fun c_17 =>
 oB (ye.sh F c_14.2.1 c_14.1.1 c_17.1.1) fun c_18 =>
 k0 c_18.2.1 c_18.1.1
 else bif (n.1==16) then oB (zR.sh F n.2.1) fun c_19 =>
 oB (ye.sh F c_14.2.1 c_14.1.1 c_19.1.1) fun c_20 =>
 k0 c_20.2.1 c_20.1.1
 else k0 c_14.2.1 c_14.1.1
def zy.sh (F:Nat) (m:zU.T) (p:zL.T) (n:zb.T) (kids:List zd.T):Option zy.sg.R :=
 bif (n.1==1) then oB (zR.sh F n.2.1) fun c_1 =>
 some ((c_1.1.1,()),(m,()))
 else bif (n.1==2) then oB (zR.sh F n.2.1) fun c_2 =>
 oB (ya.sh F m c_2.1.1 m.1) fun c_3 =>
 some ((c_3.1.1,()),(c_3.2.1,()))
 else bif (n.1==3) then oB (zR.sh F 1099511627776) fun c_4 =>
 some ((c_4.1.1,()),(m,()))
 else bif (n.1==4) then oB (zR.sh F 1099511627776) fun c_5 =>
 bif idx n.2.1 p.2.1.length then oB (zR.sh F (get yy p.2.1 n.2.1.toNat).2) fun c_6 =>
 oB (y9.sh F c_5.1.1 c_6.1.1 1) fun c_7 =>
 oB (yd.sh F m c_7.1.1 c_7.1.2.1) fun c_8 =>
 some ((c_8.1.1,()),(c_8.2.1,()))
 else none
 else bif (n.1==8) then bif idx 0 kids.length then bif idx 1 kids.length then oB (ya.sh F m (get zd kids 0) (get zd kids 1)) fun c_9 =>
 some ((c_9.1.1,()),(c_9.2.1,()))
 else none
 else none
 else bif (n.1==13) then bif (n.1==13) then bif idx 0 kids.length then oB (zu.sh F m (get zd kids 0) n.2.2.2.2.1) fun c_10 =>
 some ((c_10.1.1,()),(c_10.2.1,()))
 else none
 else bif (n.1==15) then bif idx 0 kids.length then oB (zR.sh F 10000) fun c_11 =>
 oB (ya.sh F m (get zd kids 0) c_11.1.1) fun c_12 =>
 bif idx 0 kids.length then some (((get zd kids 0),()),(c_12.2.1,()))
 else none
 else none
 else zy.j18 F (fun m21 r821=>some ((r821,()),(m21,()))) kids m n (0,0)
 else bif (n.1==14) then bif idx 0 kids.length then oB (zu.sh F m (get zd kids 0) n.2.2.2.2.1) fun c_22 =>
 some ((c_22.1.1,()),(c_22.2.1,()))
 else none
 else bif (n.1==15) then bif idx 0 kids.length then oB (zR.sh F 10000) fun c_23 =>
 oB (ya.sh F m (get zd kids 0) c_23.1.1) fun c_24 =>
 bif idx 0 kids.length then some (((get zd kids 0),()),(c_24.2.1,()))
 else none
 else none
 else zy.j18 F (fun m25 r825=>some ((r825,()),(m25,()))) kids m n (0,0)
def zy.sp (F:Nat):TA zy.sg.args->Option zy.sg.R:=fun x=>zy.sh F x.1 x.2.1 x.2.2.1 x.2.2.2.1
@[reducible] def xp.sg:Sig:={args:=[.d (.g zd),.d (.g zd)],res:=[.c (.int .i64)]}
def xp.sh (F:Nat) (a:zd.T) (b:zd.T):Option xp.sg.R :=
 bif ((a.1==b.1)&&((a.2==b.2)&&true)) then some ((0,()),())
 else bif decide (a.1<b.1) then bif decide (a.1<b.1) then some (((-1),()),())
 else some ((1,()),())
 else bif (a.1==b.1) then bif decide (a.2<b.2) then some (((-1),()),())
 else some ((1,()),())
 else some ((1,()),())
def xp.sp (F:Nat):TA xp.sg.args->Option xp.sg.R:=fun x=>xp.sh F x.1 x.2.1
@[reducible] def xn.sg:Sig:={args:=[.d (.g zb),.d (.g zd)],res:=[.c .bool]}
def xn.sh (F:Nat) (n:zb.T) (mag:zd.T):Option xn.sg.R :=
 bif (n.1==15) then oB (zR.sh F 10000) fun c_1 =>
 oB (yf.sh F mag c_1.1.1) fun c_2 =>
 oB (xp.sh F c_2.1.1 (72057594037927936,0)) fun c_3 =>
 some ((decide (c_3.1.1>0),()),())
 else oB (xp.sh F mag (72057594037927936,0)) fun c_4 =>
 some ((decide (c_4.1.1>0),()),())
def xn.sp (F:Nat):TA xn.sg.args->Option xn.sg.R:=fun x=>xn.sh F x.1 x.2.1
@[reducible] def zt.sg:Sig:={args:=[.d (.g zL),.d (.g zd)],res:=[.c (.sl zd),.c (.int .i64)]}
abbrev zt.l4.K0 (R:Type):Type:=(List zd.T)->Int->Option R
abbrev zt.l4.K1 (R:Type):Type:=(List zb.T)->Int->Int->Bool->zL.T->zU.T->(List zd.T)->(List zd.T)->Option R
abbrev zt.l4.T (R:Type):Type:=(List zb.T)->Int->Int->zL.T->zU.T->(List zd.T)->(List zd.T)->Option R
def zt.l4.body {R:Type} (F:Nat) (k0:zt.l4.K0 R) (k1:zt.l4.K1 R) (rec:zt.l4.T R) (t17:List zb.T) (t18:Int) (t19:Int) (p:zL.T) (m:zU.T) (mags:List zd.T) (pile:List zd.T):Option R :=
 bif decide (t19<t18) then bif idx t19 t17.length then oB (zV.sh F (get zb t17 t19.toNat)) fun c_1 =>
 bif (zA pile.length (some (i64.wrap ((pile.length:Int)-c_1.1.1))) none).1 then oB (zy.sh F m p (get zb t17 t19.toNat) ((List.take (zA pile.length (some (i64.wrap ((pile.length:Int)-c_1.1.1))) none).2.2 pile).drop (zA pile.length (some (i64.wrap ((pile.length:Int)-c_1.1.1))) none).2.1)) fun c_2 =>
 bif c_2.2.1.2 then k0 ([]) t19
 else oB (xn.sh F (get zb t17 t19.toNat) c_2.1.1) fun c_3 =>
 bif c_3.1.1 then k0 ([]) t19
 else bif Nat.ble (mags.length+([c_2.1.1]:List zd.T).length) xu then bif (zA pile.length none (some (i64.wrap ((pile.length:Int)-c_1.1.1)))).1 then bif Nat.ble ((zA pile.length none (some (i64.wrap ((pile.length:Int)-c_1.1.1)))).2.2+([c_2.1.1]:List zd.T).length) xu then rec t17 t18 (i64.wrap (t19+1)) p c_2.2.1 (mags++([c_2.1.1]:List zd.T)) (pile.take (zA pile.length none (some (i64.wrap ((pile.length:Int)-c_1.1.1)))).2.2++([c_2.1.1]:List zd.T))
 else none
 else none
 else none
 else none
 else none
 else k1 t17 t18 t19 (decide (t19<t18)) p m mags pile
def zt.l4 {R:Type} (F:Nat) (k0:zt.l4.K0 R) (k1:zt.l4.K1 R):Nat->zt.l4.T R
 | 0,_,_,_,_,_,_,_=>none
 | fu+1,t17,t18,t19,p,m,mags,pile=>zt.l4.body F k0 k1 (zt.l4 F k0 k1 fu) t17 t18 t19 p m mags pile
def zt.j13 {R:Type} (F:Nat) (k0:(List zd.T)->Int->Option R) (mags:List zd.T):Option R :=
 k0 mags (-1)
def zt.sh (F:Nat) (p:zL.T) (unit:zd.T):Option zt.sg.R :=
 zt.l4 F (fun r44 r54=>some ((r44,r54,()),())) (fun t175 t185 t195 t205 p5 m5 mags5 pile5=>zt.j13 F (fun r46 r56=>some ((r46,r56,()),())) mags5) F p.2.2.2 (p.2.2.2.length:Int) 0 p (unit,false) ([]) ([])
def zt.sp (F:Nat):TA zt.sg.args->Option zt.sg.R:=fun x=>zt.sh F x.1 x.2.1
@[reducible] def yX.sg:Sig:={args:=[.d (.g zL)],res:=[.g zd,.c (.int .i64),.c (.int .i64)]}
def yX.sh (F:Nat) (p:zL.T):Option yX.sg.R :=
 oB (zo.sh F p) fun c_1 =>
 bif (c_1.1.2.2.1 != 0) then some (((0,0),c_1.1.2.1,c_1.1.2.2.1,()),())
 else oB (zF.sh F p) fun c_2 =>
 bif decide (c_2.1.1>6) then some (((0,0),i64.wrap ((p.2.2.2.length:Int)-1),90,()),())
 else oB (zQ.sh F c_2.1.1) fun c_3 =>
 oB (zt.sh F p c_3.1.1) fun c_4 =>
 bif decide (c_4.1.2.1>=0) then some (((0,0),c_4.1.2.1,90,()),())
 else some ((c_3.1.1,0,c_3.1.2.1,()),())
def yX.sp (F:Nat):TA yX.sg.args->Option yX.sg.R:=fun x=>yX.sh F x.1
@[reducible] def yb.sg:Sig:={args:=[.d (.g zb)],res:=[.c (.int .i64)]}
def yb.j10 {R:Type} (F:Nat) (k0:Int->Option R) (k1:Int->Option R) (k2:Int->Option R) (k3:Bool->Option R) (t4:Int) (t10:Bool) (n:zb.T):Option R :=
 bif t10 then k0 2
 else bif (t4==9) then bif (t4==9) then k1 n.2.2.2.1
 else bif (t4==16) then k2 3
 else k3 (t4==16)
 else bif (t4==10) then k1 n.2.2.2.1
 else bif (t4==16) then k2 3
 else k3 (t4==16)
def yb.j6 {R:Type} (F:Nat) (k0:Int->Option R) (k1:Int->Option R) (k2:Int->Option R) (k3:Int->Option R) (k4:Bool->Option R) (t4:Int) (t5:Bool) (n:zb.T):Option R :=
 bif t5 then k0 0
 else bif (t4==6) then yb.j10 F (fun r21=>k1 r21) (fun r22=>k2 r22) (fun r23=>k3 r23) (fun t194=>k4 t194) t4 (t4==6) n
 else bif (t4==7) then yb.j10 F (fun r25=>k1 r25) (fun r26=>k2 r26) (fun r27=>k3 r27) (fun t198=>k4 t198) t4 (t4==7) n
 else yb.j10 F (fun r29=>k1 r29) (fun r210=>k2 r210) (fun r211=>k3 r211) (fun t1912=>k4 t1912) t4 (t4==8) n
def yb.sh (F:Nat) (n:zb.T):Option yb.sg.R :=
 bif (n.1==1) then yb.j6 F (fun r213=>some ((r213,()),())) (fun r214=>some ((r214,()),())) (fun r215=>some ((r215,()),())) (fun r216=>some ((r216,()),())) (fun t1917=>some ((1,()),())) n.1 (n.1==1) n
 else bif (n.1==2) then yb.j6 F (fun r218=>some ((r218,()),())) (fun r219=>some ((r219,()),())) (fun r220=>some ((r220,()),())) (fun r221=>some ((r221,()),())) (fun t1922=>some ((1,()),())) n.1 (n.1==2) n
 else bif (n.1==3) then yb.j6 F (fun r223=>some ((r223,()),())) (fun r224=>some ((r224,()),())) (fun r225=>some ((r225,()),())) (fun r226=>some ((r226,()),())) (fun t1927=>some ((1,()),())) n.1 (n.1==3) n
 else yb.j6 F (fun r228=>some ((r228,()),())) (fun r229=>some ((r229,()),())) (fun r230=>some ((r230,()),())) (fun r231=>some ((r231,()),())) (fun t1932=>some ((1,()),())) n.1 (n.1==4) n
def yb.sp (F:Nat):TA yb.sg.args->Option yb.sg.R:=fun x=>yb.sh F x.1
@[reducible] def yT.sg:Sig:=tO (.tr zb)
def yT.sh (_F:Nat) (l:List (LTr zb.T)):Option yT.sg.R:=qD (.tr zb) l
def yT.sp (F:Nat):TA yT.sg.args->Option yT.sg.R:=fun x=>yT.sh F x.1
@[reducible] def zH.sg:Sig:={args:=[.d (.b zb)],res:=[.c (.tr zb)]}
abbrev zH.l3.K0 (R:Type):Type:=(List zb.T)->Int->Int->Bool->(List (LTr zb.T))->Option R
abbrev zH.l3.T (R:Type):Type:=(List zb.T)->Int->Int->(List (LTr zb.T))->Option R
def zH.l3.body {R:Type} (F:Nat) (k0:zH.l3.K0 R) (rec:zH.l3.T R) (t7:List zb.T) (t8:Int) (t9:Int) (pile:List (LTr zb.T)):Option R :=
 bif decide (t9<t8) then bif idx t9 t7.length then oB (yb.sh F (get zb t7 t9.toNat)) fun c_1 =>
 bif (zA pile.length none (some (i64.wrap ((pile.length:Int)-c_1.1.1)))).1 then bif (zA pile.length (some (i64.wrap ((pile.length:Int)-c_1.1.1))) none).1 then oB (yT.sh F ((List.take (zA pile.length (some (i64.wrap ((pile.length:Int)-c_1.1.1))) none).2.2 pile).drop (zA pile.length (some (i64.wrap ((pile.length:Int)-c_1.1.1))) none).2.1)) fun c_2 =>
 bif Nat.ble ((zA pile.length none (some (i64.wrap ((pile.length:Int)-c_1.1.1)))).2.2+([(LTr.nd (get zb t7 t9.toNat) c_2.1.1)]:List (LTr zb.T)).length) xu then rec t7 t8 (i64.wrap (t9+1)) (pile.take (zA pile.length none (some (i64.wrap ((pile.length:Int)-c_1.1.1)))).2.2++([(LTr.nd (get zb t7 t9.toNat) c_2.1.1)]:List (LTr zb.T)))
 else none
 else none
 else none
 else none
 else k0 t7 t8 t9 (decide (t9<t8)) pile
def zH.l3 {R:Type} (F:Nat) (k0:zH.l3.K0 R):Nat->zH.l3.T R
 | 0,_,_,_,_=>none
 | fu+1,t7,t8,t9,pile=>zH.l3.body F k0 (zH.l3 F k0 fu) t7 t8 t9 pile
def zH.j8 {R:Type} (F:Nat) (k0:(LTr zb.T)->Option R) (pile:List (LTr zb.T)):Option R :=
 bif idx 0 pile.length then k0 (get (.tr zb) pile 0)
 else none
def zH.sh (F:Nat) (nodes:List zb.T):Option zH.sg.R :=
 zH.l3 F (fun t73 t83 t93 t103 pile3=>zH.j8 F (fun r24=>some ((r24,()),())) pile3) F nodes (nodes.length:Int) 0 ([])
def zH.sp (F:Nat):TA zH.sg.args->Option zH.sg.R:=fun x=>zH.sh F x.1
@[reducible] def zD.sg:Sig:={args:=[.d (.b zN),.d (.b zN)],res:=[.c .bool]}
abbrev zD.l4.K1 (R:Type):Type:=(List zN.T)->(List zN.T)->Int->Int->Bool->Option R
abbrev zD.l4.T (R:Type):Type:=(List zN.T)->(List zN.T)->Int->Int->Option R
def zD.l4.body {R:Type} (F:Nat) (k0:Bool->Option R) (k1:zD.l4.K1 R) (rec:zD.l4.T R) (s1:List zN.T) (s2:List zN.T) (t12:Int) (t13:Int):Option R :=
 bif decide (t13<t12) then bif idx t13 s1.length then bif idx t13 s2.length then bif !(((get zN s1 t13.toNat).1==(get zN s2 t13.toNat).1)&&(((get zN s1 t13.toNat).2==(get zN s2 t13.toNat).2)&&true)) then k0 false
 else rec s1 s2 t12 (i64.wrap (t13+1))
 else none
 else none
 else k1 s1 s2 t12 t13 (decide (t13<t12))
def zD.l4 {R:Type} (F:Nat) (k0:Bool->Option R) (k1:zD.l4.K1 R):Nat->zD.l4.T R
 | 0,_,_,_,_=>none
 | fu+1,s1,s2,t12,t13=>zD.l4.body F k0 k1 (zD.l4 F k0 k1 fu) s1 s2 t12 t13
def zD.sh (F:Nat) (s1:List zN.T) (s2:List zN.T):Option zD.sg.R :=
 bif ((s1.length:Int) != (s2.length:Int)) then some ((false,()),())
 else zD.l4 F (fun r41=>some ((r41,()),())) (fun s12 s22 t122 t132 t142=>some ((true,()),())) F s1 s2 (s1.length:Int) 0
def zD.sp (F:Nat):TA zD.sg.args->Option zD.sg.R:=fun x=>zD.sh F x.1 x.2.1
@[reducible] def zZ.sg:Sig:={args:=[.d (.c (.tr zb)),.d (.c (.tr zb))],res:=[.c .bool]}
abbrev zZ.M:Type:=(LTr zb.T)->(LTr zb.T)->Option zZ.sg.R
@[reducible] def zh.sg:Sig:={args:=[.d (.b (.tr zb)),.d (.b (.tr zb)),.d (.c .fn)],res:=[.c .bool]}
@[reducible] def zh.ds29:Sig:={args:=[.d (.c (.tr zb)),.d (.c (.tr zb))],res:=[.c .bool]}
def zh.d29 (me:zZ.M) (F:Nat):Nat->TA zh.ds29.args->Option zh.ds29.R:=mkT zh.ds29 [(uU,fun x=>me x.1 x.2.1)]
abbrev zh.l4.K1 (R:Type):Type:=(List (LTr zb.T))->Nat->(List (LTr zb.T))->Int->Int->Bool->Option R
abbrev zh.l4.T (R:Type):Type:=(List (LTr zb.T))->Nat->(List (LTr zb.T))->Int->Int->Option R
def zh.l4.body {R:Type} (me:zZ.M) (F:Nat) (k0:Bool->Option R) (k1:zh.l4.K1 R) (rec:zh.l4.T R) (s2:List (LTr zb.T)) (eq:Nat) (t15:List (LTr zb.T)) (t16:Int) (t17:Int):Option R :=
 bif decide (t17<t16) then bif idx t17 t15.length then bif idx t17 s2.length then oB (zh.d29 me F eq (get (.tr zb) t15 t17.toNat,get (.tr zb) s2 t17.toNat,())) fun c_1 =>
 bif !c_1.1.1 then k0 false
 else rec s2 eq t15 t16 (i64.wrap (t17+1))
 else none
 else none
 else k1 s2 eq t15 t16 t17 (decide (t17<t16))
def zh.l4 {R:Type} (me:zZ.M) (F:Nat) (k0:Bool->Option R) (k1:zh.l4.K1 R):Nat->zh.l4.T R
 | 0,_,_,_,_,_=>none
 | fu+1,s2,eq,t15,t16,t17=>zh.l4.body me F k0 k1 (zh.l4 me F k0 k1 fu) s2 eq t15 t16 t17
def zh.sh (me:zZ.M) (F:Nat) (s1:List (LTr zb.T)) (s2:List (LTr zb.T)) (eq:Nat):Option zh.sg.R :=
 bif ((s1.length:Int) != (s2.length:Int)) then some ((false,()),())
 else zh.l4 me F (fun r62=>some ((r62,()),())) (fun s23 eq3 t153 t163 t173 t183=>some ((true,()),())) F s2 eq s1 (s1.length:Int) 0
def zh.sp (me:zZ.M) (F:Nat):TA zh.sg.args->Option zh.sg.R:=fun x=>zh.sh me F x.1 x.2.1 x.2.2.1
def zZ.sh0 (me:zZ.M) (F:Nat) (x:LTr zb.T) (y:LTr zb.T):Option zZ.sg.R :=
 bif LTr.isNd x then bif LTr.isNd y then bif ((LTr.lab (Ty.dflt zb) x).1==(LTr.lab (Ty.dflt zb) y).1) then bif ((LTr.lab (Ty.dflt zb) x).2.1==(LTr.lab (Ty.dflt zb) y).2.1) then bif ((LTr.lab (Ty.dflt zb) x).2.2.1==(LTr.lab (Ty.dflt zb) y).2.2.1) then bif ((LTr.lab (Ty.dflt zb) x).2.2.2.1==(LTr.lab (Ty.dflt zb) y).2.2.2.1) then oB (zD.sh F (LTr.lab (Ty.dflt zb) x).2.2.2.2.1 (LTr.lab (Ty.dflt zb) y).2.2.2.2.1) fun c_1 =>
 bif c_1.1.1 then bif LTr.isNd x then bif LTr.isNd y then oB (zh.sh me F (LTr.kids x) (LTr.kids y) uU) fun c_2 =>
 some ((c_2.1.1,()),())
 else none
 else none
 else some ((false,()),())
 else some ((false,()),())
 else some ((false,()),())
 else some ((false,()),())
 else some ((false,()),())
 else none
 else none
def zZ.it (F:Nat):Nat->zZ.M
 | 0,_,_=>none
 | n+1,a,b=>zZ.sh0 (zZ.it F n) F a b
def zZ.itp (F n:Nat):TA zZ.sg.args->Option zZ.sg.R:=fun x=>zZ.it F n x.1 x.2.1
def zZ.sh (F:Nat) (a:LTr zb.T) (b:LTr zb.T):Option zZ.sg.R:=zZ.it F F a b
def zZ.sp (F:Nat):TA zZ.sg.args->Option zZ.sg.R:=fun x=>zZ.sh F x.1 x.2.1
@[reducible] def yi.sg:Sig:={args:=[.d (.g zd),.d (.c (.tr zb))],res:=[.c (.tr zb)]}
def yi.sh (F:Nat) (f:zd.T) (x:LTr zb.T):Option yi.sg.R :=
 bif LTr.isNd x then bif ((LTr.lab (Ty.dflt zb) x).1==16) then bif LTr.isNd x then bif idx 1 ((LTr.kids x).length) then bif LTr.isNd x then bif idx 2 ((LTr.kids x).length) then oB (zZ.sh F (get (.tr zb) (LTr.kids x) 1) (get (.tr zb) (LTr.kids x) 2)) fun c_1 =>
 bif c_1.1.1 then bif LTr.isNd x then bif idx 1 ((LTr.kids x).length) then some ((get (.tr zb) (LTr.kids x) 1,()),())
 else none
 else none
 else some (((.nil:LTr zb.T),()),())
 else none
 else none
 else none
 else none
 else some (((.nil:LTr zb.T),()),())
 else none
def yi.sp (F:Nat):TA yi.sg.args->Option yi.sg.R:=fun x=>yi.sh F x.1 x.2.1
@[reducible] def zm.sg:Sig:={args:=[.d (.c (.tr zb))],res:=[.c .bool,.c .bool]}
abbrev zm.M:Type:=(LTr zb.T)->Option zm.sg.R
abbrev zm.l5.K0 (R:Type):Type:=Bool->Bool->(List (LTr zb.T))->Int->Int->Bool->Option R
abbrev zm.l5.T (R:Type):Type:=Bool->Bool->(List (LTr zb.T))->Int->Int->Option R
def zm.l5.body {R:Type} (me:zm.M) (F:Nat) (k0:zm.l5.K0 R) (rec:zm.l5.T R) (is:Bool) (money:Bool) (t31:List (LTr zb.T)) (t32:Int) (t33:Int):Option R :=
 bif decide (t33<t32) then bif idx t33 t31.length then oB (me (get (.tr zb) t31 t33.toNat)) fun c_1 =>
 bif is then bif money then rec c_1.1.1 true t31 t32 (i64.wrap (t33+1))
 else rec c_1.1.1 c_1.1.2.1 t31 t32 (i64.wrap (t33+1))
 else bif money then rec false true t31 t32 (i64.wrap (t33+1))
 else rec false c_1.1.2.1 t31 t32 (i64.wrap (t33+1))
 else none
 else k0 is money t31 t32 t33 (decide (t33<t32))
def zm.l5 {R:Type} (me:zm.M) (F:Nat) (k0:zm.l5.K0 R):Nat->zm.l5.T R
 | 0,_,_,_,_,_=>none
 | fu+1,is,money,t31,t32,t33=>zm.l5.body me F k0 (zm.l5 me F k0 fu) is money t31 t32 t33
def zm.sh0 (me:zm.M) (F:Nat) (x:LTr zb.T):Option zm.sg.R :=
 bif LTr.isNd x then bif ((LTr.lab (Ty.dflt zb) x).1==3) then some ((false,false,()),())
 else bif LTr.isNd x then bif ((LTr.lab (Ty.dflt zb) x).1==4) then some ((false,false,()),())
 else bif LTr.isNd x then bif LTr.isNd x then zm.l5 me F (fun is2 money2 t312 t322 t332 t342=>some ((is2,money2,()),())) F true ((LTr.lab (Ty.dflt zb) x).1==2) (LTr.kids x) ((LTr.kids x).length:Int) 0
 else none
 else none
 else none
 else none
def zm.it (F:Nat):Nat->zm.M
 | 0,_=>none
 | n+1,a=>zm.sh0 (zm.it F n) F a
def zm.itp (F n:Nat):TA zm.sg.args->Option zm.sg.R:=fun x=>zm.it F n x.1
def zm.sh (F:Nat) (a:LTr zb.T):Option zm.sg.R:=zm.it F F a
def zm.sp (F:Nat):TA zm.sg.args->Option zm.sg.R:=fun x=>zm.sh F x.1
@[reducible] def yq.sg:Sig:={args:=[.d (.c (.tr zb))],res:=[.c .bool]}
def yq.sh (F:Nat) (x:LTr zb.T):Option yq.sg.R :=
 bif LTr.isNd x then bif ((LTr.lab (Ty.dflt zb) x).1==1) then some ((true,()),())
 else bif LTr.isNd x then some ((((LTr.lab (Ty.dflt zb) x).1==2),()),())
 else none
 else none
def yq.sp (F:Nat):TA yq.sg.args->Option yq.sg.R:=fun x=>yq.sh F x.1
@[reducible] def yR.sg:Sig:={args:=[.d (.c (.tr zb))],res:=[.c .bool]}
def yR.sh (F:Nat) (x:LTr zb.T):Option yR.sg.R :=
 oB (yq.sh F x) fun c_1 =>
 bif c_1.1.1 then some ((true,()),())
 else bif LTr.isNd x then bif ((LTr.lab (Ty.dflt zb) x).1==5) then bif LTr.isNd x then bif idx 0 ((LTr.kids x).length) then oB (yq.sh F (get (.tr zb) (LTr.kids x) 0)) fun c_2 =>
 bif c_2.1.1 then bif LTr.isNd x then bif idx 0 ((LTr.kids x).length) then bif LTr.isNd (get (.tr zb) (LTr.kids x) 0) then some ((((LTr.lab (Ty.dflt zb) (get (.tr zb) (LTr.kids x) 0)).2.1 != 0),()),())
 else none
 else none
 else none
 else some ((false,()),())
 else none
 else none
 else some ((false,()),())
 else none
def yR.sp (F:Nat):TA yR.sg.args->Option yR.sg.R:=fun x=>yR.sh F x.1
@[reducible] def zi.sg:Sig:={args:=[.d (.b zd),.d (.c .fn)],res:=[.g zd]}
@[reducible] def zi.ds26:Sig:={args:=[.d (.g zd),.d (.g zd)],res:=[.c (.int .i64)]}
def zi.d26 (F:Nat):Nat->TA zi.ds26.args->Option zi.ds26.R:=mkT zi.ds26 [(xS,xp.sp F)]
abbrev zi.l5.K0 (R:Type):Type:=(List zd.T)->Nat->Int->Bool->zd.T->zd.T->Option R
abbrev zi.l5.T (R:Type):Type:=(List zd.T)->Nat->Int->zd.T->zd.T->Option R
def zi.l5.body {R:Type} (F:Nat) (k0:zi.l5.K0 R) (rec:zi.l5.T R) (x:List zd.T) (cmp:Nat) (i:Int) (r4:zd.T) (m:zd.T):Option R :=
 bif decide (i<(x.length:Int)) then bif idx i x.length then oB (zi.d26 F cmp ((get zd x i.toNat),m,())) fun c_1 =>
 bif decide (c_1.1.1<0) then bif idx i x.length then rec x cmp (i64.wrap (i+1)) r4 (get zd x i.toNat)
 else none
 else rec x cmp (i64.wrap (i+1)) r4 m
 else none
 else k0 x cmp i (decide (i<(x.length:Int))) r4 m
def zi.l5 {R:Type} (F:Nat) (k0:zi.l5.K0 R):Nat->zi.l5.T R
 | 0,_,_,_,_,_=>none
 | fu+1,x,cmp,i,r4,m=>zi.l5.body F k0 (zi.l5 F k0 fu) x cmp i r4 m
def zi.sh (F:Nat) (x:List zd.T) (cmp:Nat):Option zi.sg.R :=
 bif decide ((x.length:Int)<1) then none
 else bif idx 0 x.length then zi.l5 F (fun x2 cmp2 i2 t172 r42 m2=>some ((m2,()),())) F x cmp 1 (0,0) (get zd x 0)
 else none
def zi.sp (F:Nat):TA zi.sg.args->Option zi.sg.R:=fun x=>zi.sh F x.1 x.2.1
@[reducible] def zj.sg:Sig:={args:=[.d (.b zd),.d (.c .fn)],res:=[.g zd]}
@[reducible] def zj.ds26:Sig:={args:=[.d (.g zd),.d (.g zd)],res:=[.c (.int .i64)]}
def zj.d26 (F:Nat):Nat->TA zj.ds26.args->Option zj.ds26.R:=mkT zj.ds26 [(xS,xp.sp F)]
abbrev zj.l5.K0 (R:Type):Type:=(List zd.T)->Nat->Int->Bool->zd.T->zd.T->Option R
abbrev zj.l5.T (R:Type):Type:=(List zd.T)->Nat->Int->zd.T->zd.T->Option R
def zj.l5.body {R:Type} (F:Nat) (k0:zj.l5.K0 R) (rec:zj.l5.T R) (x:List zd.T) (cmp:Nat) (i:Int) (r4:zd.T) (m:zd.T):Option R :=
 bif decide (i<(x.length:Int)) then bif idx i x.length then oB (zj.d26 F cmp ((get zd x i.toNat),m,())) fun c_1 =>
 bif decide (c_1.1.1>0) then bif idx i x.length then rec x cmp (i64.wrap (i+1)) r4 (get zd x i.toNat)
 else none
 else rec x cmp (i64.wrap (i+1)) r4 m
 else none
 else k0 x cmp i (decide (i<(x.length:Int))) r4 m
def zj.l5 {R:Type} (F:Nat) (k0:zj.l5.K0 R):Nat->zj.l5.T R
 | 0,_,_,_,_,_=>none
 | fu+1,x,cmp,i,r4,m=>zj.l5.body F k0 (zj.l5 F k0 fu) x cmp i r4 m
def zj.sh (F:Nat) (x:List zd.T) (cmp:Nat):Option zj.sg.R :=
 bif decide ((x.length:Int)<1) then none
 else bif idx 0 x.length then zj.l5 F (fun x2 cmp2 i2 t172 r42 m2=>some ((m2,()),())) F x cmp 1 (0,0) (get zd x 0)
 else none
def zj.sp (F:Nat):TA zj.sg.args->Option zj.sg.R:=fun x=>zj.sh F x.1 x.2.1
@[reducible] def ze.sg:Sig:={args:=[.d (.g zd),.d (.c (.tr zb))],res:=[.g zd]}
abbrev ze.M:Type:=zd.T->(LTr zb.T)->Option ze.sg.R
abbrev ze.l3.K0 (R:Type):Type:=(LTr zb.T)->(List (LTr zb.T))->Int->Int->Bool->zd.T->zd.T->(List zd.T)->Option R
abbrev ze.l3.T (R:Type):Type:=(LTr zb.T)->(List (LTr zb.T))->Int->Int->zd.T->zd.T->(List zd.T)->Option R
def ze.l3.body {R:Type} (me:ze.M) (F:Nat) (k0:ze.l3.K0 R) (rec:ze.l3.T R) (x:LTr zb.T) (t12:List (LTr zb.T)) (t13:Int) (t14:Int) (f:zd.T) (r4:zd.T) (k:List zd.T):Option R :=
 bif decide (t14<t13) then bif idx t14 t12.length then oB (me f (get (.tr zb) t12 t14.toNat)) fun c_1 =>
 bif Nat.ble (k.length+([c_1.1.1]:List zd.T).length) xu then rec x t12 t13 (i64.wrap (t14+1)) f r4 (k++([c_1.1.1]:List zd.T))
 else none
 else none
 else k0 x t12 t13 t14 (decide (t14<t13)) f r4 k
def ze.l3 {R:Type} (me:ze.M) (F:Nat) (k0:ze.l3.K0 R):Nat->ze.l3.T R
 | 0,_,_,_,_,_,_,_=>none
 | fu+1,x,t12,t13,t14,f,r4,k=>ze.l3.body me F k0 (ze.l3 me F k0 fu) x t12 t13 t14 f r4 k
def ze.j7 {R:Type} (me:ze.M) (F:Nat) (k0:zd.T->Option R) (x:LTr zb.T) (k:List zd.T) (f:zd.T) (r4:zd.T):Option R :=
 bif LTr.isNd x then bif ((LTr.lab (Ty.dflt zb) x).1==1) then bif LTr.isNd x then oB (zR.sh F (LTr.lab (Ty.dflt zb) x).2.1) fun c_3 =>
 k0 c_3.1.1
 else none
 else bif ((LTr.lab (Ty.dflt zb) x).1==2) then bif LTr.isNd x then oB (zR.sh F (LTr.lab (Ty.dflt zb) x).2.1) fun c_4 =>
 oB (yf.sh F c_4.1.1 f) fun c_5 =>
 k0 c_5.1.1
 else none
 else bif ((LTr.lab (Ty.dflt zb) x).1==5) then bif idx 0 k.length then oB (xT.sh F (get zd k 0)) fun c_6 =>
 k0 c_6.1.1
 else none
 else bif ((LTr.lab (Ty.dflt zb) x).1==6) then bif idx 0 k.length then bif idx 1 k.length then oB (xA.sh F (get zd k 0) (get zd k 1)) fun c_7 =>
 k0 c_7.1.1
 else none
 else none
 else bif ((LTr.lab (Ty.dflt zb) x).1==7) then bif idx 0 k.length then bif idx 1 k.length then oB (xz.sh F (get zd k 0) (get zd k 1)) fun c_8 =>
 k0 c_8.1.1
 else none
 else none
 else bif ((LTr.lab (Ty.dflt zb) x).1==8) then bif idx 0 k.length then bif idx 1 k.length then oB (yf.sh F (get zd k 0) (get zd k 1)) fun c_9 =>
 k0 c_9.1.1
 else none
 else none
 else bif ((LTr.lab (Ty.dflt zb) x).1==9) then oB (zi.sh F k xS) fun c_10 =>
 k0 c_10.1.1
 else bif ((LTr.lab (Ty.dflt zb) x).1==10) then oB (zj.sh F k xS) fun c_11 =>
 k0 c_11.1.1
 else bif ((LTr.lab (Ty.dflt zb) x).1==15) then bif idx 0 k.length then bif LTr.isNd x then oB (zR.sh F (i64.wrap (10000-(LTr.lab (Ty.dflt zb) x).2.1))) fun c_12 =>
 oB (yf.sh F (get zd k 0) c_12.1.1) fun c_13 =>
 oB (zR.sh F 10000) fun c_14 =>
 oB (y9.sh F c_13.1.1 c_14.1.1 2) fun c_15 =>
 k0 c_15.1.1
 else none
 else none
 else k0 (0,0)
 else none
def ze.sh0 (me:ze.M) (F:Nat) (f:zd.T) (x:LTr zb.T):Option ze.sg.R :=
 bif LTr.isNd x then ze.l3 me F (fun x2 t122 t132 t142 t152 f2 r42 k2=>ze.j7 me F (fun r416=>some ((r416,()),())) x2 k2 f2 r42) F x (LTr.kids x) ((LTr.kids x).length:Int) 0 f (0,0) ([])
 else none
def ze.it (F:Nat):Nat->ze.M
 | 0,_,_=>none
 | n+1,a,b=>ze.sh0 (ze.it F n) F a b
def ze.itp (F n:Nat):TA ze.sg.args->Option ze.sg.R:=fun x=>ze.it F n x.1 x.2.1
def ze.sh (F:Nat) (a:zd.T) (b:LTr zb.T):Option ze.sg.R:=ze.it F F a b
def ze.sp (F:Nat):TA ze.sg.args->Option ze.sg.R:=fun x=>ze.sh F x.1 x.2.1
@[reducible] def xU.sg:Sig:={args:=[.d (.g zd)],res:=[.c (.int .i64),.c .bool]}
def xU.sh (F:Nat) (w:zd.T):Option xU.sg.R :=
 bif (w.1 != ((i64.wrap w.2).fdiv (2^(min (63:Int).toNat IntKind.i64.bits)))) then some ((0,false,()),())
 else some ((i64.wrap w.2,true,()),())
def xU.sp (F:Nat):TA xU.sg.args->Option xU.sg.R:=fun x=>xU.sh F x.1
@[reducible] def zC.sg:Sig:={args:=[.d (.g zd),.d (.c (.tr zb))],res:=[.c (.tr zb)]}
def zC.j10 {R:Type} (F:Nat) (k0:(LTr zb.T)->Option R) (k1:(LTr zb.T)->Option R) (k2:(LTr zb.T)->Option R) (x:LTr zb.T) (kind:Int) (v:zd.T):Option R :=
 oB (xU.sh F v) fun c_5 =>
 bif !c_5.1.2.1 then k0 (.nil:LTr zb.T)
 else bif decide (c_5.1.1<(-1000000000000)) then k0 (.nil:LTr zb.T)
 else bif decide (c_5.1.1>1000000000000) then k0 (.nil:LTr zb.T)
 else bif LTr.isNd x then bif decide (c_5.1.1<0) then bif LTr.isNd x then k1 (LTr.nd (5,0,0,0,[],(LTr.lab (Ty.dflt zb) x).2.2.2.2.2) ([(LTr.nd (kind,(if i64.wrap (0-c_5.1.1)>c_5.1.1 then i64.wrap (0-c_5.1.1) else c_5.1.1),0,0,[],(LTr.lab (Ty.dflt zb) x).2.2.2.2.2) ([]))]:List (LTr zb.T)))
 else none
 else k2 (LTr.nd (kind,(if i64.wrap (0-c_5.1.1)>c_5.1.1 then i64.wrap (0-c_5.1.1) else c_5.1.1),0,0,[],(LTr.lab (Ty.dflt zb) x).2.2.2.2.2) ([]))
 else none
def zC.sh (F:Nat) (f:zd.T) (x:LTr zb.T):Option zC.sg.R :=
 oB (zm.sh F x) fun c_1 =>
 bif !c_1.1.1 then some (((.nil:LTr zb.T),()),())
 else oB (yR.sh F x) fun c_2 =>
 bif c_2.1.1 then some (((.nil:LTr zb.T),()),())
 else oB (ze.sh F f x) fun c_3 =>
 bif c_1.1.2.1 then oB (yO.sh F c_3.1.1 f) fun c_4 =>
 bif !((c_4.1.2.1.1==0)&&((c_4.1.2.1.2==0)&&true)) then some (((.nil:LTr zb.T),()),())
 else zC.j10 F (fun r46=>some ((r46,()),())) (fun r47=>some ((r47,()),())) (fun r48=>some ((r48,()),())) x 2 c_4.1.1
 else zC.j10 F (fun r49=>some ((r49,()),())) (fun r410=>some ((r410,()),())) (fun r411=>some ((r411,()),())) x 1 c_3.1.1
def zC.sp (F:Nat):TA zC.sg.args->Option zC.sg.R:=fun x=>zC.sh F x.1 x.2.1
@[reducible] def yK.sg:Sig:={args:=[.d (.g zd),.d (.c (.tr zb))],res:=[.c (.tr zb)]}
def yK.sh (F:Nat) (f:zd.T) (x:LTr zb.T):Option yK.sg.R :=
 bif LTr.isNd x then bif ((LTr.lab (Ty.dflt zb) x).1==5) then bif LTr.isNd x then bif idx 0 ((LTr.kids x).length) then bif LTr.isNd (get (.tr zb) (LTr.kids x) 0) then bif ((LTr.lab (Ty.dflt zb) (get (.tr zb) (LTr.kids x) 0)).1==5) then bif LTr.isNd x then bif idx 0 ((LTr.kids x).length) then bif LTr.isNd (get (.tr zb) (LTr.kids x) 0) then bif idx 0 ((LTr.kids (get (.tr zb) (LTr.kids x) 0)).length) then some ((get (.tr zb) (LTr.kids (get (.tr zb) (LTr.kids x) 0)) 0,()),())
 else none
 else none
 else none
 else none
 else some (((.nil:LTr zb.T),()),())
 else none
 else none
 else none
 else some (((.nil:LTr zb.T),()),())
 else none
def yK.sp (F:Nat):TA yK.sg.args->Option yK.sg.R:=fun x=>yK.sh F x.1 x.2.1
@[reducible] def yG.sg:Sig:={args:=[.d (.c (.tr zb))],res:=[.c .bool]}
def yG.sh (F:Nat) (x:LTr zb.T):Option yG.sg.R :=
 oB (yq.sh F x) fun c_1 =>
 bif c_1.1.1 then bif LTr.isNd x then some ((((LTr.lab (Ty.dflt zb) x).2.1==0),()),())
 else none
 else some ((false,()),())
def yG.sp (F:Nat):TA yG.sg.args->Option yG.sg.R:=fun x=>yG.sh F x.1
@[reducible] def yo.sg:Sig:={args:=[.d (.g zd),.d (.c (.tr zb))],res:=[.c (.tr zb)]}
def yo.sh (F:Nat) (f:zd.T) (x:LTr zb.T):Option yo.sg.R :=
 bif LTr.isNd x then bif ((LTr.lab (Ty.dflt zb) x).1==6) then bif LTr.isNd x then bif idx 0 ((LTr.kids x).length) then oB (yG.sh F (get (.tr zb) (LTr.kids x) 0)) fun c_1 =>
 bif c_1.1.1 then bif LTr.isNd x then bif idx 1 ((LTr.kids x).length) then some ((get (.tr zb) (LTr.kids x) 1,()),())
 else none
 else none
 else bif LTr.isNd x then bif ((LTr.lab (Ty.dflt zb) x).1==6) then bif LTr.isNd x then bif idx 1 ((LTr.kids x).length) then oB (yG.sh F (get (.tr zb) (LTr.kids x) 1)) fun c_2 =>
 bif c_2.1.1 then bif LTr.isNd x then bif idx 0 ((LTr.kids x).length) then some ((get (.tr zb) (LTr.kids x) 0,()),())
 else none
 else none
 else some (((.nil:LTr zb.T),()),())
 else none
 else none
 else bif LTr.isNd x then bif ((LTr.lab (Ty.dflt zb) x).1==7) then bif LTr.isNd x then bif idx 1 ((LTr.kids x).length) then oB (yG.sh F (get (.tr zb) (LTr.kids x) 1)) fun c_3 =>
 bif c_3.1.1 then bif LTr.isNd x then bif idx 0 ((LTr.kids x).length) then some ((get (.tr zb) (LTr.kids x) 0,()),())
 else none
 else none
 else some (((.nil:LTr zb.T),()),())
 else none
 else none
 else some (((.nil:LTr zb.T),()),())
 else none
 else none
 else none
 else none
 else bif LTr.isNd x then bif ((LTr.lab (Ty.dflt zb) x).1==6) then bif LTr.isNd x then bif idx 1 ((LTr.kids x).length) then oB (yG.sh F (get (.tr zb) (LTr.kids x) 1)) fun c_4 =>
 bif c_4.1.1 then bif LTr.isNd x then bif idx 0 ((LTr.kids x).length) then some ((get (.tr zb) (LTr.kids x) 0,()),())
 else none
 else none
 else some (((.nil:LTr zb.T),()),())
 else none
 else none
 else bif LTr.isNd x then bif ((LTr.lab (Ty.dflt zb) x).1==7) then bif LTr.isNd x then bif idx 1 ((LTr.kids x).length) then oB (yG.sh F (get (.tr zb) (LTr.kids x) 1)) fun c_5 =>
 bif c_5.1.1 then bif LTr.isNd x then bif idx 0 ((LTr.kids x).length) then some ((get (.tr zb) (LTr.kids x) 0,()),())
 else none
 else none
 else some (((.nil:LTr zb.T),()),())
 else none
 else none
 else some (((.nil:LTr zb.T),()),())
 else none
 else none
 else none
def yo.sp (F:Nat):TA yo.sg.args->Option yo.sg.R:=fun x=>yo.sh F x.1 x.2.1
@[reducible] def yJ.sg:Sig:={args:=[.d (.g zd),.d (.c (.tr zb))],res:=[.c (.tr zb)]}
def yJ.sh (F:Nat) (f:zd.T) (x:LTr zb.T):Option yJ.sg.R :=
 bif LTr.isNd x then bif ((LTr.lab (Ty.dflt zb) x).1==15) then bif LTr.isNd x then bif ((LTr.lab (Ty.dflt zb) x).2.1==0) then bif LTr.isNd x then bif idx 0 ((LTr.kids x).length) then some ((get (.tr zb) (LTr.kids x) 0,()),())
 else none
 else none
 else some (((.nil:LTr zb.T),()),())
 else none
 else some (((.nil:LTr zb.T),()),())
 else none
def yJ.sp (F:Nat):TA yJ.sg.args->Option yJ.sg.R:=fun x=>yJ.sh F x.1 x.2.1
@[reducible] def y7.sg:Sig:={args:=[.d (.c (.tr zb))],res:=[.c .bool]}
def y7.sh (F:Nat) (x:LTr zb.T):Option y7.sg.R :=
 bif LTr.isNd x then bif ((LTr.lab (Ty.dflt zb) x).1==1) then bif LTr.isNd x then some ((((LTr.lab (Ty.dflt zb) x).2.1==1),()),())
 else none
 else some ((false,()),())
 else none
def y7.sp (F:Nat):TA y7.sg.args->Option y7.sg.R:=fun x=>y7.sh F x.1
@[reducible] def yB.sg:Sig:={args:=[.d (.g zd),.d (.c (.tr zb))],res:=[.c (.tr zb)]}
def yB.sh (F:Nat) (f:zd.T) (x:LTr zb.T):Option yB.sg.R :=
 bif LTr.isNd x then bif ((LTr.lab (Ty.dflt zb) x).1==8) then bif LTr.isNd x then bif idx 0 ((LTr.kids x).length) then oB (y7.sh F (get (.tr zb) (LTr.kids x) 0)) fun c_1 =>
 bif c_1.1.1 then bif LTr.isNd x then bif idx 1 ((LTr.kids x).length) then some ((get (.tr zb) (LTr.kids x) 1,()),())
 else none
 else none
 else bif LTr.isNd x then bif ((LTr.lab (Ty.dflt zb) x).1==8) then bif LTr.isNd x then bif idx 1 ((LTr.kids x).length) then oB (y7.sh F (get (.tr zb) (LTr.kids x) 1)) fun c_2 =>
 bif c_2.1.1 then bif LTr.isNd x then bif idx 0 ((LTr.kids x).length) then some ((get (.tr zb) (LTr.kids x) 0,()),())
 else none
 else none
 else some (((.nil:LTr zb.T),()),())
 else none
 else none
 else some (((.nil:LTr zb.T),()),())
 else none
 else none
 else none
 else bif LTr.isNd x then bif ((LTr.lab (Ty.dflt zb) x).1==8) then bif LTr.isNd x then bif idx 1 ((LTr.kids x).length) then oB (y7.sh F (get (.tr zb) (LTr.kids x) 1)) fun c_3 =>
 bif c_3.1.1 then bif LTr.isNd x then bif idx 0 ((LTr.kids x).length) then some ((get (.tr zb) (LTr.kids x) 0,()),())
 else none
 else none
 else some (((.nil:LTr zb.T),()),())
 else none
 else none
 else some (((.nil:LTr zb.T),()),())
 else none
 else none
def yB.sp (F:Nat):TA yB.sg.args->Option yB.sg.R:=fun x=>yB.sh F x.1 x.2.1
@[reducible] def yg.sg:Sig:={args:=[.d (.c (.tr zb)),.d (.p (.tr zb))],res:=[.c .bool]}
def yg.sh (F:Nat) (o:LTr zb.T) (t1:LTr zb.T):Option yg.sg.R :=
 oB (zZ.sh F o t1) fun c_1 =>
 some ((c_1.1.1,()),())
def yg.sp (F:Nat):TA yg.sg.args->Option yg.sg.R:=fun x=>yg.sh F x.1 x.2.1
@[reducible] def zg.sg:Sig:={args:=[.d (.b (.tr zb)),.d (.cl (.tr zb))],res:=[.c (.int .i64)]}
@[reducible] def zg.ds16:Sig:={args:=[.d (.c (.tr zb)),.d (.p (.tr zb))],res:=[.c .bool]}
def zg.d16 (F:Nat):Nat->TA zg.ds16.args->Option zg.ds16.R:=mkT zg.ds16 [(qt,yg.sp F)]
abbrev zg.l2.K1 (R:Type):Type:=(List (LTr zb.T))->(Nat×(LTr zb.T))->Int->Int->Bool->Option R
abbrev zg.l2.T (R:Type):Type:=(List (LTr zb.T))->(Nat×(LTr zb.T))->Int->Int->Option R
def zg.l2.body {R:Type} (F:Nat) (k0:Int->Option R) (k1:zg.l2.K1 R) (rec:zg.l2.T R) (s:List (LTr zb.T)) (f:Nat×(LTr zb.T)) (t7:Int) (t8:Int):Option R :=
 bif decide (t8<t7) then bif idx t8 s.length then oB (zg.d16 F (f.1+1) (get (.tr zb) s t8.toNat,f.2,())) fun c_1 =>
 bif c_1.1.1 then k0 t8
 else rec s (f.1,f.2) t7 (i64.wrap (t8+1))
 else none
 else k1 s (f.1,f.2) t7 t8 (decide (t8<t7))
def zg.l2 {R:Type} (F:Nat) (k0:Int->Option R) (k1:zg.l2.K1 R):Nat->zg.l2.T R
 | 0,_,_,_,_=>none
 | fu+1,s,f,t7,t8=>zg.l2.body F k0 k1 (zg.l2 F k0 k1 fu) s f t7 t8
def zg.sh (F:Nat) (s:List (LTr zb.T)) (f:Nat×(LTr zb.T)):Option zg.sg.R :=
 zg.l2 F (fun r42=>some ((r42,()),())) (fun s3 f3 t73 t83 t93=>some (((-1),()),())) F s (f.1,f.2) (s.length:Int) 0
def zg.sp (F:Nat):TA zg.sg.args->Option zg.sg.R:=fun x=>zg.sh F x.1 x.2.1
@[reducible] def zT.sg:Sig:={args:=[.d (.b (.tr zb)),.d (.cl (.tr zb))],res:=[.c .bool]}
def zT.sh (F:Nat) (s:List (LTr zb.T)) (f:Nat×(LTr zb.T)):Option zT.sg.R :=
 oB (zg.sh F s (f.1,f.2)) fun c_1 =>
 some ((decide (c_1.1.1>=0),()),())
def zT.sp (F:Nat):TA zT.sg.args->Option zT.sg.R:=fun x=>zT.sh F x.1 x.2.1
@[reducible] def zf.sg:Sig:={args:=[.d (.g zd),.d (.c (.tr zb))],res:=[.c (.tr zb)]}
abbrev zf.l5.K0 (R:Type):Type:=(LTr zb.T)->(List (LTr zb.T))->Int->Int->Bool->(List (LTr zb.T))->Option R
abbrev zf.l5.T (R:Type):Type:=(LTr zb.T)->(List (LTr zb.T))->Int->Int->(List (LTr zb.T))->Option R
def zf.l5.body {R:Type} (F:Nat) (k0:zf.l5.K0 R) (rec:zf.l5.T R) (x:LTr zb.T) (t26:List (LTr zb.T)) (t27:Int) (t28:Int) (kids:List (LTr zb.T)):Option R :=
 bif decide (t28<t27) then bif idx t28 t26.length then oB (zT.sh F kids (xx,get (.tr zb) t26 t28.toNat)) fun c_1 =>
 bif !c_1.1.1 then bif Nat.ble (kids.length+([get (.tr zb) t26 t28.toNat]:List (LTr zb.T)).length) xu then rec x t26 t27 (i64.wrap (t28+1)) (kids++([get (.tr zb) t26 t28.toNat]:List (LTr zb.T)))
 else none
 else rec x t26 t27 (i64.wrap (t28+1)) kids
 else none
 else k0 x t26 t27 t28 (decide (t28<t27)) kids
def zf.l5 {R:Type} (F:Nat) (k0:zf.l5.K0 R):Nat->zf.l5.T R
 | 0,_,_,_,_,_=>none
 | fu+1,x,t26,t27,t28,kids=>zf.l5.body F k0 (zf.l5 F k0 fu) x t26 t27 t28 kids
def zf.j10 {R:Type} (F:Nat) (k0:(LTr zb.T)->Option R) (k1:(LTr zb.T)->Option R) (k2:(LTr zb.T)->Option R) (x:LTr zb.T) (kids:List (LTr zb.T)):Option R :=
 bif LTr.isNd x then bif ((kids.length:Int)==((LTr.kids x).length:Int)) then k0 (.nil:LTr zb.T)
 else bif ((kids.length:Int)==1) then bif idx 0 kids.length then k1 (get (.tr zb) kids 0)
 else none
 else bif LTr.isNd x then k2 (LTr.nd ((LTr.lab (Ty.dflt zb) x).1,(LTr.lab (Ty.dflt zb) x).2.1,(LTr.lab (Ty.dflt zb) x).2.2.1,(kids.length:Int),(LTr.lab (Ty.dflt zb) x).2.2.2.2) kids)
 else none
 else none
def zf.j3 {R:Type} (F:Nat) (k0:(LTr zb.T)->Option R) (k1:(LTr zb.T)->Option R) (k2:(LTr zb.T)->Option R) (x:LTr zb.T):Option R :=
 bif LTr.isNd x then zf.l5 F (fun x2 t262 t272 t282 t292 kids2=>zf.j10 F (fun r43=>k0 r43) (fun r44=>k1 r44) (fun r45=>k2 r45) x2 kids2) F x (LTr.kids x) ((LTr.kids x).length:Int) 0 ([])
 else none
def zf.sh (F:Nat) (f:zd.T) (x:LTr zb.T):Option zf.sg.R :=
 bif LTr.isNd x then bif ((LTr.lab (Ty.dflt zb) x).1 != 9) then bif LTr.isNd x then bif ((LTr.lab (Ty.dflt zb) x).1 != 10) then some (((.nil:LTr zb.T),()),())
 else zf.j3 F (fun r46=>some ((r46,()),())) (fun r47=>some ((r47,()),())) (fun r48=>some ((r48,()),())) x
 else none
 else zf.j3 F (fun r49=>some ((r49,()),())) (fun r410=>some ((r410,()),())) (fun r411=>some ((r411,()),())) x
 else none
def zf.sp (F:Nat):TA zf.sg.args->Option zf.sg.R:=fun x=>zf.sh F x.1 x.2.1
@[reducible] def za.sg:Sig:={args:=[.d (.g zd),.d (.c (.tr zb))],res:=[.c (.tr zb)]}
abbrev za.M:Type:=zd.T->(LTr zb.T)->Option za.sg.R
@[reducible] def za.ds63:Sig:={args:=[.d (.g zd),.d (.c (.tr zb))],res:=[.c (.tr zb)]}
def za.d63 (me:za.M) (F:Nat):Nat->TA za.ds63.args->Option za.ds63.R:=mkT za.ds63 [(wg,yi.sp F),(we,zC.sp F),(wR,yK.sp F),(wn,yo.sp F),(wQ,yJ.sp F),(wI,yB.sp F),(wm,zf.sp F)]
abbrev za.l3.K0 (R:Type):Type:=(LTr zb.T)->(List (LTr zb.T))->Int->Int->Bool->zd.T->(List (LTr zb.T))->Option R
abbrev za.l3.T (R:Type):Type:=(LTr zb.T)->(List (LTr zb.T))->Int->Int->zd.T->(List (LTr zb.T))->Option R
def za.l3.body {R:Type} (me:za.M) (F:Nat) (k0:za.l3.K0 R) (rec:za.l3.T R) (x:LTr zb.T) (t20:List (LTr zb.T)) (t21:Int) (t22:Int) (f:zd.T) (kids:List (LTr zb.T)):Option R :=
 bif decide (t22<t21) then bif idx t22 t20.length then oB (me f (get (.tr zb) t20 t22.toNat)) fun c_1 =>
 bif idx t22 kids.length then rec x t20 t21 (i64.wrap (t22+1)) f (kids.set t22.toNat c_1.1.1)
 else none
 else none
 else k0 x t20 t21 t22 (decide (t22<t21)) f kids
def za.l3 {R:Type} (me:za.M) (F:Nat) (k0:za.l3.K0 R):Nat->za.l3.T R
 | 0,_,_,_,_,_,_=>none
 | fu+1,x,t20,t21,t22,f,kids=>za.l3.body me F k0 (za.l3 me F k0 fu) x t20 t21 t22 f kids
abbrev za.l9.K1 (R:Type):Type:=(LTr zb.T)->(List (Nat×zd.T))->Int->Int->Bool->zd.T->Option R
abbrev za.l9.T (R:Type):Type:=(LTr zb.T)->(List (Nat×zd.T))->Int->Int->zd.T->Option R
def za.l9.body {R:Type} (me:za.M) (F:Nat) (k0:(LTr zb.T)->Option R) (k1:za.l9.K1 R) (rec:za.l9.T R) (x:LTr zb.T) (t55:List (Nat×zd.T)) (t56:Int) (t57:Int) (f:zd.T):Option R :=
 bif decide (t57<t56) then bif idx t57 t55.length then oB (za.d63 me F (get (.bnd zd) t55 t57.toNat).1 ((get (.bnd zd) t55 t57.toNat).2,x,())) fun c_3 =>
 bif LTr.isNd c_3.1.1 then oB (me f c_3.1.1) fun c_4 =>
 k0 c_4.1.1
 else rec x t55 t56 (i64.wrap (t57+1)) f
 else none
 else k1 x t55 t56 t57 (decide (t57<t56)) f
def za.l9 {R:Type} (me:za.M) (F:Nat) (k0:(LTr zb.T)->Option R) (k1:za.l9.K1 R):Nat->za.l9.T R
 | 0,_,_,_,_,_=>none
 | fu+1,x,t55,t56,t57,f=>za.l9.body me F k0 k1 (za.l9 me F k0 k1 fu) x t55 t56 t57 f
def za.j7 {R:Type} (me:za.M) (F:Nat) (k0:(LTr zb.T)->Option R) (k1:(LTr zb.T)->Option R) (x:LTr zb.T) (kids:List (LTr zb.T)) (f:zd.T):Option R :=
 bif LTr.isNd x then za.l9 me F (fun r45=>k0 r45) (fun x6 t556 t566 t576 t586 f6=>k1 x6) F (LTr.nd (LTr.lab (Ty.dflt zb) x) kids) ([(we,f),(wR,f),(wQ,f),(wg,f),(wm,f),(wn,f),(wI,f)]:List (Nat×zd.T)) (([(we,f),(wR,f),(wQ,f),(wg,f),(wm,f),(wn,f),(wI,f)]:List (Nat×zd.T)).length:Int) 0 f
 else none
def za.sh0 (me:za.M) (F:Nat) (f:zd.T) (x:LTr zb.T):Option za.sg.R :=
 bif LTr.isNd x then bif (decide (0<=((LTr.kids x).length:Int))&&decide (((LTr.kids x).length:Int)<=((LTr.kids x).length:Int))&&decide (((LTr.kids x).length:Int)<=(xu:Int))) then bif LTr.isNd x then za.l3 me F (fun x2 t202 t212 t222 t232 f2 kids2=>za.j7 me F (fun r47=>some ((r47,()),())) (fun r48=>some ((r48,()),())) x2 kids2 f2) F x (LTr.kids x) ((LTr.kids x).length:Int) 0 f (YL (.tr zb) (((LTr.kids x).length:Int).toNat))
 else none
 else none
 else none
def za.it (F:Nat):Nat->za.M
 | 0,_,_=>none
 | n+1,a,b=>za.sh0 (za.it F n) F a b
def za.itp (F n:Nat):TA za.sg.args->Option za.sg.R:=fun x=>za.it F n x.1 x.2.1
def za.sh (F:Nat) (a:zd.T) (b:LTr zb.T):Option za.sg.R:=za.it F F a b
def za.sp (F:Nat):TA za.sg.args->Option za.sg.R:=fun x=>za.sh F x.1 x.2.1
@[reducible] def xa.sg:Sig:=tO yy
def xa.sh (_F:Nat) (l:List yy.T):Option xa.sg.R:=qD yy l
def xa.sp (F:Nat):TA xa.sg.args->Option xa.sg.R:=fun x=>xa.sh F x.1
@[reducible] def yI.sg:Sig:=tO zN
def yI.sh (_F:Nat) (l:List zN.T):Option yI.sg.R:=qD zN l
def yI.sp (F:Nat):TA yI.sg.args->Option yI.sg.R:=fun x=>yI.sh F x.1
@[reducible] def zn.sg:Sig:={args:=[.d (.c (.tr zb)),.d (.os zb)],res:=[.os zb]}
abbrev zn.M:Type:=(LTr zb.T)->(List zb.T)->Option zn.sg.R
abbrev zn.l2.K0 (R:Type):Type:=(LTr zb.T)->(List (LTr zb.T))->Int->Int->Bool->(List zb.T)->Option R
abbrev zn.l2.T (R:Type):Type:=(LTr zb.T)->(List (LTr zb.T))->Int->Int->(List zb.T)->Option R
def zn.l2.body {R:Type} (me:zn.M) (F:Nat) (k0:zn.l2.K0 R) (rec:zn.l2.T R) (x:LTr zb.T) (t11:List (LTr zb.T)) (t12:Int) (t13:Int) (l:List zb.T):Option R :=
 bif decide (t13<t12) then bif idx t13 t11.length then oB (me (get (.tr zb) t11 t13.toNat) l) fun c_1 =>
 rec x t11 t12 (i64.wrap (t13+1)) c_1.1.1
 else none
 else k0 x t11 t12 t13 (decide (t13<t12)) l
def zn.l2 {R:Type} (me:zn.M) (F:Nat) (k0:zn.l2.K0 R):Nat->zn.l2.T R
 | 0,_,_,_,_,_=>none
 | fu+1,x,t11,t12,t13,l=>zn.l2.body me F k0 (zn.l2 me F k0 fu) x t11 t12 t13 l
def zn.sh0 (me:zn.M) (F:Nat) (x:LTr zb.T) (l:List zb.T):Option zn.sg.R :=
 bif LTr.isNd x then zn.l2 me F (fun x2 t112 t122 t132 t142 l2=>bif LTr.isNd x2 then oB (yI.sh F (LTr.lab (Ty.dflt zb) x2).2.2.2.2.1) fun c_3 =>
 bif Nat.ble (l2.length+([((LTr.lab (Ty.dflt zb) x2).1,(LTr.lab (Ty.dflt zb) x2).2.1,(LTr.lab (Ty.dflt zb) x2).2.2.1,(LTr.lab (Ty.dflt zb) x2).2.2.2.1,c_3.1.1,(LTr.lab (Ty.dflt zb) x2).2.2.2.2.2)]:List zb.T).length) xu then some ((l2++([((LTr.lab (Ty.dflt zb) x2).1,(LTr.lab (Ty.dflt zb) x2).2.1,(LTr.lab (Ty.dflt zb) x2).2.2.1,(LTr.lab (Ty.dflt zb) x2).2.2.2.1,c_3.1.1,(LTr.lab (Ty.dflt zb) x2).2.2.2.2.2)]:List zb.T),()),())
 else none
 else none) F x (LTr.kids x) ((LTr.kids x).length:Int) 0 l
 else none
def zn.it (F:Nat):Nat->zn.M
 | 0,_,_=>none
 | n+1,a,b=>zn.sh0 (zn.it F n) F a b
def zn.itp (F n:Nat):TA zn.sg.args->Option zn.sg.R:=fun x=>zn.it F n x.1 x.2.1
def zn.sh (F:Nat) (a:LTr zb.T) (b:List zb.T):Option zn.sg.R:=zn.it F F a b
def zn.sp (F:Nat):TA zn.sg.args->Option zn.sg.R:=fun x=>zn.sh F x.1 x.2.1
@[reducible] def xk.sg:Sig:={args:=[.d (.g zL)],res:=[.g zL,.c (.int .i64)]}
def xk.sh (F:Nat) (p:zL.T):Option xk.sg.R :=
 oB (yX.sh F p) fun c_1 =>
 bif (c_1.1.2.2.1 != 0) then some ((((⟨#[]⟩:ByteArray),[],0,[]),c_1.1.2.2.1,()),())
 else oB (zH.sh F p.2.2.2) fun c_2 =>
 oB (za.sh F c_1.1.1 c_2.1.1) fun c_3 =>
 oB (xa.sh F p.2.1) fun c_4 =>
 oB (zn.sh F c_3.1.1 ([])) fun c_5 =>
 some (((p.1,c_4.1.1,p.2.2.1,c_5.1.1),0,()),())
def xk.sp (F:Nat):TA xk.sg.args->Option xk.sg.R:=fun x=>xk.sh F x.1
@[reducible] def zI.sg:Sig:={args:=[.d (.g zb),.d (.g zb)],res:=[.c .bool]}
abbrev zI.l4.K1 (R:Type):Type:=Int->Bool->zb.T->zb.T->Option R
abbrev zI.l4.T (R:Type):Type:=Int->zb.T->zb.T->Option R
def zI.l4.body {R:Type} (F:Nat) (k0:Bool->Option R) (k1:zI.l4.K1 R) (rec:zI.l4.T R) (i:Int) (a:zb.T) (b:zb.T):Option R :=
 bif decide (i<(a.2.2.2.2.1.length:Int)) then bif idx i a.2.2.2.2.1.length then bif idx i b.2.2.2.2.1.length then bif !(((get zN a.2.2.2.2.1 i.toNat).1==(get zN b.2.2.2.2.1 i.toNat).1)&&(((get zN a.2.2.2.2.1 i.toNat).2==(get zN b.2.2.2.2.1 i.toNat).2)&&true)) then k0 false
 else rec (i64.wrap (i+1)) a b
 else none
 else none
 else k1 i (decide (i<(a.2.2.2.2.1.length:Int))) a b
def zI.l4 {R:Type} (F:Nat) (k0:Bool->Option R) (k1:zI.l4.K1 R):Nat->zI.l4.T R
 | 0,_,_,_=>none
 | fu+1,i,a,b=>zI.l4.body F k0 k1 (zI.l4 F k0 k1 fu) i a b
def zI.sh (F:Nat) (a:zb.T) (b:zb.T):Option zI.sg.R :=
 bif (a.1 != b.1) then some ((false,()),())
 else bif (a.2.1 != b.2.1) then some ((false,()),())
 else bif (a.2.2.1 != b.2.2.1) then some ((false,()),())
 else bif (a.2.2.2.1 != b.2.2.2.1) then some ((false,()),())
 else bif ((a.2.2.2.2.1.length:Int) != (b.2.2.2.2.1.length:Int)) then some ((false,()),())
 else zI.l4 F (fun r41=>some ((r41,()),())) (fun i2 t452 a2 b2=>some ((true,()),())) F 0 a b
def zI.sp (F:Nat):TA zI.sg.args->Option zI.sg.R:=fun x=>zI.sh F x.1 x.2.1
@[reducible] def zw.sg:Sig:={args:=[.d (.g zL),.d (.g zL)],res:=[.c .bool]}
abbrev zw.l4.K1 (R:Type):Type:=Int->Bool->zL.T->zL.T->Option R
abbrev zw.l4.T (R:Type):Type:=Int->zL.T->zL.T->Option R
def zw.l4.body {R:Type} (F:Nat) (k0:Bool->Option R) (k1:zw.l4.K1 R) (rec:zw.l4.T R) (i:Int) (p:zL.T) (q:zL.T):Option R :=
 bif decide (i<(p.2.1.length:Int)) then bif idx i p.2.1.length then bif idx i q.2.1.length then bif !(((get yy p.2.1 i.toNat).1==(get yy q.2.1 i.toNat).1)&&(((get yy p.2.1 i.toNat).2==(get yy q.2.1 i.toNat).2)&&true)) then k0 false
 else rec (i64.wrap (i+1)) p q
 else none
 else none
 else k1 i (decide (i<(p.2.1.length:Int))) p q
def zw.l4 {R:Type} (F:Nat) (k0:Bool->Option R) (k1:zw.l4.K1 R):Nat->zw.l4.T R
 | 0,_,_,_=>none
 | fu+1,i,p,q=>zw.l4.body F k0 k1 (zw.l4 F k0 k1 fu) i p q
abbrev zw.l9.K1 (R:Type):Type:=Int->Bool->zL.T->zL.T->Option R
abbrev zw.l9.T (R:Type):Type:=Int->zL.T->zL.T->Option R
def zw.l9.body {R:Type} (F:Nat) (k0:Bool->Option R) (k1:zw.l9.K1 R) (rec:zw.l9.T R) (i:Int) (p:zL.T) (q:zL.T):Option R :=
 bif decide (i<(p.2.2.2.length:Int)) then bif idx i p.2.2.2.length then bif idx i q.2.2.2.length then oB (zI.sh F (get zb p.2.2.2 i.toNat) (get zb q.2.2.2 i.toNat)) fun c_3 =>
 bif !c_3.1.1 then k0 false
 else rec (i64.wrap (i+1)) p q
 else none
 else none
 else k1 i (decide (i<(p.2.2.2.length:Int))) p q
def zw.l9 {R:Type} (F:Nat) (k0:Bool->Option R) (k1:zw.l9.K1 R):Nat->zw.l9.T R
 | 0,_,_,_=>none
 | fu+1,i,p,q=>zw.l9.body F k0 k1 (zw.l9 F k0 k1 fu) i p q
def zw.sh (F:Nat) (p:zL.T) (q:zL.T):Option zw.sg.R :=
 bif !(p.1.toList==q.1.toList) then some ((false,()),())
 else bif (p.2.2.1 != q.2.2.1) then some ((false,()),())
 else bif ((p.2.1.length:Int) != (q.2.1.length:Int)) then some ((false,()),())
 else bif ((p.2.2.2.length:Int) != (q.2.2.2.length:Int)) then some ((false,()),())
 else zw.l4 F (fun r41=>some ((r41,()),())) (fun i2 t412 p2 q2=>zw.l9 F (fun r44=>some ((r44,()),())) (fun i5 t595 p5 q5=>some ((true,()),())) F 0 p2 q2) F 0 p q
def zw.sp (F:Nat):TA zw.sg.args->Option zw.sg.R:=fun x=>zw.sh F x.1 x.2.1
@[reducible] def yx.sg:Sig:={args:=[],res:=[.c .bool]}
def yx.sh (F:Nat):Option yx.sg.R :=
 oB (xk.sh F ((⟨#[112]⟩:ByteArray),([((⟨#[97]⟩:ByteArray),10)]:List yy.T),0,([(2,5,0,0,[],0),(2,7,0,0,[],0),(7,0,0,0,[],0)]:List zb.T))) fun c_1 =>
 oB (xk.sh F ((⟨#[]⟩:ByteArray),[],0,[])) fun c_2 =>
 bif (c_1.1.2.1==0) then oB (zw.sh F ((⟨#[112]⟩:ByteArray),([((⟨#[97]⟩:ByteArray),10)]:List yy.T),0,([(2,2,0,0,[],0),(5,0,0,0,[],0)]:List zb.T)) c_1.1.1) fun c_3 =>
 bif c_3.1.1 then some (((c_2.1.2.1==61),()),())
 else some ((false,()),())
 else some ((false,()),())
def yx.sp (F:Nat):TA yx.sg.args->Option yx.sg.R:=fun x=>yx.sh F
@[reducible] def Y1.sg:Sig:={args:=[.d (.c (.int .u8))],res:=[.c .bool]}
@[reducible] def XW.sg:Sig:={args:=[],res:=[.c (.sl .str)]}
@[reducible] def WQ.sg:Sig:={args:=[.d (.c .str)],res:=[.c .bool]}
@[reducible] def XX.sg:Sig:={args:=[.d (.c (.int .u8))],res:=[.c .bool]}
@[reducible] def WR.sg:Sig:={args:=[.d (.c .str)],res:=[.c .bool]}
@[reducible] def WP.sg:Sig:={args:=[.d (.g zL)],res:=[.c (.int .i64)]}
@[reducible] def XS.sg:Sig:={args:=[.d (.g zb)],res:=[.c (.int .i64)]}
@[reducible] def WO.sg:Sig:={args:=[.d (.c (.int .i64)),.d (.c (.int .i64))],res:=[.c (.int .i64)]}
@[reducible] def Y0.sg:Sig:={args:=[.d (.g zb),.d (.c (.int .i64))],res:=[.c .bool]}
@[reducible] def XR.sg:Sig:={args:=[.d (.b zN)],res:=[.c .bool]}
@[reducible] def XV.sg:Sig:={args:=[.d (.g zL)],res:=[.c (.int .i64),.c (.int .i64)]}
@[reducible] def XU.sg:Sig:={args:=[.d (.g zL),.d (.c (.int .i64))],res:=[.c (.int .i64)]}
@[reducible] def ZZ.sg:Sig:={args:=[.d (.g zL)],res:=[.c (.sl .bool),.c (.int .i64)]}
@[reducible] def WN.sg:Sig:={args:=[.d (.b (.int .i64))],res:=[.c (.int .i64)]}
@[reducible] def XQ.sg:Sig:={args:=[.d (.c (.int .i64))],res:=[.c .bool]}
@[reducible] def YG.sg:Sig:={args:=[.d (.c (.int .i64)),.d (.c (.int .i64))],res:=[.c (.int .i64)]}
@[reducible] def XO.sg:Sig:={args:=[.d (.g zb),.d (.b (.int .i64))],res:=[.c (.int .i64)]}
@[reducible] def XP.sg:Sig:={args:=[.d (.g zL)],res:=[.c (.sl (.int .i64)),.c (.int .i64),.c (.int .i64)]}
@[reducible] def XT.sg:Sig:={args:=[.d (.g zL)],res:=[.c (.int .i64),.c (.int .i64)]}
@[reducible] def Uu.sg:Sig:={args:=[.d (.c (.int .i64))],res:=[.g zd]}
@[reducible] def Y6.sg:Sig:={args:=[.d (.g zd)],res:=[.a .u64]}
@[reducible] def X0.sg:Sig:={args:=[.d (.a .u64)],res:=[.c .bool]}
@[reducible] def WV.sg:Sig:={args:=[.d (.a .u64),.d (.a .u64)],res:=[.a .u64]}
@[reducible] def Y5.sg:Sig:={args:=[.d (.a .u64)],res:=[.a .u64]}
@[reducible] def VT.sg:Sig:={args:=[.d (.g zd)],res:=[.c (.int .u64),.c (.int .u64)]}
@[reducible] def Y3.sg:Sig:={args:=[.d (.c (.int .u64)),.d (.c (.int .u64))],res:=[.a .u64]}
@[reducible] def WU.sg:Sig:={args:=[.d (.a .u64)],res:=[.g zd,.c .bool]}
@[reducible] def WT.sg:Sig:={args:=[.d (.a .u64)],res:=[.g zd,.c (.int .i64)]}
@[reducible] def WW.sg:Sig:={args:=[.d (.c .bool),.d (.c (.int .u64)),.d (.c (.int .u64))],res:=[.g zd,.c (.int .i64)]}
end Go.VS
