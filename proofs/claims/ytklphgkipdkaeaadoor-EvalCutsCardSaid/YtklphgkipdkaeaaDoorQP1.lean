import Derived.Test.YtklphgkipdkaeaaDoorQH
set_option linter.unusedVariables false
set_option linter.unusedSimpArgs false
set_option linter.unusedSectionVars false
set_option linter.unusedVariables false
set_option maxRecDepth 100000
namespace Go.VS
open Go IntKind
@[reducible] def zR.sg:Sig:={args:=[.d (.c (.sl zm))],res:=[.og ya [0,1]]}
def zR.sh (F:Nat) (nodes:List zm.T):Option zR.sg.R :=
 some ((((⟨#[112]⟩:ByteArray),([((⟨#[97]⟩:ByteArray),10)]:List yK.T),0,nodes),()),())
def zR.sp (F:Nat):TA zR.sg.args->Option zR.sg.R:=fun x=>zR.sh F x.1
@[reducible] def yq.sg:Sig:={args:=[.d (.c (.int .u8))],res:=[.c .bool]}
def yq.sh (F:Nat) (c:Int):Option yq.sg.R :=
 bif decide (c>=97) then some ((decide (c<=122),()),())
 else some ((false,()),())
def yq.sp (F:Nat):TA yq.sg.args->Option yq.sg.R:=fun x=>yq.sh F x.1
@[reducible] def xc.sg:Sig:={args:=[.d (.c (.int .u8))],res:=[.c .bool]}
def xc.sh (F:Nat) (c:Int):Option xc.sg.R :=
 bif decide (c>=48) then some ((decide (c<=57),()),())
 else some ((false,()),())
def xc.sp (F:Nat):TA xc.sg.args->Option xc.sg.R:=fun x=>xc.sh F x.1
@[reducible] def yX.sg:Sig:={args:=[.d (.c (.int .u8))],res:=[.c .bool]}
def yX.sh (F:Nat) (c:Int):Option yX.sg.R :=
 oB (yq.sh F c) fun c_1 =>
 bif c_1.1.1 then some ((true,()),())
 else oB (xc.sh F c) fun c_2 =>
 bif c_2.1.1 then some ((true,()),())
 else some (((c==95),()),())
def yX.sp (F:Nat):TA yX.sg.args->Option yX.sg.R:=fun x=>yX.sh F x.1
@[reducible] def zS.sg:Sig:={args:=[.d (.c .str),.d (.c .fn)],res:=[.c (.int .i64)]}
@[reducible] def zS.ds15:Sig:={args:=[.d (.c (.int .u8))],res:=[.c .bool]}
def zS.d15 (F:Nat):Nat->TA zS.ds15.args->Option zS.ds15.R:=mkT zS.ds15 [(wP,yX.sp F),(wK,yq.sp F)]
abbrev zS.l2.K0 (R:Type):Type:=ByteArray->Nat->Int->Bool->Option R
abbrev zS.l2.T (R:Type):Type:=ByteArray->Nat->Int->Option R
def zS.l2.body {R:Type} (F:Nat) (k0:zS.l2.K0 R) (rec:zS.l2.T R) (s:ByteArray) (of:Nat) (n:Int):Option R :=
 bif decide (n<(s.size:Int)) then bif idx n s.size then oB (zS.d15 F of (bt s n,())) fun c_1 =>
 bif c_1.1.1 then rec s of (i64.wrap (n+1))
 else k0 s of n c_1.1.1
 else none
 else k0 s of n false
def zS.l2 {R:Type} (F:Nat) (k0:zS.l2.K0 R):Nat->zS.l2.T R
 | 0,_,_,_=>none
 | fu+1,s,of,n=>zS.l2.body F k0 (zS.l2 F k0 fu) s of n
def zS.sh (F:Nat) (s:ByteArray) (of_:Nat):Option zS.sg.R :=
 zS.l2 F (fun s2 of2 n2 t162=>some ((n2,()),())) F s of_ 0
def zS.sp (F:Nat):TA zS.sg.args->Option zS.sg.R:=fun x=>zS.sh F x.1 x.2.1
@[reducible] def xp.sg:Sig:={args:=[.d (.c .str)],res:=[.c .bool]}
def xp.sh (F:Nat) (s:ByteArray):Option xp.sg.R :=
 bif !(s.toList==(⟨#[]⟩:ByteArray).toList) then oB (zS.sh F s wK) fun c_1 =>
 bif (c_1.1.1==(s.size:Int)) then bif Nat.ble ((⟨#[32]⟩:ByteArray).size+s.size) y4 then bif Nat.ble (((⟨#[32]⟩:ByteArray)++s).size+(⟨#[32]⟩:ByteArray).size) y4 then oB (yn.sh F (⟨#[32,112,108,97,110,32,114,111,117,110,100,32,98,121,32,98,108,111,99,107,115,32,109,105,110,32,109,97,120,32,111,118,101,114,32,117,112,116,111,32,103,114,97,100,117,97,116,101,100,32,118,111,108,117,109,101,32,111,102,102,32,105,102,32,102,108,111,111,114,32,99,101,105,108,32,122,101,114,111,32,104,97,108,102,32,101,118,101,110,32]⟩:ByteArray) (((⟨#[32]⟩:ByteArray)++s)++(⟨#[32]⟩:ByteArray))) fun c_2 =>
 some ((c_2.1.1,()),())
 else none
 else none
 else some ((false,()),())
 else some ((false,()),())
def xp.sp (F:Nat):TA xp.sg.args->Option xp.sg.R:=fun x=>xp.sh F x.1
@[reducible] def xi.sg:Sig:={args:=[.d (.c .str)],res:=[.c .bool]}
def xi.sh (F:Nat) (s:ByteArray):Option xi.sg.R :=
 bif !(s.toList==(⟨#[]⟩:ByteArray).toList) then bif decide ((s.size:Int)<=32) then bif idx 0 s.size then oB (yq.sh F (bt s 0)) fun c_1 =>
 bif c_1.1.1 then oB (zS.sh F s wP) fun c_2 =>
 bif (c_2.1.1==(s.size:Int)) then oB (xp.sh F s) fun c_3 =>
 some ((!c_3.1.1,()),())
 else some ((false,()),())
 else some ((false,()),())
 else none
 else some ((false,()),())
 else some ((false,()),())
def xi.sp (F:Nat):TA xi.sg.args->Option xi.sg.R:=fun x=>xi.sh F x.1
@[reducible] def yH.sg:Sig:={args:=[.d (.g yK),.d (.p yK)],res:=[.c .bool]}
def yH.sh (F:Nat) (e:yK.T) (t1:yK.T):Option yH.sg.R :=
 some (((e.1.toList==t1.1.toList),()),())
def yH.sp (F:Nat):TA yH.sg.args->Option yH.sg.R:=fun x=>yH.sh F x.1 x.2.1
@[reducible] def zb.sg:Sig:={args:=[.d (.b yK),.d (.cl yK)],res:=[.c (.int .i64)]}
@[reducible] def zb.ds16:Sig:={args:=[.d (.g yK),.d (.p yK)],res:=[.c .bool]}
def zb.d16 (F:Nat):Nat->TA zb.ds16.args->Option zb.ds16.R:=mkT zb.ds16 [(qf,yH.sp F)]
abbrev zb.l2.K1 (R:Type):Type:=(List yK.T)->(Nat×yK.T)->Int->Int->Bool->Option R
abbrev zb.l2.T (R:Type):Type:=(List yK.T)->(Nat×yK.T)->Int->Int->Option R
def zb.l2.body {R:Type} (F:Nat) (k0:Int->Option R) (k1:zb.l2.K1 R) (rec:zb.l2.T R) (s:List yK.T) (f:Nat×yK.T) (t7:Int) (t8:Int):Option R :=
 bif decide (t8<t7) then bif idx t8 s.length then oB (zb.d16 F (f.1+1) ((get yK s t8.toNat),f.2,())) fun c_1 =>
 bif c_1.1.1 then k0 t8
 else rec s (f.1,f.2) t7 (i64.wrap (t8+1))
 else none
 else k1 s (f.1,f.2) t7 t8 (decide (t8<t7))
def zb.l2 {R:Type} (F:Nat) (k0:Int->Option R) (k1:zb.l2.K1 R):Nat->zb.l2.T R
 | 0,_,_,_,_=>none
 | fu+1,s,f,t7,t8=>zb.l2.body F k0 k1 (zb.l2 F k0 k1 fu) s f t7 t8
def zb.sh (F:Nat) (s:List yK.T) (f:Nat×yK.T):Option zb.sg.R :=
 zb.l2 F (fun r42=>some ((r42,()),())) (fun s3 f3 t73 t83 t93=>some (((-1),()),())) F s (f.1,f.2) (s.length:Int) 0
def zb.sp (F:Nat):TA zb.sg.args->Option zb.sg.R:=fun x=>zb.sh F x.1 x.2.1
@[reducible] def zI.sg:Sig:={args:=[.d (.b yK),.d (.cl yK)],res:=[.c .bool]}
def zI.sh (F:Nat) (s:List yK.T) (f:Nat×yK.T):Option zI.sg.R :=
 oB (zb.sh F s (f.1,f.2)) fun c_1 =>
 some ((decide (c_1.1.1>=0),()),())
def zI.sp (F:Nat):TA zI.sg.args->Option zI.sg.R:=fun x=>zI.sh F x.1 x.2.1
@[reducible] def zL.sg:Sig:={args:=[.d (.g ya)],res:=[.c (.int .i64)]}
abbrev zL.l6.K2 (R:Type):Type:=(List yK.T)->Int->Int->Bool->ya.T->Option R
abbrev zL.l6.T (R:Type):Type:=(List yK.T)->Int->Int->ya.T->Option R
def zL.l6.body {R:Type} (F:Nat) (k0:Int->Option R) (k1:Int->Option R) (k2:zL.l6.K2 R) (rec:zL.l6.T R) (t21:List yK.T) (t22:Int) (t23:Int) (p:ya.T):Option R :=
 bif decide (t23<t22) then bif idx t23 t21.length then oB (xi.sh F (get yK t21 t23.toNat).1) fun c_2 =>
 bif !c_2.1.1 then k0 61
 else bif (zr p.2.1.length none (some t23)).1 then oB (zI.sh F ((p.2.1.take (zr p.2.1.length none (some t23)).2.2).drop (zr p.2.1.length none (some t23)).2.1) (xV,(get yK t21 t23.toNat))) fun c_3 =>
 bif c_3.1.1 then k0 61
 else bif decide ((get yK t21 t23.toNat).2<1) then k1 50
 else bif decide ((get yK t21 t23.toNat).2>1000000000000) then k1 50
 else rec t21 t22 (i64.wrap (t23+1)) p
 else none
 else none
 else k2 t21 t22 t23 (decide (t23<t22)) p
def zL.l6 {R:Type} (F:Nat) (k0:Int->Option R) (k1:Int->Option R) (k2:zL.l6.K2 R):Nat->zL.l6.T R
 | 0,_,_,_,_=>none
 | fu+1,t21,t22,t23,p=>zL.l6.body F k0 k1 k2 (zL.l6 F k0 k1 k2 fu) t21 t22 t23 p
def zL.sh (F:Nat) (p:ya.T):Option zL.sg.R :=
 oB (xi.sh F p.1) fun c_1 =>
 bif !c_1.1.1 then some ((61,()),())
 else bif decide ((p.2.1.length:Int)<1) then some ((100,()),())
 else bif decide ((p.2.1.length:Int)>4) then some ((100,()),())
 else zL.l6 F (fun r24=>some ((r24,()),())) (fun r25=>some ((r25,()),())) (fun t216 t226 t236 t246 p6=>bif decide (p6.2.2.1<0) then some ((50,()),())
 else bif decide (p6.2.2.1>4) then some ((50,()),())
 else some ((0,()),())) F p.2.1 (p.2.1.length:Int) 0 p
def zL.sp (F:Nat):TA zL.sg.args->Option zL.sg.R:=fun x=>zL.sh F x.1
@[reducible] def yk.sg:Sig:={args:=[.d (.g zm)],res:=[.c (.int .i64)]}
def yk.sh (F:Nat) (n:zm.T):Option yk.sg.R :=
 bif idx n.1 17 then bif decide ((get yC wM n.1.toNat).1>=0) then some (((get yC wM n.1.toNat).1,()),())
 else some ((n.2.2.2.1,()),())
 else none
def yk.sp (F:Nat):TA yk.sg.args->Option yk.sg.R:=fun x=>yk.sh F x.1
@[reducible] def zy.sg:Sig:={args:=[.d (.b zO)],res:=[.c .bool]}
abbrev zy.l4.K1 (R:Type):Type:=(List zO.T)->(List zO.T)->Int->Int->Bool->Option R
abbrev zy.l4.T (R:Type):Type:=(List zO.T)->(List zO.T)->Int->Int->Option R
def zy.l4.body {R:Type} (F:Nat) (k0:Bool->Option R) (k1:zy.l4.K1 R) (rec:zy.l4.T R) (tiers:List zO.T) (t20:List zO.T) (t21:Int) (t22:Int):Option R :=
 bif decide (t22<t21) then bif idx t22 t20.length then bif decide (t22>0) then bif idx (i64.wrap (t22-1)) tiers.length then bif decide ((get zO t20 t22.toNat).1<=(get zO tiers ((i64.wrap (t22-1)).toNat)).1) then k0 false
 else bif decide ((get zO t20 t22.toNat).1>1000000000000) then k0 false
 else bif decide ((get zO t20 t22.toNat).2<(-1000000000000)) then k0 false
 else bif decide ((get zO t20 t22.toNat).2>1000000000000) then k0 false
 else rec tiers t20 t21 (i64.wrap (t22+1))
 else none
 else bif decide ((get zO t20 t22.toNat).1>1000000000000) then k0 false
 else bif decide ((get zO t20 t22.toNat).2<(-1000000000000)) then k0 false
 else bif decide ((get zO t20 t22.toNat).2>1000000000000) then k0 false
 else rec tiers t20 t21 (i64.wrap (t22+1))
 else none
 else k1 tiers t20 t21 t22 (decide (t22<t21))
def zy.l4 {R:Type} (F:Nat) (k0:Bool->Option R) (k1:zy.l4.K1 R):Nat->zy.l4.T R
 | 0,_,_,_,_=>none
 | fu+1,tiers,t20,t21,t22=>zy.l4.body F k0 k1 (zy.l4 F k0 k1 fu) tiers t20 t21 t22
def zy.sh (F:Nat) (tiers:List zO.T):Option zy.sg.R :=
 bif decide ((tiers.length:Int)<1) then some ((false,()),())
 else bif decide ((tiers.length:Int)>16) then some ((false,()),())
 else bif idx 0 tiers.length then bif ((get zO tiers 0).1 != 0) then some ((false,()),())
 else zy.l4 F (fun r21=>some ((r21,()),())) (fun tiers2 t202 t212 t222 t232=>some ((true,()),())) F tiers tiers (tiers.length:Int) 0
 else none
def zy.sp (F:Nat):TA zy.sg.args->Option zy.sg.R:=fun x=>zy.sh F x.1
@[reducible] def zH.sg:Sig:={args:=[.d (.g zm),.d (.c (.int .i64)),.d (.c (.int .i64))],res:=[.c (.int .i64)]}
def zH.j13 {R:Type} (F:Nat) (k0:Int->Option R) (k1:Int->Option R) (k2:Int->Option R) (pile:Int) (most:Int) (kids:Bool) (op:Bool) (n:zm.T) (k:yC.T):Option R :=
 bif decide (n.2.1<0) then k0 50
 else bif decide (n.2.1>most) then k0 50
 else bif !kids then k0 50
 else bif !op then k0 50
 else bif !k.2.2.1 then bif decide ((n.2.2.2.2.1.length:Int)>0) then k0 50
 else oB (yk.sh F n) fun c_1 =>
 bif decide (pile<c_1.1.1) then k0 50
 else bif k.2.2.1 then oB (zy.sh F n.2.2.2.2.1) fun c_2 =>
 bif !c_2.1.1 then k1 51
 else k2 0
 else k2 0
 else oB (yk.sh F n) fun c_3 =>
 bif decide (pile<c_3.1.1) then k0 50
 else bif k.2.2.1 then oB (zy.sh F n.2.2.2.2.1) fun c_4 =>
 bif !c_4.1.1 then k1 51
 else k2 0
 else k2 0
def zH.j10 {R:Type} (F:Nat) (k0:Int->Option R) (k1:Int->Option R) (k2:Int->Option R) (pile:Int) (most:Int) (kids:Bool) (n:zm.T) (k:yC.T):Option R :=
 bif k.2.2.2 then bif decide (n.2.2.1>=1) then zH.j13 F (fun r65=>k0 r65) (fun r66=>k1 r66) (fun r67=>k2 r67) pile most kids (decide (n.2.2.1<=6)) n k
 else zH.j13 F (fun r68=>k0 r68) (fun r69=>k1 r69) (fun r610=>k2 r610) pile most kids false n k
 else zH.j13 F (fun r611=>k0 r611) (fun r612=>k1 r612) (fun r613=>k2 r613) pile most kids (n.2.2.1==0) n k
def zH.j7 {R:Type} (F:Nat) (k0:Int->Option R) (k1:Int->Option R) (k2:Int->Option R) (pile:Int) (most:Int) (n:zm.T) (k:yC.T):Option R :=
 bif decide (k.1<0) then bif decide (n.2.2.2.1>=2) then zH.j10 F (fun r614=>k0 r614) (fun r615=>k1 r615) (fun r616=>k2 r616) pile most (decide (n.2.2.2.1<=16)) n k
 else zH.j10 F (fun r617=>k0 r617) (fun r618=>k1 r618) (fun r619=>k2 r619) pile most false n k
 else zH.j10 F (fun r620=>k0 r620) (fun r621=>k1 r621) (fun r622=>k2 r622) pile most (n.2.2.2.1==0) n k
def zH.sh (F:Nat) (n:zm.T) (dims:Int) (pile:Int):Option zH.sg.R :=
 bif decide (n.1<1) then some ((50,()),())
 else bif decide (n.1>16) then some ((50,()),())
 else bif idx n.1 17 then bif decide ((get yC wM n.1.toNat).2.1<0) then zH.j7 F (fun r623=>some ((r623,()),())) (fun r624=>some ((r624,()),())) (fun r625=>some ((r625,()),())) pile (i64.wrap (dims-1)) n (get yC wM n.1.toNat)
 else zH.j7 F (fun r626=>some ((r626,()),())) (fun r627=>some ((r627,()),())) (fun r628=>some ((r628,()),())) pile (get yC wM n.1.toNat).2.1 n (get yC wM n.1.toNat)
 else none
def zH.sp (F:Nat):TA zH.sg.args->Option zH.sg.R:=fun x=>zH.sh F x.1 x.2.1 x.2.2.1
@[reducible] def zA.sg:Sig:={args:=[.d (.g ya)],res:=[.c (.int .i64),.c (.int .i64)]}
abbrev zA.l8.K1 (R:Type):Type:=Int->(List zm.T)->Int->Int->Bool->ya.T->Option R
abbrev zA.l8.T (R:Type):Type:=Int->(List zm.T)->Int->Int->ya.T->Option R
def zA.l8.body {R:Type} (F:Nat) (k0:Int->Int->Option R) (k1:zA.l8.K1 R) (rec:zA.l8.T R) (pile:Int) (t19:List zm.T) (t20:Int) (t21:Int) (p:ya.T):Option R :=
 bif decide (t21<t20) then bif idx t21 t19.length then oB (zH.sh F (get zm t19 t21.toNat) (p.2.1.length:Int) pile) fun c_2 =>
 bif (c_2.1.1 != 0) then k0 t21 c_2.1.1
 else oB (yk.sh F (get zm t19 t21.toNat)) fun c_3 =>
 rec (i64.wrap (pile+(i64.wrap (1-c_3.1.1)))) t19 t20 (i64.wrap (t21+1)) p
 else none
 else k1 pile t19 t20 t21 (decide (t21<t20)) p
def zA.l8 {R:Type} (F:Nat) (k0:Int->Int->Option R) (k1:zA.l8.K1 R):Nat->zA.l8.T R
 | 0,_,_,_,_,_=>none
 | fu+1,pile,t19,t20,t21,p=>zA.l8.body F k0 k1 (zA.l8 F k0 k1 fu) pile t19 t20 t21 p
def zA.sh (F:Nat) (p:ya.T):Option zA.sg.R :=
 oB (zL.sh F p) fun c_1 =>
 bif (c_1.1.1 != 0) then some (((-1),c_1.1.1,()),())
 else bif decide ((p.2.2.2.length:Int)>1024) then some ((1024,2,()),())
 else zA.l8 F (fun r24 r34=>some ((r24,r34,()),())) (fun pile5 t195 t205 t215 t225 p5=>bif (pile5 != 1) then some (((p5.2.2.2.length:Int),50,()),())
 else some ((0,0,()),())) F 0 p.2.2.2 (p.2.2.2.length:Int) 0 p
def zA.sp (F:Nat):TA zA.sg.args->Option zA.sg.R:=fun x=>zA.sh F x.1
@[reducible] def zq.sg:Sig:={args:=[.d (.g ya)],res:=[.c (.sl (.int .i64))]}
abbrev zq.l3.K0 (R:Type):Type:=(List zm.T)->Int->Int->Bool->(List Int)->(List Int)->Option R
abbrev zq.l3.T (R:Type):Type:=(List zm.T)->Int->Int->(List Int)->(List Int)->Option R
def zq.l3.body {R:Type} (F:Nat) (k0:zq.l3.K0 R) (rec:zq.l3.T R) (t10:List zm.T) (t11:Int) (t12:Int) (list:List Int) (pile:List Int):Option R :=
 bif decide (t12<t11) then bif idx t12 t10.length then oB (yk.sh F (get zm t10 t12.toNat)) fun c_1 =>
 bif decide (c_1.1.1>0) then bif idx (i64.wrap ((pile.length:Int)-c_1.1.1)) pile.length then bif (zr pile.length none (some (i64.wrap ((pile.length:Int)-c_1.1.1)))).1 then bif Nat.ble ((pile.take (zr pile.length none (some (i64.wrap ((pile.length:Int)-c_1.1.1)))).2.2).length+([get (.int .i64) pile ((i64.wrap ((pile.length:Int)-c_1.1.1)).toNat)]:List Int).length) y4 then bif Nat.ble (list.length+([get (.int .i64) pile ((i64.wrap ((pile.length:Int)-c_1.1.1)).toNat)]:List Int).length) y4 then rec t10 t11 (i64.wrap (t12+1)) (list++([get (.int .i64) pile ((i64.wrap ((pile.length:Int)-c_1.1.1)).toNat)]:List Int)) ((pile.take (zr pile.length none (some (i64.wrap ((pile.length:Int)-c_1.1.1)))).2.2)++([get (.int .i64) pile ((i64.wrap ((pile.length:Int)-c_1.1.1)).toNat)]:List Int))
 else none
 else none
 else none
 else none
 else bif Nat.ble (pile.length+([t12]:List Int).length) y4 then bif Nat.ble (list.length+([t12]:List Int).length) y4 then rec t10 t11 (i64.wrap (t12+1)) (list++([t12]:List Int)) (pile++([t12]:List Int))
 else none
 else none
 else none
 else k0 t10 t11 t12 (decide (t12<t11)) list pile
def zq.l3 {R:Type} (F:Nat) (k0:zq.l3.K0 R):Nat->zq.l3.T R
 | 0,_,_,_,_,_=>none
 | fu+1,t10,t11,t12,list,pile=>zq.l3.body F k0 (zq.l3 F k0 fu) t10 t11 t12 list pile
def zq.j13 {R:Type} (F:Nat) (k0:(List Int)->Option R) (list:List Int):Option R :=
 k0 list
def zq.sh (F:Nat) (p:ya.T):Option zq.sg.R :=
 zq.l3 F (fun t102 t112 t122 t132 list2 pile2=>zq.j13 F (fun r23=>some ((r23,()),())) list2) F p.2.2.2 (p.2.2.2.length:Int) 0 ([]) ([])
def zq.sp (F:Nat):TA zq.sg.args->Option zq.sg.R:=fun x=>zq.sh F x.1
@[reducible] def yL.sg:Sig:={args:=[.d (.g ya)],res:=[.c (.sl (.int .i64)),.c (.int .i64)]}
def yL.sh (F:Nat) (p:ya.T):Option yL.sg.R :=
 oB (zA.sh F p) fun c_1 =>
 bif (c_1.1.2.1 != 0) then some (([],c_1.1.2.1,()),())
 else oB (zq.sh F p) fun c_2 =>
 some ((c_2.1.1,0,()),())
def yL.sp (F:Nat):TA yL.sg.args->Option yL.sg.R:=fun x=>yL.sh F x.1
@[reducible] def zk.sg:Sig:={args:=[.d (.g ya)],res:=[.c (.sl .bool),.c (.int .i64)]}
abbrev zk.l7.K0 (R:Type):Type:=(List Int)->Int->(List zm.T)->Int->Int->Bool->(List Bool)->Option R
abbrev zk.l7.T (R:Type):Type:=(List Int)->Int->(List zm.T)->Int->Int->(List Bool)->Option R
def zk.l7.body {R:Type} (F:Nat) (k0:zk.l7.K0 R) (rec:zk.l7.T R) (list:List Int) (last:Int) (t22:List zm.T) (t23:Int) (t24:Int) (out:List Bool):Option R :=
 bif decide (t24<t23) then bif idx t24 t22.length then bif ((get zm t22 t24.toNat).1==3) then bif idx t24 list.length then bif idx t24 out.length then rec list t24 t22 t23 (i64.wrap (t24+1)) (out.set t24.toNat (decide (t24<(get (.int .i64) list t24.toNat))))
 else none
 else none
 else bif ((get zm t22 t24.toNat).1==4) then bif idx t24 list.length then bif idx t24 out.length then rec list t24 t22 t23 (i64.wrap (t24+1)) (out.set t24.toNat (decide (t24<(get (.int .i64) list t24.toNat))))
 else none
 else none
 else bif idx t24 list.length then bif idx t24 out.length then rec list last t22 t23 (i64.wrap (t24+1)) (out.set t24.toNat (decide (last<(get (.int .i64) list t24.toNat))))
 else none
 else none
 else none
 else k0 list last t22 t23 t24 (decide (t24<t23)) out
def zk.l7 {R:Type} (F:Nat) (k0:zk.l7.K0 R):Nat->zk.l7.T R
 | 0,_,_,_,_,_,_=>none
 | fu+1,list,last,t22,t23,t24,out=>zk.l7.body F k0 (zk.l7 F k0 fu) list last t22 t23 t24 out
def zk.j13 {R:Type} (F:Nat) (k0:(List Bool)->Int->Option R) (out:List Bool):Option R :=
 k0 out 0
def zk.sh (F:Nat) (p:ya.T):Option zk.sg.R :=
 oB (yL.sh F p) fun c_1 =>
 bif (c_1.1.2.1 != 0) then some (([],c_1.1.2.1,()),())
 else bif (decide (0<=(c_1.1.1.length:Int))&&decide ((c_1.1.1.length:Int)<=(c_1.1.1.length:Int))&&decide ((c_1.1.1.length:Int)<=(y4:Int))) then zk.l7 F (fun list2 last2 t222 t232 t242 t252 out2=>zk.j13 F (fun r23 r33=>some ((r23,r33,()),())) out2) F c_1.1.1 (-1) p.2.2.2 (p.2.2.2.length:Int) 0 (ZB .bool ((c_1.1.1.length:Int).toNat))
 else none
def zk.sp (F:Nat):TA zk.sg.args->Option zk.sg.R:=fun x=>zk.sh F x.1
@[reducible] def yU.sg:Sig:={args:=[.d (.c (.int .i64))],res:=[.c .fn,.c (.int .i64)]}
def yU.sh (F:Nat) (kind:Int):Option yU.sg.R :=
 bif idx kind (([Ty.dflt (.pair .fn (.int .i64)),(xI,0),(xO,0),(xm,0),(xB,0),(zB,1),(zB,2),(zB,2),(xu,2),(zB,(-1)),(zB,(-1)),(yu,1),(yu,1),(yw,1),(yw,1),(xL,1),(xG,3)]:List (Nat×Int)).length) then bif idx kind (([Ty.dflt (.pair .fn (.int .i64)),(xI,0),(xO,0),(xm,0),(xB,0),(zB,1),(zB,2),(zB,2),(xu,2),(zB,(-1)),(zB,(-1)),(yu,1),(yu,1),(yw,1),(yw,1),(xL,1),(xG,3)]:List (Nat×Int)).length) then some (((get (.pair .fn (.int .i64)) ([Ty.dflt (.pair .fn (.int .i64)),(xI,0),(xO,0),(xm,0),(xB,0),(zB,1),(zB,2),(zB,2),(xu,2),(zB,(-1)),(zB,(-1)),(yu,1),(yu,1),(yw,1),(yw,1),(xL,1),(xG,3)]:List (Nat×Int)) kind.toNat).1,(get (.pair .fn (.int .i64)) ([Ty.dflt (.pair .fn (.int .i64)),(xI,0),(xO,0),(xm,0),(xB,0),(zB,1),(zB,2),(zB,2),(xu,2),(zB,(-1)),(zB,(-1)),(yu,1),(yu,1),(yw,1),(yw,1),(xL,1),(xG,3)]:List (Nat×Int)) kind.toNat).2,()),())
 else none
 else none
def yU.sp (F:Nat):TA yU.sg.args->Option yU.sg.R:=fun x=>yU.sh F x.1
@[reducible] def zp.sg:Sig:={args:=[.d (.g zZ),.d (.c (.int .i64))],res:=[.c (.int .i64)]}
abbrev zp.l2.K1 (R:Type):Type:=Int->(List Int)->Int->Int->Bool->zZ.T->Option R
abbrev zp.l2.T (R:Type):Type:=Int->(List Int)->Int->Int->zZ.T->Option R
def zp.l2.body {R:Type} (F:Nat) (k0:Int->Option R) (k1:zp.l2.K1 R) (rec:zp.l2.T R) (from_:Int) (t10:List Int) (t11:Int) (t12:Int) (n:zZ.T):Option R :=
 bif decide (t12<t11) then bif idx t12 t10.length then bif idx from_ n.2.1.length then bif ((get (.int .i64) t10 t12.toNat) != (get (.int .i64) n.2.1 from_.toNat)) then k0 (-1)
 else rec from_ t10 t11 (i64.wrap (t12+1)) n
 else none
 else none
 else k1 from_ t10 t11 t12 (decide (t12<t11)) n
def zp.l2 {R:Type} (F:Nat) (k0:Int->Option R) (k1:zp.l2.K1 R):Nat->zp.l2.T R
 | 0,_,_,_,_,_=>none
 | fu+1,from_,t10,t11,t12,n=>zp.l2.body F k0 k1 (zp.l2 F k0 k1 fu) from_ t10 t11 t12 n
def zp.sh (F:Nat) (n:zZ.T) (from_:Int):Option zp.sg.R :=
 bif (zr n.2.1.length (some from_) none).1 then zp.l2 F (fun r41=>some ((r41,()),())) (fun from_2 t102 t112 t122 t132 n2=>bif idx from_2 n2.2.1.length then some ((get (.int .i64) n2.2.1 from_2.toNat,()),())
 else none) F from_ ((n.2.1.take (zr n.2.1.length (some from_) none).2.2).drop (zr n.2.1.length (some from_) none).2.1) (((n.2.1.take (zr n.2.1.length (some from_) none).2.2).drop (zr n.2.1.length (some from_) none).2.1).length:Int) 0 n
 else none
def zp.sp (F:Nat):TA zp.sg.args->Option zp.sg.R:=fun x=>zp.sh F x.1 x.2.1
@[reducible] def zU.sg:Sig:={args:=[.d (.g zZ)],res:=[.c (.int .i64)]}
def zU.sh (F:Nat) (n:zZ.T):Option zU.sg.R :=
 oB (zp.sh F n 0) fun c_1 =>
 some ((c_1.1.1,()),())
def zU.sp (F:Nat):TA zU.sg.args->Option zU.sg.R:=fun x=>zU.sh F x.1
@[reducible] def ye.sg:Sig:={args:=[.d (.g zZ)],res:=[.c (.int .i64)]}
def ye.sh (F:Nat) (n:zZ.T):Option ye.sg.R :=
 some ((i64.wrap (3+(i64.wrap (2*n.1.2.1))),()),())
def ye.sp (F:Nat):TA ye.sg.args->Option ye.sg.R:=fun x=>ye.sh F x.1
@[reducible] def yh.sg:Sig:={args:=[.d (.c (.int .i64))],res:=[.c .bool]}
def yh.sh (F:Nat) (t:Int):Option yh.sg.R :=
 some ((decide (t>=2),()),())
def yh.sp (F:Nat):TA yh.sg.args->Option yh.sg.R:=fun x=>yh.sh F x.1
@[reducible] def zT.sg:Sig:={args:=[.d (.g zZ)],res:=[.c (.int .i64)]}
def zT.sh (F:Nat) (n:zZ.T):Option zT.sg.R :=
 bif idx 0 n.2.1.length then oB (yh.sh F (get (.int .i64) n.2.1 0)) fun c_1 =>
 bif c_1.1.1 then bif idx 0 n.2.1.length then some ((get (.int .i64) n.2.1 0,()),())
 else none
 else some (((-1),()),())
 else none
def zT.sp (F:Nat):TA zT.sg.args->Option zT.sg.R:=fun x=>zT.sh F x.1
@[reducible] def yt.sg:Sig:={args:=[.d (.g zZ)],res:=[.c (.int .i64)]}
def yt.sh (F:Nat) (n:zZ.T):Option yt.sg.R :=
 some ((1,()),())
def yt.sp (F:Nat):TA yt.sg.args->Option yt.sg.R:=fun x=>yt.sh F x.1
@[reducible] def yp.sg:Sig:={args:=[.d (.g zZ)],res:=[.c (.int .i64)]}
def yp.sh (F:Nat) (n:zZ.T):Option yp.sg.R :=
 some ((0,()),())
def yp.sp (F:Nat):TA yp.sg.args->Option yp.sg.R:=fun x=>yp.sh F x.1
@[reducible] def yo.sg:Sig:={args:=[.d (.g zZ)],res:=[.c (.int .i64)]}
def yo.sh (F:Nat) (n:zZ.T):Option yo.sg.R :=
 bif idx 0 n.2.1.length then bif ((get (.int .i64) n.2.1 0)==1) then some ((1,()),())
 else some (((-1),()),())
 else none
def yo.sp (F:Nat):TA yo.sg.args->Option yo.sg.R:=fun x=>yo.sh F x.1
@[reducible] def z7.sg:Sig:={args:=[.d (.g zZ)],res:=[.c (.int .i64)]}
def z7.sh (F:Nat) (n:zZ.T):Option z7.sg.R :=
 bif idx 0 n.2.1.length then oB (yh.sh F (get (.int .i64) n.2.1 0)) fun c_1 =>
 bif c_1.1.1 then some ((1,()),())
 else some (((-1),()),())
 else none
def z7.sp (F:Nat):TA z7.sg.args->Option z7.sg.R:=fun x=>z7.sh F x.1
@[reducible] def zY.sg:Sig:={args:=[.d (.g zZ)],res:=[.c (.int .i64)]}
def zY.sh (F:Nat) (n:zZ.T):Option zY.sg.R :=
 bif idx 0 n.2.1.length then bif idx 1 n.2.1.length then bif ((get (.int .i64) n.2.1 0)==0) then some ((get (.int .i64) n.2.1 1,()),())
 else bif ((get (.int .i64) n.2.1 1)==0) then some ((get (.int .i64) n.2.1 0,()),())
 else oB (yh.sh F (get (.int .i64) n.2.1 0)) fun c_1 =>
 bif c_1.1.1 then bif ((get (.int .i64) n.2.1 1)==1) then bif ((get (.int .i64) n.2.1 1)==1) then some ((1,()),())
 else some (((-1),()),())
 else oB (yh.sh F (get (.int .i64) n.2.1 1)) fun c_2 =>
 bif c_2.1.1 then bif ((get (.int .i64) n.2.1 0)==1) then some ((1,()),())
 else some (((-1),()),())
 else some (((-1),()),())
 else oB (yh.sh F (get (.int .i64) n.2.1 1)) fun c_3 =>
 bif c_3.1.1 then bif ((get (.int .i64) n.2.1 0)==1) then some ((1,()),())
 else some (((-1),()),())
 else some (((-1),()),())
 else none
 else none
def zY.sp (F:Nat):TA zY.sg.args->Option zY.sg.R:=fun x=>zY.sh F x.1
@[reducible] def zW.sg:Sig:={args:=[.d (.g zZ)],res:=[.c (.int .i64)]}
def zW.sh (F:Nat) (n:zZ.T):Option zW.sg.R :=
 some ((i64.wrap (2+(i64.wrap (2*n.1.2.1))),()),())
def zW.sp (F:Nat):TA zW.sg.args->Option zW.sg.R:=fun x=>zW.sh F x.1
@[reducible] def yi.sg:Sig:={args:=[.d (.g zZ)],res:=[.c (.int .i64)]}
def yi.sh (F:Nat) (n:zZ.T):Option yi.sg.R :=
 bif idx 0 n.2.1.length then oB (yh.sh F (get (.int .i64) n.2.1 0)) fun c_1 =>
 bif c_1.1.1 then oB (zp.sh F n 1) fun c_2 =>
 some ((c_2.1.1,()),())
 else some (((-1),()),())
 else none
def yi.sp (F:Nat):TA yi.sg.args->Option yi.sg.R:=fun x=>yi.sh F x.1
@[reducible] def zh.sg:Sig:={args:=[.d (.g ya)],res:=[.c (.sl (.int .i64)),.c (.int .i64),.c (.int .i64)]}
@[reducible] def zh.ds63:Sig:={args:=[.d (.g zZ)],res:=[.c (.int .i64)]}
def zh.d63 (F:Nat):Nat->TA zh.ds63.args->Option zh.ds63.R:=mkT zh.ds63 [(zB,zU.sp F),(xB,ye.sp F),(yu,zT.sp F),(xO,yt.sp F),(xI,yp.sp F),(xL,yo.sp F),(yw,z7.sp F),(xu,zY.sp F),(xm,zW.sp F),(xG,yi.sp F)]
abbrev zh.l8.K0 (R:Type):Type:=(List Int)->Int->Int->Option R
abbrev zh.l8.K1 (R:Type):Type:=(List Int)->Int->Int->Option R
abbrev zh.l8.K2 (R:Type):Type:=(List Bool)->(List zm.T)->Int->Int->Bool->(List Int)->(List Int)->(List Bool)->Option R
abbrev zh.l8.T (R:Type):Type:=(List Bool)->(List zm.T)->Int->Int->(List Int)->(List Int)->(List Bool)->Option R
def zh.l8.body {R:Type} (F:Nat) (k0:zh.l8.K0 R) (k1:zh.l8.K1 R) (k2:zh.l8.K2 R) (rec:zh.l8.T R) (fixed:List Bool) (t33:List zm.T) (t34:Int) (t35:Int) (types:List Int) (pile:List Int) (fix:List Bool):Option R :=
 bif decide (t35<t34) then bif idx t35 t33.length then oB (yU.sh F (get zm t33 t35.toNat).1) fun c_3 =>
 bif decide (c_3.1.2.1<0) then bif (zr pile.length (some (i64.wrap ((pile.length:Int)-(get zm t33 t35.toNat).2.2.2.1))) none).1 then bif (zr fix.length (some (i64.wrap ((pile.length:Int)-(get zm t33 t35.toNat).2.2.2.1))) none).1 then oB (zh.d63 F c_3.1.1 (((get zm t33 t35.toNat),(pile.take (zr pile.length (some (i64.wrap ((pile.length:Int)-(get zm t33 t35.toNat).2.2.2.1))) none).2.2).drop (zr pile.length (some (i64.wrap ((pile.length:Int)-(get zm t33 t35.toNat).2.2.2.1))) none).2.1,(fix.take (zr fix.length (some (i64.wrap ((pile.length:Int)-(get zm t33 t35.toNat).2.2.2.1))) none).2.2).drop (zr fix.length (some (i64.wrap ((pile.length:Int)-(get zm t33 t35.toNat).2.2.2.1))) none).2.1),())) fun c_4 =>
 bif (c_4.1.1==(-1)) then k0 ([]) t35 80
 else bif ((get zm t33 t35.toNat).1==8) then bif idx (i64.wrap ((pile.length:Int)-(get zm t33 t35.toNat).2.2.2.1)) fix.length then bif !(get .bool fix ((i64.wrap ((pile.length:Int)-(get zm t33 t35.toNat).2.2.2.1)).toNat)) then bif idx (i64.wrap ((i64.wrap ((pile.length:Int)-(get zm t33 t35.toNat).2.2.2.1))+1)) fix.length then bif !(get .bool fix ((i64.wrap ((i64.wrap ((pile.length:Int)-(get zm t33 t35.toNat).2.2.2.1))+1)).toNat)) then k1 ([]) t35 81
 else bif Nat.ble (types.length+([c_4.1.1]:List Int).length) y4 then bif (zr pile.length none (some (i64.wrap ((pile.length:Int)-(get zm t33 t35.toNat).2.2.2.1)))).1 then bif Nat.ble ((zr pile.length none (some (i64.wrap ((pile.length:Int)-(get zm t33 t35.toNat).2.2.2.1)))).2.2+([c_4.1.1]:List Int).length) y4 then bif (zr fix.length none (some (i64.wrap ((pile.length:Int)-(get zm t33 t35.toNat).2.2.2.1)))).1 then bif idx t35 fixed.length then bif Nat.ble ((zr fix.length none (some (i64.wrap ((pile.length:Int)-(get zm t33 t35.toNat).2.2.2.1)))).2.2+([get .bool fixed t35.toNat]:List Bool).length) y4 then rec fixed t33 t34 (i64.wrap (t35+1)) (types++([c_4.1.1]:List Int)) (pile.take (zr pile.length none (some (i64.wrap ((pile.length:Int)-(get zm t33 t35.toNat).2.2.2.1)))).2.2++([c_4.1.1]:List Int)) (fix.take (zr fix.length none (some (i64.wrap ((pile.length:Int)-(get zm t33 t35.toNat).2.2.2.1)))).2.2++([get .bool fixed t35.toNat]:List Bool))
 else none
 else none
 else none
 else none
 else none
 else none
 else none
 else bif Nat.ble (types.length+([c_4.1.1]:List Int).length) y4 then bif (zr pile.length none (some (i64.wrap ((pile.length:Int)-(get zm t33 t35.toNat).2.2.2.1)))).1 then bif Nat.ble ((zr pile.length none (some (i64.wrap ((pile.length:Int)-(get zm t33 t35.toNat).2.2.2.1)))).2.2+([c_4.1.1]:List Int).length) y4 then bif (zr fix.length none (some (i64.wrap ((pile.length:Int)-(get zm t33 t35.toNat).2.2.2.1)))).1 then bif idx t35 fixed.length then bif Nat.ble ((zr fix.length none (some (i64.wrap ((pile.length:Int)-(get zm t33 t35.toNat).2.2.2.1)))).2.2+([get .bool fixed t35.toNat]:List Bool).length) y4 then rec fixed t33 t34 (i64.wrap (t35+1)) (types++([c_4.1.1]:List Int)) (pile.take (zr pile.length none (some (i64.wrap ((pile.length:Int)-(get zm t33 t35.toNat).2.2.2.1)))).2.2++([c_4.1.1]:List Int)) (fix.take (zr fix.length none (some (i64.wrap ((pile.length:Int)-(get zm t33 t35.toNat).2.2.2.1)))).2.2++([get .bool fixed t35.toNat]:List Bool))
 else none
 else none
 else none
 else none
 else none
 else none
 else none
 else bif Nat.ble (types.length+([c_4.1.1]:List Int).length) y4 then bif (zr pile.length none (some (i64.wrap ((pile.length:Int)-(get zm t33 t35.toNat).2.2.2.1)))).1 then bif Nat.ble ((zr pile.length none (some (i64.wrap ((pile.length:Int)-(get zm t33 t35.toNat).2.2.2.1)))).2.2+([c_4.1.1]:List Int).length) y4 then bif (zr fix.length none (some (i64.wrap ((pile.length:Int)-(get zm t33 t35.toNat).2.2.2.1)))).1 then bif idx t35 fixed.length then bif Nat.ble ((zr fix.length none (some (i64.wrap ((pile.length:Int)-(get zm t33 t35.toNat).2.2.2.1)))).2.2+([get .bool fixed t35.toNat]:List Bool).length) y4 then rec fixed t33 t34 (i64.wrap (t35+1)) (types++([c_4.1.1]:List Int)) (pile.take (zr pile.length none (some (i64.wrap ((pile.length:Int)-(get zm t33 t35.toNat).2.2.2.1)))).2.2++([c_4.1.1]:List Int)) (fix.take (zr fix.length none (some (i64.wrap ((pile.length:Int)-(get zm t33 t35.toNat).2.2.2.1)))).2.2++([get .bool fixed t35.toNat]:List Bool))
 else none
 else none
 else none
 else none
 else none
 else none
 else none
 else none
 else bif (zr pile.length (some (i64.wrap ((pile.length:Int)-c_3.1.2.1))) none).1 then bif (zr fix.length (some (i64.wrap ((pile.length:Int)-c_3.1.2.1))) none).1 then oB (zh.d63 F c_3.1.1 (((get zm t33 t35.toNat),(pile.take (zr pile.length (some (i64.wrap ((pile.length:Int)-c_3.1.2.1))) none).2.2).drop (zr pile.length (some (i64.wrap ((pile.length:Int)-c_3.1.2.1))) none).2.1,(fix.take (zr fix.length (some (i64.wrap ((pile.length:Int)-c_3.1.2.1))) none).2.2).drop (zr fix.length (some (i64.wrap ((pile.length:Int)-c_3.1.2.1))) none).2.1),())) fun c_5 =>
 bif (c_5.1.1==(-1)) then k0 ([]) t35 80
 else bif ((get zm t33 t35.toNat).1==8) then bif idx (i64.wrap ((pile.length:Int)-c_3.1.2.1)) fix.length then bif !(get .bool fix ((i64.wrap ((pile.length:Int)-c_3.1.2.1)).toNat)) then bif idx (i64.wrap ((i64.wrap ((pile.length:Int)-c_3.1.2.1))+1)) fix.length then bif !(get .bool fix ((i64.wrap ((i64.wrap ((pile.length:Int)-c_3.1.2.1))+1)).toNat)) then k1 ([]) t35 81
 else bif Nat.ble (types.length+([c_5.1.1]:List Int).length) y4 then bif (zr pile.length none (some (i64.wrap ((pile.length:Int)-c_3.1.2.1)))).1 then bif Nat.ble ((zr pile.length none (some (i64.wrap ((pile.length:Int)-c_3.1.2.1)))).2.2+([c_5.1.1]:List Int).length) y4 then bif (zr fix.length none (some (i64.wrap ((pile.length:Int)-c_3.1.2.1)))).1 then bif idx t35 fixed.length then bif Nat.ble ((zr fix.length none (some (i64.wrap ((pile.length:Int)-c_3.1.2.1)))).2.2+([get .bool fixed t35.toNat]:List Bool).length) y4 then rec fixed t33 t34 (i64.wrap (t35+1)) (types++([c_5.1.1]:List Int)) (pile.take (zr pile.length none (some (i64.wrap ((pile.length:Int)-c_3.1.2.1)))).2.2++([c_5.1.1]:List Int)) (fix.take (zr fix.length none (some (i64.wrap ((pile.length:Int)-c_3.1.2.1)))).2.2++([get .bool fixed t35.toNat]:List Bool))
 else none
 else none
 else none
 else none
 else none
 else none
 else none
 else bif Nat.ble (types.length+([c_5.1.1]:List Int).length) y4 then bif (zr pile.length none (some (i64.wrap ((pile.length:Int)-c_3.1.2.1)))).1 then bif Nat.ble ((zr pile.length none (some (i64.wrap ((pile.length:Int)-c_3.1.2.1)))).2.2+([c_5.1.1]:List Int).length) y4 then bif (zr fix.length none (some (i64.wrap ((pile.length:Int)-c_3.1.2.1)))).1 then bif idx t35 fixed.length then bif Nat.ble ((zr fix.length none (some (i64.wrap ((pile.length:Int)-c_3.1.2.1)))).2.2+([get .bool fixed t35.toNat]:List Bool).length) y4 then rec fixed t33 t34 (i64.wrap (t35+1)) (types++([c_5.1.1]:List Int)) (pile.take (zr pile.length none (some (i64.wrap ((pile.length:Int)-c_3.1.2.1)))).2.2++([c_5.1.1]:List Int)) (fix.take (zr fix.length none (some (i64.wrap ((pile.length:Int)-c_3.1.2.1)))).2.2++([get .bool fixed t35.toNat]:List Bool))
 else none
 else none
 else none
 else none
 else none
 else none
 else none
 else bif Nat.ble (types.length+([c_5.1.1]:List Int).length) y4 then bif (zr pile.length none (some (i64.wrap ((pile.length:Int)-c_3.1.2.1)))).1 then bif Nat.ble ((zr pile.length none (some (i64.wrap ((pile.length:Int)-c_3.1.2.1)))).2.2+([c_5.1.1]:List Int).length) y4 then bif (zr fix.length none (some (i64.wrap ((pile.length:Int)-c_3.1.2.1)))).1 then bif idx t35 fixed.length then bif Nat.ble ((zr fix.length none (some (i64.wrap ((pile.length:Int)-c_3.1.2.1)))).2.2+([get .bool fixed t35.toNat]:List Bool).length) y4 then rec fixed t33 t34 (i64.wrap (t35+1)) (types++([c_5.1.1]:List Int)) (pile.take (zr pile.length none (some (i64.wrap ((pile.length:Int)-c_3.1.2.1)))).2.2++([c_5.1.1]:List Int)) (fix.take (zr fix.length none (some (i64.wrap ((pile.length:Int)-c_3.1.2.1)))).2.2++([get .bool fixed t35.toNat]:List Bool))
 else none
 else none
 else none
 else none
 else none
 else none
 else none
 else none
 else none
 else k2 fixed t33 t34 t35 (decide (t35<t34)) types pile fix
def zh.l8 {R:Type} (F:Nat) (k0:zh.l8.K0 R) (k1:zh.l8.K1 R) (k2:zh.l8.K2 R):Nat->zh.l8.T R
 | 0,_,_,_,_,_,_,_=>none
 | fu+1,fixed,t33,t34,t35,types,pile,fix=>zh.l8.body F k0 k1 k2 (zh.l8 F k0 k1 k2 fu) fixed t33 t34 t35 types pile fix
def zh.j23 {R:Type} (F:Nat) (k0:(List Int)->Int->Int->Option R) (k1:(List Int)->Int->Int->Option R) (types:List Int) (pile:List Int):Option R :=
 bif idx 0 pile.length then bif ((get (.int .i64) pile 0) != 1) then k0 ([]) (i64.wrap ((types.length:Int)-1)) 80
 else k1 types 0 0
 else none
def zh.sh (F:Nat) (p:ya.T):Option zh.sg.R :=
 oB (zA.sh F p) fun c_1 =>
 bif (c_1.1.2.1 != 0) then some (([],c_1.1.1,c_1.1.2.1,()),())
 else oB (zk.sh F p) fun c_2 =>
 zh.l8 F (fun r26 r36 r46=>some ((r26,r36,r46,()),())) (fun r27 r37 r47=>some ((r27,r37,r47,()),())) (fun fixed8 t338 t348 t358 t368 types8 pile8 fix8=>zh.j23 F (fun r29 r39 r49=>some ((r29,r39,r49,()),())) (fun r210 r310 r410=>some ((r210,r310,r410,()),())) types8 pile8) F c_2.1.1 p.2.2.2 (p.2.2.2.length:Int) 0 ([]) ([]) ([])
def zh.sp (F:Nat):TA zh.sg.args->Option zh.sg.R:=fun x=>zh.sh F x.1
@[reducible] def zt.sg:Sig:={args:=[.d (.b (.int .i64))],res:=[.c (.int .i64)]}
abbrev zt.l5.K0 (R:Type):Type:=(List Int)->Int->Int->Bool->Option R
abbrev zt.l5.T (R:Type):Type:=(List Int)->Int->Int->Option R
def zt.l5.body {R:Type} (F:Nat) (k0:zt.l5.K0 R) (rec:zt.l5.T R) (x:List Int) (m:Int) (i:Int):Option R :=
 bif decide (i<(x.length:Int)) then bif idx i x.length then rec x (if get (.int .i64) x i.toNat>m then get (.int .i64) x i.toNat else m) (i64.wrap (i+1))
 else none
 else k0 x m i (decide (i<(x.length:Int)))
def zt.l5 {R:Type} (F:Nat) (k0:zt.l5.K0 R):Nat->zt.l5.T R
 | 0,_,_,_=>none
 | fu+1,x,m,i=>zt.l5.body F k0 (zt.l5 F k0 fu) x m i
def zt.sh (F:Nat) (x:List Int):Option zt.sg.R :=
 bif decide ((x.length:Int)<1) then none
 else bif idx 0 x.length then zt.l5 F (fun x1 m1 i1 t151=>some ((m1,()),())) F x (get (.int .i64) x 0) 1
 else none
def zt.sp (F:Nat):TA zt.sg.args->Option zt.sg.R:=fun x=>zt.sh F x.1
@[reducible] def zu.sg:Sig:={args:=[.d (.g ya)],res:=[.c (.int .i64),.c (.int .i64)]}
abbrev zu.l6.K0 (R:Type):Type:=(List zm.T)->Int->Int->Bool->(List Int)->Option R
abbrev zu.l6.T (R:Type):Type:=(List zm.T)->Int->Int->(List Int)->Option R
def zu.l6.body {R:Type} (F:Nat) (k0:zu.l6.K0 R) (rec:zu.l6.T R) (t20:List zm.T) (t21:Int) (t22:Int) (pile:List Int):Option R :=
 bif decide (t22<t21) then bif idx t22 t20.length then oB (yk.sh F (get zm t20 t22.toNat)) fun c_2 =>
 bif decide (c_2.1.1>0) then bif (zr pile.length (some (i64.wrap ((pile.length:Int)-c_2.1.1))) none).1 then oB (zt.sh F ((List.take (zr pile.length (some (i64.wrap ((pile.length:Int)-c_2.1.1))) none).2.2 pile).drop (zr pile.length (some (i64.wrap ((pile.length:Int)-c_2.1.1))) none).2.1)) fun c_3 =>
 bif (zr pile.length none (some (i64.wrap ((pile.length:Int)-c_2.1.1)))).1 then bif ((get zm t20 t22.toNat).1==15) then bif Nat.ble ((pile.take (zr pile.length none (some (i64.wrap ((pile.length:Int)-c_2.1.1)))).2.2).length+([i64.wrap (c_3.1.1+1)]:List Int).length) y4 then rec t20 t21 (i64.wrap (t22+1)) ((pile.take (zr pile.length none (some (i64.wrap ((pile.length:Int)-c_2.1.1)))).2.2)++([i64.wrap (c_3.1.1+1)]:List Int))
 else none
 else bif Nat.ble ((pile.take (zr pile.length none (some (i64.wrap ((pile.length:Int)-c_2.1.1)))).2.2).length+([c_3.1.1]:List Int).length) y4 then rec t20 t21 (i64.wrap (t22+1)) ((pile.take (zr pile.length none (some (i64.wrap ((pile.length:Int)-c_2.1.1)))).2.2)++([c_3.1.1]:List Int))
 else none
 else none
 else none
 else bif ((get zm t20 t22.toNat).1==15) then bif Nat.ble (pile.length+([i64.wrap (0+1)]:List Int).length) y4 then rec t20 t21 (i64.wrap (t22+1)) (pile++([i64.wrap (0+1)]:List Int))
 else none
 else bif Nat.ble (pile.length+([0]:List Int).length) y4 then rec t20 t21 (i64.wrap (t22+1)) (pile++([0]:List Int))
 else none
 else none
 else k0 t20 t21 t22 (decide (t22<t21)) pile
def zu.l6 {R:Type} (F:Nat) (k0:zu.l6.K0 R):Nat->zu.l6.T R
 | 0,_,_,_,_=>none
 | fu+1,t20,t21,t22,pile=>zu.l6.body F k0 (zu.l6 F k0 fu) t20 t21 t22 pile
def zu.j17 {R:Type} (F:Nat) (k0:Int->Int->Option R) (pile:List Int):Option R :=
 bif idx 0 pile.length then k0 (get (.int .i64) pile 0) 0
 else none
def zu.sh (F:Nat) (p:ya.T):Option zu.sg.R :=
 oB (zA.sh F p) fun c_1 =>
 bif (c_1.1.2.1 != 0) then some ((0,c_1.1.2.1,()),())
 else zu.l6 F (fun t204 t214 t224 t234 pile4=>zu.j17 F (fun r25 r35=>some ((r25,r35,()),())) pile4) F p.2.2.2 (p.2.2.2.length:Int) 0 ([])
def zu.sp (F:Nat):TA zu.sg.args->Option zu.sg.R:=fun x=>zu.sh F x.1
@[reducible] def zC.sg:Sig:={args:=[.d (.c (.int .i64))],res:=[.g za]}
def zC.sh (F:Nat) (v:Int):Option zC.sg.R :=
 some (((v.fdiv (2^(min (63:Int).toNat IntKind.i64.bits)),u64.wrap v),()),())
def zC.sp (F:Nat):TA zC.sg.args->Option zC.sg.R:=fun x=>zC.sh F x.1
@[reducible] def yT.sg:Sig:={args:=[.d (.g za)],res:=[.c (.int .u64),.c (.int .u64)]}
def yT.sh (F:Nat) (w:za.T):Option yT.sg.R :=
 bif decide (w.1>=0) then some ((u64.wrap w.1,w.2,()),())
 else oB (zJ.sh F 0 w.2 0) fun c_1 =>
 oB (zJ.sh F 0 (u64.wrap w.1) c_1.1.2.1) fun c_2 =>
 some ((c_2.1.1,c_1.1.1,()),())
def yT.sp (F:Nat):TA yT.sg.args->Option yT.sg.R:=fun x=>yT.sh F x.1
@[reducible] def yj.sg:Sig:={args:=[.d (.c (.int .u64)),.d (.c (.int .u64))],res:=[.c (.int .u64),.c (.int .u64)]}
def yj.sh (F:Nat) (x:Int) (y:Int):Option yj.sg.R :=
 some ((u64.wrap ((u64.wrap ((u64.wrap ((x.fdiv (2^(min (32:Int).toNat IntKind.u64.bits)))*(y.fdiv (2^(min (32:Int).toNat IntKind.u64.bits)))))+((u64.wrap ((u64.wrap ((x.fdiv (2^(min (32:Int).toNat IntKind.u64.bits)))*(u64.wrap ((BitVec.ofInt IntKind.u64.bits y &&& BitVec.ofInt IntKind.u64.bits 4294967295).toNat))))+((u64.wrap ((u64.wrap ((BitVec.ofInt IntKind.u64.bits x &&& BitVec.ofInt IntKind.u64.bits 4294967295).toNat))*(u64.wrap ((BitVec.ofInt IntKind.u64.bits y &&& BitVec.ofInt IntKind.u64.bits 4294967295).toNat)))).fdiv (2^(min (32:Int).toNat IntKind.u64.bits))))).fdiv (2^(min (32:Int).toNat IntKind.u64.bits)))))+((u64.wrap ((u64.wrap ((BitVec.ofInt IntKind.u64.bits (u64.wrap ((u64.wrap ((x.fdiv (2^(min (32:Int).toNat IntKind.u64.bits)))*(u64.wrap ((BitVec.ofInt IntKind.u64.bits y &&& BitVec.ofInt IntKind.u64.bits 4294967295).toNat))))+((u64.wrap ((u64.wrap ((BitVec.ofInt IntKind.u64.bits x &&& BitVec.ofInt IntKind.u64.bits 4294967295).toNat))*(u64.wrap ((BitVec.ofInt IntKind.u64.bits y &&& BitVec.ofInt IntKind.u64.bits 4294967295).toNat)))).fdiv (2^(min (32:Int).toNat IntKind.u64.bits))))) &&& BitVec.ofInt IntKind.u64.bits 4294967295).toNat))+(u64.wrap ((u64.wrap ((BitVec.ofInt IntKind.u64.bits x &&& BitVec.ofInt IntKind.u64.bits 4294967295).toNat))*(y.fdiv (2^(min (32:Int).toNat IntKind.u64.bits))))))).fdiv (2^(min (32:Int).toNat IntKind.u64.bits)))),u64.wrap (x*y),()),())
def yj.sp (F:Nat):TA yj.sg.args->Option yj.sg.R:=fun x=>yj.sh F x.1 x.2.1
@[reducible] def xa.sg:Sig:={args:=[.d (.c .bool),.d (.c (.int .u64)),.d (.c (.int .u64))],res:=[.c (.int .u64)]}
def xa.sh (F:Nat) (first_:Bool) (a:Int) (b:Int):Option xa.sg.R :=
 bif first_ then some ((a,()),())
 else some ((b,()),())
def xa.sp (F:Nat):TA xa.sg.args->Option xa.sg.R:=fun x=>xa.sh F x.1 x.2.1 x.2.2.1
@[reducible] def yS.sg:Sig:={args:=[.d (.g za),.d (.g za)],res:=[.g za,.c (.int .i64)]}
def yS.sh (F:Nat) (a:za.T) (b:za.T):Option yS.sg.R :=
 oB (zJ.sh F a.2 b.2 0) fun c_1 =>
 oB (zJ.sh F (u64.wrap a.1) (u64.wrap b.1) c_1.1.2.1) fun c_2 =>
 bif (!(decide (a.1<0)==decide (b.1<0))) then bif (!(decide ((i64.wrap c_2.1.1)<0)==decide (a.1<0))) then some (((0,0),10,()),())
 else some (((i64.wrap c_2.1.1,c_1.1.1),0,()),())
 else some (((i64.wrap c_2.1.1,c_1.1.1),0,()),())
def yS.sp (F:Nat):TA yS.sg.args->Option yS.sg.R:=fun x=>yS.sh F x.1 x.2.1
@[reducible] def xA.sg:Sig:={args:=[.d (.g za)],res:=[.g za,.c (.int .i64)]}
def xA.sh (F:Nat) (a:za.T):Option xA.sg.R :=
 oB (yS.sh F (0,0) a) fun c_1 =>
 some ((c_1.1.1,c_1.1.2.1,()),())
def xA.sp (F:Nat):TA xA.sg.args->Option xA.sg.R:=fun x=>xA.sh F x.1
@[reducible] def yV.sg:Sig:={args:=[.d (.c .bool),.d (.c (.int .u64)),.d (.c (.int .u64))],res:=[.g za,.c (.int .i64)]}
def yV.sh (F:Nat) (below:Bool) (hi:Int) (lo:Int):Option yV.sg.R :=
 bif ((hi.fdiv (2^(min (63:Int).toNat IntKind.u64.bits)))==0) then bif below then oB (xA.sh F (i64.wrap hi,lo)) fun c_1 =>
 some ((c_1.1.1,c_1.1.2.1,()),())
 else some (((i64.wrap hi,lo),0,()),())
 else bif below then bif (hi==9223372036854775808) then bif (lo==0) then some ((((-9223372036854775808),0),0,()),())
 else some (((0,0),10,()),())
 else some (((0,0),10,()),())
 else some (((0,0),10,()),())
def yV.sp (F:Nat):TA yV.sg.args->Option yV.sg.R:=fun x=>yV.sh F x.1 x.2.1 x.2.2.1
@[reducible] def z8.sg:Sig:={args:=[.d (.g za),.d (.g za)],res:=[.g za,.c (.int .i64)]}
def z8.j5 {R:Type} (F:Nat) (k0:Int->za.T->Option R) (k1:Int->za.T->Option R) (ah:Int) (al:Int) (bh:Int) (bl:Int) (a:za.T) (b:za.T) (r4:za.T):Option R :=
 oB (yj.sh F al bl) fun c_3 =>
 oB (xa.sh F (ah != 0) bl al) fun c_4 =>
 oB (yj.sh F (u64.wrap ((BitVec.ofInt IntKind.u64.bits ah ||| BitVec.ofInt IntKind.u64.bits bh).toNat)) c_4.1.1) fun c_5 =>
 oB (zQ.sh F c_3.1.1 c_5.1.2.1 0) fun c_6 =>
 bif (c_5.1.1 != 0) then k0 10 (0,0)
 else bif (c_6.1.2.1 != 0) then k0 10 (0,0)
 else oB (yV.sh F (!(decide (a.1<0)==decide (b.1<0))) c_6.1.1 c_3.1.2.1) fun c_7 =>
 k1 c_7.1.2.1 c_7.1.1
def z8.sh (F:Nat) (a:za.T) (b:za.T):Option z8.sg.R :=
 oB (yT.sh F a) fun c_1 =>
 oB (yT.sh F b) fun c_2 =>
 bif (c_1.1.1 != 0) then bif (c_2.1.1 != 0) then some (((0,0),10,()),())
 else z8.j5 F (fun r58 r48=>some ((r48,r58,()),())) (fun r59 r49=>some ((r49,r59,()),())) c_1.1.1 c_1.1.2.1 c_2.1.1 c_2.1.2.1 a b (0,0)
 else z8.j5 F (fun r510 r410=>some ((r410,r510,()),())) (fun r511 r411=>some ((r411,r511,()),())) c_1.1.1 c_1.1.2.1 c_2.1.1 c_2.1.2.1 a b (0,0)
def z8.sp (F:Nat):TA z8.sg.args->Option z8.sg.R:=fun x=>z8.sh F x.1 x.2.1
@[reducible] def zE.sg:Sig:={args:=[.d (.c (.int .i64))],res:=[.g za,.c (.int .i64)]}
abbrev zE.l7.K0 (R:Type):Type:=Int->Int->Bool->za.T->za.T->Option R
abbrev zE.l7.T (R:Type):Type:=Int->Int->za.T->za.T->Option R
def zE.l7.body {R:Type} (F:Nat) (k0:zE.l7.K0 R) (rec:zE.l7.T R) (t12:Int) (t13:Int) (r2:za.T) (p:za.T):Option R :=
 bif decide (t13<t12) then oB (zC.sh F 10000) fun c_2 =>
 oB (z8.sh F p c_2.1.1) fun c_3 =>
 rec t12 (i64.wrap (t13+1)) r2 c_3.1.1
 else k0 t12 t13 (decide (t13<t12)) r2 p
def zE.l7 {R:Type} (F:Nat) (k0:zE.l7.K0 R):Nat->zE.l7.T R
 | 0,_,_,_,_=>none
 | fu+1,t12,t13,r2,p=>zE.l7.body F k0 (zE.l7 F k0 fu) t12 t13 r2 p
def zE.sh (F:Nat) (k:Int):Option zE.sg.R :=
 bif decide (k<0) then some (((0,0),1,()),())
 else bif decide (k>9) then some (((0,0),10,()),())
 else oB (zC.sh F 1) fun c_1 =>
 zE.l7 F (fun t124 t134 t144 r24 p4=>some ((p4,0,()),())) F k 0 (0,0) c_1.1.1
def zE.sp (F:Nat):TA zE.sg.args->Option zE.sg.R:=fun x=>zE.sh F x.1
@[reducible] def zF.sg:Sig:={args:=[.d (.g zm)],res:=[.c (.int .i64)]}
def zF.j10 {R:Type} (F:Nat) (k0:Int->Option R) (k1:Int->Option R) (k2:Int->Option R) (k3:Bool->Option R) (t4:Int) (t10:Bool) (n:zm.T):Option R :=
 bif t10 then k0 2
 else bif (t4==9) then bif (t4==9) then k1 n.2.2.2.1
 else bif (t4==16) then k2 3
 else k3 (t4==16)
 else bif (t4==10) then k1 n.2.2.2.1
 else bif (t4==16) then k2 3
 else k3 (t4==16)
def zF.j6 {R:Type} (F:Nat) (k0:Int->Option R) (k1:Int->Option R) (k2:Int->Option R) (k3:Int->Option R) (k4:Bool->Option R) (t4:Int) (t5:Bool) (n:zm.T):Option R :=
 bif t5 then k0 0
 else bif (t4==6) then zF.j10 F (fun r21=>k1 r21) (fun r22=>k2 r22) (fun r23=>k3 r23) (fun t194=>k4 t194) t4 (t4==6) n
 else bif (t4==7) then zF.j10 F (fun r25=>k1 r25) (fun r26=>k2 r26) (fun r27=>k3 r27) (fun t198=>k4 t198) t4 (t4==7) n
 else zF.j10 F (fun r29=>k1 r29) (fun r210=>k2 r210) (fun r211=>k3 r211) (fun t1912=>k4 t1912) t4 (t4==8) n
def zF.sh (F:Nat) (n:zm.T):Option zF.sg.R :=
 bif (n.1==1) then zF.j6 F (fun r213=>some ((r213,()),())) (fun r214=>some ((r214,()),())) (fun r215=>some ((r215,()),())) (fun r216=>some ((r216,()),())) (fun t1917=>some ((1,()),())) n.1 (n.1==1) n
 else bif (n.1==2) then zF.j6 F (fun r218=>some ((r218,()),())) (fun r219=>some ((r219,()),())) (fun r220=>some ((r220,()),())) (fun r221=>some ((r221,()),())) (fun t1922=>some ((1,()),())) n.1 (n.1==2) n
 else bif (n.1==3) then zF.j6 F (fun r223=>some ((r223,()),())) (fun r224=>some ((r224,()),())) (fun r225=>some ((r225,()),())) (fun r226=>some ((r226,()),())) (fun t1927=>some ((1,()),())) n.1 (n.1==3) n
 else zF.j6 F (fun r228=>some ((r228,()),())) (fun r229=>some ((r229,()),())) (fun r230=>some ((r230,()),())) (fun r231=>some ((r231,()),())) (fun t1932=>some ((1,()),())) n.1 (n.1==4) n
def zF.sp (F:Nat):TA zF.sg.args->Option zF.sg.R:=fun x=>zF.sh F x.1
@[reducible] def zN.sg:Sig:={args:=[.io yd [],.d (.g za),.d (.c (.int .i64))],res:=[.g za]}
def zN.sh (F:Nat) (m:yd.T) (w:za.T) (e:Int):Option zN.sg.R :=
 bif m.2 then some ((w,()),((m.1,true),()))
 else some ((w,()),((m.1,(e != 0)),()))
def zN.sp (F:Nat):TA zN.sg.args->Option zN.sg.R:=fun x=>zN.sh F x.1 x.2.1 x.2.2.1
@[reducible] def zM.sg:Sig:={args:=[.io yd [],.d (.g za),.d (.g za)],res:=[.g za]}
def zM.sh (F:Nat) (m:yd.T) (a:za.T) (b:za.T):Option zM.sg.R :=
 oB (z8.sh F a b) fun c_1 =>
 oB (zN.sh F m c_1.1.1 c_1.1.2.1) fun c_2 =>
 some ((c_2.1.1,()),(c_2.2.1,()))
def zM.sp (F:Nat):TA zM.sg.args->Option zM.sg.R:=fun x=>zM.sh F x.1 x.2.1 x.2.2.1
@[reducible] def zz.sg:Sig:={args:=[.d (.c (.int .u64))],res:=[.c (.int .i64)]}
def zz.j7 {R:Type} (F:Nat) (k0:Int->Option R) (x:Int) (n:Int):Option R :=
 bif decide (x>=256) then bif idx (IntKind.u8.wrap (x.fdiv (2^(min (8:Int).toNat IntKind.u64.bits)))) ((⟨#[0,1,2,2,3,3,3,3,4,4,4,4,4,4,4,4,5,5,5,5,5,5,5,5,5,5,5,5,5,5,5,5,6,6,6,6,6,6,6,6,6,6,6,6,6,6,6,6,6,6,6,6,6,6,6,6,6,6,6,6,6,6,6,6,7,7,7,7,7,7,7,7,7,7,7,7,7,7,7,7,7,7,7,7,7,7,7,7,7,7,7,7,7,7,7,7,7,7,7,7,7,7,7,7,7,7,7,7,7,7,7,7,7,7,7,7,7,7,7,7,7,7,7,7,7,7,7,7,8,8,8,8,8,8,8,8,8,8,8,8,8,8,8,8,8,8,8,8,8,8,8,8,8,8,8,8,8,8,8,8,8,8,8,8,8,8,8,8,8,8,8,8,8,8,8,8,8,8,8,8,8,8,8,8,8,8,8,8,8,8,8,8,8,8,8,8,8,8,8,8,8,8,8,8,8,8,8,8,8,8,8,8,8,8,8,8,8,8,8,8,8,8,8,8,8,8,8,8,8,8,8,8,8,8,8,8,8,8,8,8,8,8,8,8,8,8,8,8,8,8,8,8,8,8,8,8]⟩:ByteArray).size) then k0 (i64.wrap ((i64.wrap (n+8))+(i64.wrap (bt (⟨#[0,1,2,2,3,3,3,3,4,4,4,4,4,4,4,4,5,5,5,5,5,5,5,5,5,5,5,5,5,5,5,5,6,6,6,6,6,6,6,6,6,6,6,6,6,6,6,6,6,6,6,6,6,6,6,6,6,6,6,6,6,6,6,6,7,7,7,7,7,7,7,7,7,7,7,7,7,7,7,7,7,7,7,7,7,7,7,7,7,7,7,7,7,7,7,7,7,7,7,7,7,7,7,7,7,7,7,7,7,7,7,7,7,7,7,7,7,7,7,7,7,7,7,7,7,7,7,7,8,8,8,8,8,8,8,8,8,8,8,8,8,8,8,8,8,8,8,8,8,8,8,8,8,8,8,8,8,8,8,8,8,8,8,8,8,8,8,8,8,8,8,8,8,8,8,8,8,8,8,8,8,8,8,8,8,8,8,8,8,8,8,8,8,8,8,8,8,8,8,8,8,8,8,8,8,8,8,8,8,8,8,8,8,8,8,8,8,8,8,8,8,8,8,8,8,8,8,8,8,8,8,8,8,8,8,8,8,8,8,8,8,8,8,8,8,8,8,8,8,8,8,8,8,8,8,8]⟩:ByteArray) (IntKind.u8.wrap (x.fdiv (2^(min (8:Int).toNat IntKind.u64.bits))))))))
 else none
 else bif idx (IntKind.u8.wrap x) ((⟨#[0,1,2,2,3,3,3,3,4,4,4,4,4,4,4,4,5,5,5,5,5,5,5,5,5,5,5,5,5,5,5,5,6,6,6,6,6,6,6,6,6,6,6,6,6,6,6,6,6,6,6,6,6,6,6,6,6,6,6,6,6,6,6,6,7,7,7,7,7,7,7,7,7,7,7,7,7,7,7,7,7,7,7,7,7,7,7,7,7,7,7,7,7,7,7,7,7,7,7,7,7,7,7,7,7,7,7,7,7,7,7,7,7,7,7,7,7,7,7,7,7,7,7,7,7,7,7,7,8,8,8,8,8,8,8,8,8,8,8,8,8,8,8,8,8,8,8,8,8,8,8,8,8,8,8,8,8,8,8,8,8,8,8,8,8,8,8,8,8,8,8,8,8,8,8,8,8,8,8,8,8,8,8,8,8,8,8,8,8,8,8,8,8,8,8,8,8,8,8,8,8,8,8,8,8,8,8,8,8,8,8,8,8,8,8,8,8,8,8,8,8,8,8,8,8,8,8,8,8,8,8,8,8,8,8,8,8,8,8,8,8,8,8,8,8,8,8,8,8,8,8,8,8,8,8,8]⟩:ByteArray).size) then k0 (i64.wrap (n+(i64.wrap (bt (⟨#[0,1,2,2,3,3,3,3,4,4,4,4,4,4,4,4,5,5,5,5,5,5,5,5,5,5,5,5,5,5,5,5,6,6,6,6,6,6,6,6,6,6,6,6,6,6,6,6,6,6,6,6,6,6,6,6,6,6,6,6,6,6,6,6,7,7,7,7,7,7,7,7,7,7,7,7,7,7,7,7,7,7,7,7,7,7,7,7,7,7,7,7,7,7,7,7,7,7,7,7,7,7,7,7,7,7,7,7,7,7,7,7,7,7,7,7,7,7,7,7,7,7,7,7,7,7,7,7,8,8,8,8,8,8,8,8,8,8,8,8,8,8,8,8,8,8,8,8,8,8,8,8,8,8,8,8,8,8,8,8,8,8,8,8,8,8,8,8,8,8,8,8,8,8,8,8,8,8,8,8,8,8,8,8,8,8,8,8,8,8,8,8,8,8,8,8,8,8,8,8,8,8,8,8,8,8,8,8,8,8,8,8,8,8,8,8,8,8,8,8,8,8,8,8,8,8,8,8,8,8,8,8,8,8,8,8,8,8,8,8,8,8,8,8,8,8,8,8,8,8,8,8,8,8,8,8]⟩:ByteArray) (IntKind.u8.wrap x)))))
 else none
def zz.j4 {R:Type} (F:Nat) (k0:Int->Option R) (x:Int) (n:Int):Option R :=
 bif decide (x>=65536) then zz.j7 F (fun n1=>k0 n1) (x.fdiv (2^(min (16:Int).toNat IntKind.u64.bits))) (i64.wrap (n+16))
 else zz.j7 F (fun n2=>k0 n2) x n
def zz.sh (F:Nat) (x:Int):Option zz.sg.R :=
 bif decide (x>=4294967296) then zz.j4 F (fun n3=>some ((n3,()),())) (x.fdiv (2^(min (32:Int).toNat IntKind.u64.bits))) 32
 else zz.j4 F (fun n4=>some ((n4,()),())) x 0
def zz.sp (F:Nat):TA zz.sg.args->Option zz.sg.R:=fun x=>zz.sh F x.1
@[reducible] def zG.sg:Sig:={args:=[.d (.c (.int .u64))],res:=[.c (.int .i64)]}
def zG.sh (F:Nat) (x:Int):Option zG.sg.R :=
 oB (zz.sh F x) fun c_1 =>
 some ((i64.wrap (64-c_1.1.1),()),())
def zG.sp (F:Nat):TA zG.sg.args->Option zG.sg.R:=fun x=>zG.sh F x.1
@[reducible] def zd.sg:Sig:={args:=[.d (.c (.int .u64)),.d (.c (.int .u64)),.d (.c (.int .u64))],res:=[.c (.int .u64),.c (.int .u64)]}
abbrev zd.l17.K0 (R:Type):Type:=Int->Int->Int->Int->Int->Int->Int->Int->Int->Bool->Option R
abbrev zd.l17.K1 (R:Type):Type:=Int->Int->Int->Int->Int->Int->Int->Int->Int->Bool->Option R
abbrev zd.l17.T (R:Type):Type:=Int->Int->Int->Int->Int->Int->Int->Int->Int->Option R
def zd.l17.body {R:Type} (F:Nat) (k0:zd.l17.K0 R) (k1:zd.l17.K1 R) (rec:zd.l17.T R) (y:Int) (s:Int) (yn1:Int) (yn0:Int) (un32:Int) (un1:Int) (un0:Int) (q1:Int) (rhat:Int):Option R :=
 bif decide (q1>=4294967296) then bif decide ((u64.wrap (rhat+yn1))>=4294967296) then k0 y s yn1 yn0 un32 un1 un0 (u64.wrap (q1-1)) (u64.wrap (rhat+yn1)) (decide ((u64.wrap (rhat+yn1))>=4294967296))
 else rec y s yn1 yn0 un32 un1 un0 (u64.wrap (q1-1)) (u64.wrap (rhat+yn1))
 else bif decide ((u64.wrap (q1*yn0))>(u64.wrap ((u64.wrap (4294967296*rhat))+un1))) then bif decide ((u64.wrap (rhat+yn1))>=4294967296) then k0 y s yn1 yn0 un32 un1 un0 (u64.wrap (q1-1)) (u64.wrap (rhat+yn1)) (decide ((u64.wrap (rhat+yn1))>=4294967296))
 else rec y s yn1 yn0 un32 un1 un0 (u64.wrap (q1-1)) (u64.wrap (rhat+yn1))
 else k1 y s yn1 yn0 un32 un1 un0 q1 rhat (decide ((u64.wrap (q1*yn0))>(u64.wrap ((u64.wrap (4294967296*rhat))+un1))))
def zd.l17 {R:Type} (F:Nat) (k0:zd.l17.K0 R) (k1:zd.l17.K1 R):Nat->zd.l17.T R
 | 0,_,_,_,_,_,_,_,_,_=>none
 | fu+1,y,s,yn1,yn0,un32,un1,un0,q1,rhat=>zd.l17.body F k0 k1 (zd.l17 F k0 k1 fu) y s yn1 yn0 un32 un1 un0 q1 rhat
abbrev zd.l24.K0 (R:Type):Type:=Int->Int->Int->Int->Int->Int->Int->Int->Int->Bool->Option R
abbrev zd.l24.K1 (R:Type):Type:=Int->Int->Int->Int->Int->Int->Int->Int->Int->Bool->Option R
abbrev zd.l24.T (R:Type):Type:=Int->Int->Int->Int->Int->Int->Int->Int->Int->Option R
def zd.l24.body {R:Type} (F:Nat) (k0:zd.l24.K0 R) (k1:zd.l24.K1 R) (rec:zd.l24.T R) (y:Int) (s:Int) (yn1:Int) (yn0:Int) (un0:Int) (q1:Int) (rhat:Int) (un21:Int) (q0:Int):Option R :=
 bif decide (q0>=4294967296) then bif decide ((u64.wrap (rhat+yn1))>=4294967296) then k0 y s yn1 yn0 un0 q1 (u64.wrap (rhat+yn1)) un21 (u64.wrap (q0-1)) (decide ((u64.wrap (rhat+yn1))>=4294967296))
 else rec y s yn1 yn0 un0 q1 (u64.wrap (rhat+yn1)) un21 (u64.wrap (q0-1))
 else bif decide ((u64.wrap (q0*yn0))>(u64.wrap ((u64.wrap (4294967296*rhat))+un0))) then bif decide ((u64.wrap (rhat+yn1))>=4294967296) then k0 y s yn1 yn0 un0 q1 (u64.wrap (rhat+yn1)) un21 (u64.wrap (q0-1)) (decide ((u64.wrap (rhat+yn1))>=4294967296))
 else rec y s yn1 yn0 un0 q1 (u64.wrap (rhat+yn1)) un21 (u64.wrap (q0-1))
 else k1 y s yn1 yn0 un0 q1 rhat un21 q0 (decide ((u64.wrap (q0*yn0))>(u64.wrap ((u64.wrap (4294967296*rhat))+un0))))
def zd.l24 {R:Type} (F:Nat) (k0:zd.l24.K0 R) (k1:zd.l24.K1 R):Nat->zd.l24.T R
 | 0,_,_,_,_,_,_,_,_,_=>none
 | fu+1,y,s,yn1,yn0,un0,q1,rhat,un21,q0=>zd.l24.body F k0 k1 (zd.l24 F k0 k1 fu) y s yn1 yn0 un0 q1 rhat un21 q0
def zd.j28 {R:Type} (F:Nat) (k0:Int->Int->Option R) (y:Int) (s:Int) (un0:Int) (q1:Int) (un21:Int) (q0:Int):Option R :=
 bif decide (0<=s) then k0 (u64.wrap ((u64.wrap (q1*4294967296))+q0)) ((u64.wrap ((u64.wrap ((u64.wrap (un21*4294967296))+un0))-(u64.wrap (q0*y)))).fdiv (2^(min s.toNat IntKind.u64.bits)))
 else none
def zd.j21 {R:Type} (F:Nat) (k0:Int->Int->Option R) (y:Int) (s:Int) (yn1:Int) (yn0:Int) (un32:Int) (un1:Int) (un0:Int) (q1:Int):Option R :=
 bif (yn1 != 0) then zd.l24 F (fun y3 s3 yn13 yn03 un03 q13 rhat3 un213 q03 t1203=>zd.j28 F (fun quo4 rem4=>k0 quo4 rem4) y3 s3 un03 q13 un213 q03) (fun y5 s5 yn15 yn05 un05 q15 rhat5 un215 q05 t1135=>zd.j28 F (fun quo6 rem6=>k0 quo6 rem6) y5 s5 un05 q15 un215 q05) F y s yn1 yn0 un0 q1 (u64.wrap ((u64.wrap ((u64.wrap ((u64.wrap (un32*4294967296))+un1))-(u64.wrap (q1*y))))-(u64.wrap ((u64.wrap ((u64.wrap ((u64.wrap ((u64.wrap (un32*4294967296))+un1))-(u64.wrap (q1*y)))).tdiv yn1))*yn1)))) (u64.wrap ((u64.wrap ((u64.wrap (un32*4294967296))+un1))-(u64.wrap (q1*y)))) (u64.wrap ((u64.wrap ((u64.wrap ((u64.wrap (un32*4294967296))+un1))-(u64.wrap (q1*y)))).tdiv yn1))
 else none
def zd.sh (F:Nat) (hi:Int) (lo:Int) (y:Int):Option zd.sg.R :=
 bif (y==0) then none
 else bif decide (y<=hi) then none
 else bif (hi==0) then bif (y != 0) then bif (y != 0) then some ((u64.wrap (lo.tdiv y),lo.tmod y,()),())
 else none
 else none
 else oB (zG.sh F y) fun c_1 =>
 bif decide (0<=(u64.wrap c_1.1.1)) then bif decide (0<=(u64.wrap c_1.1.1)) then bif decide (0<=(u64.wrap (64-(u64.wrap c_1.1.1)))) then bif decide (0<=(u64.wrap c_1.1.1)) then bif (((u64.wrap (y*2^(min (u64.wrap c_1.1.1).toNat IntKind.u64.bits))).fdiv (2^(min (32:Int).toNat IntKind.u64.bits))) != 0) then zd.l17 F (fun y2 s2 yn12 yn02 un322 un12 un02 q12 rhat2 t852=>zd.j21 F (fun quo7 rem7=>some ((quo7,rem7,()),())) y2 s2 yn12 yn02 un322 un12 un02 q12) (fun y8 s8 yn18 yn08 un328 un18 un08 q18 rhat8 t788=>zd.j21 F (fun quo9 rem9=>some ((quo9,rem9,()),())) y8 s8 yn18 yn08 un328 un18 un08 q18) F (u64.wrap (y*2^(min (u64.wrap c_1.1.1).toNat IntKind.u64.bits))) (u64.wrap c_1.1.1) ((u64.wrap (y*2^(min (u64.wrap c_1.1.1).toNat IntKind.u64.bits))).fdiv (2^(min (32:Int).toNat IntKind.u64.bits))) (u64.wrap ((BitVec.ofInt IntKind.u64.bits (u64.wrap (y*2^(min (u64.wrap c_1.1.1).toNat IntKind.u64.bits))) &&& BitVec.ofInt IntKind.u64.bits 4294967295).toNat)) (u64.wrap ((BitVec.ofInt IntKind.u64.bits (u64.wrap (hi*2^(min (u64.wrap c_1.1.1).toNat IntKind.u64.bits))) ||| BitVec.ofInt IntKind.u64.bits (lo.fdiv (2^(min (u64.wrap (64-(u64.wrap c_1.1.1))).toNat IntKind.u64.bits)))).toNat)) ((u64.wrap (lo*2^(min (u64.wrap c_1.1.1).toNat IntKind.u64.bits))).fdiv (2^(min (32:Int).toNat IntKind.u64.bits))) (u64.wrap ((BitVec.ofInt IntKind.u64.bits (u64.wrap (lo*2^(min (u64.wrap c_1.1.1).toNat IntKind.u64.bits))) &&& BitVec.ofInt IntKind.u64.bits 4294967295).toNat)) (u64.wrap ((u64.wrap ((BitVec.ofInt IntKind.u64.bits (u64.wrap (hi*2^(min (u64.wrap c_1.1.1).toNat IntKind.u64.bits))) ||| BitVec.ofInt IntKind.u64.bits (lo.fdiv (2^(min (u64.wrap (64-(u64.wrap c_1.1.1))).toNat IntKind.u64.bits)))).toNat)).tdiv ((u64.wrap (y*2^(min (u64.wrap c_1.1.1).toNat IntKind.u64.bits))).fdiv (2^(min (32:Int).toNat IntKind.u64.bits))))) (u64.wrap ((u64.wrap ((BitVec.ofInt IntKind.u64.bits (u64.wrap (hi*2^(min (u64.wrap c_1.1.1).toNat IntKind.u64.bits))) ||| BitVec.ofInt IntKind.u64.bits (lo.fdiv (2^(min (u64.wrap (64-(u64.wrap c_1.1.1))).toNat IntKind.u64.bits)))).toNat))-(u64.wrap ((u64.wrap ((u64.wrap ((BitVec.ofInt IntKind.u64.bits (u64.wrap (hi*2^(min (u64.wrap c_1.1.1).toNat IntKind.u64.bits))) ||| BitVec.ofInt IntKind.u64.bits (lo.fdiv (2^(min (u64.wrap (64-(u64.wrap c_1.1.1))).toNat IntKind.u64.bits)))).toNat)).tdiv ((u64.wrap (y*2^(min (u64.wrap c_1.1.1).toNat IntKind.u64.bits))).fdiv (2^(min (32:Int).toNat IntKind.u64.bits)))))*((u64.wrap (y*2^(min (u64.wrap c_1.1.1).toNat IntKind.u64.bits))).fdiv (2^(min (32:Int).toNat IntKind.u64.bits)))))))
 else none
 else none
 else none
 else none
 else none
def zd.sp (F:Nat):TA zd.sg.args->Option zd.sg.R:=fun x=>zd.sh F x.1 x.2.1 x.2.2.1
@[reducible] def zD.sg:Sig:={args:=[.d (.c (.int .u64)),.d (.c (.int .u64)),.d (.c (.int .u64)),.d (.c (.int .u64))],res:=[.c (.int .u64),.c (.int .u64),.c (.int .u64),.c (.int .u64)]}
abbrev zD.l7.K0 (R:Type):Type:=Int->Int->Int->Int->Int->Int->Int->Bool->Option R
abbrev zD.l7.T (R:Type):Type:=Int->Int->Int->Int->Int->Int->Int->Option R
def zD.l7.body {R:Type} (F:Nat) (k0:zD.l7.K0 R) (rec:zD.l7.T R) (al:Int) (bh:Int) (bl:Int) (ql:Int) (rh:Int) (rl:Int) (i:Int):Option R :=
 bif decide (i>=0) then bif decide (0<=i) then bif decide ((u64.wrap ((BitVec.ofInt IntKind.u64.bits (u64.wrap (rh*2^(min (1:Int).toNat IntKind.u64.bits))) ||| BitVec.ofInt IntKind.u64.bits (rl.fdiv (2^(min (63:Int).toNat IntKind.u64.bits)))).toNat))>bh) then oB (zJ.sh F (u64.wrap ((BitVec.ofInt IntKind.u64.bits (u64.wrap (rl*2^(min (1:Int).toNat IntKind.u64.bits))) ||| BitVec.ofInt IntKind.u64.bits (u64.wrap ((BitVec.ofInt IntKind.u64.bits (al.fdiv (2^(min i.toNat IntKind.u64.bits))) &&& BitVec.ofInt IntKind.u64.bits 1).toNat))).toNat)) bl 0) fun c_2 =>
 oB (zJ.sh F (u64.wrap ((BitVec.ofInt IntKind.u64.bits (u64.wrap (rh*2^(min (1:Int).toNat IntKind.u64.bits))) ||| BitVec.ofInt IntKind.u64.bits (rl.fdiv (2^(min (63:Int).toNat IntKind.u64.bits)))).toNat)) bh c_2.1.2.1) fun c_3 =>
 bif decide (0<=i) then rec al bh bl (u64.wrap ((BitVec.ofInt IntKind.u64.bits ql ||| BitVec.ofInt IntKind.u64.bits (u64.wrap (1*2^(min i.toNat IntKind.u64.bits)))).toNat)) c_3.1.1 c_2.1.1 (i64.wrap (i-1))
 else none
 else bif ((u64.wrap ((BitVec.ofInt IntKind.u64.bits (u64.wrap (rh*2^(min (1:Int).toNat IntKind.u64.bits))) ||| BitVec.ofInt IntKind.u64.bits (rl.fdiv (2^(min (63:Int).toNat IntKind.u64.bits)))).toNat))==bh) then bif decide ((u64.wrap ((BitVec.ofInt IntKind.u64.bits (u64.wrap (rl*2^(min (1:Int).toNat IntKind.u64.bits))) ||| BitVec.ofInt IntKind.u64.bits (u64.wrap ((BitVec.ofInt IntKind.u64.bits (al.fdiv (2^(min i.toNat IntKind.u64.bits))) &&& BitVec.ofInt IntKind.u64.bits 1).toNat))).toNat))>=bl) then oB (zJ.sh F (u64.wrap ((BitVec.ofInt IntKind.u64.bits (u64.wrap (rl*2^(min (1:Int).toNat IntKind.u64.bits))) ||| BitVec.ofInt IntKind.u64.bits (u64.wrap ((BitVec.ofInt IntKind.u64.bits (al.fdiv (2^(min i.toNat IntKind.u64.bits))) &&& BitVec.ofInt IntKind.u64.bits 1).toNat))).toNat)) bl 0) fun c_4 =>
 oB (zJ.sh F (u64.wrap ((BitVec.ofInt IntKind.u64.bits (u64.wrap (rh*2^(min (1:Int).toNat IntKind.u64.bits))) ||| BitVec.ofInt IntKind.u64.bits (rl.fdiv (2^(min (63:Int).toNat IntKind.u64.bits)))).toNat)) bh c_4.1.2.1) fun c_5 =>
 bif decide (0<=i) then rec al bh bl (u64.wrap ((BitVec.ofInt IntKind.u64.bits ql ||| BitVec.ofInt IntKind.u64.bits (u64.wrap (1*2^(min i.toNat IntKind.u64.bits)))).toNat)) c_5.1.1 c_4.1.1 (i64.wrap (i-1))
 else none
 else rec al bh bl ql (u64.wrap ((BitVec.ofInt IntKind.u64.bits (u64.wrap (rh*2^(min (1:Int).toNat IntKind.u64.bits))) ||| BitVec.ofInt IntKind.u64.bits (rl.fdiv (2^(min (63:Int).toNat IntKind.u64.bits)))).toNat)) (u64.wrap ((BitVec.ofInt IntKind.u64.bits (u64.wrap (rl*2^(min (1:Int).toNat IntKind.u64.bits))) ||| BitVec.ofInt IntKind.u64.bits (u64.wrap ((BitVec.ofInt IntKind.u64.bits (al.fdiv (2^(min i.toNat IntKind.u64.bits))) &&& BitVec.ofInt IntKind.u64.bits 1).toNat))).toNat)) (i64.wrap (i-1))
 else rec al bh bl ql (u64.wrap ((BitVec.ofInt IntKind.u64.bits (u64.wrap (rh*2^(min (1:Int).toNat IntKind.u64.bits))) ||| BitVec.ofInt IntKind.u64.bits (rl.fdiv (2^(min (63:Int).toNat IntKind.u64.bits)))).toNat)) (u64.wrap ((BitVec.ofInt IntKind.u64.bits (u64.wrap (rl*2^(min (1:Int).toNat IntKind.u64.bits))) ||| BitVec.ofInt IntKind.u64.bits (u64.wrap ((BitVec.ofInt IntKind.u64.bits (al.fdiv (2^(min i.toNat IntKind.u64.bits))) &&& BitVec.ofInt IntKind.u64.bits 1).toNat))).toNat)) (i64.wrap (i-1))
 else none
 else k0 al bh bl ql rh rl i (decide (i>=0))
def zD.l7 {R:Type} (F:Nat) (k0:zD.l7.K0 R):Nat->zD.l7.T R
 | 0,_,_,_,_,_,_,_=>none
 | fu+1,al,bh,bl,ql,rh,rl,i=>zD.l7.body F k0 (zD.l7 F k0 fu) al bh bl ql rh rl i
def zD.sh (F:Nat) (ah:Int) (al:Int) (bh:Int) (bl:Int):Option zD.sg.R :=
 bif (bh==0) then bif (bl != 0) then bif (bl != 0) then oB (zd.sh F (ah.tmod bl) al bl) fun c_1 =>
 some ((u64.wrap (ah.tdiv bl),c_1.1.1,0,c_1.1.2.1,()),())
 else none
 else none
 else zD.l7 F (fun al6 bh6 bl6 ql6 rh6 rl6 i6 t346=>some ((0,ql6,rh6,rl6,()),())) F al bh bl 0 0 ah 63
def zD.sp (F:Nat):TA zD.sg.args->Option zD.sg.R:=fun x=>zD.sh F x.1 x.2.1 x.2.2.1 x.2.2.2.1
@[reducible] def yv.sg:Sig:={args:=[.d (.g za),.d (.g za)],res:=[.g za,.g za,.c (.int .i64)]}
def yv.sh (F:Nat) (a:za.T) (b:za.T):Option yv.sg.R :=
 bif ((b.1==0)&&((b.2==0)&&true)) then some (((0,0),(0,0),20,()),())
 else oB (yT.sh F a) fun c_1 =>
 oB (yT.sh F b) fun c_2 =>
 oB (zD.sh F c_1.1.1 c_1.1.2.1 c_2.1.1 c_2.1.2.1) fun c_3 =>
 oB (yV.sh F (!(decide (a.1<0)==decide (b.1<0))) c_3.1.1 c_3.1.2.1) fun c_4 =>
 bif (c_4.1.2.1 != 0) then some (((0,0),(0,0),c_4.1.2.1,()),())
 else oB (yV.sh F (decide (a.1<0)) c_3.1.2.2.1 c_3.1.2.2.2.1) fun c_5 =>
 some ((c_4.1.1,c_5.1.1,c_5.1.2.1,()),())
def yv.sp (F:Nat):TA yv.sg.args->Option yv.sg.R:=fun x=>yv.sh F x.1 x.2.1
@[reducible] def yO.sg:Sig:={args:=[.d (.g za),.d (.g za),.d (.g za),.d (.c (.int .i64))],res:=[.c .bool]}
def yO.sh (F:Nat) (q:za.T) (r:za.T) (b:za.T) (mode:Int):Option yO.sg.R :=
 bif (mode==0) then some (((!(decide (r.1<0)==decide (b.1<0))),()),())
 else bif (mode==1) then some ((!(!(decide (r.1<0)==decide (b.1<0))),()),())
 else bif (mode==2) then some ((false,()),())
 else oB (yT.sh F r) fun c_1 =>
 oB (yT.sh F b) fun c_2 =>
 oB (zJ.sh F c_2.1.2.1 c_1.1.2.1 0) fun c_3 =>
 oB (zJ.sh F c_2.1.1 c_1.1.1 c_3.1.2.1) fun c_4 =>
 bif decide (c_1.1.1>c_4.1.1) then some ((true,()),())
 else bif (c_1.1.1==c_4.1.1) then bif decide (c_1.1.2.1>c_3.1.1) then some ((true,()),())
 else bif (c_1.1.1==c_4.1.1) then bif (c_1.1.2.1==c_3.1.1) then bif (mode==3) then some ((true,()),())
 else some ((((u64.wrap ((BitVec.ofInt IntKind.u64.bits q.2 &&& BitVec.ofInt IntKind.u64.bits 1).toNat))==1),()),())
 else some ((false,()),())
 else some ((false,()),())
 else bif (c_1.1.1==c_4.1.1) then bif (c_1.1.2.1==c_3.1.1) then bif (mode==3) then some ((true,()),())
 else some ((((u64.wrap ((BitVec.ofInt IntKind.u64.bits q.2 &&& BitVec.ofInt IntKind.u64.bits 1).toNat))==1),()),())
 else some ((false,()),())
 else some ((false,()),())
def yO.sp (F:Nat):TA yO.sg.args->Option yO.sg.R:=fun x=>yO.sh F x.1 x.2.1 x.2.2.1 x.2.2.2.1
@[reducible] def y7.sg:Sig:={args:=[.d (.g za),.d (.g za)],res:=[.g za,.c (.int .i64)]}
def y7.sh (F:Nat) (a:za.T) (b:za.T):Option y7.sg.R :=
 oB (zQ.sh F a.2 b.2 0) fun c_1 =>
 oB (zQ.sh F (u64.wrap a.1) (u64.wrap b.1) c_1.1.2.1) fun c_2 =>
 bif (decide (a.1<0)==decide (b.1<0)) then bif (!(decide ((i64.wrap c_2.1.1)<0)==decide (a.1<0))) then some (((0,0),10,()),())
 else some (((i64.wrap c_2.1.1,c_1.1.1),0,()),())
 else some (((i64.wrap c_2.1.1,c_1.1.1),0,()),())
def y7.sp (F:Nat):TA y7.sg.args->Option y7.sg.R:=fun x=>y7.sh F x.1 x.2.1
@[reducible] def yF.sg:Sig:={args:=[.d (.g za),.d (.g za),.d (.c (.int .i64))],res:=[.g za,.c (.int .i64)]}
def yF.sh (F:Nat) (a:za.T) (b:za.T) (mode:Int):Option yF.sg.R :=
 bif decide (mode<0) then some (((0,0),1,()),())
 else bif decide (mode>4) then some (((0,0),1,()),())
 else oB (yv.sh F a b) fun c_1 =>
 bif (c_1.1.2.2.1 != 0) then some ((c_1.1.1,c_1.1.2.2.1,()),())
 else bif ((c_1.1.2.1.1==0)&&((c_1.1.2.1.2==0)&&true)) then some ((c_1.1.1,c_1.1.2.2.1,()),())
 else oB (yO.sh F c_1.1.1 c_1.1.2.1 b mode) fun c_2 =>
 bif !c_2.1.1 then some ((c_1.1.1,c_1.1.2.2.1,()),())
 else bif (!(decide (a.1<0)==decide (b.1<0))) then oB (zC.sh F 1) fun c_3 =>
 oB (yS.sh F c_1.1.1 c_3.1.1) fun c_4 =>
 some ((c_4.1.1,c_4.1.2.1,()),())
 else oB (zC.sh F 1) fun c_5 =>
 oB (y7.sh F c_1.1.1 c_5.1.1) fun c_6 =>
 some ((c_6.1.1,c_6.1.2.1,()),())
def yF.sp (F:Nat):TA yF.sg.args->Option yF.sg.R:=fun x=>yF.sh F x.1 x.2.1 x.2.2.1
@[reducible] def xg.sg:Sig:={args:=[.d (.c (.int .i64))],res:=[.c (.int .i64)]}
def xg.sh (F:Nat) (v:Int):Option xg.sg.R :=
 some (((if i64.wrap (0-v)>v then i64.wrap (0-v) else v),()),())
def xg.sp (F:Nat):TA xg.sg.args->Option xg.sg.R:=fun x=>xg.sh F x.1
@[reducible] def zP.sg:Sig:={args:=[.io yd [],.d (.g za),.d (.g za)],res:=[.g za]}
def zP.sh (F:Nat) (m:yd.T) (a:za.T) (b:za.T):Option zP.sg.R :=
 oB (y7.sh F a b) fun c_1 =>
 oB (zN.sh F m c_1.1.1 c_1.1.2.1) fun c_2 =>
 some ((c_2.1.1,()),(c_2.2.1,()))
def zP.sp (F:Nat):TA zP.sg.args->Option zP.sg.R:=fun x=>zP.sh F x.1 x.2.1 x.2.2.1
@[reducible] def zj.sg:Sig:={args:=[.io yd [],.d (.g za),.d (.b zO)],res:=[.g za]}
abbrev zj.l3.K0 (R:Type):Type:=(List zO.T)->Int->(List zO.T)->Int->Int->Bool->yd.T->za.T->za.T->za.T->Option R
abbrev zj.l3.T (R:Type):Type:=(List zO.T)->Int->(List zO.T)->Int->Int->yd.T->za.T->za.T->za.T->Option R
def zj.l3.body {R:Type} (F:Nat) (k0:zj.l3.K0 R) (rec:zj.l3.T R) (tiers:List zO.T) (rate:Int) (t13:List zO.T) (t14:Int) (t15:Int) (m:yd.T) (x:za.T) (r6:za.T) (ways:za.T):Option R :=
 bif decide (t15<t14) then bif idx t15 t13.length then oB (xg.sh F (get zO t13 t15.toNat).2) fun c_1 =>
 bif decide ((i64.wrap (t15+1))<(tiers.length:Int)) then oB (xg.sh F (get zO t13 t15.toNat).2) fun c_2 =>
 oB (zC.sh F c_2.1.1) fun c_3 =>
 bif idx (i64.wrap (t15+1)) tiers.length then oB (zC.sh F (i64.wrap ((get zO tiers ((i64.wrap (t15+1)).toNat)).1-(get zO t13 t15.toNat).1))) fun c_4 =>
 oB (zM.sh F m c_3.1.1 c_4.1.1) fun c_5 =>
 bif (((m.1.1==c_5.2.1.1.1)&&((m.1.2==c_5.2.1.1.2)&&true))&&true) then oB (zP.sh F c_5.2.1 ways c_5.1.1) fun c_6 =>
 bif (((c_5.2.1.1.1==c_6.2.1.1.1)&&((c_5.2.1.1.2==c_6.2.1.1.2)&&true))&&true) then rec tiers (if c_1.1.1>rate then c_1.1.1 else rate) t13 t14 (i64.wrap (t15+1)) c_6.2.1 x r6 c_6.1.1
 else none
 else none
 else none
 else rec tiers (if c_1.1.1>rate then c_1.1.1 else rate) t13 t14 (i64.wrap (t15+1)) m x r6 ways
 else none
 else k0 tiers rate t13 t14 t15 (decide (t15<t14)) m x r6 ways
def zj.l3 {R:Type} (F:Nat) (k0:zj.l3.K0 R):Nat->zj.l3.T R
 | 0,_,_,_,_,_,_,_,_,_=>none
 | fu+1,tiers,rate,t13,t14,t15,m,x,r6,ways=>zj.l3.body F k0 (zj.l3 F k0 fu) tiers rate t13 t14 t15 m x r6 ways
def zj.sh (F:Nat) (m:yd.T) (x:za.T) (tiers:List zO.T):Option zj.sg.R :=
 zj.l3 F (fun tiers7 rate7 t137 t147 t157 t167 m7 x7 r67 ways7=>bif idx (i64.wrap ((tiers7.length:Int)-1)) tiers7.length then oB (zC.sh F (get zO tiers7 ((i64.wrap ((tiers7.length:Int)-1)).toNat)).1) fun c_8 =>
 oB (zP.sh F m7 x7 c_8.1.1) fun c_9 =>
 bif (((m7.1.1==c_9.2.1.1.1)&&((m7.1.2==c_9.2.1.1.2)&&true))&&true) then oB (zC.sh F rate7) fun c_10 =>
 oB (zM.sh F c_9.2.1 c_10.1.1 c_9.1.1) fun c_11 =>
 bif (((c_9.2.1.1.1==c_11.2.1.1.1)&&((c_9.2.1.1.2==c_11.2.1.1.2)&&true))&&true) then oB (zP.sh F c_11.2.1 c_11.1.1 ways7) fun c_12 =>
 bif (((c_11.2.1.1.1==c_12.2.1.1.1)&&((c_11.2.1.1.2==c_12.2.1.1.2)&&true))&&true) then oB (zM.sh F c_12.2.1 c_9.2.1.1 c_12.1.1) fun c_13 =>
 bif (((c_12.2.1.1.1==c_13.2.1.1.1)&&((c_12.2.1.1.2==c_13.2.1.1.2)&&true))&&true) then some ((c_13.1.1,()),(c_13.2.1,()))
 else none
 else none
 else none
 else none
 else none) F tiers 0 tiers (tiers.length:Int) 0 m x (0,0) (0,0)
def zj.sp (F:Nat):TA zj.sg.args->Option zj.sg.R:=fun x=>zj.sh F x.1 x.2.1 x.2.2.1
@[reducible] def zX.sg:Sig:={args:=[.d (.b za)],res:=[.g za,.c (.int .i64)]}
abbrev zX.l4.K0 (R:Type):Type:=Int->Int->Int->(List za.T)->Int->Int->Bool->za.T->Option R
abbrev zX.l4.T (R:Type):Type:=Int->Int->Int->(List za.T)->Int->Int->za.T->Option R
def zX.l4.body {R:Type} (F:Nat) (k0:zX.l4.K0 R) (rec:zX.l4.T R) (lo:Int) (hi:Int) (top:Int) (t11:List za.T) (t12:Int) (t13:Int) (r2:za.T):Option R :=
 bif decide (t13<t12) then bif idx t13 t11.length then oB (zQ.sh F lo (get za t11 t13.toNat).2 0) fun c_1 =>
 oB (zQ.sh F hi (u64.wrap (get za t11 t13.toNat).1) c_1.1.2.1) fun c_2 =>
 rec c_1.1.1 c_2.1.1 (i64.wrap (top+(i64.wrap (((get za t11 t13.toNat).1.fdiv (2^(min (63:Int).toNat IntKind.i64.bits)))+(i64.wrap c_2.1.2.1))))) t11 t12 (i64.wrap (t13+1)) r2
 else none
 else k0 lo hi top t11 t12 t13 (decide (t13<t12)) r2
def zX.l4 {R:Type} (F:Nat) (k0:zX.l4.K0 R):Nat->zX.l4.T R
 | 0,_,_,_,_,_,_,_=>none
 | fu+1,lo,hi,top,t11,t12,t13,r2=>zX.l4.body F k0 (zX.l4 F k0 fu) lo hi top t11 t12 t13 r2
def zX.sh (F:Nat) (list:List za.T):Option zX.sg.R :=
 zX.l4 F (fun lo3 hi3 top3 t113 t123 t133 t143 r23=>bif (top3 != ((i64.wrap hi3).fdiv (2^(min (63:Int).toNat IntKind.i64.bits)))) then some (((0,0),10,()),())
 else some (((i64.wrap hi3,lo3),0,()),())) F 0 0 0 list (list.length:Int) 0 (0,0)
def zX.sp (F:Nat):TA zX.sg.args->Option zX.sg.R:=fun x=>zX.sh F x.1
@[reducible] def zo.sg:Sig:={args:=[.io yd [],.d (.g ya),.d (.g zm),.d (.b za)],res:=[.g za]}
def zo.j18 {R:Type} (F:Nat) (k0:yd.T->za.T->Option R) (kids:List za.T) (m:yd.T) (n:zm.T) (r8:za.T):Option R :=
 oB (zX.sh F kids) fun c_13 =>
 oB (zN.sh F m c_13.1.1 c_13.1.2.1) fun c_14 =>
 bif (n.1==11) then oB (zC.sh F n.2.1) fun c_15 =>
 oB (zP.sh F c_14.2.1 c_14.1.1 c_15.1.1) fun c_16 =>
 k0 c_16.2.1 c_16.1.1
 else bif (n.1==12) then oB (zC.sh F n.2.1) fun c_17 =>
 oB (zP.sh F c_14.2.1 c_14.1.1 c_17.1.1) fun c_18 =>
 k0 c_18.2.1 c_18.1.1
 else bif (n.1==16) then oB (zC.sh F n.2.1) fun c_19 =>
 oB (zP.sh F c_14.2.1 c_14.1.1 c_19.1.1) fun c_20 =>
 k0 c_20.2.1 c_20.1.1
 else k0 c_14.2.1 c_14.1.1
def zo.sh (F:Nat) (m:yd.T) (p:ya.T) (n:zm.T) (kids:List za.T):Option zo.sg.R :=
 bif (n.1==1) then oB (zC.sh F n.2.1) fun c_1 =>
 some ((c_1.1.1,()),(m,()))
 else bif (n.1==2) then oB (zC.sh F n.2.1) fun c_2 =>
 oB (zM.sh F m c_2.1.1 m.1) fun c_3 =>
 some ((c_3.1.1,()),(c_3.2.1,()))
 else bif (n.1==3) then oB (zC.sh F 1099511627776) fun c_4 =>
 some ((c_4.1.1,()),(m,()))
 else bif (n.1==4) then oB (zC.sh F 1099511627776) fun c_5 =>
 bif idx n.2.1 p.2.1.length then oB (zC.sh F (get yK p.2.1 n.2.1.toNat).2) fun c_6 =>
 oB (yF.sh F c_5.1.1 c_6.1.1 1) fun c_7 =>
 oB (zN.sh F m c_7.1.1 c_7.1.2.1) fun c_8 =>
 some ((c_8.1.1,()),(c_8.2.1,()))
 else none
 else bif (n.1==8) then bif idx 0 kids.length then bif idx 1 kids.length then oB (zM.sh F m (get za kids 0) (get za kids 1)) fun c_9 =>
 some ((c_9.1.1,()),(c_9.2.1,()))
 else none
 else none
 else bif (n.1==13) then bif (n.1==13) then bif idx 0 kids.length then oB (zj.sh F m (get za kids 0) n.2.2.2.2.1) fun c_10 =>
 some ((c_10.1.1,()),(c_10.2.1,()))
 else none
 else bif (n.1==15) then bif idx 0 kids.length then oB (zC.sh F 10000) fun c_11 =>
 oB (zM.sh F m (get za kids 0) c_11.1.1) fun c_12 =>
 bif idx 0 kids.length then some (((get za kids 0),()),(c_12.2.1,()))
 else none
 else none
 else zo.j18 F (fun m21 r821=>some ((r821,()),(m21,()))) kids m n (0,0)
 else bif (n.1==14) then bif idx 0 kids.length then oB (zj.sh F m (get za kids 0) n.2.2.2.2.1) fun c_22 =>
 some ((c_22.1.1,()),(c_22.2.1,()))
 else none
 else bif (n.1==15) then bif idx 0 kids.length then oB (zC.sh F 10000) fun c_23 =>
 oB (zM.sh F m (get za kids 0) c_23.1.1) fun c_24 =>
 bif idx 0 kids.length then some (((get za kids 0),()),(c_24.2.1,()))
 else none
 else none
 else zo.j18 F (fun m25 r825=>some ((r825,()),(m25,()))) kids m n (0,0)
def zo.sp (F:Nat):TA zo.sg.args->Option zo.sg.R:=fun x=>zo.sh F x.1 x.2.1 x.2.2.1 x.2.2.2.1
@[reducible] def yB.sg:Sig:={args:=[.d (.g za),.d (.g za)],res:=[.c (.int .i64)]}
def yB.sh (F:Nat) (a:za.T) (b:za.T):Option yB.sg.R :=
 bif ((a.1==b.1)&&((a.2==b.2)&&true)) then some ((0,()),())
 else bif decide (a.1<b.1) then bif decide (a.1<b.1) then some (((-1),()),())
 else some ((1,()),())
 else bif (a.1==b.1) then bif decide (a.2<b.2) then some (((-1),()),())
 else some ((1,()),())
 else some ((1,()),())
def yB.sp (F:Nat):TA yB.sg.args->Option yB.sg.R:=fun x=>yB.sh F x.1 x.2.1
@[reducible] def yJ.sg:Sig:={args:=[.d (.g zm),.d (.g za)],res:=[.c .bool]}
def yJ.sh (F:Nat) (n:zm.T) (mag:za.T):Option yJ.sg.R :=
 bif (n.1==15) then oB (zC.sh F 10000) fun c_1 =>
 oB (z8.sh F mag c_1.1.1) fun c_2 =>
 oB (yB.sh F c_2.1.1 (72057594037927936,0)) fun c_3 =>
 some ((decide (c_3.1.1>0),()),())
 else oB (yB.sh F mag (72057594037927936,0)) fun c_4 =>
 some ((decide (c_4.1.1>0),()),())
def yJ.sp (F:Nat):TA yJ.sg.args->Option yJ.sg.R:=fun x=>yJ.sh F x.1 x.2.1
@[reducible] def zi.sg:Sig:={args:=[.d (.g ya),.d (.g za)],res:=[.c (.sl za),.c (.int .i64)]}
abbrev zi.l4.K0 (R:Type):Type:=(List za.T)->Int->Option R
abbrev zi.l4.K1 (R:Type):Type:=(List zm.T)->Int->Int->Bool->ya.T->yd.T->(List za.T)->(List za.T)->Option R
abbrev zi.l4.T (R:Type):Type:=(List zm.T)->Int->Int->ya.T->yd.T->(List za.T)->(List za.T)->Option R
def zi.l4.body {R:Type} (F:Nat) (k0:zi.l4.K0 R) (k1:zi.l4.K1 R) (rec:zi.l4.T R) (t17:List zm.T) (t18:Int) (t19:Int) (p:ya.T) (m:yd.T) (mags:List za.T) (pile:List za.T):Option R :=
 bif decide (t19<t18) then bif idx t19 t17.length then oB (zF.sh F (get zm t17 t19.toNat)) fun c_1 =>
 bif (zr pile.length (some (i64.wrap ((pile.length:Int)-c_1.1.1))) none).1 then oB (zo.sh F m p (get zm t17 t19.toNat) ((List.take (zr pile.length (some (i64.wrap ((pile.length:Int)-c_1.1.1))) none).2.2 pile).drop (zr pile.length (some (i64.wrap ((pile.length:Int)-c_1.1.1))) none).2.1)) fun c_2 =>
 bif c_2.2.1.2 then k0 ([]) t19
 else oB (yJ.sh F (get zm t17 t19.toNat) c_2.1.1) fun c_3 =>
 bif c_3.1.1 then k0 ([]) t19
 else bif Nat.ble (mags.length+([c_2.1.1]:List za.T).length) y4 then bif (zr pile.length none (some (i64.wrap ((pile.length:Int)-c_1.1.1)))).1 then bif Nat.ble ((zr pile.length none (some (i64.wrap ((pile.length:Int)-c_1.1.1)))).2.2+([c_2.1.1]:List za.T).length) y4 then rec t17 t18 (i64.wrap (t19+1)) p c_2.2.1 (mags++([c_2.1.1]:List za.T)) (pile.take (zr pile.length none (some (i64.wrap ((pile.length:Int)-c_1.1.1)))).2.2++([c_2.1.1]:List za.T))
 else none
 else none
 else none
 else none
 else none
 else k1 t17 t18 t19 (decide (t19<t18)) p m mags pile
def zi.l4 {R:Type} (F:Nat) (k0:zi.l4.K0 R) (k1:zi.l4.K1 R):Nat->zi.l4.T R
 | 0,_,_,_,_,_,_,_=>none
 | fu+1,t17,t18,t19,p,m,mags,pile=>zi.l4.body F k0 k1 (zi.l4 F k0 k1 fu) t17 t18 t19 p m mags pile
def zi.j13 {R:Type} (F:Nat) (k0:(List za.T)->Int->Option R) (mags:List za.T):Option R :=
 k0 mags (-1)
def zi.sh (F:Nat) (p:ya.T) (unit:za.T):Option zi.sg.R :=
 zi.l4 F (fun r44 r54=>some ((r44,r54,()),())) (fun t175 t185 t195 t205 p5 m5 mags5 pile5=>zi.j13 F (fun r46 r56=>some ((r46,r56,()),())) mags5) F p.2.2.2 (p.2.2.2.length:Int) 0 p (unit,false) ([]) ([])
def zi.sp (F:Nat):TA zi.sg.args->Option zi.sg.R:=fun x=>zi.sh F x.1 x.2.1
@[reducible] def yD.sg:Sig:={args:=[.d (.g ya)],res:=[.g za,.c (.int .i64),.c (.int .i64)]}
def yD.sh (F:Nat) (p:ya.T):Option yD.sg.R :=
 oB (zh.sh F p) fun c_1 =>
 bif (c_1.1.2.2.1 != 0) then some (((0,0),c_1.1.2.1,c_1.1.2.2.1,()),())
 else oB (zu.sh F p) fun c_2 =>
 bif decide (c_2.1.1>6) then some (((0,0),i64.wrap ((p.2.2.2.length:Int)-1),90,()),())
 else oB (zE.sh F c_2.1.1) fun c_3 =>
 oB (zi.sh F p c_3.1.1) fun c_4 =>
 bif decide (c_4.1.2.1>=0) then some (((0,0),c_4.1.2.1,90,()),())
 else some ((c_3.1.1,0,c_3.1.2.1,()),())
def yD.sp (F:Nat):TA yD.sg.args->Option yD.sg.R:=fun x=>yD.sh F x.1
@[reducible] def zV.sg:Sig:={args:=[.d (.g zm)],res:=[.c (.int .i64)]}
def zV.j10 {R:Type} (F:Nat) (k0:Int->Option R) (k1:Int->Option R) (k2:Int->Option R) (k3:Bool->Option R) (t4:Int) (t10:Bool) (n:zm.T):Option R :=
 bif t10 then k0 2
 else bif (t4==9) then bif (t4==9) then k1 n.2.2.2.1
 else bif (t4==16) then k2 3
 else k3 (t4==16)
 else bif (t4==10) then k1 n.2.2.2.1
 else bif (t4==16) then k2 3
 else k3 (t4==16)
def zV.j6 {R:Type} (F:Nat) (k0:Int->Option R) (k1:Int->Option R) (k2:Int->Option R) (k3:Int->Option R) (k4:Bool->Option R) (t4:Int) (t5:Bool) (n:zm.T):Option R :=
 bif t5 then k0 0
 else bif (t4==6) then zV.j10 F (fun r21=>k1 r21) (fun r22=>k2 r22) (fun r23=>k3 r23) (fun t194=>k4 t194) t4 (t4==6) n
 else bif (t4==7) then zV.j10 F (fun r25=>k1 r25) (fun r26=>k2 r26) (fun r27=>k3 r27) (fun t198=>k4 t198) t4 (t4==7) n
 else zV.j10 F (fun r29=>k1 r29) (fun r210=>k2 r210) (fun r211=>k3 r211) (fun t1912=>k4 t1912) t4 (t4==8) n
def zV.sh (F:Nat) (n:zm.T):Option zV.sg.R :=
 bif (n.1==1) then zV.j6 F (fun r213=>some ((r213,()),())) (fun r214=>some ((r214,()),())) (fun r215=>some ((r215,()),())) (fun r216=>some ((r216,()),())) (fun t1917=>some ((1,()),())) n.1 (n.1==1) n
 else bif (n.1==2) then zV.j6 F (fun r218=>some ((r218,()),())) (fun r219=>some ((r219,()),())) (fun r220=>some ((r220,()),())) (fun r221=>some ((r221,()),())) (fun t1922=>some ((1,()),())) n.1 (n.1==2) n
 else bif (n.1==3) then zV.j6 F (fun r223=>some ((r223,()),())) (fun r224=>some ((r224,()),())) (fun r225=>some ((r225,()),())) (fun r226=>some ((r226,()),())) (fun t1927=>some ((1,()),())) n.1 (n.1==3) n
 else zV.j6 F (fun r228=>some ((r228,()),())) (fun r229=>some ((r229,()),())) (fun r230=>some ((r230,()),())) (fun r231=>some ((r231,()),())) (fun t1932=>some ((1,()),())) n.1 (n.1==4) n
def zV.sp (F:Nat):TA zV.sg.args->Option zV.sg.R:=fun x=>zV.sh F x.1
@[reducible] def y6.sg:Sig:={args:=[.d (.g za),.d (.g za)],res:=[.g za]}
def y6.sh (F:Nat) (a:za.T) (b:za.T):Option y6.sg.R :=
 oB (yS.sh F a b) fun c_1 =>
 some ((c_1.1.1,()),())
def y6.sp (F:Nat):TA y6.sg.args->Option y6.sg.R:=fun x=>y6.sh F x.1 x.2.1
@[reducible] def y9.sg:Sig:={args:=[.d (.g za),.d (.g za)],res:=[.g za]}
def y9.sh (F:Nat) (a:za.T) (b:za.T):Option y9.sg.R :=
 oB (y7.sh F a b) fun c_1 =>
 some ((c_1.1.1,()),())
def y9.sp (F:Nat):TA y9.sg.args->Option y9.sg.R:=fun x=>y9.sh F x.1 x.2.1
@[reducible] def yE.sg:Sig:={args:=[.d (.g za),.d (.g za)],res:=[.g za]}
def yE.sh (F:Nat) (a:za.T) (b:za.T):Option yE.sg.R :=
 oB (z8.sh F a b) fun c_1 =>
 some ((c_1.1.1,()),())
def yE.sp (F:Nat):TA yE.sg.args->Option yE.sg.R:=fun x=>yE.sh F x.1 x.2.1
@[reducible] def ze.sg:Sig:={args:=[.d (.b za),.d (.c .fn)],res:=[.g za]}
@[reducible] def ze.ds26:Sig:={args:=[.d (.g za),.d (.g za)],res:=[.c (.int .i64)]}
def ze.d26 (F:Nat):Nat->TA ze.ds26.args->Option ze.ds26.R:=mkT ze.ds26 [(xt,yB.sp F)]
abbrev ze.l5.K0 (R:Type):Type:=(List za.T)->Nat->Int->Bool->za.T->za.T->Option R
abbrev ze.l5.T (R:Type):Type:=(List za.T)->Nat->Int->za.T->za.T->Option R
def ze.l5.body {R:Type} (F:Nat) (k0:ze.l5.K0 R) (rec:ze.l5.T R) (x:List za.T) (cmp:Nat) (i:Int) (r4:za.T) (m:za.T):Option R :=
 bif decide (i<(x.length:Int)) then bif idx i x.length then oB (ze.d26 F cmp ((get za x i.toNat),m,())) fun c_1 =>
 bif decide (c_1.1.1<0) then bif idx i x.length then rec x cmp (i64.wrap (i+1)) r4 (get za x i.toNat)
 else none
 else rec x cmp (i64.wrap (i+1)) r4 m
 else none
 else k0 x cmp i (decide (i<(x.length:Int))) r4 m
def ze.l5 {R:Type} (F:Nat) (k0:ze.l5.K0 R):Nat->ze.l5.T R
 | 0,_,_,_,_,_=>none
 | fu+1,x,cmp,i,r4,m=>ze.l5.body F k0 (ze.l5 F k0 fu) x cmp i r4 m
def ze.sh (F:Nat) (x:List za.T) (cmp:Nat):Option ze.sg.R :=
 bif decide ((x.length:Int)<1) then none
 else bif idx 0 x.length then ze.l5 F (fun x2 cmp2 i2 t172 r42 m2=>some ((m2,()),())) F x cmp 1 (0,0) (get za x 0)
 else none
def ze.sp (F:Nat):TA ze.sg.args->Option ze.sg.R:=fun x=>ze.sh F x.1 x.2.1
@[reducible] def zf.sg:Sig:={args:=[.d (.b za),.d (.c .fn)],res:=[.g za]}
@[reducible] def zf.ds26:Sig:={args:=[.d (.g za),.d (.g za)],res:=[.c (.int .i64)]}
def zf.d26 (F:Nat):Nat->TA zf.ds26.args->Option zf.ds26.R:=mkT zf.ds26 [(xt,yB.sp F)]
abbrev zf.l5.K0 (R:Type):Type:=(List za.T)->Nat->Int->Bool->za.T->za.T->Option R
abbrev zf.l5.T (R:Type):Type:=(List za.T)->Nat->Int->za.T->za.T->Option R
def zf.l5.body {R:Type} (F:Nat) (k0:zf.l5.K0 R) (rec:zf.l5.T R) (x:List za.T) (cmp:Nat) (i:Int) (r4:za.T) (m:za.T):Option R :=
 bif decide (i<(x.length:Int)) then bif idx i x.length then oB (zf.d26 F cmp ((get za x i.toNat),m,())) fun c_1 =>
 bif decide (c_1.1.1>0) then bif idx i x.length then rec x cmp (i64.wrap (i+1)) r4 (get za x i.toNat)
 else none
 else rec x cmp (i64.wrap (i+1)) r4 m
 else none
 else k0 x cmp i (decide (i<(x.length:Int))) r4 m
def zf.l5 {R:Type} (F:Nat) (k0:zf.l5.K0 R):Nat->zf.l5.T R
 | 0,_,_,_,_,_=>none
 | fu+1,x,cmp,i,r4,m=>zf.l5.body F k0 (zf.l5 F k0 fu) x cmp i r4 m
def zf.sh (F:Nat) (x:List za.T) (cmp:Nat):Option zf.sg.R :=
 bif decide ((x.length:Int)<1) then none
 else bif idx 0 x.length then zf.l5 F (fun x2 cmp2 i2 t172 r42 m2=>some ((m2,()),())) F x cmp 1 (0,0) (get za x 0)
 else none
def zf.sp (F:Nat):TA zf.sg.args->Option zf.sg.R:=fun x=>zf.sh F x.1 x.2.1
@[reducible] def z6.sg:Sig:={args:=[.d (.g za),.d (.b zO)],res:=[.c (.int .i64)]}
abbrev z6.l2.K0 (R:Type):Type:=(List zO.T)->Int->Bool->za.T->Option R
abbrev z6.l2.T (R:Type):Type:=(List zO.T)->Int->za.T->Option R
def z6.l2.body {R:Type} (F:Nat) (k0:z6.l2.K0 R) (rec:z6.l2.T R) (tiers:List zO.T) (k:Int) (x:za.T):Option R :=
 bif decide ((i64.wrap (k+1))<(tiers.length:Int)) then bif idx (i64.wrap (k+1)) tiers.length then oB (zC.sh F (get zO tiers ((i64.wrap (k+1)).toNat)).1) fun c_1 =>
 oB (yB.sh F c_1.1.1 x) fun c_2 =>
 bif decide (c_2.1.1<0) then rec tiers (i64.wrap (k+1)) x
 else k0 tiers k (decide (c_2.1.1<0)) x
 else none
 else k0 tiers k false x
def z6.l2 {R:Type} (F:Nat) (k0:z6.l2.K0 R):Nat->z6.l2.T R
 | 0,_,_,_=>none
 | fu+1,tiers,k,x=>z6.l2.body F k0 (z6.l2 F k0 fu) tiers k x
def z6.sh (F:Nat) (x:za.T) (tiers:List zO.T):Option z6.sg.R :=
 z6.l2 F (fun tiers3 k3 t223 x3=>some ((k3,()),())) F tiers (-1) x
def z6.sp (F:Nat):TA z6.sg.args->Option z6.sg.R:=fun x=>z6.sh F x.1 x.2.1
@[reducible] def zw.sg:Sig:={args:=[.d (.g za),.d (.b zO)],res:=[.g za]}
abbrev zw.l3.K0 (R:Type):Type:=(List zO.T)->Int->Int->Bool->za.T->za.T->za.T->Option R
abbrev zw.l3.T (R:Type):Type:=(List zO.T)->Int->Int->za.T->za.T->za.T->Option R
def zw.l3.body {R:Type} (F:Nat) (k0:zw.l3.K0 R) (rec:zw.l3.T R) (tiers:List zO.T) (k:Int) (i:Int) (x:za.T) (r4:za.T) (sum:za.T):Option R :=
 bif decide (i<k) then bif idx i tiers.length then oB (zC.sh F (get zO tiers i.toNat).2) fun c_2 =>
 bif idx (i64.wrap (i+1)) tiers.length then bif idx i tiers.length then oB (zC.sh F (i64.wrap ((get zO tiers ((i64.wrap (i+1)).toNat)).1-(get zO tiers i.toNat).1))) fun c_3 =>
 oB (yE.sh F c_2.1.1 c_3.1.1) fun c_4 =>
 oB (y9.sh F sum c_4.1.1) fun c_5 =>
 rec tiers k (i64.wrap (i+1)) x r4 c_5.1.1
 else none
 else none
 else none
 else k0 tiers k i (decide (i<k)) x r4 sum
def zw.l3 {R:Type} (F:Nat) (k0:zw.l3.K0 R):Nat->zw.l3.T R
 | 0,_,_,_,_,_,_=>none
 | fu+1,tiers,k,i,x,r4,sum=>zw.l3.body F k0 (zw.l3 F k0 fu) tiers k i x r4 sum
def zw.sh (F:Nat) (x:za.T) (tiers:List zO.T):Option zw.sg.R :=
 oB (z6.sh F x tiers) fun c_1 =>
 zw.l3 F (fun tiers6 k6 i6 t146 x6 r46 sum6=>bif decide (k6>=0) then bif idx k6 tiers6.length then oB (zC.sh F (get zO tiers6 k6.toNat).2) fun c_7 =>
 bif idx k6 tiers6.length then oB (zC.sh F (get zO tiers6 k6.toNat).1) fun c_8 =>
 oB (y6.sh F x6 c_8.1.1) fun c_9 =>
 oB (yE.sh F c_7.1.1 c_9.1.1) fun c_10 =>
 oB (y9.sh F sum6 c_10.1.1) fun c_11 =>
 some ((c_11.1.1,()),())
 else none
 else none
 else some ((sum6,()),())) F tiers c_1.1.1 0 x (0,0) (0,0)
def zw.sp (F:Nat):TA zw.sg.args->Option zw.sg.R:=fun x=>zw.sh F x.1 x.2.1
@[reducible] def yM.sg:Sig:={args:=[.d (.g za),.d (.b zO)],res:=[.g za]}
def yM.sh (F:Nat) (x:za.T) (tiers:List zO.T):Option yM.sg.R :=
 oB (z6.sh F x tiers) fun c_1 =>
 bif decide (c_1.1.1>=0) then bif idx c_1.1.1 tiers.length then oB (zC.sh F (get zO tiers c_1.1.1.toNat).2) fun c_2 =>
 oB (yE.sh F x c_2.1.1) fun c_3 =>
 some ((c_3.1.1,()),())
 else none
 else some (((0,0),()),())
def yM.sp (F:Nat):TA yM.sg.args->Option yM.sg.R:=fun x=>yM.sh F x.1 x.2.1
@[reducible] def yY.sg:Sig:={args:=[.d (.g za),.d (.g za),.d (.c (.int .i64))],res:=[.c .bool]}
def yY.sh (F:Nat) (x:za.T) (n:za.T) (op:Int):Option yY.sg.R :=
 oB (yB.sh F x n) fun c_1 =>
 bif (op==1) then some ((decide (c_1.1.1<0),()),())
 else bif (op==2) then some ((decide (c_1.1.1<=0),()),())
 else bif (op==3) then some ((decide (c_1.1.1>0),()),())
 else bif (op==4) then some ((decide (c_1.1.1>=0),()),())
 else bif (op==5) then some (((c_1.1.1==0),()),())
 else some (((c_1.1.1 != 0),()),())
def yY.sp (F:Nat):TA yY.sg.args->Option yY.sg.R:=fun x=>yY.sh F x.1 x.2.1 x.2.2.1
@[reducible] def yl.sg:Sig:={args:=[.d (.g zm),.d (.g za),.d (.b za)],res:=[.g za]}
def yl.sh (F:Nat) (n:zm.T) (unit:za.T) (k:List za.T):Option yl.sg.R :=
 bif idx 0 k.length then oB (zC.sh F n.2.1) fun c_1 =>
 bif (n.1==5) then oB (y6.sh F (0,0) (get za k 0)) fun c_2 =>
 some ((c_2.1.1,()),())
 else bif (n.1==6) then bif idx 1 k.length then oB (y9.sh F (get za k 0) (get za k 1)) fun c_3 =>
 some ((c_3.1.1,()),())
 else none
 else bif (n.1==7) then bif idx 1 k.length then oB (y6.sh F (get za k 0) (get za k 1)) fun c_4 =>
 some ((c_4.1.1,()),())
 else none
 else bif (n.1==8) then bif idx 1 k.length then oB (yE.sh F (get za k 0) (get za k 1)) fun c_5 =>
 some ((c_5.1.1,()),())
 else none
 else bif (n.1==9) then oB (ze.sh F k xt) fun c_6 =>
 some ((c_6.1.1,()),())
 else bif (n.1==10) then oB (zf.sh F k xt) fun c_7 =>
 some ((c_7.1.1,()),())
 else bif (n.1==11) then oB (y6.sh F (get za k 0) c_1.1.1) fun c_8 =>
 oB (zf.sh F ([(0,0),c_8.1.1]:List za.T) xt) fun c_9 =>
 some ((c_9.1.1,()),())
 else bif (n.1==12) then oB (ze.sh F ([c_1.1.1,(get za k 0)]:List za.T) xt) fun c_10 =>
 some ((c_10.1.1,()),())
 else bif (n.1==13) then oB (zw.sh F (get za k 0) n.2.2.2.2.1) fun c_11 =>
 oB (yE.sh F unit c_11.1.1) fun c_12 =>
 some ((c_12.1.1,()),())
 else bif (n.1==14) then oB (yM.sh F (get za k 0) n.2.2.2.2.1) fun c_13 =>
 oB (yE.sh F unit c_13.1.1) fun c_14 =>
 some ((c_14.1.1,()),())
 else bif (n.1==15) then oB (zC.sh F (i64.wrap (10000-n.2.1))) fun c_15 =>
 oB (yE.sh F (get za k 0) c_15.1.1) fun c_16 =>
 oB (zC.sh F 10000) fun c_17 =>
 oB (yF.sh F c_16.1.1 c_17.1.1 2) fun c_18 =>
 some ((c_18.1.1,()),())
 else oB (yY.sh F (get za k 0) c_1.1.1 n.2.2.1) fun c_19 =>
 bif c_19.1.1 then bif idx 1 k.length then some (((get za k 1),()),())
 else none
 else bif idx 2 k.length then some (((get za k 2),()),())
 else none
 else none
def yl.sp (F:Nat):TA yl.sg.args->Option yl.sg.R:=fun x=>yl.sh F x.1 x.2.1 x.2.2.1
@[reducible] def yP.sg:Sig:={args:=[.d (.g ya),.d (.g zm),.d (.g za),.d (.b (.int .i64))],res:=[.g za]}
def yP.sh (F:Nat) (p:ya.T) (n:zm.T) (unit:za.T) (q:List Int):Option yP.sg.R :=
 bif (n.1==1) then oB (zC.sh F n.2.1) fun c_1 =>
 some ((c_1.1.1,()),())
 else bif (n.1==2) then oB (zC.sh F n.2.1) fun c_2 =>
 oB (yE.sh F c_2.1.1 unit) fun c_3 =>
 some ((c_3.1.1,()),())
 else bif (n.1==3) then bif idx n.2.1 q.length then oB (zC.sh F (get (.int .i64) q n.2.1.toNat)) fun c_4 =>
 some ((c_4.1.1,()),())
 else none
 else bif idx n.2.1 p.2.1.length then bif idx n.2.1 q.length then bif ((get yK p.2.1 n.2.1.toNat).2 != 0) then bif idx n.2.1 q.length then bif ((get yK p.2.1 n.2.1.toNat).2 != 0) then oB (zC.sh F (i64.wrap ((i64.wrap ((get (.int .i64) q n.2.1.toNat).tdiv (get yK p.2.1 n.2.1.toNat).2))+(if 1<(get (.int .i64) q n.2.1.toNat).tmod (get yK p.2.1 n.2.1.toNat).2 then 1 else (get (.int .i64) q n.2.1.toNat).tmod (get yK p.2.1 n.2.1.toNat).2)))) fun c_5 =>
 some ((c_5.1.1,()),())
 else none
 else none
 else none
 else none
 else none
def yP.sp (F:Nat):TA yP.sg.args->Option yP.sg.R:=fun x=>yP.sh F x.1 x.2.1 x.2.2.1 x.2.2.2.1
@[reducible] def zg.sg:Sig:={args:=[.d (.g ya),.d (.b (.int .i64))],res:=[.c (.sl za),.c (.int .i64)]}
abbrev zg.l7.K0 (R:Type):Type:=(List za.T)->Int->Option R
abbrev zg.l7.K1 (R:Type):Type:=(List Int)->(List Int)->Int->Int->Bool->ya.T->za.T->Option R
abbrev zg.l7.T (R:Type):Type:=(List Int)->(List Int)->Int->Int->ya.T->za.T->Option R
def zg.l7.body {R:Type} (F:Nat) (k0:zg.l7.K0 R) (k1:zg.l7.K1 R) (rec:zg.l7.T R) (q:List Int) (t32:List Int) (t33:Int) (t34:Int) (p:ya.T) (unit:za.T):Option R :=
 bif decide (t34<t33) then bif idx t34 t32.length then bif decide ((get (.int .i64) t32 t34.toNat)<0) then k0 ([]) 101
 else bif decide ((get (.int .i64) t32 t34.toNat)>1099511627776) then k0 ([]) 101
 else rec q t32 t33 (i64.wrap (t34+1)) p unit
 else none
 else k1 q t32 t33 t34 (decide (t34<t33)) p unit
def zg.l7 {R:Type} (F:Nat) (k0:zg.l7.K0 R) (k1:zg.l7.K1 R):Nat->zg.l7.T R
 | 0,_,_,_,_,_,_=>none
 | fu+1,q,t32,t33,t34,p,unit=>zg.l7.body F k0 k1 (zg.l7 F k0 k1 fu) q t32 t33 t34 p unit
abbrev zg.l14.K0 (R:Type):Type:=(List Int)->(List zm.T)->Int->Int->Bool->ya.T->za.T->(List za.T)->(List za.T)->Option R
abbrev zg.l14.T (R:Type):Type:=(List Int)->(List zm.T)->Int->Int->ya.T->za.T->(List za.T)->(List za.T)->Option R
def zg.l14.body {R:Type} (F:Nat) (k0:zg.l14.K0 R) (rec:zg.l14.T R) (q:List Int) (t46:List zm.T) (t47:Int) (t48:Int) (p:ya.T) (unit:za.T) (values:List za.T) (pile:List za.T):Option R :=
 bif decide (t48<t47) then bif idx t48 t46.length then oB (zV.sh F (get zm t46 t48.toNat)) fun c_4 =>
 bif decide ((i64.wrap ((pile.length:Int)-c_4.1.1))<(pile.length:Int)) then bif (zr pile.length (some (i64.wrap ((pile.length:Int)-c_4.1.1))) none).1 then oB (yl.sh F (get zm t46 t48.toNat) unit ((List.take (zr pile.length (some (i64.wrap ((pile.length:Int)-c_4.1.1))) none).2.2 pile).drop (zr pile.length (some (i64.wrap ((pile.length:Int)-c_4.1.1))) none).2.1)) fun c_5 =>
 bif Nat.ble (values.length+([c_5.1.1]:List za.T).length) y4 then bif (zr pile.length none (some (i64.wrap ((pile.length:Int)-c_4.1.1)))).1 then bif Nat.ble ((zr pile.length none (some (i64.wrap ((pile.length:Int)-c_4.1.1)))).2.2+([c_5.1.1]:List za.T).length) y4 then rec q t46 t47 (i64.wrap (t48+1)) p unit (values++([c_5.1.1]:List za.T)) (pile.take (zr pile.length none (some (i64.wrap ((pile.length:Int)-c_4.1.1)))).2.2++([c_5.1.1]:List za.T))
 else none
 else none
 else none
 else none
 else oB (yP.sh F p (get zm t46 t48.toNat) unit q) fun c_6 =>
 bif Nat.ble (values.length+([c_6.1.1]:List za.T).length) y4 then bif (zr pile.length none (some (i64.wrap ((pile.length:Int)-c_4.1.1)))).1 then bif Nat.ble ((zr pile.length none (some (i64.wrap ((pile.length:Int)-c_4.1.1)))).2.2+([c_6.1.1]:List za.T).length) y4 then rec q t46 t47 (i64.wrap (t48+1)) p unit (values++([c_6.1.1]:List za.T)) (pile.take (zr pile.length none (some (i64.wrap ((pile.length:Int)-c_4.1.1)))).2.2++([c_6.1.1]:List za.T))
 else none
 else none
 else none
 else none
 else k0 q t46 t47 t48 (decide (t48<t47)) p unit values pile
def zg.l14 {R:Type} (F:Nat) (k0:zg.l14.K0 R):Nat->zg.l14.T R
 | 0,_,_,_,_,_,_,_,_=>none
 | fu+1,q,t46,t47,t48,p,unit,values,pile=>zg.l14.body F k0 (zg.l14 F k0 fu) q t46 t47 t48 p unit values pile
def zg.j24 {R:Type} (F:Nat) (k0:(List za.T)->Int->Option R) (values:List za.T):Option R :=
 k0 values 0
def zg.sh (F:Nat) (p:ya.T) (q:List Int):Option zg.sg.R :=
 oB (yD.sh F p) fun c_1 =>
 bif (c_1.1.2.2.1 != 0) then some (([],c_1.1.2.2.1,()),())
 else bif ((q.length:Int) != (p.2.1.length:Int)) then some (([],100,()),())
 else zg.l7 F (fun r42 r52=>some ((r42,r52,()),())) (fun q3 t323 t333 t343 t353 p3 unit3=>zg.l14 F (fun q7 t467 t477 t487 t497 p7 unit7 values7 pile7=>zg.j24 F (fun r48 r58=>some ((r48,r58,()),())) values7) F q3 p3.2.2.2 (p3.2.2.2.length:Int) 0 p3 unit3 ([]) ([])) F q q (q.length:Int) 0 p c_1.1.1
def zg.sp (F:Nat):TA zg.sg.args->Option zg.sg.R:=fun x=>zg.sh F x.1 x.2.1
@[reducible] def ym.sg:Sig:={args:=[.d (.g ya),.d (.b (.int .i64))],res:=[.g za,.c (.int .i64)]}
def ym.sh (F:Nat) (p:ya.T) (q:List Int):Option ym.sg.R :=
 oB (zg.sh F p q) fun c_1 =>
 bif (c_1.1.2.1 != 0) then some (((0,0),c_1.1.2.1,()),())
 else bif idx (i64.wrap ((c_1.1.1.length:Int)-1)) c_1.1.1.length then some (((get za c_1.1.1 ((i64.wrap ((c_1.1.1.length:Int)-1)).toNat)),0,()),())
 else none
def ym.sp (F:Nat):TA ym.sg.args->Option ym.sg.R:=fun x=>ym.sh F x.1 x.2.1
@[reducible] def xE.sg:Sig:={args:=[.d (.g za)],res:=[.c (.int .i64),.c .bool]}
def xE.sh (F:Nat) (w:za.T):Option xE.sg.R :=
 bif (w.1 != ((i64.wrap w.2).fdiv (2^(min (63:Int).toNat IntKind.i64.bits)))) then some ((0,false,()),())
 else some ((i64.wrap w.2,true,()),())
def xE.sp (F:Nat):TA xE.sg.args->Option xE.sg.R:=fun x=>xE.sh F x.1
@[reducible] def xf.sg:Sig:={args:=[.d (.g ya),.d (.b (.int .i64))],res:=[.c (.int .i64),.c (.int .i64)]}
def xf.sh (F:Nat) (p:ya.T) (q:List Int):Option xf.sg.R :=
 oB (ym.sh F p q) fun c_1 =>
 bif (c_1.1.2.1 != 0) then some ((0,c_1.1.2.1,()),())
 else oB (yD.sh F p) fun c_2 =>
 oB (yF.sh F c_1.1.1 c_2.1.1 p.2.2.1) fun c_3 =>
 oB (xE.sh F c_3.1.1) fun c_4 =>
 bif !c_4.1.2.1 then some ((0,102,()),())
 else bif decide (c_4.1.1<(-1000000000000000)) then some ((0,102,()),())
 else bif decide (c_4.1.1>1000000000000000) then some ((0,102,()),())
 else some ((c_4.1.1,0,()),())
def xf.sp (F:Nat):TA xf.sg.args->Option xf.sg.R:=fun x=>xf.sh F x.1 x.2.1
@[reducible] def zx.sg:Sig:={args:=[.d (.b za),.d (.b za)],res:=[.c .bool]}
abbrev zx.l4.K1 (R:Type):Type:=(List za.T)->(List za.T)->Int->Bool->Option R
abbrev zx.l4.T (R:Type):Type:=(List za.T)->(List za.T)->Int->Option R
def zx.l4.body {R:Type} (F:Nat) (k0:Bool->Option R) (k1:zx.l4.K1 R) (rec:zx.l4.T R) (a:List za.T) (b:List za.T) (i:Int):Option R :=
 bif decide (i<(a.length:Int)) then bif idx i a.length then bif idx i b.length then bif !(((get za a i.toNat).1==(get za b i.toNat).1)&&(((get za a i.toNat).2==(get za b i.toNat).2)&&true)) then k0 false
 else rec a b (i64.wrap (i+1))
 else none
 else none
 else k1 a b i (decide (i<(a.length:Int)))
def zx.l4 {R:Type} (F:Nat) (k0:Bool->Option R) (k1:zx.l4.K1 R):Nat->zx.l4.T R
 | 0,_,_,_=>none
 | fu+1,a,b,i=>zx.l4.body F k0 k1 (zx.l4 F k0 k1 fu) a b i
def zx.sh (F:Nat) (a:List za.T) (b:List za.T):Option zx.sg.R :=
 bif ((a.length:Int) != (b.length:Int)) then some ((false,()),())
 else zx.l4 F (fun r41=>some ((r41,()),())) (fun a2 b2 i2 t142=>some ((true,()),())) F a b 0
def zx.sp (F:Nat):TA zx.sg.args->Option zx.sg.R:=fun x=>zx.sh F x.1 x.2.1
@[reducible] def yf.sg:Sig:={args:=[],res:=[.c .bool]}
def yf.sh (F:Nat):Option yf.sg.R :=
 oB (zR.sh F ([(3,0,0,0,[],0),(11,20,0,0,[],0),(2,3,0,0,[],0),(8,0,0,0,[],0)]:List zm.T)) fun c_1 =>
 oB (zg.sh F c_1.1.1 ([25]:List Int)) fun c_2 =>
 oB (xf.sh F c_1.1.1 ([25]:List Int)) fun c_3 =>
 oB (ym.sh F c_1.1.1 ([])) fun c_4 =>
 oB (zR.sh F ([(2,5,0,0,[],0),(15,2500,0,0,[],0)]:List zm.T)) fun c_5 =>
 oB (ym.sh F c_5.1.1 ([0]:List Int)) fun c_6 =>
 bif (c_2.1.2.1==0) then bif (c_3.1.2.1==0) then oB (zC.sh F 25) fun c_7 =>
 oB (zC.sh F 5) fun c_8 =>
 oB (zC.sh F 3) fun c_9 =>
 oB (zC.sh F 15) fun c_10 =>
 oB (zx.sh F c_2.1.1 ([c_7.1.1,c_8.1.1,c_9.1.1,c_10.1.1]:List za.T)) fun c_11 =>
 bif c_11.1.1 then bif (c_3.1.1==15) then bif (c_4.1.2.1==100) then bif (c_6.1.2.1==0) then oB (zC.sh F 37500) fun c_12 =>
 some ((((c_6.1.1.1==c_12.1.1.1)&&((c_6.1.1.2==c_12.1.1.2)&&true)),()),())
 else some ((false,()),())
 else some ((false,()),())
 else some ((false,()),())
 else some ((false,()),())
 else some ((false,()),())
 else some ((false,()),())
def yf.sp (F:Nat):TA yf.sg.args->Option yf.sg.R:=fun x=>yf.sh F
@[reducible] def xh.sg:Sig:={args:=[.d (.g za)],res:=[.c (.int .i64)]}
def xh.sh (F:Nat) (w:za.T):Option xh.sg.R :=
 bif decide (w.1<0) then some (((-1),()),())
 else bif ((w.1==0)&&((w.2==0)&&true)) then some ((0,()),())
 else some ((1,()),())
def xh.sp (F:Nat):TA xh.sg.args->Option xh.sg.R:=fun x=>xh.sh F x.1
@[reducible] def zn.sg:Sig:={args:=[.d (.c (.int .i64)),.d (.c (.int .i64)),.d (.c (.int .i64))],res:=[.c .bool]}
def zn.j7 {R:Type} (F:Nat) (k0:Bool->Option R) (k1:Bool->Option R) (n:Int) (size:Int) (q:Int) (e:Int):Option R :=
 oB (zR.sh F ([(4,0,0,0,[],0),(2,1,0,0,[],0),(8,0,0,0,[],0)]:List zm.T)) fun c_5 =>
 bif idx 0 c_5.1.1.2.1.length then oB (ym.sh F (c_5.1.1.1,c_5.1.1.2.1.set 0 ((get yK c_5.1.1.2.1 0).1,size),c_5.1.1.2.2) ([q]:List Int)) fun c_6 =>
 bif (c_6.1.2.1 != 0) then bif decide (size<1) then k0 true
 else bif decide (size>1000000000000) then k0 true
 else bif decide (q<0) then k0 true
 else k0 (decide (q>1099511627776))
 else oB (zC.sh F size) fun c_7 =>
 oB (z8.sh F c_6.1.1 c_7.1.1) fun c_8 =>
 oB (zC.sh F q) fun c_9 =>
 oB (yS.sh F c_8.1.1 c_9.1.1) fun c_10 =>
 bif (c_8.1.2.1==0) then bif (c_10.1.2.1==0) then oB (xh.sh F c_10.1.1) fun c_11 =>
 bif decide (c_11.1.1>=0) then oB (zC.sh F size) fun c_12 =>
 oB (yB.sh F c_10.1.1 c_12.1.1) fun c_13 =>
 bif decide (c_13.1.1<0) then bif (e==0) then k1 true
 else bif decide (n<0) then k1 true
 else k1 (decide (n>1000000000000))
 else k1 false
 else k1 false
 else k1 false
 else k1 false
 else none
def zn.sh (F:Nat) (n:Int) (size:Int) (q:Int):Option zn.sg.R :=
 oB (yf.sh F) fun c_1 =>
 bif !c_1.1.1 then some ((false,()),())
 else oB (zR.sh F ([(3,0,0,0,[],0),(11,n,0,0,[],0),(3,0,0,0,[],0),(12,n,0,0,[],0),(6,0,0,0,[],0),(2,1,0,0,[],0),(8,0,0,0,[],0)]:List zm.T)) fun c_2 =>
 oB (ym.sh F c_2.1.1 ([q]:List Int)) fun c_3 =>
 bif (c_3.1.2.1==0) then oB (zC.sh F q) fun c_4 =>
 bif !((c_3.1.1.1==c_4.1.1.1)&&((c_3.1.1.2==c_4.1.1.2)&&true)) then some ((false,()),())
 else zn.j7 F (fun r614=>some ((r614,()),())) (fun r615=>some ((r615,()),())) n size q c_3.1.2.1
 else zn.j7 F (fun r616=>some ((r616,()),())) (fun r617=>some ((r617,()),())) n size q c_3.1.2.1
def zn.sp (F:Nat):TA zn.sg.args->Option zn.sg.R:=fun x=>zn.sh F x.1 x.2.1 x.2.2.1
end Go.VS
