import Derived.Test.YtmkkoenoplginaaGreatDoorQH
set_option linter.unusedVariables false
set_option linter.unusedSimpArgs false
set_option linter.unusedSectionVars false
set_option linter.unusedVariables false
set_option maxRecDepth 100000
namespace Go.VS
open Go IntKind
@[reducible] def yI.sg:Sig:={args:=[.d (.c (.sl zr))],res:=[.g zI]}
def yI.sh (F:Nat) (nodes:List zr.T):Option yI.sg.R :=
 some ((((⟨#[112]⟩:ByteArray),([((⟨#[97]⟩:ByteArray),10)]:List xd.T),0,nodes),()),())
def yI.sp (F:Nat):TA yI.sg.args->Option yI.sg.R:=fun x=>yI.sh F x.1
@[reducible] def yQ.sg:Sig:={args:=[.d (.c (.int .u8))],res:=[.c .bool]}
def yQ.sh (F:Nat) (c:Int):Option yQ.sg.R :=
 bif decide (c>=97) then some ((decide (c<=122),()),())
 else some ((false,()),())
def yQ.sp (F:Nat):TA yQ.sg.args->Option yQ.sg.R:=fun x=>yQ.sh F x.1
@[reducible] def xu.sg:Sig:={args:=[.d (.c (.int .u8))],res:=[.c .bool]}
def xu.sh (F:Nat) (c:Int):Option xu.sg.R :=
 bif decide (c>=48) then some ((decide (c<=57),()),())
 else some ((false,()),())
def xu.sp (F:Nat):TA xu.sg.args->Option xu.sg.R:=fun x=>xu.sh F x.1
@[reducible] def xl.sg:Sig:={args:=[.d (.c (.int .u8))],res:=[.c .bool]}
def xl.sh (F:Nat) (c:Int):Option xl.sg.R :=
 oB (yQ.sh F c) fun c_1 =>
 bif c_1.1.1 then some ((true,()),())
 else oB (xu.sh F c) fun c_2 =>
 bif c_2.1.1 then some ((true,()),())
 else some (((c==95),()),())
def xl.sp (F:Nat):TA xl.sg.args->Option xl.sg.R:=fun x=>xl.sh F x.1
@[reducible] def yf.sg:Sig:={args:=[.d (.c .str),.d (.c .fn)],res:=[.c (.int .i64)]}
@[reducible] def yf.ds15:Sig:={args:=[.d (.c (.int .u8))],res:=[.c .bool]}
def yf.d15 (F:Nat):Nat->TA yf.ds15.args->Option yf.ds15.R:=mkT yf.ds15 [(vm,xl.sp F),(vc,yQ.sp F)]
abbrev yf.l2.K0 (R:Type):Type:=ByteArray->Nat->Int->Bool->Option R
abbrev yf.l2.T (R:Type):Type:=ByteArray->Nat->Int->Option R
def yf.l2.body {R:Type} (F:Nat) (k0:yf.l2.K0 R) (rec:yf.l2.T R) (s:ByteArray) (of:Nat) (n:Int):Option R :=
 bif decide (n<(s.size:Int)) then bif idx n s.size then oB (yf.d15 F of (bt s n,())) fun c_1 =>
 bif c_1.1.1 then rec s of (i64.wrap (n+1))
 else k0 s of n c_1.1.1
 else none
 else k0 s of n false
def yf.l2 {R:Type} (F:Nat) (k0:yf.l2.K0 R):Nat->yf.l2.T R
 | 0,_,_,_=>none
 | fu+1,s,of,n=>yf.l2.body F k0 (yf.l2 F k0 fu) s of n
def yf.sh (F:Nat) (s:ByteArray) (of_:Nat):Option yf.sg.R :=
 yf.l2 F (fun s2 of2 n2 t162=>some ((n2,()),())) F s of_ 0
def yf.sp (F:Nat):TA yf.sg.args->Option yf.sg.R:=fun x=>yf.sh F x.1 x.2.1
@[reducible] def xI.sg:Sig:={args:=[.d (.c .str)],res:=[.c .bool]}
def xI.sh (F:Nat) (s:ByteArray):Option xI.sg.R :=
 bif !(s.toList==(⟨#[]⟩:ByteArray).toList) then oB (yf.sh F s vc) fun c_1 =>
 bif (c_1.1.1==(s.size:Int)) then bif Nat.ble ((⟨#[32]⟩:ByteArray).size+s.size) xp then bif Nat.ble (((⟨#[32]⟩:ByteArray)++s).size+(⟨#[32]⟩:ByteArray).size) xp then oB (yK.sh F (⟨#[32,112,108,97,110,32,114,111,117,110,100,32,98,121,32,98,108,111,99,107,115,32,109,105,110,32,109,97,120,32,111,118,101,114,32,117,112,116,111,32,103,114,97,100,117,97,116,101,100,32,118,111,108,117,109,101,32,111,102,102,32,105,102,32,102,108,111,111,114,32,99,101,105,108,32,122,101,114,111,32,104,97,108,102,32,101,118,101,110,32]⟩:ByteArray) (((⟨#[32]⟩:ByteArray)++s)++(⟨#[32]⟩:ByteArray))) fun c_2 =>
 some ((c_2.1.1,()),())
 else none
 else none
 else some ((false,()),())
 else some ((false,()),())
def xI.sp (F:Nat):TA xI.sg.args->Option xI.sg.R:=fun x=>xI.sh F x.1
@[reducible] def xB.sg:Sig:={args:=[.d (.c .str)],res:=[.c .bool]}
def xB.sh (F:Nat) (s:ByteArray):Option xB.sg.R :=
 bif !(s.toList==(⟨#[]⟩:ByteArray).toList) then bif decide ((s.size:Int)<=32) then bif idx 0 s.size then oB (yQ.sh F (bt s 0)) fun c_1 =>
 bif c_1.1.1 then oB (yf.sh F s vm) fun c_2 =>
 bif (c_2.1.1==(s.size:Int)) then oB (xI.sh F s) fun c_3 =>
 some ((!c_3.1.1,()),())
 else some ((false,()),())
 else some ((false,()),())
 else none
 else some ((false,()),())
 else some ((false,()),())
def xB.sp (F:Nat):TA xB.sg.args->Option xB.sg.R:=fun x=>xB.sh F x.1
@[reducible] def y6.sg:Sig:={args:=[.d (.g xd),.d (.p xd)],res:=[.c .bool]}
def y6.sh (F:Nat) (e:xd.T) (t1:xd.T):Option y6.sg.R :=
 some (((e.1.toList==t1.1.toList),()),())
def y6.sp (F:Nat):TA y6.sg.args->Option y6.sg.R:=fun x=>y6.sh F x.1 x.2.1
@[reducible] def zh.sg:Sig:={args:=[.d (.b xd),.d (.cl xd)],res:=[.c (.int .i64)]}
@[reducible] def zh.ds16:Sig:={args:=[.d (.g xd),.d (.p xd)],res:=[.c .bool]}
def zh.d16 (F:Nat):Nat->TA zh.ds16.args->Option zh.ds16.R:=mkT zh.ds16 [(qB,y6.sp F)]
abbrev zh.l2.K1 (R:Type):Type:=(List xd.T)->(Nat×xd.T)->Int->Int->Bool->Option R
abbrev zh.l2.T (R:Type):Type:=(List xd.T)->(Nat×xd.T)->Int->Int->Option R
def zh.l2.body {R:Type} (F:Nat) (k0:Int->Option R) (k1:zh.l2.K1 R) (rec:zh.l2.T R) (s:List xd.T) (f:Nat×xd.T) (t7:Int) (t8:Int):Option R :=
 bif decide (t8<t7) then bif idx t8 s.length then oB (zh.d16 F (f.1+1) ((get xd s t8.toNat),f.2,())) fun c_1 =>
 bif c_1.1.1 then k0 t8
 else rec s (f.1,f.2) t7 (i64.wrap (t8+1))
 else none
 else k1 s (f.1,f.2) t7 t8 (decide (t8<t7))
def zh.l2 {R:Type} (F:Nat) (k0:Int->Option R) (k1:zh.l2.K1 R):Nat->zh.l2.T R
 | 0,_,_,_,_=>none
 | fu+1,s,f,t7,t8=>zh.l2.body F k0 k1 (zh.l2 F k0 k1 fu) s f t7 t8
def zh.sh (F:Nat) (s:List xd.T) (f:Nat×xd.T):Option zh.sg.R :=
 zh.l2 F (fun r42=>some ((r42,()),())) (fun s3 f3 t73 t83 t93=>some (((-1),()),())) F s (f.1,f.2) (s.length:Int) 0
def zh.sp (F:Nat):TA zh.sg.args->Option zh.sg.R:=fun x=>zh.sh F x.1 x.2.1
@[reducible] def zS.sg:Sig:={args:=[.d (.b xd),.d (.cl xd)],res:=[.c .bool]}
def zS.sh (F:Nat) (s:List xd.T) (f:Nat×xd.T):Option zS.sg.R :=
 oB (zh.sh F s (f.1,f.2)) fun c_1 =>
 some ((decide (c_1.1.1>=0),()),())
def zS.sp (F:Nat):TA zS.sg.args->Option zS.sg.R:=fun x=>zS.sh F x.1 x.2.1
@[reducible] def zV.sg:Sig:={args:=[.d (.g zI)],res:=[.c (.int .i64)]}
abbrev zV.l6.K2 (R:Type):Type:=(List xd.T)->Int->Int->Bool->zI.T->Option R
abbrev zV.l6.T (R:Type):Type:=(List xd.T)->Int->Int->zI.T->Option R
def zV.l6.body {R:Type} (F:Nat) (k0:Int->Option R) (k1:Int->Option R) (k2:zV.l6.K2 R) (rec:zV.l6.T R) (t21:List xd.T) (t22:Int) (t23:Int) (p:zI.T):Option R :=
 bif decide (t23<t22) then bif idx t23 t21.length then oB (xB.sh F (get xd t21 t23.toNat).1) fun c_2 =>
 bif !c_2.1.1 then k0 61
 else bif (zG p.2.1.length none (some t23)).1 then oB (zS.sh F ((p.2.1.take (zG p.2.1.length none (some t23)).2.2).drop (zG p.2.1.length none (some t23)).2.1) (wo,(get xd t21 t23.toNat))) fun c_3 =>
 bif c_3.1.1 then k0 61
 else bif decide ((get xd t21 t23.toNat).2<1) then k1 50
 else bif decide ((get xd t21 t23.toNat).2>1000000000000) then k1 50
 else rec t21 t22 (i64.wrap (t23+1)) p
 else none
 else none
 else k2 t21 t22 t23 (decide (t23<t22)) p
def zV.l6 {R:Type} (F:Nat) (k0:Int->Option R) (k1:Int->Option R) (k2:zV.l6.K2 R):Nat->zV.l6.T R
 | 0,_,_,_,_=>none
 | fu+1,t21,t22,t23,p=>zV.l6.body F k0 k1 k2 (zV.l6 F k0 k1 k2 fu) t21 t22 t23 p
def zV.sh (F:Nat) (p:zI.T):Option zV.sg.R :=
 oB (xB.sh F p.1) fun c_1 =>
 bif !c_1.1.1 then some ((61,()),())
 else bif decide ((p.2.1.length:Int)<1) then some ((100,()),())
 else bif decide ((p.2.1.length:Int)>4) then some ((100,()),())
 else zV.l6 F (fun r24=>some ((r24,()),())) (fun r25=>some ((r25,()),())) (fun t216 t226 t236 t246 p6=>bif decide (p6.2.2.1<0) then some ((50,()),())
 else bif decide (p6.2.2.1>4) then some ((50,()),())
 else some ((0,()),())) F p.2.1 (p.2.1.length:Int) 0 p
def zV.sp (F:Nat):TA zV.sg.args->Option zV.sg.R:=fun x=>zV.sh F x.1
@[reducible] def yJ.sg:Sig:={args:=[.d (.g zr)],res:=[.c (.int .i64)]}
def yJ.sh (F:Nat) (n:zr.T):Option yJ.sg.R :=
 bif idx n.1 17 then bif decide ((get yG we n.1.toNat).1>=0) then some (((get yG we n.1.toNat).1,()),())
 else some ((n.2.2.2.1,()),())
 else none
def yJ.sp (F:Nat):TA yJ.sg.args->Option yJ.sg.R:=fun x=>yJ.sh F x.1
@[reducible] def zH.sg:Sig:={args:=[.d (.b zo)],res:=[.c .bool]}
abbrev zH.l4.K1 (R:Type):Type:=(List zo.T)->(List zo.T)->Int->Int->Bool->Option R
abbrev zH.l4.T (R:Type):Type:=(List zo.T)->(List zo.T)->Int->Int->Option R
def zH.l4.body {R:Type} (F:Nat) (k0:Bool->Option R) (k1:zH.l4.K1 R) (rec:zH.l4.T R) (tiers:List zo.T) (t20:List zo.T) (t21:Int) (t22:Int):Option R :=
 bif decide (t22<t21) then bif idx t22 t20.length then bif decide (t22>0) then bif idx (i64.wrap (t22-1)) tiers.length then bif decide ((get zo t20 t22.toNat).1<=(get zo tiers ((i64.wrap (t22-1)).toNat)).1) then k0 false
 else bif decide ((get zo t20 t22.toNat).1>1000000000000) then k0 false
 else bif decide ((get zo t20 t22.toNat).2<(-1000000000000)) then k0 false
 else bif decide ((get zo t20 t22.toNat).2>1000000000000) then k0 false
 else rec tiers t20 t21 (i64.wrap (t22+1))
 else none
 else bif decide ((get zo t20 t22.toNat).1>1000000000000) then k0 false
 else bif decide ((get zo t20 t22.toNat).2<(-1000000000000)) then k0 false
 else bif decide ((get zo t20 t22.toNat).2>1000000000000) then k0 false
 else rec tiers t20 t21 (i64.wrap (t22+1))
 else none
 else k1 tiers t20 t21 t22 (decide (t22<t21))
def zH.l4 {R:Type} (F:Nat) (k0:Bool->Option R) (k1:zH.l4.K1 R):Nat->zH.l4.T R
 | 0,_,_,_,_=>none
 | fu+1,tiers,t20,t21,t22=>zH.l4.body F k0 k1 (zH.l4 F k0 k1 fu) tiers t20 t21 t22
def zH.sh (F:Nat) (tiers:List zo.T):Option zH.sg.R :=
 bif decide ((tiers.length:Int)<1) then some ((false,()),())
 else bif decide ((tiers.length:Int)>16) then some ((false,()),())
 else bif idx 0 tiers.length then bif ((get zo tiers 0).1 != 0) then some ((false,()),())
 else zH.l4 F (fun r21=>some ((r21,()),())) (fun tiers2 t202 t212 t222 t232=>some ((true,()),())) F tiers tiers (tiers.length:Int) 0
 else none
def zH.sp (F:Nat):TA zH.sg.args->Option zH.sg.R:=fun x=>zH.sh F x.1
@[reducible] def zR.sg:Sig:={args:=[.d (.g zr),.d (.c (.int .i64)),.d (.c (.int .i64))],res:=[.c (.int .i64)]}
def zR.j13 {R:Type} (F:Nat) (k0:Int->Option R) (k1:Int->Option R) (k2:Int->Option R) (pile:Int) (most:Int) (kids:Bool) (op:Bool) (n:zr.T) (k:yG.T):Option R :=
 bif decide (n.2.1<0) then k0 50
 else bif decide (n.2.1>most) then k0 50
 else bif !kids then k0 50
 else bif !op then k0 50
 else bif !k.2.2.1 then bif decide ((n.2.2.2.2.1.length:Int)>0) then k0 50
 else oB (yJ.sh F n) fun c_1 =>
 bif decide (pile<c_1.1.1) then k0 50
 else bif k.2.2.1 then oB (zH.sh F n.2.2.2.2.1) fun c_2 =>
 bif !c_2.1.1 then k1 51
 else k2 0
 else k2 0
 else oB (yJ.sh F n) fun c_3 =>
 bif decide (pile<c_3.1.1) then k0 50
 else bif k.2.2.1 then oB (zH.sh F n.2.2.2.2.1) fun c_4 =>
 bif !c_4.1.1 then k1 51
 else k2 0
 else k2 0
def zR.j10 {R:Type} (F:Nat) (k0:Int->Option R) (k1:Int->Option R) (k2:Int->Option R) (pile:Int) (most:Int) (kids:Bool) (n:zr.T) (k:yG.T):Option R :=
 bif k.2.2.2 then bif decide (n.2.2.1>=1) then zR.j13 F (fun r65=>k0 r65) (fun r66=>k1 r66) (fun r67=>k2 r67) pile most kids (decide (n.2.2.1<=6)) n k
 else zR.j13 F (fun r68=>k0 r68) (fun r69=>k1 r69) (fun r610=>k2 r610) pile most kids false n k
 else zR.j13 F (fun r611=>k0 r611) (fun r612=>k1 r612) (fun r613=>k2 r613) pile most kids (n.2.2.1==0) n k
def zR.j7 {R:Type} (F:Nat) (k0:Int->Option R) (k1:Int->Option R) (k2:Int->Option R) (pile:Int) (most:Int) (n:zr.T) (k:yG.T):Option R :=
 bif decide (k.1<0) then bif decide (n.2.2.2.1>=2) then zR.j10 F (fun r614=>k0 r614) (fun r615=>k1 r615) (fun r616=>k2 r616) pile most (decide (n.2.2.2.1<=16)) n k
 else zR.j10 F (fun r617=>k0 r617) (fun r618=>k1 r618) (fun r619=>k2 r619) pile most false n k
 else zR.j10 F (fun r620=>k0 r620) (fun r621=>k1 r621) (fun r622=>k2 r622) pile most (n.2.2.2.1==0) n k
def zR.sh (F:Nat) (n:zr.T) (dims:Int) (pile:Int):Option zR.sg.R :=
 bif decide (n.1<1) then some ((50,()),())
 else bif decide (n.1>16) then some ((50,()),())
 else bif idx n.1 17 then bif decide ((get yG we n.1.toNat).2.1<0) then zR.j7 F (fun r623=>some ((r623,()),())) (fun r624=>some ((r624,()),())) (fun r625=>some ((r625,()),())) pile (i64.wrap (dims-1)) n (get yG we n.1.toNat)
 else zR.j7 F (fun r626=>some ((r626,()),())) (fun r627=>some ((r627,()),())) (fun r628=>some ((r628,()),())) pile (get yG we n.1.toNat).2.1 n (get yG we n.1.toNat)
 else none
def zR.sp (F:Nat):TA zR.sg.args->Option zR.sg.R:=fun x=>zR.sh F x.1 x.2.1 x.2.2.1
@[reducible] def zJ.sg:Sig:={args:=[.d (.g zI)],res:=[.c (.int .i64),.c (.int .i64)]}
abbrev zJ.l8.K1 (R:Type):Type:=Int->(List zr.T)->Int->Int->Bool->zI.T->Option R
abbrev zJ.l8.T (R:Type):Type:=Int->(List zr.T)->Int->Int->zI.T->Option R
def zJ.l8.body {R:Type} (F:Nat) (k0:Int->Int->Option R) (k1:zJ.l8.K1 R) (rec:zJ.l8.T R) (pile:Int) (t19:List zr.T) (t20:Int) (t21:Int) (p:zI.T):Option R :=
 bif decide (t21<t20) then bif idx t21 t19.length then oB (zR.sh F (get zr t19 t21.toNat) (p.2.1.length:Int) pile) fun c_2 =>
 bif (c_2.1.1 != 0) then k0 t21 c_2.1.1
 else oB (yJ.sh F (get zr t19 t21.toNat)) fun c_3 =>
 rec (i64.wrap (pile+(i64.wrap (1-c_3.1.1)))) t19 t20 (i64.wrap (t21+1)) p
 else none
 else k1 pile t19 t20 t21 (decide (t21<t20)) p
def zJ.l8 {R:Type} (F:Nat) (k0:Int->Int->Option R) (k1:zJ.l8.K1 R):Nat->zJ.l8.T R
 | 0,_,_,_,_,_=>none
 | fu+1,pile,t19,t20,t21,p=>zJ.l8.body F k0 k1 (zJ.l8 F k0 k1 fu) pile t19 t20 t21 p
def zJ.sh (F:Nat) (p:zI.T):Option zJ.sg.R :=
 oB (zV.sh F p) fun c_1 =>
 bif (c_1.1.1 != 0) then some (((-1),c_1.1.1,()),())
 else bif decide ((p.2.2.2.length:Int)>1024) then some ((1024,2,()),())
 else zJ.l8 F (fun r24 r34=>some ((r24,r34,()),())) (fun pile5 t195 t205 t215 t225 p5=>bif (pile5 != 1) then some (((p5.2.2.2.length:Int),50,()),())
 else some ((0,0,()),())) F 0 p.2.2.2 (p.2.2.2.length:Int) 0 p
def zJ.sp (F:Nat):TA zJ.sg.args->Option zJ.sg.R:=fun x=>zJ.sh F x.1
@[reducible] def zA.sg:Sig:={args:=[.d (.g zI)],res:=[.c (.sl (.int .i64))]}
abbrev zA.l3.K0 (R:Type):Type:=(List zr.T)->Int->Int->Bool->(List Int)->(List Int)->Option R
abbrev zA.l3.T (R:Type):Type:=(List zr.T)->Int->Int->(List Int)->(List Int)->Option R
def zA.l3.body {R:Type} (F:Nat) (k0:zA.l3.K0 R) (rec:zA.l3.T R) (t10:List zr.T) (t11:Int) (t12:Int) (list:List Int) (pile:List Int):Option R :=
 bif decide (t12<t11) then bif idx t12 t10.length then oB (yJ.sh F (get zr t10 t12.toNat)) fun c_1 =>
 bif decide (c_1.1.1>0) then bif idx (i64.wrap ((pile.length:Int)-c_1.1.1)) pile.length then bif (zG pile.length none (some (i64.wrap ((pile.length:Int)-c_1.1.1)))).1 then bif Nat.ble ((pile.take (zG pile.length none (some (i64.wrap ((pile.length:Int)-c_1.1.1)))).2.2).length+([get (.int .i64) pile ((i64.wrap ((pile.length:Int)-c_1.1.1)).toNat)]:List Int).length) xp then bif Nat.ble (list.length+([get (.int .i64) pile ((i64.wrap ((pile.length:Int)-c_1.1.1)).toNat)]:List Int).length) xp then rec t10 t11 (i64.wrap (t12+1)) (list++([get (.int .i64) pile ((i64.wrap ((pile.length:Int)-c_1.1.1)).toNat)]:List Int)) ((pile.take (zG pile.length none (some (i64.wrap ((pile.length:Int)-c_1.1.1)))).2.2)++([get (.int .i64) pile ((i64.wrap ((pile.length:Int)-c_1.1.1)).toNat)]:List Int))
 else none
 else none
 else none
 else none
 else bif Nat.ble (pile.length+([t12]:List Int).length) xp then bif Nat.ble (list.length+([t12]:List Int).length) xp then rec t10 t11 (i64.wrap (t12+1)) (list++([t12]:List Int)) (pile++([t12]:List Int))
 else none
 else none
 else none
 else k0 t10 t11 t12 (decide (t12<t11)) list pile
def zA.l3 {R:Type} (F:Nat) (k0:zA.l3.K0 R):Nat->zA.l3.T R
 | 0,_,_,_,_,_=>none
 | fu+1,t10,t11,t12,list,pile=>zA.l3.body F k0 (zA.l3 F k0 fu) t10 t11 t12 list pile
def zA.j13 {R:Type} (F:Nat) (k0:(List Int)->Option R) (list:List Int):Option R :=
 k0 list
def zA.sh (F:Nat) (p:zI.T):Option zA.sg.R :=
 zA.l3 F (fun t102 t112 t122 t132 list2 pile2=>zA.j13 F (fun r23=>some ((r23,()),())) list2) F p.2.2.2 (p.2.2.2.length:Int) 0 ([]) ([])
def zA.sp (F:Nat):TA zA.sg.args->Option zA.sg.R:=fun x=>zA.sh F x.1
@[reducible] def yX.sg:Sig:={args:=[.d (.g zI)],res:=[.c (.sl (.int .i64)),.c (.int .i64)]}
def yX.sh (F:Nat) (p:zI.T):Option yX.sg.R :=
 oB (zJ.sh F p) fun c_1 =>
 bif (c_1.1.2.1 != 0) then some (([],c_1.1.2.1,()),())
 else oB (zA.sh F p) fun c_2 =>
 some ((c_2.1.1,0,()),())
def yX.sp (F:Nat):TA yX.sg.args->Option yX.sg.R:=fun x=>yX.sh F x.1
@[reducible] def zv.sg:Sig:={args:=[.d (.g zI)],res:=[.c (.sl .bool),.c (.int .i64)]}
abbrev zv.l7.K0 (R:Type):Type:=(List Int)->Int->(List zr.T)->Int->Int->Bool->(List Bool)->Option R
abbrev zv.l7.T (R:Type):Type:=(List Int)->Int->(List zr.T)->Int->Int->(List Bool)->Option R
def zv.l7.body {R:Type} (F:Nat) (k0:zv.l7.K0 R) (rec:zv.l7.T R) (list:List Int) (last:Int) (t22:List zr.T) (t23:Int) (t24:Int) (out:List Bool):Option R :=
 bif decide (t24<t23) then bif idx t24 t22.length then bif ((get zr t22 t24.toNat).1==3) then bif idx t24 list.length then bif idx t24 out.length then rec list t24 t22 t23 (i64.wrap (t24+1)) (out.set t24.toNat (decide (t24<(get (.int .i64) list t24.toNat))))
 else none
 else none
 else bif ((get zr t22 t24.toNat).1==4) then bif idx t24 list.length then bif idx t24 out.length then rec list t24 t22 t23 (i64.wrap (t24+1)) (out.set t24.toNat (decide (t24<(get (.int .i64) list t24.toNat))))
 else none
 else none
 else bif idx t24 list.length then bif idx t24 out.length then rec list last t22 t23 (i64.wrap (t24+1)) (out.set t24.toNat (decide (last<(get (.int .i64) list t24.toNat))))
 else none
 else none
 else none
 else k0 list last t22 t23 t24 (decide (t24<t23)) out
def zv.l7 {R:Type} (F:Nat) (k0:zv.l7.K0 R):Nat->zv.l7.T R
 | 0,_,_,_,_,_,_=>none
 | fu+1,list,last,t22,t23,t24,out=>zv.l7.body F k0 (zv.l7 F k0 fu) list last t22 t23 t24 out
def zv.j13 {R:Type} (F:Nat) (k0:(List Bool)->Int->Option R) (out:List Bool):Option R :=
 k0 out 0
def zv.sh (F:Nat) (p:zI.T):Option zv.sg.R :=
 oB (yX.sh F p) fun c_1 =>
 bif (c_1.1.2.1 != 0) then some (([],c_1.1.2.1,()),())
 else bif (decide (0<=(c_1.1.1.length:Int))&&decide ((c_1.1.1.length:Int)<=(c_1.1.1.length:Int))&&decide ((c_1.1.1.length:Int)<=(xp:Int))) then zv.l7 F (fun list2 last2 t222 t232 t242 t252 out2=>zv.j13 F (fun r23 r33=>some ((r23,r33,()),())) out2) F c_1.1.1 (-1) p.2.2.2 (p.2.2.2.length:Int) 0 (qE .bool ((c_1.1.1.length:Int).toNat))
 else none
def zv.sp (F:Nat):TA zv.sg.args->Option zv.sg.R:=fun x=>zv.sh F x.1
@[reducible] def xh.sg:Sig:={args:=[.d (.c (.int .i64))],res:=[.c .fn,.c (.int .i64)]}
def xh.sh (F:Nat) (kind:Int):Option xh.sg.R :=
 bif idx kind (([Ty.dflt (.pair .fn (.int .i64)),(xX,0),(x9,0),(xG,0),(xQ,0),(zK,1),(zK,2),(zK,2),(xM,2),(zK,(-1)),(zK,(-1)),(yS,1),(yS,1),(yU,1),(yU,1),(xZ,1),(xW,3)]:List (Nat×Int)).length) then bif idx kind (([Ty.dflt (.pair .fn (.int .i64)),(xX,0),(x9,0),(xG,0),(xQ,0),(zK,1),(zK,2),(zK,2),(xM,2),(zK,(-1)),(zK,(-1)),(yS,1),(yS,1),(yU,1),(yU,1),(xZ,1),(xW,3)]:List (Nat×Int)).length) then some (((get (.pair .fn (.int .i64)) ([Ty.dflt (.pair .fn (.int .i64)),(xX,0),(x9,0),(xG,0),(xQ,0),(zK,1),(zK,2),(zK,2),(xM,2),(zK,(-1)),(zK,(-1)),(yS,1),(yS,1),(yU,1),(yU,1),(xZ,1),(xW,3)]:List (Nat×Int)) kind.toNat).1,(get (.pair .fn (.int .i64)) ([Ty.dflt (.pair .fn (.int .i64)),(xX,0),(x9,0),(xG,0),(xQ,0),(zK,1),(zK,2),(zK,2),(xM,2),(zK,(-1)),(zK,(-1)),(yS,1),(yS,1),(yU,1),(yU,1),(xZ,1),(xW,3)]:List (Nat×Int)) kind.toNat).2,()),())
 else none
 else none
def xh.sp (F:Nat):TA xh.sg.args->Option xh.sg.R:=fun x=>xh.sh F x.1
@[reducible] def zz.sg:Sig:={args:=[.d (.g yq),.d (.c (.int .i64))],res:=[.c (.int .i64)]}
abbrev zz.l2.K1 (R:Type):Type:=Int->(List Int)->Int->Int->Bool->yq.T->Option R
abbrev zz.l2.T (R:Type):Type:=Int->(List Int)->Int->Int->yq.T->Option R
def zz.l2.body {R:Type} (F:Nat) (k0:Int->Option R) (k1:zz.l2.K1 R) (rec:zz.l2.T R) (from_:Int) (t10:List Int) (t11:Int) (t12:Int) (n:yq.T):Option R :=
 bif decide (t12<t11) then bif idx t12 t10.length then bif idx from_ n.2.1.length then bif ((get (.int .i64) t10 t12.toNat) != (get (.int .i64) n.2.1 from_.toNat)) then k0 (-1)
 else rec from_ t10 t11 (i64.wrap (t12+1)) n
 else none
 else none
 else k1 from_ t10 t11 t12 (decide (t12<t11)) n
def zz.l2 {R:Type} (F:Nat) (k0:Int->Option R) (k1:zz.l2.K1 R):Nat->zz.l2.T R
 | 0,_,_,_,_,_=>none
 | fu+1,from_,t10,t11,t12,n=>zz.l2.body F k0 k1 (zz.l2 F k0 k1 fu) from_ t10 t11 t12 n
def zz.sh (F:Nat) (n:yq.T) (from_:Int):Option zz.sg.R :=
 bif (zG n.2.1.length (some from_) none).1 then zz.l2 F (fun r41=>some ((r41,()),())) (fun from_2 t102 t112 t122 t132 n2=>bif idx from_2 n2.2.1.length then some ((get (.int .i64) n2.2.1 from_2.toNat,()),())
 else none) F from_ ((n.2.1.take (zG n.2.1.length (some from_) none).2.2).drop (zG n.2.1.length (some from_) none).2.1) (((n.2.1.take (zG n.2.1.length (some from_) none).2.2).drop (zG n.2.1.length (some from_) none).2.1).length:Int) 0 n
 else none
def zz.sp (F:Nat):TA zz.sg.args->Option zz.sg.R:=fun x=>zz.sh F x.1 x.2.1
@[reducible] def yk.sg:Sig:={args:=[.d (.g yq)],res:=[.c (.int .i64)]}
def yk.sh (F:Nat) (n:yq.T):Option yk.sg.R :=
 oB (zz.sh F n 0) fun c_1 =>
 some ((c_1.1.1,()),())
def yk.sp (F:Nat):TA yk.sg.args->Option yk.sg.R:=fun x=>yk.sh F x.1
@[reducible] def yB.sg:Sig:={args:=[.d (.g yq)],res:=[.c (.int .i64)]}
def yB.sh (F:Nat) (n:yq.T):Option yB.sg.R :=
 some ((i64.wrap (3+(i64.wrap (2*n.1.2.1))),()),())
def yB.sp (F:Nat):TA yB.sg.args->Option yB.sg.R:=fun x=>yB.sh F x.1
@[reducible] def yC.sg:Sig:={args:=[.d (.c (.int .i64))],res:=[.c .bool]}
def yC.sh (F:Nat) (t:Int):Option yC.sg.R :=
 some ((decide (t>=2),()),())
def yC.sp (F:Nat):TA yC.sg.args->Option yC.sg.R:=fun x=>yC.sh F x.1
@[reducible] def yg.sg:Sig:={args:=[.d (.g yq)],res:=[.c (.int .i64)]}
def yg.sh (F:Nat) (n:yq.T):Option yg.sg.R :=
 bif idx 0 n.2.1.length then oB (yC.sh F (get (.int .i64) n.2.1 0)) fun c_1 =>
 bif c_1.1.1 then bif idx 0 n.2.1.length then some ((get (.int .i64) n.2.1 0,()),())
 else none
 else some (((-1),()),())
 else none
def yg.sp (F:Nat):TA yg.sg.args->Option yg.sg.R:=fun x=>yg.sh F x.1
@[reducible] def yR.sg:Sig:={args:=[.d (.g yq)],res:=[.c (.int .i64)]}
def yR.sh (F:Nat) (n:yq.T):Option yR.sg.R :=
 some ((1,()),())
def yR.sp (F:Nat):TA yR.sg.args->Option yR.sg.R:=fun x=>yR.sh F x.1
@[reducible] def yM.sg:Sig:={args:=[.d (.g yq)],res:=[.c (.int .i64)]}
def yM.sh (F:Nat) (n:yq.T):Option yM.sg.R :=
 some ((0,()),())
def yM.sp (F:Nat):TA yM.sg.args->Option yM.sg.R:=fun x=>yM.sh F x.1
@[reducible] def yL.sg:Sig:={args:=[.d (.g yq)],res:=[.c (.int .i64)]}
def yL.sh (F:Nat) (n:yq.T):Option yL.sg.R :=
 bif idx 0 n.2.1.length then bif ((get (.int .i64) n.2.1 0)==1) then some ((1,()),())
 else some (((-1),()),())
 else none
def yL.sp (F:Nat):TA yL.sg.args->Option yL.sg.R:=fun x=>yL.sh F x.1
@[reducible] def yr.sg:Sig:={args:=[.d (.g yq)],res:=[.c (.int .i64)]}
def yr.sh (F:Nat) (n:yq.T):Option yr.sg.R :=
 bif idx 0 n.2.1.length then oB (yC.sh F (get (.int .i64) n.2.1 0)) fun c_1 =>
 bif c_1.1.1 then some ((1,()),())
 else some (((-1),()),())
 else none
def yr.sp (F:Nat):TA yr.sg.args->Option yr.sg.R:=fun x=>yr.sh F x.1
@[reducible] def yo.sg:Sig:={args:=[.d (.g yq)],res:=[.c (.int .i64)]}
def yo.sh (F:Nat) (n:yq.T):Option yo.sg.R :=
 bif idx 0 n.2.1.length then bif idx 1 n.2.1.length then bif ((get (.int .i64) n.2.1 0)==0) then some ((get (.int .i64) n.2.1 1,()),())
 else bif ((get (.int .i64) n.2.1 1)==0) then some ((get (.int .i64) n.2.1 0,()),())
 else oB (yC.sh F (get (.int .i64) n.2.1 0)) fun c_1 =>
 bif c_1.1.1 then bif ((get (.int .i64) n.2.1 1)==1) then bif ((get (.int .i64) n.2.1 1)==1) then some ((1,()),())
 else some (((-1),()),())
 else oB (yC.sh F (get (.int .i64) n.2.1 1)) fun c_2 =>
 bif c_2.1.1 then bif ((get (.int .i64) n.2.1 0)==1) then some ((1,()),())
 else some (((-1),()),())
 else some (((-1),()),())
 else oB (yC.sh F (get (.int .i64) n.2.1 1)) fun c_3 =>
 bif c_3.1.1 then bif ((get (.int .i64) n.2.1 0)==1) then some ((1,()),())
 else some (((-1),()),())
 else some (((-1),()),())
 else none
 else none
def yo.sp (F:Nat):TA yo.sg.args->Option yo.sg.R:=fun x=>yo.sh F x.1
@[reducible] def yl.sg:Sig:={args:=[.d (.g yq)],res:=[.c (.int .i64)]}
def yl.sh (F:Nat) (n:yq.T):Option yl.sg.R :=
 some ((i64.wrap (2+(i64.wrap (2*n.1.2.1))),()),())
def yl.sp (F:Nat):TA yl.sg.args->Option yl.sg.R:=fun x=>yl.sh F x.1
@[reducible] def yD.sg:Sig:={args:=[.d (.g yq)],res:=[.c (.int .i64)]}
def yD.sh (F:Nat) (n:yq.T):Option yD.sg.R :=
 bif idx 0 n.2.1.length then oB (yC.sh F (get (.int .i64) n.2.1 0)) fun c_1 =>
 bif c_1.1.1 then oB (zz.sh F n 1) fun c_2 =>
 some ((c_2.1.1,()),())
 else some (((-1),()),())
 else none
def yD.sp (F:Nat):TA yD.sg.args->Option yD.sg.R:=fun x=>yD.sh F x.1
@[reducible] def zj.sg:Sig:={args:=[.d (.g zI)],res:=[.c (.sl (.int .i64)),.c (.int .i64),.c (.int .i64)]}
@[reducible] def zj.ds63:Sig:={args:=[.d (.g yq)],res:=[.c (.int .i64)]}
def zj.d63 (F:Nat):Nat->TA zj.ds63.args->Option zj.ds63.R:=mkT zj.ds63 [(zK,yk.sp F),(xQ,yB.sp F),(yS,yg.sp F),(x9,yR.sp F),(xX,yM.sp F),(xZ,yL.sp F),(yU,yr.sp F),(xM,yo.sp F),(xG,yl.sp F),(xW,yD.sp F)]
abbrev zj.l8.K0 (R:Type):Type:=(List Int)->Int->Int->Option R
abbrev zj.l8.K1 (R:Type):Type:=(List Int)->Int->Int->Option R
abbrev zj.l8.K2 (R:Type):Type:=(List Bool)->(List zr.T)->Int->Int->Bool->(List Int)->(List Int)->(List Bool)->Option R
abbrev zj.l8.T (R:Type):Type:=(List Bool)->(List zr.T)->Int->Int->(List Int)->(List Int)->(List Bool)->Option R
def zj.l8.body {R:Type} (F:Nat) (k0:zj.l8.K0 R) (k1:zj.l8.K1 R) (k2:zj.l8.K2 R) (rec:zj.l8.T R) (fixed:List Bool) (t33:List zr.T) (t34:Int) (t35:Int) (types:List Int) (pile:List Int) (fix:List Bool):Option R :=
 bif decide (t35<t34) then bif idx t35 t33.length then oB (xh.sh F (get zr t33 t35.toNat).1) fun c_3 =>
 bif decide (c_3.1.2.1<0) then bif (zG pile.length (some (i64.wrap ((pile.length:Int)-(get zr t33 t35.toNat).2.2.2.1))) none).1 then bif (zG fix.length (some (i64.wrap ((pile.length:Int)-(get zr t33 t35.toNat).2.2.2.1))) none).1 then oB (zj.d63 F c_3.1.1 (((get zr t33 t35.toNat),(pile.take (zG pile.length (some (i64.wrap ((pile.length:Int)-(get zr t33 t35.toNat).2.2.2.1))) none).2.2).drop (zG pile.length (some (i64.wrap ((pile.length:Int)-(get zr t33 t35.toNat).2.2.2.1))) none).2.1,(fix.take (zG fix.length (some (i64.wrap ((pile.length:Int)-(get zr t33 t35.toNat).2.2.2.1))) none).2.2).drop (zG fix.length (some (i64.wrap ((pile.length:Int)-(get zr t33 t35.toNat).2.2.2.1))) none).2.1),())) fun c_4 =>
 bif (c_4.1.1==(-1)) then k0 ([]) t35 80
 else bif ((get zr t33 t35.toNat).1==8) then bif idx (i64.wrap ((pile.length:Int)-(get zr t33 t35.toNat).2.2.2.1)) fix.length then bif !(get .bool fix ((i64.wrap ((pile.length:Int)-(get zr t33 t35.toNat).2.2.2.1)).toNat)) then bif idx (i64.wrap ((i64.wrap ((pile.length:Int)-(get zr t33 t35.toNat).2.2.2.1))+1)) fix.length then bif !(get .bool fix ((i64.wrap ((i64.wrap ((pile.length:Int)-(get zr t33 t35.toNat).2.2.2.1))+1)).toNat)) then k1 ([]) t35 81
 else bif Nat.ble (types.length+([c_4.1.1]:List Int).length) xp then bif (zG pile.length none (some (i64.wrap ((pile.length:Int)-(get zr t33 t35.toNat).2.2.2.1)))).1 then bif Nat.ble ((zG pile.length none (some (i64.wrap ((pile.length:Int)-(get zr t33 t35.toNat).2.2.2.1)))).2.2+([c_4.1.1]:List Int).length) xp then bif (zG fix.length none (some (i64.wrap ((pile.length:Int)-(get zr t33 t35.toNat).2.2.2.1)))).1 then bif idx t35 fixed.length then bif Nat.ble ((zG fix.length none (some (i64.wrap ((pile.length:Int)-(get zr t33 t35.toNat).2.2.2.1)))).2.2+([get .bool fixed t35.toNat]:List Bool).length) xp then rec fixed t33 t34 (i64.wrap (t35+1)) (types++([c_4.1.1]:List Int)) (pile.take (zG pile.length none (some (i64.wrap ((pile.length:Int)-(get zr t33 t35.toNat).2.2.2.1)))).2.2++([c_4.1.1]:List Int)) (fix.take (zG fix.length none (some (i64.wrap ((pile.length:Int)-(get zr t33 t35.toNat).2.2.2.1)))).2.2++([get .bool fixed t35.toNat]:List Bool))
 else none
 else none
 else none
 else none
 else none
 else none
 else none
 else bif Nat.ble (types.length+([c_4.1.1]:List Int).length) xp then bif (zG pile.length none (some (i64.wrap ((pile.length:Int)-(get zr t33 t35.toNat).2.2.2.1)))).1 then bif Nat.ble ((zG pile.length none (some (i64.wrap ((pile.length:Int)-(get zr t33 t35.toNat).2.2.2.1)))).2.2+([c_4.1.1]:List Int).length) xp then bif (zG fix.length none (some (i64.wrap ((pile.length:Int)-(get zr t33 t35.toNat).2.2.2.1)))).1 then bif idx t35 fixed.length then bif Nat.ble ((zG fix.length none (some (i64.wrap ((pile.length:Int)-(get zr t33 t35.toNat).2.2.2.1)))).2.2+([get .bool fixed t35.toNat]:List Bool).length) xp then rec fixed t33 t34 (i64.wrap (t35+1)) (types++([c_4.1.1]:List Int)) (pile.take (zG pile.length none (some (i64.wrap ((pile.length:Int)-(get zr t33 t35.toNat).2.2.2.1)))).2.2++([c_4.1.1]:List Int)) (fix.take (zG fix.length none (some (i64.wrap ((pile.length:Int)-(get zr t33 t35.toNat).2.2.2.1)))).2.2++([get .bool fixed t35.toNat]:List Bool))
 else none
 else none
 else none
 else none
 else none
 else none
 else none
 else bif Nat.ble (types.length+([c_4.1.1]:List Int).length) xp then bif (zG pile.length none (some (i64.wrap ((pile.length:Int)-(get zr t33 t35.toNat).2.2.2.1)))).1 then bif Nat.ble ((zG pile.length none (some (i64.wrap ((pile.length:Int)-(get zr t33 t35.toNat).2.2.2.1)))).2.2+([c_4.1.1]:List Int).length) xp then bif (zG fix.length none (some (i64.wrap ((pile.length:Int)-(get zr t33 t35.toNat).2.2.2.1)))).1 then bif idx t35 fixed.length then bif Nat.ble ((zG fix.length none (some (i64.wrap ((pile.length:Int)-(get zr t33 t35.toNat).2.2.2.1)))).2.2+([get .bool fixed t35.toNat]:List Bool).length) xp then rec fixed t33 t34 (i64.wrap (t35+1)) (types++([c_4.1.1]:List Int)) (pile.take (zG pile.length none (some (i64.wrap ((pile.length:Int)-(get zr t33 t35.toNat).2.2.2.1)))).2.2++([c_4.1.1]:List Int)) (fix.take (zG fix.length none (some (i64.wrap ((pile.length:Int)-(get zr t33 t35.toNat).2.2.2.1)))).2.2++([get .bool fixed t35.toNat]:List Bool))
 else none
 else none
 else none
 else none
 else none
 else none
 else none
 else none
 else bif (zG pile.length (some (i64.wrap ((pile.length:Int)-c_3.1.2.1))) none).1 then bif (zG fix.length (some (i64.wrap ((pile.length:Int)-c_3.1.2.1))) none).1 then oB (zj.d63 F c_3.1.1 (((get zr t33 t35.toNat),(pile.take (zG pile.length (some (i64.wrap ((pile.length:Int)-c_3.1.2.1))) none).2.2).drop (zG pile.length (some (i64.wrap ((pile.length:Int)-c_3.1.2.1))) none).2.1,(fix.take (zG fix.length (some (i64.wrap ((pile.length:Int)-c_3.1.2.1))) none).2.2).drop (zG fix.length (some (i64.wrap ((pile.length:Int)-c_3.1.2.1))) none).2.1),())) fun c_5 =>
 bif (c_5.1.1==(-1)) then k0 ([]) t35 80
 else bif ((get zr t33 t35.toNat).1==8) then bif idx (i64.wrap ((pile.length:Int)-c_3.1.2.1)) fix.length then bif !(get .bool fix ((i64.wrap ((pile.length:Int)-c_3.1.2.1)).toNat)) then bif idx (i64.wrap ((i64.wrap ((pile.length:Int)-c_3.1.2.1))+1)) fix.length then bif !(get .bool fix ((i64.wrap ((i64.wrap ((pile.length:Int)-c_3.1.2.1))+1)).toNat)) then k1 ([]) t35 81
 else bif Nat.ble (types.length+([c_5.1.1]:List Int).length) xp then bif (zG pile.length none (some (i64.wrap ((pile.length:Int)-c_3.1.2.1)))).1 then bif Nat.ble ((zG pile.length none (some (i64.wrap ((pile.length:Int)-c_3.1.2.1)))).2.2+([c_5.1.1]:List Int).length) xp then bif (zG fix.length none (some (i64.wrap ((pile.length:Int)-c_3.1.2.1)))).1 then bif idx t35 fixed.length then bif Nat.ble ((zG fix.length none (some (i64.wrap ((pile.length:Int)-c_3.1.2.1)))).2.2+([get .bool fixed t35.toNat]:List Bool).length) xp then rec fixed t33 t34 (i64.wrap (t35+1)) (types++([c_5.1.1]:List Int)) (pile.take (zG pile.length none (some (i64.wrap ((pile.length:Int)-c_3.1.2.1)))).2.2++([c_5.1.1]:List Int)) (fix.take (zG fix.length none (some (i64.wrap ((pile.length:Int)-c_3.1.2.1)))).2.2++([get .bool fixed t35.toNat]:List Bool))
 else none
 else none
 else none
 else none
 else none
 else none
 else none
 else bif Nat.ble (types.length+([c_5.1.1]:List Int).length) xp then bif (zG pile.length none (some (i64.wrap ((pile.length:Int)-c_3.1.2.1)))).1 then bif Nat.ble ((zG pile.length none (some (i64.wrap ((pile.length:Int)-c_3.1.2.1)))).2.2+([c_5.1.1]:List Int).length) xp then bif (zG fix.length none (some (i64.wrap ((pile.length:Int)-c_3.1.2.1)))).1 then bif idx t35 fixed.length then bif Nat.ble ((zG fix.length none (some (i64.wrap ((pile.length:Int)-c_3.1.2.1)))).2.2+([get .bool fixed t35.toNat]:List Bool).length) xp then rec fixed t33 t34 (i64.wrap (t35+1)) (types++([c_5.1.1]:List Int)) (pile.take (zG pile.length none (some (i64.wrap ((pile.length:Int)-c_3.1.2.1)))).2.2++([c_5.1.1]:List Int)) (fix.take (zG fix.length none (some (i64.wrap ((pile.length:Int)-c_3.1.2.1)))).2.2++([get .bool fixed t35.toNat]:List Bool))
 else none
 else none
 else none
 else none
 else none
 else none
 else none
 else bif Nat.ble (types.length+([c_5.1.1]:List Int).length) xp then bif (zG pile.length none (some (i64.wrap ((pile.length:Int)-c_3.1.2.1)))).1 then bif Nat.ble ((zG pile.length none (some (i64.wrap ((pile.length:Int)-c_3.1.2.1)))).2.2+([c_5.1.1]:List Int).length) xp then bif (zG fix.length none (some (i64.wrap ((pile.length:Int)-c_3.1.2.1)))).1 then bif idx t35 fixed.length then bif Nat.ble ((zG fix.length none (some (i64.wrap ((pile.length:Int)-c_3.1.2.1)))).2.2+([get .bool fixed t35.toNat]:List Bool).length) xp then rec fixed t33 t34 (i64.wrap (t35+1)) (types++([c_5.1.1]:List Int)) (pile.take (zG pile.length none (some (i64.wrap ((pile.length:Int)-c_3.1.2.1)))).2.2++([c_5.1.1]:List Int)) (fix.take (zG fix.length none (some (i64.wrap ((pile.length:Int)-c_3.1.2.1)))).2.2++([get .bool fixed t35.toNat]:List Bool))
 else none
 else none
 else none
 else none
 else none
 else none
 else none
 else none
 else none
 else k2 fixed t33 t34 t35 (decide (t35<t34)) types pile fix
def zj.l8 {R:Type} (F:Nat) (k0:zj.l8.K0 R) (k1:zj.l8.K1 R) (k2:zj.l8.K2 R):Nat->zj.l8.T R
 | 0,_,_,_,_,_,_,_=>none
 | fu+1,fixed,t33,t34,t35,types,pile,fix=>zj.l8.body F k0 k1 k2 (zj.l8 F k0 k1 k2 fu) fixed t33 t34 t35 types pile fix
def zj.j23 {R:Type} (F:Nat) (k0:(List Int)->Int->Int->Option R) (k1:(List Int)->Int->Int->Option R) (types:List Int) (pile:List Int):Option R :=
 bif idx 0 pile.length then bif ((get (.int .i64) pile 0) != 1) then k0 ([]) (i64.wrap ((types.length:Int)-1)) 80
 else k1 types 0 0
 else none
def zj.sh (F:Nat) (p:zI.T):Option zj.sg.R :=
 oB (zJ.sh F p) fun c_1 =>
 bif (c_1.1.2.1 != 0) then some (([],c_1.1.1,c_1.1.2.1,()),())
 else oB (zv.sh F p) fun c_2 =>
 zj.l8 F (fun r26 r36 r46=>some ((r26,r36,r46,()),())) (fun r27 r37 r47=>some ((r27,r37,r47,()),())) (fun fixed8 t338 t348 t358 t368 types8 pile8 fix8=>zj.j23 F (fun r29 r39 r49=>some ((r29,r39,r49,()),())) (fun r210 r310 r410=>some ((r210,r310,r410,()),())) types8 pile8) F c_2.1.1 p.2.2.2 (p.2.2.2.length:Int) 0 ([]) ([]) ([])
def zj.sp (F:Nat):TA zj.sg.args->Option zj.sg.R:=fun x=>zj.sh F x.1
@[reducible] def zB.sg:Sig:={args:=[.d (.b (.int .i64))],res:=[.c (.int .i64)]}
abbrev zB.l5.K0 (R:Type):Type:=(List Int)->Int->Int->Bool->Option R
abbrev zB.l5.T (R:Type):Type:=(List Int)->Int->Int->Option R
def zB.l5.body {R:Type} (F:Nat) (k0:zB.l5.K0 R) (rec:zB.l5.T R) (x:List Int) (m:Int) (i:Int):Option R :=
 bif decide (i<(x.length:Int)) then bif idx i x.length then rec x (if get (.int .i64) x i.toNat>m then get (.int .i64) x i.toNat else m) (i64.wrap (i+1))
 else none
 else k0 x m i (decide (i<(x.length:Int)))
def zB.l5 {R:Type} (F:Nat) (k0:zB.l5.K0 R):Nat->zB.l5.T R
 | 0,_,_,_=>none
 | fu+1,x,m,i=>zB.l5.body F k0 (zB.l5 F k0 fu) x m i
def zB.sh (F:Nat) (x:List Int):Option zB.sg.R :=
 bif decide ((x.length:Int)<1) then none
 else bif idx 0 x.length then zB.l5 F (fun x1 m1 i1 t151=>some ((m1,()),())) F x (get (.int .i64) x 0) 1
 else none
def zB.sp (F:Nat):TA zB.sg.args->Option zB.sg.R:=fun x=>zB.sh F x.1
@[reducible] def zE.sg:Sig:={args:=[.d (.g zI)],res:=[.c (.int .i64),.c (.int .i64)]}
abbrev zE.l6.K0 (R:Type):Type:=(List zr.T)->Int->Int->Bool->(List Int)->Option R
abbrev zE.l6.T (R:Type):Type:=(List zr.T)->Int->Int->(List Int)->Option R
def zE.l6.body {R:Type} (F:Nat) (k0:zE.l6.K0 R) (rec:zE.l6.T R) (t20:List zr.T) (t21:Int) (t22:Int) (pile:List Int):Option R :=
 bif decide (t22<t21) then bif idx t22 t20.length then oB (yJ.sh F (get zr t20 t22.toNat)) fun c_2 =>
 bif decide (c_2.1.1>0) then bif (zG pile.length (some (i64.wrap ((pile.length:Int)-c_2.1.1))) none).1 then oB (zB.sh F ((List.take (zG pile.length (some (i64.wrap ((pile.length:Int)-c_2.1.1))) none).2.2 pile).drop (zG pile.length (some (i64.wrap ((pile.length:Int)-c_2.1.1))) none).2.1)) fun c_3 =>
 bif (zG pile.length none (some (i64.wrap ((pile.length:Int)-c_2.1.1)))).1 then bif ((get zr t20 t22.toNat).1==15) then bif Nat.ble ((pile.take (zG pile.length none (some (i64.wrap ((pile.length:Int)-c_2.1.1)))).2.2).length+([i64.wrap (c_3.1.1+1)]:List Int).length) xp then rec t20 t21 (i64.wrap (t22+1)) ((pile.take (zG pile.length none (some (i64.wrap ((pile.length:Int)-c_2.1.1)))).2.2)++([i64.wrap (c_3.1.1+1)]:List Int))
 else none
 else bif Nat.ble ((pile.take (zG pile.length none (some (i64.wrap ((pile.length:Int)-c_2.1.1)))).2.2).length+([c_3.1.1]:List Int).length) xp then rec t20 t21 (i64.wrap (t22+1)) ((pile.take (zG pile.length none (some (i64.wrap ((pile.length:Int)-c_2.1.1)))).2.2)++([c_3.1.1]:List Int))
 else none
 else none
 else none
 else bif ((get zr t20 t22.toNat).1==15) then bif Nat.ble (pile.length+([i64.wrap (0+1)]:List Int).length) xp then rec t20 t21 (i64.wrap (t22+1)) (pile++([i64.wrap (0+1)]:List Int))
 else none
 else bif Nat.ble (pile.length+([0]:List Int).length) xp then rec t20 t21 (i64.wrap (t22+1)) (pile++([0]:List Int))
 else none
 else none
 else k0 t20 t21 t22 (decide (t22<t21)) pile
def zE.l6 {R:Type} (F:Nat) (k0:zE.l6.K0 R):Nat->zE.l6.T R
 | 0,_,_,_,_=>none
 | fu+1,t20,t21,t22,pile=>zE.l6.body F k0 (zE.l6 F k0 fu) t20 t21 t22 pile
def zE.j17 {R:Type} (F:Nat) (k0:Int->Int->Option R) (pile:List Int):Option R :=
 bif idx 0 pile.length then k0 (get (.int .i64) pile 0) 0
 else none
def zE.sh (F:Nat) (p:zI.T):Option zE.sg.R :=
 oB (zJ.sh F p) fun c_1 =>
 bif (c_1.1.2.1 != 0) then some ((0,c_1.1.2.1,()),())
 else zE.l6 F (fun t204 t214 t224 t234 pile4=>zE.j17 F (fun r25 r35=>some ((r25,r35,()),())) pile4) F p.2.2.2 (p.2.2.2.length:Int) 0 ([])
def zE.sp (F:Nat):TA zE.sg.args->Option zE.sg.R:=fun x=>zE.sh F x.1
@[reducible] def yy.sg:Sig:={args:=[.d (.c (.int .i64))],res:=[.g zf]}
def yy.sh (F:Nat) (v:Int):Option yy.sg.R :=
 some (((v.fdiv (2^(min (63:Int).toNat IntKind.i64.bits)),u64.wrap v),()),())
def yy.sp (F:Nat):TA yy.sg.args->Option yy.sg.R:=fun x=>yy.sh F x.1
@[reducible] def xg.sg:Sig:={args:=[.d (.g zf)],res:=[.c (.int .u64),.c (.int .u64)]}
def xg.sh (F:Nat) (w:zf.T):Option xg.sg.R :=
 bif decide (w.1>=0) then some ((u64.wrap w.1,w.2,()),())
 else oB (zT.sh F 0 w.2 0) fun c_1 =>
 oB (zT.sh F 0 (u64.wrap w.1) c_1.1.2.1) fun c_2 =>
 some ((c_2.1.1,c_1.1.1,()),())
def xg.sp (F:Nat):TA xg.sg.args->Option xg.sg.R:=fun x=>xg.sh F x.1
@[reducible] def yE.sg:Sig:={args:=[.d (.c (.int .u64)),.d (.c (.int .u64))],res:=[.c (.int .u64),.c (.int .u64)]}
def yE.sh (F:Nat) (x:Int) (y:Int):Option yE.sg.R :=
 some ((u64.wrap ((u64.wrap ((u64.wrap ((x.fdiv (2^(min (32:Int).toNat IntKind.u64.bits)))*(y.fdiv (2^(min (32:Int).toNat IntKind.u64.bits)))))+((u64.wrap ((u64.wrap ((x.fdiv (2^(min (32:Int).toNat IntKind.u64.bits)))*(u64.wrap ((BitVec.ofInt IntKind.u64.bits y &&& BitVec.ofInt IntKind.u64.bits 4294967295).toNat))))+((u64.wrap ((u64.wrap ((BitVec.ofInt IntKind.u64.bits x &&& BitVec.ofInt IntKind.u64.bits 4294967295).toNat))*(u64.wrap ((BitVec.ofInt IntKind.u64.bits y &&& BitVec.ofInt IntKind.u64.bits 4294967295).toNat)))).fdiv (2^(min (32:Int).toNat IntKind.u64.bits))))).fdiv (2^(min (32:Int).toNat IntKind.u64.bits)))))+((u64.wrap ((u64.wrap ((BitVec.ofInt IntKind.u64.bits (u64.wrap ((u64.wrap ((x.fdiv (2^(min (32:Int).toNat IntKind.u64.bits)))*(u64.wrap ((BitVec.ofInt IntKind.u64.bits y &&& BitVec.ofInt IntKind.u64.bits 4294967295).toNat))))+((u64.wrap ((u64.wrap ((BitVec.ofInt IntKind.u64.bits x &&& BitVec.ofInt IntKind.u64.bits 4294967295).toNat))*(u64.wrap ((BitVec.ofInt IntKind.u64.bits y &&& BitVec.ofInt IntKind.u64.bits 4294967295).toNat)))).fdiv (2^(min (32:Int).toNat IntKind.u64.bits))))) &&& BitVec.ofInt IntKind.u64.bits 4294967295).toNat))+(u64.wrap ((u64.wrap ((BitVec.ofInt IntKind.u64.bits x &&& BitVec.ofInt IntKind.u64.bits 4294967295).toNat))*(y.fdiv (2^(min (32:Int).toNat IntKind.u64.bits))))))).fdiv (2^(min (32:Int).toNat IntKind.u64.bits)))),u64.wrap (x*y),()),())
def yE.sp (F:Nat):TA yE.sg.args->Option yE.sg.R:=fun x=>yE.sh F x.1 x.2.1
@[reducible] def xt.sg:Sig:={args:=[.d (.c .bool),.d (.c (.int .u64)),.d (.c (.int .u64))],res:=[.c (.int .u64)]}
def xt.sh (F:Nat) (first_:Bool) (a:Int) (b:Int):Option xt.sg.R :=
 bif first_ then some ((a,()),())
 else some ((b,()),())
def xt.sp (F:Nat):TA xt.sg.args->Option xt.sg.R:=fun x=>xt.sh F x.1 x.2.1 x.2.2.1
@[reducible] def xE.sg:Sig:={args:=[.d (.g zf),.d (.g zf)],res:=[.g zf,.c (.int .i64)]}
def xE.sh (F:Nat) (a:zf.T) (b:zf.T):Option xE.sg.R :=
 oB (zT.sh F a.2 b.2 0) fun c_1 =>
 oB (zT.sh F (u64.wrap a.1) (u64.wrap b.1) c_1.1.2.1) fun c_2 =>
 bif (!(decide (a.1<0)==decide (b.1<0))) then bif (!(decide ((i64.wrap c_2.1.1)<0)==decide (a.1<0))) then some (((0,0),10,()),())
 else some (((i64.wrap c_2.1.1,c_1.1.1),0,()),())
 else some (((i64.wrap c_2.1.1,c_1.1.1),0,()),())
def xE.sp (F:Nat):TA xE.sg.args->Option xE.sg.R:=fun x=>xE.sh F x.1 x.2.1
@[reducible] def xP.sg:Sig:={args:=[.d (.g zf)],res:=[.g zf,.c (.int .i64)]}
def xP.sh (F:Nat) (a:zf.T):Option xP.sg.R :=
 oB (xE.sh F (0,0) a) fun c_1 =>
 some ((c_1.1.1,c_1.1.2.1,()),())
def xP.sp (F:Nat):TA xP.sg.args->Option xP.sg.R:=fun x=>xP.sh F x.1
@[reducible] def xj.sg:Sig:={args:=[.d (.c .bool),.d (.c (.int .u64)),.d (.c (.int .u64))],res:=[.g zf,.c (.int .i64)]}
def xj.sh (F:Nat) (below:Bool) (hi:Int) (lo:Int):Option xj.sg.R :=
 bif ((hi.fdiv (2^(min (63:Int).toNat IntKind.u64.bits)))==0) then bif below then oB (xP.sh F (i64.wrap hi,lo)) fun c_1 =>
 some ((c_1.1.1,c_1.1.2.1,()),())
 else some (((i64.wrap hi,lo),0,()),())
 else bif below then bif (hi==9223372036854775808) then bif (lo==0) then some ((((-9223372036854775808),0),0,()),())
 else some (((0,0),10,()),())
 else some (((0,0),10,()),())
 else some (((0,0),10,()),())
def xj.sp (F:Nat):TA xj.sg.args->Option xj.sg.R:=fun x=>xj.sh F x.1 x.2.1 x.2.2.1
@[reducible] def yz.sg:Sig:={args:=[.d (.g zf),.d (.g zf)],res:=[.g zf,.c (.int .i64)]}
def yz.j5 {R:Type} (F:Nat) (k0:Int->zf.T->Option R) (k1:Int->zf.T->Option R) (ah:Int) (al:Int) (bh:Int) (bl:Int) (a:zf.T) (b:zf.T) (r4:zf.T):Option R :=
 oB (yE.sh F al bl) fun c_3 =>
 oB (xt.sh F (ah != 0) bl al) fun c_4 =>
 oB (yE.sh F (u64.wrap ((BitVec.ofInt IntKind.u64.bits ah ||| BitVec.ofInt IntKind.u64.bits bh).toNat)) c_4.1.1) fun c_5 =>
 oB (ye.sh F c_3.1.1 c_5.1.2.1 0) fun c_6 =>
 bif (c_5.1.1 != 0) then k0 10 (0,0)
 else bif (c_6.1.2.1 != 0) then k0 10 (0,0)
 else oB (xj.sh F (!(decide (a.1<0)==decide (b.1<0))) c_6.1.1 c_3.1.2.1) fun c_7 =>
 k1 c_7.1.2.1 c_7.1.1
def yz.sh (F:Nat) (a:zf.T) (b:zf.T):Option yz.sg.R :=
 oB (xg.sh F a) fun c_1 =>
 oB (xg.sh F b) fun c_2 =>
 bif (c_1.1.1 != 0) then bif (c_2.1.1 != 0) then some (((0,0),10,()),())
 else yz.j5 F (fun r58 r48=>some ((r48,r58,()),())) (fun r59 r49=>some ((r49,r59,()),())) c_1.1.1 c_1.1.2.1 c_2.1.1 c_2.1.2.1 a b (0,0)
 else yz.j5 F (fun r510 r410=>some ((r410,r510,()),())) (fun r511 r411=>some ((r411,r511,()),())) c_1.1.1 c_1.1.2.1 c_2.1.1 c_2.1.2.1 a b (0,0)
def yz.sp (F:Nat):TA yz.sg.args->Option yz.sg.R:=fun x=>yz.sh F x.1 x.2.1
@[reducible] def zP.sg:Sig:={args:=[.d (.c (.int .i64))],res:=[.g zf,.c (.int .i64)]}
abbrev zP.l7.K0 (R:Type):Type:=Int->Int->Bool->zf.T->zf.T->Option R
abbrev zP.l7.T (R:Type):Type:=Int->Int->zf.T->zf.T->Option R
def zP.l7.body {R:Type} (F:Nat) (k0:zP.l7.K0 R) (rec:zP.l7.T R) (t12:Int) (t13:Int) (r2:zf.T) (p:zf.T):Option R :=
 bif decide (t13<t12) then oB (yy.sh F 10000) fun c_2 =>
 oB (yz.sh F p c_2.1.1) fun c_3 =>
 rec t12 (i64.wrap (t13+1)) r2 c_3.1.1
 else k0 t12 t13 (decide (t13<t12)) r2 p
def zP.l7 {R:Type} (F:Nat) (k0:zP.l7.K0 R):Nat->zP.l7.T R
 | 0,_,_,_,_=>none
 | fu+1,t12,t13,r2,p=>zP.l7.body F k0 (zP.l7 F k0 fu) t12 t13 r2 p
def zP.sh (F:Nat) (k:Int):Option zP.sg.R :=
 bif decide (k<0) then some (((0,0),1,()),())
 else bif decide (k>9) then some (((0,0),10,()),())
 else oB (yy.sh F 1) fun c_1 =>
 zP.l7 F (fun t124 t134 t144 r24 p4=>some ((p4,0,()),())) F k 0 (0,0) c_1.1.1
def zP.sp (F:Nat):TA zP.sg.args->Option zP.sg.R:=fun x=>zP.sh F x.1
@[reducible] def zQ.sg:Sig:={args:=[.d (.g zr)],res:=[.c (.int .i64)]}
def zQ.j10 {R:Type} (F:Nat) (k0:Int->Option R) (k1:Int->Option R) (k2:Int->Option R) (k3:Bool->Option R) (t4:Int) (t10:Bool) (n:zr.T):Option R :=
 bif t10 then k0 2
 else bif (t4==9) then bif (t4==9) then k1 n.2.2.2.1
 else bif (t4==16) then k2 3
 else k3 (t4==16)
 else bif (t4==10) then k1 n.2.2.2.1
 else bif (t4==16) then k2 3
 else k3 (t4==16)
def zQ.j6 {R:Type} (F:Nat) (k0:Int->Option R) (k1:Int->Option R) (k2:Int->Option R) (k3:Int->Option R) (k4:Bool->Option R) (t4:Int) (t5:Bool) (n:zr.T):Option R :=
 bif t5 then k0 0
 else bif (t4==6) then zQ.j10 F (fun r21=>k1 r21) (fun r22=>k2 r22) (fun r23=>k3 r23) (fun t194=>k4 t194) t4 (t4==6) n
 else bif (t4==7) then zQ.j10 F (fun r25=>k1 r25) (fun r26=>k2 r26) (fun r27=>k3 r27) (fun t198=>k4 t198) t4 (t4==7) n
 else zQ.j10 F (fun r29=>k1 r29) (fun r210=>k2 r210) (fun r211=>k3 r211) (fun t1912=>k4 t1912) t4 (t4==8) n
def zQ.sh (F:Nat) (n:zr.T):Option zQ.sg.R :=
 bif (n.1==1) then zQ.j6 F (fun r213=>some ((r213,()),())) (fun r214=>some ((r214,()),())) (fun r215=>some ((r215,()),())) (fun r216=>some ((r216,()),())) (fun t1917=>some ((1,()),())) n.1 (n.1==1) n
 else bif (n.1==2) then zQ.j6 F (fun r218=>some ((r218,()),())) (fun r219=>some ((r219,()),())) (fun r220=>some ((r220,()),())) (fun r221=>some ((r221,()),())) (fun t1922=>some ((1,()),())) n.1 (n.1==2) n
 else bif (n.1==3) then zQ.j6 F (fun r223=>some ((r223,()),())) (fun r224=>some ((r224,()),())) (fun r225=>some ((r225,()),())) (fun r226=>some ((r226,()),())) (fun t1927=>some ((1,()),())) n.1 (n.1==3) n
 else zQ.j6 F (fun r228=>some ((r228,()),())) (fun r229=>some ((r229,()),())) (fun r230=>some ((r230,()),())) (fun r231=>some ((r231,()),())) (fun t1932=>some ((1,()),())) n.1 (n.1==4) n
def zQ.sp (F:Nat):TA zQ.sg.args->Option zQ.sg.R:=fun x=>zQ.sh F x.1
@[reducible] def zY.sg:Sig:={args:=[.io yv [],.d (.g zf),.d (.c (.int .i64))],res:=[.g zf]}
def zY.sh (F:Nat) (m:yv.T) (w:zf.T) (e:Int):Option zY.sg.R :=
 bif m.2 then some ((w,()),((m.1,true),()))
 else some ((w,()),((m.1,(e != 0)),()))
def zY.sp (F:Nat):TA zY.sg.args->Option zY.sg.R:=fun x=>zY.sh F x.1 x.2.1 x.2.2.1
@[reducible] def zW.sg:Sig:={args:=[.io yv [],.d (.g zf),.d (.g zf)],res:=[.g zf]}
def zW.sh (F:Nat) (m:yv.T) (a:zf.T) (b:zf.T):Option zW.sg.R :=
 oB (yz.sh F a b) fun c_1 =>
 oB (zY.sh F m c_1.1.1 c_1.1.2.1) fun c_2 =>
 some ((c_2.1.1,()),(c_2.2.1,()))
def zW.sp (F:Nat):TA zW.sg.args->Option zW.sg.R:=fun x=>zW.sh F x.1 x.2.1 x.2.2.1
@[reducible] def zN.sg:Sig:={args:=[.d (.c (.int .u64))],res:=[.c (.int .i64)]}
def zN.j7 {R:Type} (F:Nat) (k0:Int->Option R) (x:Int) (n:Int):Option R :=
 bif decide (x>=256) then bif idx (IntKind.u8.wrap (x.fdiv (2^(min (8:Int).toNat IntKind.u64.bits)))) ((⟨#[0,1,2,2,3,3,3,3,4,4,4,4,4,4,4,4,5,5,5,5,5,5,5,5,5,5,5,5,5,5,5,5,6,6,6,6,6,6,6,6,6,6,6,6,6,6,6,6,6,6,6,6,6,6,6,6,6,6,6,6,6,6,6,6,7,7,7,7,7,7,7,7,7,7,7,7,7,7,7,7,7,7,7,7,7,7,7,7,7,7,7,7,7,7,7,7,7,7,7,7,7,7,7,7,7,7,7,7,7,7,7,7,7,7,7,7,7,7,7,7,7,7,7,7,7,7,7,7,8,8,8,8,8,8,8,8,8,8,8,8,8,8,8,8,8,8,8,8,8,8,8,8,8,8,8,8,8,8,8,8,8,8,8,8,8,8,8,8,8,8,8,8,8,8,8,8,8,8,8,8,8,8,8,8,8,8,8,8,8,8,8,8,8,8,8,8,8,8,8,8,8,8,8,8,8,8,8,8,8,8,8,8,8,8,8,8,8,8,8,8,8,8,8,8,8,8,8,8,8,8,8,8,8,8,8,8,8,8,8,8,8,8,8,8,8,8,8,8,8,8,8,8,8,8,8,8]⟩:ByteArray).size) then k0 (i64.wrap ((i64.wrap (n+8))+(i64.wrap (bt (⟨#[0,1,2,2,3,3,3,3,4,4,4,4,4,4,4,4,5,5,5,5,5,5,5,5,5,5,5,5,5,5,5,5,6,6,6,6,6,6,6,6,6,6,6,6,6,6,6,6,6,6,6,6,6,6,6,6,6,6,6,6,6,6,6,6,7,7,7,7,7,7,7,7,7,7,7,7,7,7,7,7,7,7,7,7,7,7,7,7,7,7,7,7,7,7,7,7,7,7,7,7,7,7,7,7,7,7,7,7,7,7,7,7,7,7,7,7,7,7,7,7,7,7,7,7,7,7,7,7,8,8,8,8,8,8,8,8,8,8,8,8,8,8,8,8,8,8,8,8,8,8,8,8,8,8,8,8,8,8,8,8,8,8,8,8,8,8,8,8,8,8,8,8,8,8,8,8,8,8,8,8,8,8,8,8,8,8,8,8,8,8,8,8,8,8,8,8,8,8,8,8,8,8,8,8,8,8,8,8,8,8,8,8,8,8,8,8,8,8,8,8,8,8,8,8,8,8,8,8,8,8,8,8,8,8,8,8,8,8,8,8,8,8,8,8,8,8,8,8,8,8,8,8,8,8,8,8]⟩:ByteArray) (IntKind.u8.wrap (x.fdiv (2^(min (8:Int).toNat IntKind.u64.bits))))))))
 else none
 else bif idx (IntKind.u8.wrap x) ((⟨#[0,1,2,2,3,3,3,3,4,4,4,4,4,4,4,4,5,5,5,5,5,5,5,5,5,5,5,5,5,5,5,5,6,6,6,6,6,6,6,6,6,6,6,6,6,6,6,6,6,6,6,6,6,6,6,6,6,6,6,6,6,6,6,6,7,7,7,7,7,7,7,7,7,7,7,7,7,7,7,7,7,7,7,7,7,7,7,7,7,7,7,7,7,7,7,7,7,7,7,7,7,7,7,7,7,7,7,7,7,7,7,7,7,7,7,7,7,7,7,7,7,7,7,7,7,7,7,7,8,8,8,8,8,8,8,8,8,8,8,8,8,8,8,8,8,8,8,8,8,8,8,8,8,8,8,8,8,8,8,8,8,8,8,8,8,8,8,8,8,8,8,8,8,8,8,8,8,8,8,8,8,8,8,8,8,8,8,8,8,8,8,8,8,8,8,8,8,8,8,8,8,8,8,8,8,8,8,8,8,8,8,8,8,8,8,8,8,8,8,8,8,8,8,8,8,8,8,8,8,8,8,8,8,8,8,8,8,8,8,8,8,8,8,8,8,8,8,8,8,8,8,8,8,8,8,8]⟩:ByteArray).size) then k0 (i64.wrap (n+(i64.wrap (bt (⟨#[0,1,2,2,3,3,3,3,4,4,4,4,4,4,4,4,5,5,5,5,5,5,5,5,5,5,5,5,5,5,5,5,6,6,6,6,6,6,6,6,6,6,6,6,6,6,6,6,6,6,6,6,6,6,6,6,6,6,6,6,6,6,6,6,7,7,7,7,7,7,7,7,7,7,7,7,7,7,7,7,7,7,7,7,7,7,7,7,7,7,7,7,7,7,7,7,7,7,7,7,7,7,7,7,7,7,7,7,7,7,7,7,7,7,7,7,7,7,7,7,7,7,7,7,7,7,7,7,8,8,8,8,8,8,8,8,8,8,8,8,8,8,8,8,8,8,8,8,8,8,8,8,8,8,8,8,8,8,8,8,8,8,8,8,8,8,8,8,8,8,8,8,8,8,8,8,8,8,8,8,8,8,8,8,8,8,8,8,8,8,8,8,8,8,8,8,8,8,8,8,8,8,8,8,8,8,8,8,8,8,8,8,8,8,8,8,8,8,8,8,8,8,8,8,8,8,8,8,8,8,8,8,8,8,8,8,8,8,8,8,8,8,8,8,8,8,8,8,8,8,8,8,8,8,8,8]⟩:ByteArray) (IntKind.u8.wrap x)))))
 else none
def zN.j4 {R:Type} (F:Nat) (k0:Int->Option R) (x:Int) (n:Int):Option R :=
 bif decide (x>=65536) then zN.j7 F (fun n1=>k0 n1) (x.fdiv (2^(min (16:Int).toNat IntKind.u64.bits))) (i64.wrap (n+16))
 else zN.j7 F (fun n2=>k0 n2) x n
def zN.sh (F:Nat) (x:Int):Option zN.sg.R :=
 bif decide (x>=4294967296) then zN.j4 F (fun n3=>some ((n3,()),())) (x.fdiv (2^(min (32:Int).toNat IntKind.u64.bits))) 32
 else zN.j4 F (fun n4=>some ((n4,()),())) x 0
def zN.sp (F:Nat):TA zN.sg.args->Option zN.sg.R:=fun x=>zN.sh F x.1
@[reducible] def z8.sg:Sig:={args:=[.d (.c (.int .u64))],res:=[.c (.int .i64)]}
def z8.sh (F:Nat) (x:Int):Option z8.sg.R :=
 oB (zN.sh F x) fun c_1 =>
 some ((i64.wrap (64-c_1.1.1),()),())
def z8.sp (F:Nat):TA z8.sg.args->Option z8.sg.R:=fun x=>z8.sh F x.1
@[reducible] def zl.sg:Sig:={args:=[.d (.c (.int .u64)),.d (.c (.int .u64)),.d (.c (.int .u64))],res:=[.c (.int .u64),.c (.int .u64)]}
abbrev zl.l17.K0 (R:Type):Type:=Int->Int->Int->Int->Int->Int->Int->Int->Int->Bool->Option R
abbrev zl.l17.K1 (R:Type):Type:=Int->Int->Int->Int->Int->Int->Int->Int->Int->Bool->Option R
abbrev zl.l17.T (R:Type):Type:=Int->Int->Int->Int->Int->Int->Int->Int->Int->Option R
def zl.l17.body {R:Type} (F:Nat) (k0:zl.l17.K0 R) (k1:zl.l17.K1 R) (rec:zl.l17.T R) (y:Int) (s:Int) (yn1:Int) (yn0:Int) (un32:Int) (un1:Int) (un0:Int) (q1:Int) (rhat:Int):Option R :=
 bif decide (q1>=4294967296) then bif decide ((u64.wrap (rhat+yn1))>=4294967296) then k0 y s yn1 yn0 un32 un1 un0 (u64.wrap (q1-1)) (u64.wrap (rhat+yn1)) (decide ((u64.wrap (rhat+yn1))>=4294967296))
 else rec y s yn1 yn0 un32 un1 un0 (u64.wrap (q1-1)) (u64.wrap (rhat+yn1))
 else bif decide ((u64.wrap (q1*yn0))>(u64.wrap ((u64.wrap (4294967296*rhat))+un1))) then bif decide ((u64.wrap (rhat+yn1))>=4294967296) then k0 y s yn1 yn0 un32 un1 un0 (u64.wrap (q1-1)) (u64.wrap (rhat+yn1)) (decide ((u64.wrap (rhat+yn1))>=4294967296))
 else rec y s yn1 yn0 un32 un1 un0 (u64.wrap (q1-1)) (u64.wrap (rhat+yn1))
 else k1 y s yn1 yn0 un32 un1 un0 q1 rhat (decide ((u64.wrap (q1*yn0))>(u64.wrap ((u64.wrap (4294967296*rhat))+un1))))
def zl.l17 {R:Type} (F:Nat) (k0:zl.l17.K0 R) (k1:zl.l17.K1 R):Nat->zl.l17.T R
 | 0,_,_,_,_,_,_,_,_,_=>none
 | fu+1,y,s,yn1,yn0,un32,un1,un0,q1,rhat=>zl.l17.body F k0 k1 (zl.l17 F k0 k1 fu) y s yn1 yn0 un32 un1 un0 q1 rhat
abbrev zl.l24.K0 (R:Type):Type:=Int->Int->Int->Int->Int->Int->Int->Int->Int->Bool->Option R
abbrev zl.l24.K1 (R:Type):Type:=Int->Int->Int->Int->Int->Int->Int->Int->Int->Bool->Option R
abbrev zl.l24.T (R:Type):Type:=Int->Int->Int->Int->Int->Int->Int->Int->Int->Option R
def zl.l24.body {R:Type} (F:Nat) (k0:zl.l24.K0 R) (k1:zl.l24.K1 R) (rec:zl.l24.T R) (y:Int) (s:Int) (yn1:Int) (yn0:Int) (un0:Int) (q1:Int) (rhat:Int) (un21:Int) (q0:Int):Option R :=
 bif decide (q0>=4294967296) then bif decide ((u64.wrap (rhat+yn1))>=4294967296) then k0 y s yn1 yn0 un0 q1 (u64.wrap (rhat+yn1)) un21 (u64.wrap (q0-1)) (decide ((u64.wrap (rhat+yn1))>=4294967296))
 else rec y s yn1 yn0 un0 q1 (u64.wrap (rhat+yn1)) un21 (u64.wrap (q0-1))
 else bif decide ((u64.wrap (q0*yn0))>(u64.wrap ((u64.wrap (4294967296*rhat))+un0))) then bif decide ((u64.wrap (rhat+yn1))>=4294967296) then k0 y s yn1 yn0 un0 q1 (u64.wrap (rhat+yn1)) un21 (u64.wrap (q0-1)) (decide ((u64.wrap (rhat+yn1))>=4294967296))
 else rec y s yn1 yn0 un0 q1 (u64.wrap (rhat+yn1)) un21 (u64.wrap (q0-1))
 else k1 y s yn1 yn0 un0 q1 rhat un21 q0 (decide ((u64.wrap (q0*yn0))>(u64.wrap ((u64.wrap (4294967296*rhat))+un0))))
def zl.l24 {R:Type} (F:Nat) (k0:zl.l24.K0 R) (k1:zl.l24.K1 R):Nat->zl.l24.T R
 | 0,_,_,_,_,_,_,_,_,_=>none
 | fu+1,y,s,yn1,yn0,un0,q1,rhat,un21,q0=>zl.l24.body F k0 k1 (zl.l24 F k0 k1 fu) y s yn1 yn0 un0 q1 rhat un21 q0
def zl.j28 {R:Type} (F:Nat) (k0:Int->Int->Option R) (y:Int) (s:Int) (un0:Int) (q1:Int) (un21:Int) (q0:Int):Option R :=
 bif decide (0<=s) then k0 (u64.wrap ((u64.wrap (q1*4294967296))+q0)) ((u64.wrap ((u64.wrap ((u64.wrap (un21*4294967296))+un0))-(u64.wrap (q0*y)))).fdiv (2^(min s.toNat IntKind.u64.bits)))
 else none
def zl.j21 {R:Type} (F:Nat) (k0:Int->Int->Option R) (y:Int) (s:Int) (yn1:Int) (yn0:Int) (un32:Int) (un1:Int) (un0:Int) (q1:Int):Option R :=
 bif (yn1 != 0) then zl.l24 F (fun y3 s3 yn13 yn03 un03 q13 rhat3 un213 q03 t1203=>zl.j28 F (fun quo4 rem4=>k0 quo4 rem4) y3 s3 un03 q13 un213 q03) (fun y5 s5 yn15 yn05 un05 q15 rhat5 un215 q05 t1135=>zl.j28 F (fun quo6 rem6=>k0 quo6 rem6) y5 s5 un05 q15 un215 q05) F y s yn1 yn0 un0 q1 (u64.wrap ((u64.wrap ((u64.wrap ((u64.wrap (un32*4294967296))+un1))-(u64.wrap (q1*y))))-(u64.wrap ((u64.wrap ((u64.wrap ((u64.wrap ((u64.wrap (un32*4294967296))+un1))-(u64.wrap (q1*y)))).tdiv yn1))*yn1)))) (u64.wrap ((u64.wrap ((u64.wrap (un32*4294967296))+un1))-(u64.wrap (q1*y)))) (u64.wrap ((u64.wrap ((u64.wrap ((u64.wrap (un32*4294967296))+un1))-(u64.wrap (q1*y)))).tdiv yn1))
 else none
def zl.sh (F:Nat) (hi:Int) (lo:Int) (y:Int):Option zl.sg.R :=
 bif (y==0) then none
 else bif decide (y<=hi) then none
 else bif (hi==0) then bif (y != 0) then bif (y != 0) then some ((u64.wrap (lo.tdiv y),lo.tmod y,()),())
 else none
 else none
 else oB (z8.sh F y) fun c_1 =>
 bif decide (0<=(u64.wrap c_1.1.1)) then bif decide (0<=(u64.wrap c_1.1.1)) then bif decide (0<=(u64.wrap (64-(u64.wrap c_1.1.1)))) then bif decide (0<=(u64.wrap c_1.1.1)) then bif (((u64.wrap (y*2^(min (u64.wrap c_1.1.1).toNat IntKind.u64.bits))).fdiv (2^(min (32:Int).toNat IntKind.u64.bits))) != 0) then zl.l17 F (fun y2 s2 yn12 yn02 un322 un12 un02 q12 rhat2 t852=>zl.j21 F (fun quo7 rem7=>some ((quo7,rem7,()),())) y2 s2 yn12 yn02 un322 un12 un02 q12) (fun y8 s8 yn18 yn08 un328 un18 un08 q18 rhat8 t788=>zl.j21 F (fun quo9 rem9=>some ((quo9,rem9,()),())) y8 s8 yn18 yn08 un328 un18 un08 q18) F (u64.wrap (y*2^(min (u64.wrap c_1.1.1).toNat IntKind.u64.bits))) (u64.wrap c_1.1.1) ((u64.wrap (y*2^(min (u64.wrap c_1.1.1).toNat IntKind.u64.bits))).fdiv (2^(min (32:Int).toNat IntKind.u64.bits))) (u64.wrap ((BitVec.ofInt IntKind.u64.bits (u64.wrap (y*2^(min (u64.wrap c_1.1.1).toNat IntKind.u64.bits))) &&& BitVec.ofInt IntKind.u64.bits 4294967295).toNat)) (u64.wrap ((BitVec.ofInt IntKind.u64.bits (u64.wrap (hi*2^(min (u64.wrap c_1.1.1).toNat IntKind.u64.bits))) ||| BitVec.ofInt IntKind.u64.bits (lo.fdiv (2^(min (u64.wrap (64-(u64.wrap c_1.1.1))).toNat IntKind.u64.bits)))).toNat)) ((u64.wrap (lo*2^(min (u64.wrap c_1.1.1).toNat IntKind.u64.bits))).fdiv (2^(min (32:Int).toNat IntKind.u64.bits))) (u64.wrap ((BitVec.ofInt IntKind.u64.bits (u64.wrap (lo*2^(min (u64.wrap c_1.1.1).toNat IntKind.u64.bits))) &&& BitVec.ofInt IntKind.u64.bits 4294967295).toNat)) (u64.wrap ((u64.wrap ((BitVec.ofInt IntKind.u64.bits (u64.wrap (hi*2^(min (u64.wrap c_1.1.1).toNat IntKind.u64.bits))) ||| BitVec.ofInt IntKind.u64.bits (lo.fdiv (2^(min (u64.wrap (64-(u64.wrap c_1.1.1))).toNat IntKind.u64.bits)))).toNat)).tdiv ((u64.wrap (y*2^(min (u64.wrap c_1.1.1).toNat IntKind.u64.bits))).fdiv (2^(min (32:Int).toNat IntKind.u64.bits))))) (u64.wrap ((u64.wrap ((BitVec.ofInt IntKind.u64.bits (u64.wrap (hi*2^(min (u64.wrap c_1.1.1).toNat IntKind.u64.bits))) ||| BitVec.ofInt IntKind.u64.bits (lo.fdiv (2^(min (u64.wrap (64-(u64.wrap c_1.1.1))).toNat IntKind.u64.bits)))).toNat))-(u64.wrap ((u64.wrap ((u64.wrap ((BitVec.ofInt IntKind.u64.bits (u64.wrap (hi*2^(min (u64.wrap c_1.1.1).toNat IntKind.u64.bits))) ||| BitVec.ofInt IntKind.u64.bits (lo.fdiv (2^(min (u64.wrap (64-(u64.wrap c_1.1.1))).toNat IntKind.u64.bits)))).toNat)).tdiv ((u64.wrap (y*2^(min (u64.wrap c_1.1.1).toNat IntKind.u64.bits))).fdiv (2^(min (32:Int).toNat IntKind.u64.bits)))))*((u64.wrap (y*2^(min (u64.wrap c_1.1.1).toNat IntKind.u64.bits))).fdiv (2^(min (32:Int).toNat IntKind.u64.bits)))))))
 else none
 else none
 else none
 else none
 else none
def zl.sp (F:Nat):TA zl.sg.args->Option zl.sg.R:=fun x=>zl.sh F x.1 x.2.1 x.2.2.1
@[reducible] def yd.sg:Sig:={args:=[.d (.c (.int .u64)),.d (.c (.int .u64)),.d (.c (.int .u64)),.d (.c (.int .u64))],res:=[.c (.int .u64),.c (.int .u64),.c (.int .u64),.c (.int .u64)]}
abbrev yd.l7.K0 (R:Type):Type:=Int->Int->Int->Int->Int->Int->Int->Bool->Option R
abbrev yd.l7.T (R:Type):Type:=Int->Int->Int->Int->Int->Int->Int->Option R
def yd.l7.body {R:Type} (F:Nat) (k0:yd.l7.K0 R) (rec:yd.l7.T R) (al:Int) (bh:Int) (bl:Int) (ql:Int) (rh:Int) (rl:Int) (i:Int):Option R :=
 bif decide (i>=0) then bif decide (0<=i) then bif decide ((u64.wrap ((BitVec.ofInt IntKind.u64.bits (u64.wrap (rh*2^(min (1:Int).toNat IntKind.u64.bits))) ||| BitVec.ofInt IntKind.u64.bits (rl.fdiv (2^(min (63:Int).toNat IntKind.u64.bits)))).toNat))>bh) then oB (zT.sh F (u64.wrap ((BitVec.ofInt IntKind.u64.bits (u64.wrap (rl*2^(min (1:Int).toNat IntKind.u64.bits))) ||| BitVec.ofInt IntKind.u64.bits (u64.wrap ((BitVec.ofInt IntKind.u64.bits (al.fdiv (2^(min i.toNat IntKind.u64.bits))) &&& BitVec.ofInt IntKind.u64.bits 1).toNat))).toNat)) bl 0) fun c_2 =>
 oB (zT.sh F (u64.wrap ((BitVec.ofInt IntKind.u64.bits (u64.wrap (rh*2^(min (1:Int).toNat IntKind.u64.bits))) ||| BitVec.ofInt IntKind.u64.bits (rl.fdiv (2^(min (63:Int).toNat IntKind.u64.bits)))).toNat)) bh c_2.1.2.1) fun c_3 =>
 bif decide (0<=i) then rec al bh bl (u64.wrap ((BitVec.ofInt IntKind.u64.bits ql ||| BitVec.ofInt IntKind.u64.bits (u64.wrap (1*2^(min i.toNat IntKind.u64.bits)))).toNat)) c_3.1.1 c_2.1.1 (i64.wrap (i-1))
 else none
 else bif ((u64.wrap ((BitVec.ofInt IntKind.u64.bits (u64.wrap (rh*2^(min (1:Int).toNat IntKind.u64.bits))) ||| BitVec.ofInt IntKind.u64.bits (rl.fdiv (2^(min (63:Int).toNat IntKind.u64.bits)))).toNat))==bh) then bif decide ((u64.wrap ((BitVec.ofInt IntKind.u64.bits (u64.wrap (rl*2^(min (1:Int).toNat IntKind.u64.bits))) ||| BitVec.ofInt IntKind.u64.bits (u64.wrap ((BitVec.ofInt IntKind.u64.bits (al.fdiv (2^(min i.toNat IntKind.u64.bits))) &&& BitVec.ofInt IntKind.u64.bits 1).toNat))).toNat))>=bl) then oB (zT.sh F (u64.wrap ((BitVec.ofInt IntKind.u64.bits (u64.wrap (rl*2^(min (1:Int).toNat IntKind.u64.bits))) ||| BitVec.ofInt IntKind.u64.bits (u64.wrap ((BitVec.ofInt IntKind.u64.bits (al.fdiv (2^(min i.toNat IntKind.u64.bits))) &&& BitVec.ofInt IntKind.u64.bits 1).toNat))).toNat)) bl 0) fun c_4 =>
 oB (zT.sh F (u64.wrap ((BitVec.ofInt IntKind.u64.bits (u64.wrap (rh*2^(min (1:Int).toNat IntKind.u64.bits))) ||| BitVec.ofInt IntKind.u64.bits (rl.fdiv (2^(min (63:Int).toNat IntKind.u64.bits)))).toNat)) bh c_4.1.2.1) fun c_5 =>
 bif decide (0<=i) then rec al bh bl (u64.wrap ((BitVec.ofInt IntKind.u64.bits ql ||| BitVec.ofInt IntKind.u64.bits (u64.wrap (1*2^(min i.toNat IntKind.u64.bits)))).toNat)) c_5.1.1 c_4.1.1 (i64.wrap (i-1))
 else none
 else rec al bh bl ql (u64.wrap ((BitVec.ofInt IntKind.u64.bits (u64.wrap (rh*2^(min (1:Int).toNat IntKind.u64.bits))) ||| BitVec.ofInt IntKind.u64.bits (rl.fdiv (2^(min (63:Int).toNat IntKind.u64.bits)))).toNat)) (u64.wrap ((BitVec.ofInt IntKind.u64.bits (u64.wrap (rl*2^(min (1:Int).toNat IntKind.u64.bits))) ||| BitVec.ofInt IntKind.u64.bits (u64.wrap ((BitVec.ofInt IntKind.u64.bits (al.fdiv (2^(min i.toNat IntKind.u64.bits))) &&& BitVec.ofInt IntKind.u64.bits 1).toNat))).toNat)) (i64.wrap (i-1))
 else rec al bh bl ql (u64.wrap ((BitVec.ofInt IntKind.u64.bits (u64.wrap (rh*2^(min (1:Int).toNat IntKind.u64.bits))) ||| BitVec.ofInt IntKind.u64.bits (rl.fdiv (2^(min (63:Int).toNat IntKind.u64.bits)))).toNat)) (u64.wrap ((BitVec.ofInt IntKind.u64.bits (u64.wrap (rl*2^(min (1:Int).toNat IntKind.u64.bits))) ||| BitVec.ofInt IntKind.u64.bits (u64.wrap ((BitVec.ofInt IntKind.u64.bits (al.fdiv (2^(min i.toNat IntKind.u64.bits))) &&& BitVec.ofInt IntKind.u64.bits 1).toNat))).toNat)) (i64.wrap (i-1))
 else none
 else k0 al bh bl ql rh rl i (decide (i>=0))
def yd.l7 {R:Type} (F:Nat) (k0:yd.l7.K0 R):Nat->yd.l7.T R
 | 0,_,_,_,_,_,_,_=>none
 | fu+1,al,bh,bl,ql,rh,rl,i=>yd.l7.body F k0 (yd.l7 F k0 fu) al bh bl ql rh rl i
def yd.sh (F:Nat) (ah:Int) (al:Int) (bh:Int) (bl:Int):Option yd.sg.R :=
 bif (bh==0) then bif (bl != 0) then bif (bl != 0) then oB (zl.sh F (ah.tmod bl) al bl) fun c_1 =>
 some ((u64.wrap (ah.tdiv bl),c_1.1.1,0,c_1.1.2.1,()),())
 else none
 else none
 else yd.l7 F (fun al6 bh6 bl6 ql6 rh6 rl6 i6 t346=>some ((0,ql6,rh6,rl6,()),())) F al bh bl 0 0 ah 63
def yd.sp (F:Nat):TA yd.sg.args->Option yd.sg.R:=fun x=>yd.sh F x.1 x.2.1 x.2.2.1 x.2.2.2.1
@[reducible] def yY.sg:Sig:={args:=[.d (.g zf),.d (.g zf)],res:=[.g zf,.g zf,.c (.int .i64)]}
def yY.sh (F:Nat) (a:zf.T) (b:zf.T):Option yY.sg.R :=
 bif ((b.1==0)&&((b.2==0)&&true)) then some (((0,0),(0,0),20,()),())
 else oB (xg.sh F a) fun c_1 =>
 oB (xg.sh F b) fun c_2 =>
 oB (yd.sh F c_1.1.1 c_1.1.2.1 c_2.1.1 c_2.1.2.1) fun c_3 =>
 oB (xj.sh F (!(decide (a.1<0)==decide (b.1<0))) c_3.1.1 c_3.1.2.1) fun c_4 =>
 bif (c_4.1.2.1 != 0) then some (((0,0),(0,0),c_4.1.2.1,()),())
 else oB (xj.sh F (decide (a.1<0)) c_3.1.2.2.1 c_3.1.2.2.2.1) fun c_5 =>
 some ((c_4.1.1,c_5.1.1,c_5.1.2.1,()),())
def yY.sp (F:Nat):TA yY.sg.args->Option yY.sg.R:=fun x=>yY.sh F x.1 x.2.1
@[reducible] def xk.sg:Sig:={args:=[.d (.g zf),.d (.g zf),.d (.g zf),.d (.c (.int .i64))],res:=[.c .bool]}
def xk.sh (F:Nat) (q:zf.T) (r:zf.T) (b:zf.T) (mode:Int):Option xk.sg.R :=
 bif (mode==0) then some (((!(decide (r.1<0)==decide (b.1<0))),()),())
 else bif (mode==1) then some ((!(!(decide (r.1<0)==decide (b.1<0))),()),())
 else bif (mode==2) then some ((false,()),())
 else oB (xg.sh F r) fun c_1 =>
 oB (xg.sh F b) fun c_2 =>
 oB (zT.sh F c_2.1.2.1 c_1.1.2.1 0) fun c_3 =>
 oB (zT.sh F c_2.1.1 c_1.1.1 c_3.1.2.1) fun c_4 =>
 bif decide (c_1.1.1>c_4.1.1) then some ((true,()),())
 else bif (c_1.1.1==c_4.1.1) then bif decide (c_1.1.2.1>c_3.1.1) then some ((true,()),())
 else bif (c_1.1.1==c_4.1.1) then bif (c_1.1.2.1==c_3.1.1) then bif (mode==3) then some ((true,()),())
 else some ((((u64.wrap ((BitVec.ofInt IntKind.u64.bits q.2 &&& BitVec.ofInt IntKind.u64.bits 1).toNat))==1),()),())
 else some ((false,()),())
 else some ((false,()),())
 else bif (c_1.1.1==c_4.1.1) then bif (c_1.1.2.1==c_3.1.1) then bif (mode==3) then some ((true,()),())
 else some ((((u64.wrap ((BitVec.ofInt IntKind.u64.bits q.2 &&& BitVec.ofInt IntKind.u64.bits 1).toNat))==1),()),())
 else some ((false,()),())
 else some ((false,()),())
def xk.sp (F:Nat):TA xk.sg.args->Option xk.sg.R:=fun x=>xk.sh F x.1 x.2.1 x.2.2.1 x.2.2.2.1
@[reducible] def xF.sg:Sig:={args:=[.d (.g zf),.d (.g zf)],res:=[.g zf,.c (.int .i64)]}
def xF.sh (F:Nat) (a:zf.T) (b:zf.T):Option xF.sg.R :=
 oB (ye.sh F a.2 b.2 0) fun c_1 =>
 oB (ye.sh F (u64.wrap a.1) (u64.wrap b.1) c_1.1.2.1) fun c_2 =>
 bif (decide (a.1<0)==decide (b.1<0)) then bif (!(decide ((i64.wrap c_2.1.1)<0)==decide (a.1<0))) then some (((0,0),10,()),())
 else some (((i64.wrap c_2.1.1,c_1.1.1),0,()),())
 else some (((i64.wrap c_2.1.1,c_1.1.1),0,()),())
def xF.sp (F:Nat):TA xF.sg.args->Option xF.sg.R:=fun x=>xF.sh F x.1 x.2.1
@[reducible] def xw.sg:Sig:={args:=[.d (.g zf),.d (.g zf),.d (.c (.int .i64))],res:=[.g zf,.c (.int .i64)]}
def xw.sh (F:Nat) (a:zf.T) (b:zf.T) (mode:Int):Option xw.sg.R :=
 bif decide (mode<0) then some (((0,0),1,()),())
 else bif decide (mode>4) then some (((0,0),1,()),())
 else oB (yY.sh F a b) fun c_1 =>
 bif (c_1.1.2.2.1 != 0) then some ((c_1.1.1,c_1.1.2.2.1,()),())
 else bif ((c_1.1.2.1.1==0)&&((c_1.1.2.1.2==0)&&true)) then some ((c_1.1.1,c_1.1.2.2.1,()),())
 else oB (xk.sh F c_1.1.1 c_1.1.2.1 b mode) fun c_2 =>
 bif !c_2.1.1 then some ((c_1.1.1,c_1.1.2.2.1,()),())
 else bif (!(decide (a.1<0)==decide (b.1<0))) then oB (yy.sh F 1) fun c_3 =>
 oB (xE.sh F c_1.1.1 c_3.1.1) fun c_4 =>
 some ((c_4.1.1,c_4.1.2.1,()),())
 else oB (yy.sh F 1) fun c_5 =>
 oB (xF.sh F c_1.1.1 c_5.1.1) fun c_6 =>
 some ((c_6.1.1,c_6.1.2.1,()),())
def xw.sp (F:Nat):TA xw.sg.args->Option xw.sg.R:=fun x=>xw.sh F x.1 x.2.1 x.2.2.1
@[reducible] def xx.sg:Sig:={args:=[.d (.c (.int .i64))],res:=[.c (.int .i64)]}
def xx.sh (F:Nat) (v:Int):Option xx.sg.R :=
 some (((if i64.wrap (0-v)>v then i64.wrap (0-v) else v),()),())
def xx.sp (F:Nat):TA xx.sg.args->Option xx.sg.R:=fun x=>xx.sh F x.1
@[reducible] def z7.sg:Sig:={args:=[.io yv [],.d (.g zf),.d (.g zf)],res:=[.g zf]}
def z7.sh (F:Nat) (m:yv.T) (a:zf.T) (b:zf.T):Option z7.sg.R :=
 oB (xF.sh F a b) fun c_1 =>
 oB (zY.sh F m c_1.1.1 c_1.1.2.1) fun c_2 =>
 some ((c_2.1.1,()),(c_2.2.1,()))
def z7.sp (F:Nat):TA z7.sg.args->Option z7.sg.R:=fun x=>z7.sh F x.1 x.2.1 x.2.2.1
@[reducible] def zp.sg:Sig:={args:=[.io yv [],.d (.g zf),.d (.b zo)],res:=[.g zf]}
abbrev zp.l3.K0 (R:Type):Type:=(List zo.T)->Int->(List zo.T)->Int->Int->Bool->yv.T->zf.T->zf.T->zf.T->Option R
abbrev zp.l3.T (R:Type):Type:=(List zo.T)->Int->(List zo.T)->Int->Int->yv.T->zf.T->zf.T->zf.T->Option R
def zp.l3.body {R:Type} (F:Nat) (k0:zp.l3.K0 R) (rec:zp.l3.T R) (tiers:List zo.T) (rate:Int) (t13:List zo.T) (t14:Int) (t15:Int) (m:yv.T) (x:zf.T) (r6:zf.T) (ways:zf.T):Option R :=
 bif decide (t15<t14) then bif idx t15 t13.length then oB (xx.sh F (get zo t13 t15.toNat).2) fun c_1 =>
 bif decide ((i64.wrap (t15+1))<(tiers.length:Int)) then oB (xx.sh F (get zo t13 t15.toNat).2) fun c_2 =>
 oB (yy.sh F c_2.1.1) fun c_3 =>
 bif idx (i64.wrap (t15+1)) tiers.length then oB (yy.sh F (i64.wrap ((get zo tiers ((i64.wrap (t15+1)).toNat)).1-(get zo t13 t15.toNat).1))) fun c_4 =>
 oB (zW.sh F m c_3.1.1 c_4.1.1) fun c_5 =>
 bif (((m.1.1==c_5.2.1.1.1)&&((m.1.2==c_5.2.1.1.2)&&true))&&true) then oB (z7.sh F c_5.2.1 ways c_5.1.1) fun c_6 =>
 bif (((c_5.2.1.1.1==c_6.2.1.1.1)&&((c_5.2.1.1.2==c_6.2.1.1.2)&&true))&&true) then rec tiers (if c_1.1.1>rate then c_1.1.1 else rate) t13 t14 (i64.wrap (t15+1)) c_6.2.1 x r6 c_6.1.1
 else none
 else none
 else none
 else rec tiers (if c_1.1.1>rate then c_1.1.1 else rate) t13 t14 (i64.wrap (t15+1)) m x r6 ways
 else none
 else k0 tiers rate t13 t14 t15 (decide (t15<t14)) m x r6 ways
def zp.l3 {R:Type} (F:Nat) (k0:zp.l3.K0 R):Nat->zp.l3.T R
 | 0,_,_,_,_,_,_,_,_,_=>none
 | fu+1,tiers,rate,t13,t14,t15,m,x,r6,ways=>zp.l3.body F k0 (zp.l3 F k0 fu) tiers rate t13 t14 t15 m x r6 ways
def zp.sh (F:Nat) (m:yv.T) (x:zf.T) (tiers:List zo.T):Option zp.sg.R :=
 zp.l3 F (fun tiers7 rate7 t137 t147 t157 t167 m7 x7 r67 ways7=>bif idx (i64.wrap ((tiers7.length:Int)-1)) tiers7.length then oB (yy.sh F (get zo tiers7 ((i64.wrap ((tiers7.length:Int)-1)).toNat)).1) fun c_8 =>
 oB (z7.sh F m7 x7 c_8.1.1) fun c_9 =>
 bif (((m7.1.1==c_9.2.1.1.1)&&((m7.1.2==c_9.2.1.1.2)&&true))&&true) then oB (yy.sh F rate7) fun c_10 =>
 oB (zW.sh F c_9.2.1 c_10.1.1 c_9.1.1) fun c_11 =>
 bif (((c_9.2.1.1.1==c_11.2.1.1.1)&&((c_9.2.1.1.2==c_11.2.1.1.2)&&true))&&true) then oB (z7.sh F c_11.2.1 c_11.1.1 ways7) fun c_12 =>
 bif (((c_11.2.1.1.1==c_12.2.1.1.1)&&((c_11.2.1.1.2==c_12.2.1.1.2)&&true))&&true) then oB (zW.sh F c_12.2.1 c_9.2.1.1 c_12.1.1) fun c_13 =>
 bif (((c_12.2.1.1.1==c_13.2.1.1.1)&&((c_12.2.1.1.2==c_13.2.1.1.2)&&true))&&true) then some ((c_13.1.1,()),(c_13.2.1,()))
 else none
 else none
 else none
 else none
 else none) F tiers 0 tiers (tiers.length:Int) 0 m x (0,0) (0,0)
def zp.sp (F:Nat):TA zp.sg.args->Option zp.sg.R:=fun x=>zp.sh F x.1 x.2.1 x.2.2.1
@[reducible] def ym.sg:Sig:={args:=[.d (.b zf)],res:=[.g zf,.c (.int .i64)]}
abbrev ym.l4.K0 (R:Type):Type:=Int->Int->Int->(List zf.T)->Int->Int->Bool->zf.T->Option R
abbrev ym.l4.T (R:Type):Type:=Int->Int->Int->(List zf.T)->Int->Int->zf.T->Option R
def ym.l4.body {R:Type} (F:Nat) (k0:ym.l4.K0 R) (rec:ym.l4.T R) (lo:Int) (hi:Int) (top:Int) (t11:List zf.T) (t12:Int) (t13:Int) (r2:zf.T):Option R :=
 bif decide (t13<t12) then bif idx t13 t11.length then oB (ye.sh F lo (get zf t11 t13.toNat).2 0) fun c_1 =>
 oB (ye.sh F hi (u64.wrap (get zf t11 t13.toNat).1) c_1.1.2.1) fun c_2 =>
 rec c_1.1.1 c_2.1.1 (i64.wrap (top+(i64.wrap (((get zf t11 t13.toNat).1.fdiv (2^(min (63:Int).toNat IntKind.i64.bits)))+(i64.wrap c_2.1.2.1))))) t11 t12 (i64.wrap (t13+1)) r2
 else none
 else k0 lo hi top t11 t12 t13 (decide (t13<t12)) r2
def ym.l4 {R:Type} (F:Nat) (k0:ym.l4.K0 R):Nat->ym.l4.T R
 | 0,_,_,_,_,_,_,_=>none
 | fu+1,lo,hi,top,t11,t12,t13,r2=>ym.l4.body F k0 (ym.l4 F k0 fu) lo hi top t11 t12 t13 r2
def ym.sh (F:Nat) (list:List zf.T):Option ym.sg.R :=
 ym.l4 F (fun lo3 hi3 top3 t113 t123 t133 t143 r23=>bif (top3 != ((i64.wrap hi3).fdiv (2^(min (63:Int).toNat IntKind.i64.bits)))) then some (((0,0),10,()),())
 else some (((i64.wrap hi3,lo3),0,()),())) F 0 0 0 list (list.length:Int) 0 (0,0)
def ym.sp (F:Nat):TA ym.sg.args->Option ym.sg.R:=fun x=>ym.sh F x.1
@[reducible] def zy.sg:Sig:={args:=[.io yv [],.d (.g zI),.d (.g zr),.d (.b zf)],res:=[.g zf]}
def zy.j18 {R:Type} (F:Nat) (k0:yv.T->zf.T->Option R) (kids:List zf.T) (m:yv.T) (n:zr.T) (r8:zf.T):Option R :=
 oB (ym.sh F kids) fun c_13 =>
 oB (zY.sh F m c_13.1.1 c_13.1.2.1) fun c_14 =>
 bif (n.1==11) then oB (yy.sh F n.2.1) fun c_15 =>
 oB (z7.sh F c_14.2.1 c_14.1.1 c_15.1.1) fun c_16 =>
 k0 c_16.2.1 c_16.1.1
 else bif (n.1==12) then oB (yy.sh F n.2.1) fun c_17 =>
 oB (z7.sh F c_14.2.1 c_14.1.1 c_17.1.1) fun c_18 =>
 k0 c_18.2.1 c_18.1.1
 else bif (n.1==16) then oB (yy.sh F n.2.1) fun c_19 =>
 oB (z7.sh F c_14.2.1 c_14.1.1 c_19.1.1) fun c_20 =>
 k0 c_20.2.1 c_20.1.1
 else k0 c_14.2.1 c_14.1.1
def zy.sh (F:Nat) (m:yv.T) (p:zI.T) (n:zr.T) (kids:List zf.T):Option zy.sg.R :=
 bif (n.1==1) then oB (yy.sh F n.2.1) fun c_1 =>
 some ((c_1.1.1,()),(m,()))
 else bif (n.1==2) then oB (yy.sh F n.2.1) fun c_2 =>
 oB (zW.sh F m c_2.1.1 m.1) fun c_3 =>
 some ((c_3.1.1,()),(c_3.2.1,()))
 else bif (n.1==3) then oB (yy.sh F 1099511627776) fun c_4 =>
 some ((c_4.1.1,()),(m,()))
 else bif (n.1==4) then oB (yy.sh F 1099511627776) fun c_5 =>
 bif idx n.2.1 p.2.1.length then oB (yy.sh F (get xd p.2.1 n.2.1.toNat).2) fun c_6 =>
 oB (xw.sh F c_5.1.1 c_6.1.1 1) fun c_7 =>
 oB (zY.sh F m c_7.1.1 c_7.1.2.1) fun c_8 =>
 some ((c_8.1.1,()),(c_8.2.1,()))
 else none
 else bif (n.1==8) then bif idx 0 kids.length then bif idx 1 kids.length then oB (zW.sh F m (get zf kids 0) (get zf kids 1)) fun c_9 =>
 some ((c_9.1.1,()),(c_9.2.1,()))
 else none
 else none
 else bif (n.1==13) then bif (n.1==13) then bif idx 0 kids.length then oB (zp.sh F m (get zf kids 0) n.2.2.2.2.1) fun c_10 =>
 some ((c_10.1.1,()),(c_10.2.1,()))
 else none
 else bif (n.1==15) then bif idx 0 kids.length then oB (yy.sh F 10000) fun c_11 =>
 oB (zW.sh F m (get zf kids 0) c_11.1.1) fun c_12 =>
 bif idx 0 kids.length then some (((get zf kids 0),()),(c_12.2.1,()))
 else none
 else none
 else zy.j18 F (fun m21 r821=>some ((r821,()),(m21,()))) kids m n (0,0)
 else bif (n.1==14) then bif idx 0 kids.length then oB (zp.sh F m (get zf kids 0) n.2.2.2.2.1) fun c_22 =>
 some ((c_22.1.1,()),(c_22.2.1,()))
 else none
 else bif (n.1==15) then bif idx 0 kids.length then oB (yy.sh F 10000) fun c_23 =>
 oB (zW.sh F m (get zf kids 0) c_23.1.1) fun c_24 =>
 bif idx 0 kids.length then some (((get zf kids 0),()),(c_24.2.1,()))
 else none
 else none
 else zy.j18 F (fun m25 r825=>some ((r825,()),(m25,()))) kids m n (0,0)
def zy.sp (F:Nat):TA zy.sg.args->Option zy.sg.R:=fun x=>zy.sh F x.1 x.2.1 x.2.2.1 x.2.2.2.1
@[reducible] def xN.sg:Sig:={args:=[.d (.g zf),.d (.g zf)],res:=[.c (.int .i64)]}
def xN.sh (F:Nat) (a:zf.T) (b:zf.T):Option xN.sg.R :=
 bif ((a.1==b.1)&&((a.2==b.2)&&true)) then some ((0,()),())
 else bif decide (a.1<b.1) then bif decide (a.1<b.1) then some (((-1),()),())
 else some ((1,()),())
 else bif (a.1==b.1) then bif decide (a.2<b.2) then some (((-1),()),())
 else some ((1,()),())
 else some ((1,()),())
def xN.sp (F:Nat):TA xN.sg.args->Option xN.sg.R:=fun x=>xN.sh F x.1 x.2.1
@[reducible] def y9.sg:Sig:={args:=[.d (.g zr),.d (.g zf)],res:=[.c .bool]}
def y9.sh (F:Nat) (n:zr.T) (mag:zf.T):Option y9.sg.R :=
 bif (n.1==15) then oB (yy.sh F 10000) fun c_1 =>
 oB (yz.sh F mag c_1.1.1) fun c_2 =>
 oB (xN.sh F c_2.1.1 (72057594037927936,0)) fun c_3 =>
 some ((decide (c_3.1.1>0),()),())
 else oB (xN.sh F mag (72057594037927936,0)) fun c_4 =>
 some ((decide (c_4.1.1>0),()),())
def y9.sp (F:Nat):TA y9.sg.args->Option y9.sg.R:=fun x=>y9.sh F x.1 x.2.1
@[reducible] def zk.sg:Sig:={args:=[.d (.g zI),.d (.g zf)],res:=[.c (.sl zf),.c (.int .i64)]}
abbrev zk.l4.K0 (R:Type):Type:=(List zf.T)->Int->Option R
abbrev zk.l4.K1 (R:Type):Type:=(List zr.T)->Int->Int->Bool->zI.T->yv.T->(List zf.T)->(List zf.T)->Option R
abbrev zk.l4.T (R:Type):Type:=(List zr.T)->Int->Int->zI.T->yv.T->(List zf.T)->(List zf.T)->Option R
def zk.l4.body {R:Type} (F:Nat) (k0:zk.l4.K0 R) (k1:zk.l4.K1 R) (rec:zk.l4.T R) (t17:List zr.T) (t18:Int) (t19:Int) (p:zI.T) (m:yv.T) (mags:List zf.T) (pile:List zf.T):Option R :=
 bif decide (t19<t18) then bif idx t19 t17.length then oB (zQ.sh F (get zr t17 t19.toNat)) fun c_1 =>
 bif (zG pile.length (some (i64.wrap ((pile.length:Int)-c_1.1.1))) none).1 then oB (zy.sh F m p (get zr t17 t19.toNat) ((List.take (zG pile.length (some (i64.wrap ((pile.length:Int)-c_1.1.1))) none).2.2 pile).drop (zG pile.length (some (i64.wrap ((pile.length:Int)-c_1.1.1))) none).2.1)) fun c_2 =>
 bif c_2.2.1.2 then k0 ([]) t19
 else oB (y9.sh F (get zr t17 t19.toNat) c_2.1.1) fun c_3 =>
 bif c_3.1.1 then k0 ([]) t19
 else bif Nat.ble (mags.length+([c_2.1.1]:List zf.T).length) xp then bif (zG pile.length none (some (i64.wrap ((pile.length:Int)-c_1.1.1)))).1 then bif Nat.ble ((zG pile.length none (some (i64.wrap ((pile.length:Int)-c_1.1.1)))).2.2+([c_2.1.1]:List zf.T).length) xp then rec t17 t18 (i64.wrap (t19+1)) p c_2.2.1 (mags++([c_2.1.1]:List zf.T)) (pile.take (zG pile.length none (some (i64.wrap ((pile.length:Int)-c_1.1.1)))).2.2++([c_2.1.1]:List zf.T))
 else none
 else none
 else none
 else none
 else none
 else k1 t17 t18 t19 (decide (t19<t18)) p m mags pile
def zk.l4 {R:Type} (F:Nat) (k0:zk.l4.K0 R) (k1:zk.l4.K1 R):Nat->zk.l4.T R
 | 0,_,_,_,_,_,_,_=>none
 | fu+1,t17,t18,t19,p,m,mags,pile=>zk.l4.body F k0 k1 (zk.l4 F k0 k1 fu) t17 t18 t19 p m mags pile
def zk.j13 {R:Type} (F:Nat) (k0:(List zf.T)->Int->Option R) (mags:List zf.T):Option R :=
 k0 mags (-1)
def zk.sh (F:Nat) (p:zI.T) (unit:zf.T):Option zk.sg.R :=
 zk.l4 F (fun r44 r54=>some ((r44,r54,()),())) (fun t175 t185 t195 t205 p5 m5 mags5 pile5=>zk.j13 F (fun r46 r56=>some ((r46,r56,()),())) mags5) F p.2.2.2 (p.2.2.2.length:Int) 0 p (unit,false) ([]) ([])
def zk.sp (F:Nat):TA zk.sg.args->Option zk.sg.R:=fun x=>zk.sh F x.1 x.2.1
@[reducible] def yV.sg:Sig:={args:=[.d (.g zI)],res:=[.g zf,.c (.int .i64),.c (.int .i64)]}
def yV.sh (F:Nat) (p:zI.T):Option yV.sg.R :=
 oB (zj.sh F p) fun c_1 =>
 bif (c_1.1.2.2.1 != 0) then some (((0,0),c_1.1.2.1,c_1.1.2.2.1,()),())
 else oB (zE.sh F p) fun c_2 =>
 bif decide (c_2.1.1>6) then some (((0,0),i64.wrap ((p.2.2.2.length:Int)-1),90,()),())
 else oB (zP.sh F c_2.1.1) fun c_3 =>
 oB (zk.sh F p c_3.1.1) fun c_4 =>
 bif decide (c_4.1.2.1>=0) then some (((0,0),c_4.1.2.1,90,()),())
 else some ((c_3.1.1,0,c_3.1.2.1,()),())
def yV.sp (F:Nat):TA yV.sg.args->Option yV.sg.R:=fun x=>yV.sh F x.1
@[reducible] def yh.sg:Sig:={args:=[.io (.pair zI (.pair (.sl (.int .i64)) (.pair zf (.pair zi (.sl .fnb))))) [0,0,0,0,0,0,0,0,0,1,1,1,1,2]],res:=[.c (.sl .fnb)]}
def yh.sh (F:Nat) (m:zI.T×(List Int)×zf.T×zi.T×List Nat):Option yh.sg.R :=
 some ((([Ty.dflt .fnb,x5,wd,xi,xi,yH,yH,yH,yH,xn,xn,xL,xL,xq,xq,wq,wk]:List Nat),()),(m,()))
def yh.sp (F:Nat):TA yh.sg.args->Option yh.sg.R:=fun x=>yh.sh F x.1
@[reducible] def zx.sg:Sig:={args:=[.ios (.int .i64)],res:=[]}
abbrev zx.l1.K0 (R:Type):Type:=Int->Int->Bool->(List Int)->Option R
abbrev zx.l1.T (R:Type):Type:=Int->Int->(List Int)->Option R
def zx.l1.body {R:Type} (F:Nat) (k0:zx.l1.K0 R) (rec:zx.l1.T R) (i:Int) (j:Int) (s:List Int):Option R :=
 bif decide (i<j) then bif idx j s.length then bif idx i s.length then bif idx i s.length then bif idx j ((s.set i.toNat (get (.int .i64) s j.toNat)).length) then rec (i64.wrap (i+1)) (i64.wrap (j-1)) ((s.set i.toNat (get (.int .i64) s j.toNat)).set j.toNat (get (.int .i64) s i.toNat))
 else none
 else none
 else none
 else none
 else k0 i j (decide (i<j)) s
def zx.l1 {R:Type} (F:Nat) (k0:zx.l1.K0 R):Nat->zx.l1.T R
 | 0,_,_,_=>none
 | fu+1,i,j,s=>zx.l1.body F k0 (zx.l1 F k0 fu) i j s
def zx.sh (F:Nat) (s:List Int):Option zx.sg.R :=
 zx.l1 F (fun i1 j1 t91 s1=>some ((()),(s1,()))) F 0 (i64.wrap ((s.length:Int)-1)) s
def zx.sp (F:Nat):TA zx.sg.args->Option zx.sg.R:=fun x=>zx.sh F x.1
@[reducible] def za.sg:Sig:={args:=[.io (.pair zI (.pair (.sl (.int .i64)) (.pair zf (.pair zi (.sl .fnb))))) [0,0,0,0,0,0,0,0,0,1,1,1,1,2],.d (.c (.int .i64))],res:=[]}
abbrev za.M:Type:=(zI.T×(List Int)×zf.T×zi.T×List Nat)->Int->Option za.sg.R
@[reducible] def zn.sg:Sig:={args:=[.io (.pair zI (.pair (.sl (.int .i64)) (.pair zf (.pair zi (.sl .fnb))))) [0,0,0,0,0,0,0,0,0,1,1,1,1,2],.d (.b (.int .i64))],res:=[]}
abbrev zn.l1.K0 (R:Type):Type:=(List Int)->Int->Int->Bool->(zI.T×(List Int)×zf.T×zi.T×List Nat)->(List Int)->(List zf.T)->(List (List zo.T))->(List zM.T)->Option R
abbrev zn.l1.T (R:Type):Type:=(List Int)->Int->Int->(zI.T×(List Int)×zf.T×zi.T×List Nat)->(List Int)->(List zf.T)->(List (List zo.T))->(List zM.T)->Option R
def zn.l1.body {R:Type} (me:za.M) (F:Nat) (k0:zn.l1.K0 R) (rec:zn.l1.T R) (t6:List Int) (t7:Int) (t8:Int) (m:zI.T×(List Int)×zf.T×zi.T×List Nat) (m_9:List Int) (m_10:List zf.T) (m_11:List (List zo.T)) (m_12:List zM.T):Option R :=
 bif decide (t8<t7) then bif idx t8 t6.length then oB (me (m.1,m.2.1,m.2.2.1,(m.2.2.2.1.1,m.2.2.2.1.2.1,m_9,m_10,m_11,m_12),m.2.2.2.2) (get (.int .i64) t6 t8.toNat)) fun c_1 =>
 rec t6 t7 (i64.wrap (t8+1)) (c_1.2.1.1,c_1.2.1.2.1,c_1.2.1.2.2.1,(c_1.2.1.2.2.2.1.1,c_1.2.1.2.2.2.1.2.1,[],[],[],[]),c_1.2.1.2.2.2.2) c_1.2.1.2.2.2.1.2.2.1 c_1.2.1.2.2.2.1.2.2.2.1 c_1.2.1.2.2.2.1.2.2.2.2.1 c_1.2.1.2.2.2.1.2.2.2.2.2
 else none
 else k0 t6 t7 t8 (decide (t8<t7)) (m.1,m.2.1,m.2.2.1,(m.2.2.2.1.1,m.2.2.2.1.2.1,[],[],[],[]),m.2.2.2.2) m_9 m_10 m_11 m_12
def zn.l1 {R:Type} (me:za.M) (F:Nat) (k0:zn.l1.K0 R):Nat->zn.l1.T R
 | 0,_,_,_,_,_,_,_,_=>none
 | fu+1,t6,t7,t8,m,m_9,m_10,m_11,m_12=>zn.l1.body me F k0 (zn.l1 me F k0 fu) t6 t7 t8 m m_9 m_10 m_11 m_12
def zn.sh (me:za.M) (F:Nat) (m:zI.T×(List Int)×zf.T×zi.T×List Nat) (kids:List Int):Option zn.sg.R :=
 zn.l1 me F (fun t62 t72 t82 t92 m2 m_92 m_102 m_112 m_122=>some ((()),((m2.1,m2.2.1,m2.2.2.1,(m2.2.2.2.1.1,m2.2.2.2.1.2.1,m_92,m_102,m_112,m_122),m2.2.2.2.2),()))) F kids (kids.length:Int) 0 (m.1,m.2.1,m.2.2.1,(m.2.2.2.1.1,m.2.2.2.1.2.1,[],[],[],[]),m.2.2.2.2) m.2.2.2.1.2.2.1 m.2.2.2.1.2.2.2.1 m.2.2.2.1.2.2.2.2.1 m.2.2.2.1.2.2.2.2.2
def zn.sp (me:za.M) (F:Nat):TA zn.sg.args->Option zn.sg.R:=fun x=>zn.sh me F x.1 x.2.1
@[reducible] def zu.sg:Sig:={args:=[.d (.b zo),.d (.b zo)],res:=[.c .bool]}
abbrev zu.l4.K1 (R:Type):Type:=(List zo.T)->(List zo.T)->Int->Int->Bool->Option R
abbrev zu.l4.T (R:Type):Type:=(List zo.T)->(List zo.T)->Int->Int->Option R
def zu.l4.body {R:Type} (F:Nat) (k0:Bool->Option R) (k1:zu.l4.K1 R) (rec:zu.l4.T R) (s1:List zo.T) (s2:List zo.T) (t12:Int) (t13:Int):Option R :=
 bif decide (t13<t12) then bif idx t13 s1.length then bif idx t13 s2.length then bif !(((get zo s1 t13.toNat).1==(get zo s2 t13.toNat).1)&&(((get zo s1 t13.toNat).2==(get zo s2 t13.toNat).2)&&true)) then k0 false
 else rec s1 s2 t12 (i64.wrap (t13+1))
 else none
 else none
 else k1 s1 s2 t12 t13 (decide (t13<t12))
def zu.l4 {R:Type} (F:Nat) (k0:Bool->Option R) (k1:zu.l4.K1 R):Nat->zu.l4.T R
 | 0,_,_,_,_=>none
 | fu+1,s1,s2,t12,t13=>zu.l4.body F k0 k1 (zu.l4 F k0 k1 fu) s1 s2 t12 t13
def zu.sh (F:Nat) (s1:List zo.T) (s2:List zo.T):Option zu.sg.R :=
 bif ((s1.length:Int) != (s2.length:Int)) then some ((false,()),())
 else zu.l4 F (fun r41=>some ((r41,()),())) (fun s12 s22 t122 t132 t142=>some ((true,()),())) F s1 s2 (s1.length:Int) 0
def zu.sp (F:Nat):TA zu.sg.args->Option zu.sg.R:=fun x=>zu.sh F x.1 x.2.1
@[reducible] def yj.sg:Sig:={args:=[.d (.b zo),.d (.p (.bsl zo))],res:=[.c .bool]}
def yj.sh (F:Nat) (l:List zo.T) (t1:List zo.T):Option yj.sg.R :=
 oB (zu.sh F l t1) fun c_1 =>
 some ((c_1.1.1,()),())
def yj.sp (F:Nat):TA yj.sg.args->Option yj.sg.R:=fun x=>yj.sh F x.1 x.2.1
@[reducible] def zg.sg:Sig:={args:=[.d (.b (.sl zo)),.d (.cl (.bsl zo))],res:=[.c (.int .i64)]}
@[reducible] def zg.ds16:Sig:={args:=[.d (.b zo),.d (.p (.bsl zo))],res:=[.c .bool]}
def zg.d16 (F:Nat):Nat->TA zg.ds16.args->Option zg.ds16.R:=mkT zg.ds16 [(tG,yj.sp F)]
abbrev zg.l2.K1 (R:Type):Type:=(List (List zo.T))->(Nat×(List zo.T))->Int->Int->Bool->Option R
abbrev zg.l2.T (R:Type):Type:=(List (List zo.T))->(Nat×(List zo.T))->Int->Int->Option R
def zg.l2.body {R:Type} (F:Nat) (k0:Int->Option R) (k1:zg.l2.K1 R) (rec:zg.l2.T R) (s:List (List zo.T)) (f:Nat×(List zo.T)) (t7:Int) (t8:Int):Option R :=
 bif decide (t8<t7) then bif idx t8 s.length then oB (zg.d16 F (f.1+1) (get (.sl zo) s t8.toNat,f.2,())) fun c_1 =>
 bif c_1.1.1 then k0 t8
 else rec s (f.1,f.2) t7 (i64.wrap (t8+1))
 else none
 else k1 s (f.1,f.2) t7 t8 (decide (t8<t7))
def zg.l2 {R:Type} (F:Nat) (k0:Int->Option R) (k1:zg.l2.K1 R):Nat->zg.l2.T R
 | 0,_,_,_,_=>none
 | fu+1,s,f,t7,t8=>zg.l2.body F k0 k1 (zg.l2 F k0 k1 fu) s f t7 t8
def zg.sh (F:Nat) (s:List (List zo.T)) (f:Nat×(List zo.T)):Option zg.sg.R :=
 zg.l2 F (fun r42=>some ((r42,()),())) (fun s3 f3 t73 t83 t93=>some (((-1),()),())) F s (f.1,f.2) (s.length:Int) 0
def zg.sp (F:Nat):TA zg.sg.args->Option zg.sg.R:=fun x=>zg.sh F x.1 x.2.1
@[reducible] def yP.sg:Sig:=qq zo
def yP.sh (_F:Nat) (l:List zo.T):Option yP.sg.R:=XJ zo l
def yP.sp (F:Nat):TA yP.sg.args->Option yP.sg.R:=fun x=>yP.sh F x.1
@[reducible] def zX.sg:Sig:={args:=[.io (.pair zI (.pair (.sl (.int .i64)) (.pair zf (.pair zi (.sl .fnb))))) [0,0,0,0,0,0,0,0,0,1,1,1,1,2],.d (.b zo)],res:=[.c (.int .i64)]}
def zX.sh (F:Nat) (m:zI.T×(List Int)×zf.T×zi.T×List Nat) (tiers:List zo.T):Option zX.sg.R :=
 oB (zg.sh F m.2.2.2.1.2.2.2.2.1 (xV,tiers)) fun c_1 =>
 bif decide (c_1.1.1>=0) then some ((c_1.1.1,()),(m,()))
 else oB (yP.sh F tiers) fun c_2 =>
 bif Nat.ble (m.2.2.2.1.2.2.2.2.1.length+([c_2.1.1]:List (List zo.T)).length) xp then some ((i64.wrap (((m.2.2.2.1.2.2.2.2.1++([c_2.1.1]:List (List zo.T))).length:Int)-1),()),((m.1,m.2.1,m.2.2.1,(m.2.2.2.1.1,m.2.2.2.1.2.1,m.2.2.2.1.2.2.1,m.2.2.2.1.2.2.2.1,m.2.2.2.1.2.2.2.2.1++([c_2.1.1]:List (List zo.T)),m.2.2.2.1.2.2.2.2.2),m.2.2.2.2),()))
 else none
def zX.sp (F:Nat):TA zX.sg.args->Option zX.sg.R:=fun x=>zX.sh F x.1 x.2.1
@[reducible] def zw.sg:Sig:={args:=[.io (.pair zI (.pair (.sl (.int .i64)) (.pair zf (.pair zi (.sl .fnb))))) [0,0,0,0,0,0,0,0,0,1,1,1,1,2],.d (.c (.int .i64)),.d (.c (.int .i64))],res:=[]}
def zw.sh (F:Nat) (m:zI.T×(List Int)×zf.T×zi.T×List Nat) (op:Int) (arg:Int):Option zw.sg.R :=
 bif Nat.ble (m.2.2.2.1.2.2.2.2.2.length+([(op,arg,0)]:List zM.T).length) xp then some ((()),((m.1,m.2.1,m.2.2.1,(m.2.2.2.1.1,m.2.2.2.1.2.1,m.2.2.2.1.2.2.1,m.2.2.2.1.2.2.2.1,m.2.2.2.1.2.2.2.2.1,m.2.2.2.1.2.2.2.2.2++([(op,arg,0)]:List zM.T)),m.2.2.2.2),()))
 else none
def zw.sp (F:Nat):TA zw.sg.args->Option zw.sg.R:=fun x=>zw.sh F x.1 x.2.1 x.2.2.1
@[reducible] def z6.sg:Sig:={args:=[.io (.pair zI (.pair (.sl (.int .i64)) (.pair zf (.pair zi (.sl .fnb))))) [0,0,0,0,0,0,0,0,0,1,1,1,1,2],.d (.g zr),.d (.b (.int .i64))],res:=[]}
def z6.sh (me:za.M) (F:Nat) (m:zI.T×(List Int)×zf.T×zi.T×List Nat) (n:zr.T) (kids:List Int):Option z6.sg.R :=
 oB (zn.sh me F m kids) fun c_1 =>
 bif (n.1==14) then oB (zX.sh F c_1.2.1 n.2.2.2.2.1) fun c_2 =>
 oB (zw.sh F c_2.2.1 13 c_2.1.1) fun c_3 =>
 some ((()),(c_3.2.1,()))
 else oB (zX.sh F c_1.2.1 n.2.2.2.2.1) fun c_4 =>
 oB (zw.sh F c_4.2.1 12 c_4.1.1) fun c_5 =>
 some ((()),(c_5.2.1,()))
def z6.sp (me:za.M) (F:Nat):TA z6.sg.args->Option z6.sg.R:=fun x=>z6.sh me F x.1 x.2.1 x.2.2.1
@[reducible] def zq.sg:Sig:={args:=[.d (.b zf),.d (.g zf)],res:=[.c (.int .i64)]}
abbrev zq.l2.K1 (R:Type):Type:=(List zf.T)->Int->Int->Bool->zf.T->Option R
abbrev zq.l2.T (R:Type):Type:=(List zf.T)->Int->Int->zf.T->Option R
def zq.l2.body {R:Type} (F:Nat) (k0:Int->Option R) (k1:zq.l2.K1 R) (rec:zq.l2.T R) (s:List zf.T) (t7:Int) (t8:Int) (v:zf.T):Option R :=
 bif decide (t8<t7) then bif idx t8 s.length then bif ((v.1==(get zf s t8.toNat).1)&&((v.2==(get zf s t8.toNat).2)&&true)) then k0 t8
 else rec s t7 (i64.wrap (t8+1)) v
 else none
 else k1 s t7 t8 (decide (t8<t7)) v
def zq.l2 {R:Type} (F:Nat) (k0:Int->Option R) (k1:zq.l2.K1 R):Nat->zq.l2.T R
 | 0,_,_,_,_=>none
 | fu+1,s,t7,t8,v=>zq.l2.body F k0 k1 (zq.l2 F k0 k1 fu) s t7 t8 v
def zq.sh (F:Nat) (s:List zf.T) (v:zf.T):Option zq.sg.R :=
 zq.l2 F (fun r41=>some ((r41,()),())) (fun s2 t72 t82 t92 v2=>some (((-1),()),())) F s (s.length:Int) 0 v
def zq.sp (F:Nat):TA zq.sg.args->Option zq.sg.R:=fun x=>zq.sh F x.1 x.2.1
@[reducible] def zF.sg:Sig:={args:=[.io (.pair zI (.pair (.sl (.int .i64)) (.pair zf (.pair zi (.sl .fnb))))) [0,0,0,0,0,0,0,0,0,1,1,1,1,2],.d (.g zf)],res:=[.c (.int .i64)]}
def zF.sh (F:Nat) (m:zI.T×(List Int)×zf.T×zi.T×List Nat) (w:zf.T):Option zF.sg.R :=
 oB (zq.sh F m.2.2.2.1.2.2.2.1 w) fun c_1 =>
 bif decide (c_1.1.1>=0) then some ((c_1.1.1,()),(m,()))
 else bif Nat.ble (m.2.2.2.1.2.2.2.1.length+([w]:List zf.T).length) xp then some ((i64.wrap (((m.2.2.2.1.2.2.2.1++([w]:List zf.T)).length:Int)-1),()),((m.1,m.2.1,m.2.2.1,(m.2.2.2.1.1,m.2.2.2.1.2.1,m.2.2.2.1.2.2.1,m.2.2.2.1.2.2.2.1++([w]:List zf.T),m.2.2.2.1.2.2.2.2),m.2.2.2.2),()))
 else none
def zF.sp (F:Nat):TA zF.sg.args->Option zF.sg.R:=fun x=>zF.sh F x.1 x.2.1
@[reducible] def yu.sg:Sig:={args:=[.io (.pair zI (.pair (.sl (.int .i64)) (.pair zf (.pair zi (.sl .fnb))))) [0,0,0,0,0,0,0,0,0,1,1,1,1,2],.d (.g zr),.d (.b (.int .i64))],res:=[]}
def yu.sh (me:za.M) (F:Nat) (m:zI.T×(List Int)×zf.T×zi.T×List Nat) (n:zr.T) (kids:List Int):Option yu.sg.R :=
 oB (zn.sh me F m kids) fun c_1 =>
 bif (n.1==12) then oB (yy.sh F n.2.1) fun c_2 =>
 oB (zF.sh F c_1.2.1 c_2.1.1) fun c_3 =>
 oB (zw.sh F c_3.2.1 11 c_3.1.1) fun c_4 =>
 some ((()),(c_4.2.1,()))
 else oB (yy.sh F n.2.1) fun c_5 =>
 oB (zF.sh F c_1.2.1 c_5.1.1) fun c_6 =>
 oB (zw.sh F c_6.2.1 10 c_6.1.1) fun c_7 =>
 some ((()),(c_7.2.1,()))
def yu.sp (me:za.M) (F:Nat):TA yu.sg.args->Option yu.sg.R:=fun x=>yu.sh me F x.1 x.2.1 x.2.2.1
@[reducible] def yi.sg:Sig:={args:=[.io (.pair zI (.pair (.sl (.int .i64)) (.pair zf (.pair zi (.sl .fnb))))) [0,0,0,0,0,0,0,0,0,1,1,1,1,2],.d (.g zr),.d (.b (.int .i64))],res:=[]}
def yi.sh (F:Nat) (m:zI.T×(List Int)×zf.T×zi.T×List Nat) (n:zr.T) (t2:List Int):Option yi.sg.R :=
 oB (yy.sh F n.2.1) fun c_1 =>
 oB (yz.sh F c_1.1.1 m.2.2.1) fun c_2 =>
 oB (zF.sh F m c_2.1.1) fun c_3 =>
 oB (zw.sh F c_3.2.1 1 c_3.1.1) fun c_4 =>
 some ((()),(c_4.2.1,()))
def yi.sp (F:Nat):TA yi.sg.args->Option yi.sg.R:=fun x=>yi.sh F x.1 x.2.1 x.2.2.1
@[reducible] def yb.sg:Sig:={args:=[.io (.pair zI (.pair (.sl (.int .i64)) (.pair zf (.pair zi (.sl .fnb))))) [0,0,0,0,0,0,0,0,0,1,1,1,1,2],.d (.g zr),.d (.b (.int .i64))],res:=[]}
def yb.sh (F:Nat) (m:zI.T×(List Int)×zf.T×zi.T×List Nat) (n:zr.T) (t2:List Int):Option yb.sg.R :=
 oB (yy.sh F n.2.1) fun c_1 =>
 oB (zF.sh F m c_1.1.1) fun c_2 =>
 oB (zw.sh F c_2.2.1 1 c_2.1.1) fun c_3 =>
 some ((()),(c_3.2.1,()))
def yb.sp (F:Nat):TA yb.sg.args->Option yb.sg.R:=fun x=>yb.sh F x.1 x.2.1 x.2.2.1
@[reducible] def yA.sg:Sig:={args:=[.io (.pair zI (.pair (.sl (.int .i64)) (.pair zf (.pair zi (.sl .fnb))))) [0,0,0,0,0,0,0,0,0,1,1,1,1,2],.d (.g zr),.d (.b (.int .i64))],res:=[]}
def yA.sh (me:za.M) (F:Nat) (m:zI.T×(List Int)×zf.T×zi.T×List Nat) (n:zr.T) (kids:List Int):Option yA.sg.R :=
 oB (zn.sh me F m kids) fun c_1 =>
 oB (zw.sh F c_1.2.1 14 n.2.1) fun c_2 =>
 some ((()),(c_2.2.1,()))
def yA.sp (me:za.M) (F:Nat):TA yA.sg.args->Option yA.sg.R:=fun x=>yA.sh me F x.1 x.2.1 x.2.2.1
@[reducible] def zO.sg:Sig:={args:=[.io (.pair zI (.pair (.sl (.int .i64)) (.pair zf (.pair zi (.sl .fnb))))) [0,0,0,0,0,0,0,0,0,1,1,1,1,2],.d (.g zr),.d (.b (.int .i64))],res:=[]}
def zO.sh (F:Nat) (m:zI.T×(List Int)×zf.T×zi.T×List Nat) (n:zr.T) (t2:List Int):Option zO.sg.R :=
 bif (n.1==4) then oB (zw.sh F m 3 n.2.1) fun c_1 =>
 some ((()),(c_1.2.1,()))
 else oB (zw.sh F m 2 n.2.1) fun c_2 =>
 some ((()),(c_2.2.1,()))
def zO.sp (F:Nat):TA zO.sg.args->Option zO.sg.R:=fun x=>zO.sh F x.1 x.2.1 x.2.2.1
@[reducible] def ze.sg:Sig:={args:=[.io (.pair zI (.pair (.sl (.int .i64)) (.pair zf (.pair zi (.sl .fnb))))) [0,0,0,0,0,0,0,0,0,1,1,1,1,2],.d (.g zr),.d (.b (.int .i64))],res:=[]}
abbrev ze.l6.K0 (R:Type):Type:=Int->(List Int)->Int->Int->Bool->(zI.T×(List Int)×zf.T×zi.T×List Nat)->(List Int)->(List zf.T)->(List (List zo.T))->(List zM.T)->Option R
abbrev ze.l6.T (R:Type):Type:=Int->(List Int)->Int->Int->(zI.T×(List Int)×zf.T×zi.T×List Nat)->(List Int)->(List zf.T)->(List (List zo.T))->(List zM.T)->Option R
def ze.l6.body {R:Type} (me:za.M) (F:Nat) (k0:ze.l6.K0 R) (rec:ze.l6.T R) (op:Int) (t18:List Int) (t19:Int) (t20:Int) (m:zI.T×(List Int)×zf.T×zi.T×List Nat) (m_9:List Int) (m_10:List zf.T) (m_11:List (List zo.T)) (m_12:List zM.T):Option R :=
 bif decide (t20<t19) then bif idx t20 t18.length then oB (me (m.1,m.2.1,m.2.2.1,(m.2.2.2.1.1,m.2.2.2.1.2.1,m_9,m_10,m_11,m_12),m.2.2.2.2) (get (.int .i64) t18 t20.toNat)) fun c_2 =>
 oB (zw.sh F c_2.2.1 op 0) fun c_3 =>
 rec op t18 t19 (i64.wrap (t20+1)) (c_3.2.1.1,c_3.2.1.2.1,c_3.2.1.2.2.1,(c_3.2.1.2.2.2.1.1,c_3.2.1.2.2.2.1.2.1,[],[],[],[]),c_3.2.1.2.2.2.2) c_3.2.1.2.2.2.1.2.2.1 c_3.2.1.2.2.2.1.2.2.2.1 c_3.2.1.2.2.2.1.2.2.2.2.1 c_3.2.1.2.2.2.1.2.2.2.2.2
 else none
 else k0 op t18 t19 t20 (decide (t20<t19)) (m.1,m.2.1,m.2.2.1,(m.2.2.2.1.1,m.2.2.2.1.2.1,[],[],[],[]),m.2.2.2.2) m_9 m_10 m_11 m_12
def ze.l6 {R:Type} (me:za.M) (F:Nat) (k0:ze.l6.K0 R):Nat->ze.l6.T R
 | 0,_,_,_,_,_,_,_,_,_=>none
 | fu+1,op,t18,t19,t20,m,m_9,m_10,m_11,m_12=>ze.l6.body me F k0 (ze.l6 me F k0 fu) op t18 t19 t20 m m_9 m_10 m_11 m_12
def ze.j4 {R:Type} (me:za.M) (F:Nat) (k0:Int->(List Int)->Int->Int->Bool->(zI.T×(List Int)×zf.T×zi.T×List Nat)->(List Int)->(List zf.T)->(List (List zo.T))->(List zM.T)->Option R) (kids:List Int) (op:Int) (m:zI.T×(List Int)×zf.T×zi.T×List Nat) (m_9:List Int) (m_10:List zf.T) (m_11:List (List zo.T)) (m_12:List zM.T):Option R :=
 bif idx 0 kids.length then oB (me (m.1,m.2.1,m.2.2.1,(m.2.2.2.1.1,m.2.2.2.1.2.1,m_9,m_10,m_11,m_12),m.2.2.2.2) (get (.int .i64) kids 0)) fun c_1 =>
 bif (zG kids.length (some 1) none).1 then ze.l6 me F (fun op4 t184 t194 t204 t214 m4 m_94 m_104 m_114 m_124=>k0 op4 t184 t194 t204 t214 (m4.1,m4.2.1,m4.2.2.1,(m4.2.2.2.1.1,m4.2.2.2.1.2.1,[],[],[],[]),m4.2.2.2.2) m_94 m_104 m_114 m_124) F op ((kids.take (zG kids.length (some 1) none).2.2).drop (zG kids.length (some 1) none).2.1) (((kids.take (zG kids.length (some 1) none).2.2).drop (zG kids.length (some 1) none).2.1).length:Int) 0 (c_1.2.1.1,c_1.2.1.2.1,c_1.2.1.2.2.1,(c_1.2.1.2.2.2.1.1,c_1.2.1.2.2.2.1.2.1,[],[],[],[]),c_1.2.1.2.2.2.2) c_1.2.1.2.2.2.1.2.2.1 c_1.2.1.2.2.2.1.2.2.2.1 c_1.2.1.2.2.2.1.2.2.2.2.1 c_1.2.1.2.2.2.1.2.2.2.2.2
 else none
 else none
def ze.sh (me:za.M) (F:Nat) (m:zI.T×(List Int)×zf.T×zi.T×List Nat) (n:zr.T) (kids:List Int):Option ze.sg.R :=
 bif (n.1==10) then ze.j4 me F (fun op5 t185 t195 t205 t215 m5 m_95 m_105 m_115 m_125=>some ((()),((m5.1,m5.2.1,m5.2.2.1,(m5.2.2.2.1.1,m5.2.2.2.1.2.1,m_95,m_105,m_115,m_125),m5.2.2.2.2),()))) kids 9 (m.1,m.2.1,m.2.2.1,(m.2.2.2.1.1,m.2.2.2.1.2.1,[],[],[],[]),m.2.2.2.2) m.2.2.2.1.2.2.1 m.2.2.2.1.2.2.2.1 m.2.2.2.1.2.2.2.2.1 m.2.2.2.1.2.2.2.2.2
 else ze.j4 me F (fun op6 t186 t196 t206 t216 m6 m_96 m_106 m_116 m_126=>some ((()),((m6.1,m6.2.1,m6.2.2.1,(m6.2.2.2.1.1,m6.2.2.2.1.2.1,m_96,m_106,m_116,m_126),m6.2.2.2.2),()))) kids 8 (m.1,m.2.1,m.2.2.1,(m.2.2.2.1.1,m.2.2.2.1.2.1,[],[],[],[]),m.2.2.2.2) m.2.2.2.1.2.2.1 m.2.2.2.1.2.2.2.1 m.2.2.2.1.2.2.2.2.1 m.2.2.2.1.2.2.2.2.2
def ze.sp (me:za.M) (F:Nat):TA ze.sg.args->Option ze.sg.R:=fun x=>ze.sh me F x.1 x.2.1 x.2.2.1
@[reducible] def zZ.sg:Sig:={args:=[.io (.pair zI (.pair (.sl (.int .i64)) (.pair zf (.pair zi (.sl .fnb))))) [0,0,0,0,0,0,0,0,0,1,1,1,1,2],.d (.g zr),.d (.b (.int .i64))],res:=[]}
def zZ.sh (me:za.M) (F:Nat) (m:zI.T×(List Int)×zf.T×zi.T×List Nat) (n:zr.T) (kids:List Int):Option zZ.sg.R :=
 oB (zn.sh me F m kids) fun c_1 =>
 oB (zw.sh F c_1.2.1 (lkI n.1 [(5,4),(6,5),(7,6),(8,7)]) 0) fun c_2 =>
 some ((()),(c_2.2.1,()))
def zZ.sp (me:za.M) (F:Nat):TA zZ.sg.args->Option zZ.sg.R:=fun x=>zZ.sh me F x.1 x.2.1 x.2.2.1
@[reducible] def yn.sg:Sig:={args:=[.io (.pair zI (.pair (.sl (.int .i64)) (.pair zf (.pair zi (.sl .fnb))))) [0,0,0,0,0,0,0,0,0,1,1,1,1,2],.d (.g zr),.d (.b (.int .i64))],res:=[]}
def yn.sh (me:za.M) (F:Nat) (m:zI.T×(List Int)×zf.T×zi.T×List Nat) (n:zr.T) (kids:List Int):Option yn.sg.R :=
 bif idx 0 kids.length then oB (me m (get (.int .i64) kids 0)) fun c_1 =>
 oB (yy.sh F n.2.1) fun c_2 =>
 oB (zF.sh F c_1.2.1 c_2.1.1) fun c_3 =>
 oB (zw.sh F c_3.2.1 (i64.wrap (15+n.2.2.1)) c_3.1.1) fun c_4 =>
 bif idx 1 kids.length then oB (me c_4.2.1 (get (.int .i64) kids 1)) fun c_5 =>
 oB (zw.sh F c_5.2.1 15 0) fun c_6 =>
 bif idx 2 kids.length then oB (me c_6.2.1 (get (.int .i64) kids 2)) fun c_7 =>
 bif idx (c_1.2.1.2.2.2.1.2.2.2.2.2.length:Int) c_7.2.1.2.2.2.1.2.2.2.2.2.length then bif idx (c_5.2.1.2.2.2.1.2.2.2.2.2.length:Int) ((c_7.2.1.2.2.2.1.2.2.2.2.2.set ((c_1.2.1.2.2.2.1.2.2.2.2.2.length:Int).toNat) ((get zM c_7.2.1.2.2.2.1.2.2.2.2.2 ((c_1.2.1.2.2.2.1.2.2.2.2.2.length:Int).toNat)).1,(get zM c_7.2.1.2.2.2.1.2.2.2.2.2 ((c_1.2.1.2.2.2.1.2.2.2.2.2.length:Int).toNat)).2.1,i64.wrap ((c_5.2.1.2.2.2.1.2.2.2.2.2.length:Int)-(c_1.2.1.2.2.2.1.2.2.2.2.2.length:Int)))).length) then some ((()),((c_7.2.1.1,c_7.2.1.2.1,c_7.2.1.2.2.1,(c_7.2.1.2.2.2.1.1,c_7.2.1.2.2.2.1.2.1,c_7.2.1.2.2.2.1.2.2.1,c_7.2.1.2.2.2.1.2.2.2.1,c_7.2.1.2.2.2.1.2.2.2.2.1,(c_7.2.1.2.2.2.1.2.2.2.2.2.set ((c_1.2.1.2.2.2.1.2.2.2.2.2.length:Int).toNat) ((get zM c_7.2.1.2.2.2.1.2.2.2.2.2 ((c_1.2.1.2.2.2.1.2.2.2.2.2.length:Int).toNat)).1,(get zM c_7.2.1.2.2.2.1.2.2.2.2.2 ((c_1.2.1.2.2.2.1.2.2.2.2.2.length:Int).toNat)).2.1,i64.wrap ((c_5.2.1.2.2.2.1.2.2.2.2.2.length:Int)-(c_1.2.1.2.2.2.1.2.2.2.2.2.length:Int)))).set ((c_5.2.1.2.2.2.1.2.2.2.2.2.length:Int).toNat) ((get zM (c_7.2.1.2.2.2.1.2.2.2.2.2.set ((c_1.2.1.2.2.2.1.2.2.2.2.2.length:Int).toNat) ((get zM c_7.2.1.2.2.2.1.2.2.2.2.2 ((c_1.2.1.2.2.2.1.2.2.2.2.2.length:Int).toNat)).1,(get zM c_7.2.1.2.2.2.1.2.2.2.2.2 ((c_1.2.1.2.2.2.1.2.2.2.2.2.length:Int).toNat)).2.1,i64.wrap ((c_5.2.1.2.2.2.1.2.2.2.2.2.length:Int)-(c_1.2.1.2.2.2.1.2.2.2.2.2.length:Int)))) ((c_5.2.1.2.2.2.1.2.2.2.2.2.length:Int).toNat)).1,(get zM (c_7.2.1.2.2.2.1.2.2.2.2.2.set ((c_1.2.1.2.2.2.1.2.2.2.2.2.length:Int).toNat) ((get zM c_7.2.1.2.2.2.1.2.2.2.2.2 ((c_1.2.1.2.2.2.1.2.2.2.2.2.length:Int).toNat)).1,(get zM c_7.2.1.2.2.2.1.2.2.2.2.2 ((c_1.2.1.2.2.2.1.2.2.2.2.2.length:Int).toNat)).2.1,i64.wrap ((c_5.2.1.2.2.2.1.2.2.2.2.2.length:Int)-(c_1.2.1.2.2.2.1.2.2.2.2.2.length:Int)))) ((c_5.2.1.2.2.2.1.2.2.2.2.2.length:Int).toNat)).2.1,i64.wrap ((i64.wrap (((c_7.2.1.2.2.2.1.2.2.2.2.2.set ((c_1.2.1.2.2.2.1.2.2.2.2.2.length:Int).toNat) ((get zM c_7.2.1.2.2.2.1.2.2.2.2.2 ((c_1.2.1.2.2.2.1.2.2.2.2.2.length:Int).toNat)).1,(get zM c_7.2.1.2.2.2.1.2.2.2.2.2 ((c_1.2.1.2.2.2.1.2.2.2.2.2.length:Int).toNat)).2.1,i64.wrap ((c_5.2.1.2.2.2.1.2.2.2.2.2.length:Int)-(c_1.2.1.2.2.2.1.2.2.2.2.2.length:Int)))).length:Int)-(c_5.2.1.2.2.2.1.2.2.2.2.2.length:Int)))-1))),c_7.2.1.2.2.2.2),()))
 else none
 else none
 else none
 else none
 else none
def yn.sp (me:za.M) (F:Nat):TA yn.sg.args->Option yn.sg.R:=fun x=>yn.sh me F x.1 x.2.1 x.2.2.1
@[reducible] def za.ds50:Sig:={args:=[.io (.pair zI (.pair (.sl (.int .i64)) (.pair zf (.pair zi (.sl .fnb))))) [0,0,0,0,0,0,0,0,0,1,1,1,1,2],.d (.g zr),.d (.b (.int .i64))],res:=[]}
def za.d50 (me:za.M) (F:Nat):Nat->TA za.ds50.args->Option za.ds50.R:=mkT za.ds50 [(xq,z6.sp me F),(xL,yu.sp me F),(wd,yi.sp F),(x5,yb.sp F),(wq,yA.sp me F),(xi,zO.sp F),(xn,ze.sp me F),(yH,zZ.sp me F),(wk,yn.sp me F)]
abbrev za.l2.K0 (R:Type):Type:=Int->Int->Bool->(zI.T×(List Int)×zf.T×zi.T×List Nat)->(List Int)->(List Int)->(List zf.T)->(List (List zo.T))->(List zM.T)->Option R
abbrev za.l2.T (R:Type):Type:=Int->Int->(zI.T×(List Int)×zf.T×zi.T×List Nat)->(List Int)->(List Int)->(List zf.T)->(List (List zo.T))->(List zM.T)->Option R
def za.l2.body {R:Type} (me:za.M) (F:Nat) (k0:za.l2.K0 R) (rec:za.l2.T R) (i:Int) (at_:Int) (m:zI.T×(List Int)×zf.T×zi.T×List Nat) (kids:List Int) (m_9:List Int) (m_10:List zf.T) (m_11:List (List zo.T)) (m_12:List zM.T):Option R :=
 bif idx i m.2.1.length then bif decide (at_>=(get (.int .i64) m.2.1 i.toNat)) then bif Nat.ble (kids.length+([at_]:List Int).length) xp then bif idx at_ m.2.1.length then rec i (i64.wrap ((get (.int .i64) m.2.1 at_.toNat)-1)) (m.1,m.2.1,m.2.2.1,(m.2.2.2.1.1,m.2.2.2.1.2.1,[],[],[],[]),m.2.2.2.2) (kids++([at_]:List Int)) m_9 m_10 m_11 m_12
 else none
 else none
 else k0 i at_ (decide (at_>=(get (.int .i64) m.2.1 i.toNat))) (m.1,m.2.1,m.2.2.1,(m.2.2.2.1.1,m.2.2.2.1.2.1,[],[],[],[]),m.2.2.2.2) kids m_9 m_10 m_11 m_12
 else none
def za.l2 {R:Type} (me:za.M) (F:Nat) (k0:za.l2.K0 R):Nat->za.l2.T R
 | 0,_,_,_,_,_,_,_,_=>none
 | fu+1,i,at_,m,kids,m_9,m_10,m_11,m_12=>za.l2.body me F k0 (za.l2 me F k0 fu) i at_ m kids m_9 m_10 m_11 m_12
def za.sh0 (me:za.M) (F:Nat) (m:zI.T×(List Int)×zf.T×zi.T×List Nat) (i:Int):Option za.sg.R :=
 za.l2 me F (fun i1 at_1 t171 m1 kids1 m_91 m_101 m_111 m_121=>oB (zx.sh F kids1) fun c_2 =>
 bif idx i1 m1.1.2.2.2.length then bif idx (get zr m1.1.2.2.2 i1.toNat).1 m1.2.2.2.2.length then oB (za.d50 me F (get .fnb m1.2.2.2.2 ((get zr m1.1.2.2.2 i1.toNat).1.toNat)) ((m1.1,m1.2.1,m1.2.2.1,(m1.2.2.2.1.1,m1.2.2.2.1.2.1,m_91,m_101,m_111,m_121),m1.2.2.2.2),(get zr m1.1.2.2.2 i1.toNat),c_2.2.1,())) fun c_3 =>
 some ((()),(c_3.2.1,()))
 else none
 else none) F i (i64.wrap (i-1)) (m.1,m.2.1,m.2.2.1,(m.2.2.2.1.1,m.2.2.2.1.2.1,[],[],[],[]),m.2.2.2.2) ([]) m.2.2.2.1.2.2.1 m.2.2.2.1.2.2.2.1 m.2.2.2.1.2.2.2.2.1 m.2.2.2.1.2.2.2.2.2
def za.it (F:Nat):Nat->za.M
 | 0,_,_=>none
 | n+1,a,b=>za.sh0 (za.it F n) F a b
def za.itp (F n:Nat):TA za.sg.args->Option za.sg.R:=fun x=>za.it F n x.1 x.2.1
def za.sh (F:Nat) (a:zI.T×(List Int)×zf.T×zi.T×List Nat) (b:Int):Option za.sg.R:=za.it F F a b
def za.sp (F:Nat):TA za.sg.args->Option za.sg.R:=fun x=>za.sh F x.1 x.2.1
@[reducible] def zL.sg:Sig:={args:=[.d (.g zI)],res:=[.g zi,.c (.int .i64),.c (.int .i64)]}
abbrev zL.l10.K0 (R:Type):Type:=(List xd.T)->Int->Int->Bool->zI.T->zi.T->(zI.T×(List Int)×zf.T×zi.T×List Nat)->(List Int)->(List zf.T)->(List (List zo.T))->(List zM.T)->Option R
abbrev zL.l10.T (R:Type):Type:=(List xd.T)->Int->Int->zI.T->zi.T->(zI.T×(List Int)×zf.T×zi.T×List Nat)->(List Int)->(List zf.T)->(List (List zo.T))->(List zM.T)->Option R
def zL.l10.body {R:Type} (F:Nat) (k0:zL.l10.K0 R) (rec:zL.l10.T R) (t55:List xd.T) (t56:Int) (t57:Int) (p:zI.T) (r2:zi.T) (m:zI.T×(List Int)×zf.T×zi.T×List Nat) (m_9:List Int) (m_10:List zf.T) (m_11:List (List zo.T)) (m_12:List zM.T):Option R :=
 bif decide (t57<t56) then bif idx t57 t55.length then bif Nat.ble (m_9.length+([(get xd t55 t57.toNat).2]:List Int).length) xp then rec t55 t56 (i64.wrap (t57+1)) p r2 (m.1,m.2.1,m.2.2.1,(m.2.2.2.1.1,m.2.2.2.1.2.1,[],[],[],[]),m.2.2.2.2) (m_9++([(get xd t55 t57.toNat).2]:List Int)) m_10 m_11 m_12
 else none
 else none
 else k0 t55 t56 t57 (decide (t57<t56)) p r2 (m.1,m.2.1,m.2.2.1,(m.2.2.2.1.1,m.2.2.2.1.2.1,[],[],[],[]),m.2.2.2.2) m_9 m_10 m_11 m_12
def zL.l10 {R:Type} (F:Nat) (k0:zL.l10.K0 R):Nat->zL.l10.T R
 | 0,_,_,_,_,_,_,_,_,_,_=>none
 | fu+1,t55,t56,t57,p,r2,m,m_9,m_10,m_11,m_12=>zL.l10.body F k0 (zL.l10 F k0 fu) t55 t56 t57 p r2 m m_9 m_10 m_11 m_12
def zL.sh (F:Nat) (p:zI.T):Option zL.sg.R :=
 oB (yV.sh F p) fun c_1 =>
 bif (c_1.1.2.2.1 != 0) then some (((0,0,[],[],[],[]),c_1.1.2.1,c_1.1.2.2.1,()),())
 else oB (yX.sh F p) fun c_2 =>
 oB (yh.sh F (p,c_2.1.1,c_1.1.1,(0,0,[],[],[],[]),[])) fun c_3 =>
 oB (zE.sh F p) fun c_4 =>
 zL.l10 F (fun t555 t565 t575 t585 p5 r25 m5 m_95 m_105 m_115 m_125=>oB (za.sh F (m5.1,m5.2.1,m5.2.2.1,(m5.2.2.2.1.1,m5.2.2.2.1.2.1,m_95,m_105,m_115,m_125),m5.2.2.2.2) (i64.wrap ((p5.2.2.2.length:Int)-1))) fun c_6 =>
 some ((c_6.2.1.2.2.2.1,0,0,()),())) F p.2.1 (p.2.1.length:Int) 0 p (0,0,[],[],[],[]) (c_3.2.1.1,c_3.2.1.2.1,c_3.2.1.2.2.1,(p.2.2.1,c_4.1.1,[],[],[],[]),c_3.1.1) c_3.2.1.2.2.2.1.2.2.1 c_3.2.1.2.2.2.1.2.2.2.1 c_3.2.1.2.2.2.1.2.2.2.2.1 c_3.2.1.2.2.2.1.2.2.2.2.2
def zL.sp (F:Nat):TA zL.sg.args->Option zL.sg.R:=fun x=>zL.sh F x.1
@[reducible] def yw.sg:Sig:={args:=[],res:=[.c .bool]}
def yw.sh (F:Nat):Option yw.sg.R :=
 oB (yI.sh F ([(3,0,0,0,[],0),(2,12,0,0,[],0),(8,0,0,0,[],0),(2,200,0,0,[],0),(6,0,0,0,[],0)]:List zr.T)) fun c_1 =>
 oB (zL.sh F c_1.1.1) fun c_2 =>
 oB (yI.sh F ([(3,0,0,0,[],0)]:List zr.T)) fun c_3 =>
 oB (zL.sh F c_3.1.1) fun c_4 =>
 bif (c_2.1.2.1==0) then bif (c_2.1.2.2.1==0) then bif ((c_2.1.1.2.2.1.length:Int)==1) then bif idx 0 c_2.1.1.2.2.1.length then bif ((get (.int .i64) c_2.1.1.2.2.1 0)==10) then bif decide ((c_2.1.1.2.2.2.2.2.length:Int)>=3) then bif decide ((c_2.1.1.2.2.2.2.2.length:Int)<=40) then bif (c_4.1.2.1==0) then some (((c_4.1.2.2.1==80),()),())
 else some ((false,()),())
 else some ((false,()),())
 else some ((false,()),())
 else some ((false,()),())
 else none
 else some ((false,()),())
 else some ((false,()),())
 else some ((false,()),())
def yw.sp (F:Nat):TA yw.sg.args->Option yw.sg.R:=fun x=>yw.sh F
@[reducible] def xa.sg:Sig:={args:=[.d (.g zI)],res:=[.c (.sl zf),.c (.int .i64),.c (.int .i64)]}
def xa.sh (F:Nat) (p:zI.T):Option xa.sg.R :=
 oB (yV.sh F p) fun c_1 =>
 bif (c_1.1.2.2.1 != 0) then some (([],c_1.1.2.1,c_1.1.2.2.1,()),())
 else oB (zk.sh F p c_1.1.1) fun c_2 =>
 bif decide (c_2.1.2.1>=0) then some (([],c_2.1.2.1,90,()),())
 else some ((c_2.1.1,0,0,()),())
def xa.sp (F:Nat):TA xa.sg.args->Option xa.sg.R:=fun x=>xa.sh F x.1
@[reducible] def zd.sg:Sig:={args:=[.d (.g zi),.d (.g zi)],res:=[.c .bool]}
abbrev zd.l4.K1 (R:Type):Type:=Int->Bool->zi.T->zi.T->Option R
abbrev zd.l4.T (R:Type):Type:=Int->zi.T->zi.T->Option R
def zd.l4.body {R:Type} (F:Nat) (k0:Bool->Option R) (k1:zd.l4.K1 R) (rec:zd.l4.T R) (i:Int) (a:zi.T) (b:zi.T):Option R :=
 bif decide (i<(a.2.2.1.length:Int)) then bif idx i a.2.2.1.length then bif idx i b.2.2.1.length then bif ((get (.int .i64) a.2.2.1 i.toNat) != (get (.int .i64) b.2.2.1 i.toNat)) then k0 false
 else rec (i64.wrap (i+1)) a b
 else none
 else none
 else k1 i (decide (i<(a.2.2.1.length:Int))) a b
def zd.l4 {R:Type} (F:Nat) (k0:Bool->Option R) (k1:zd.l4.K1 R):Nat->zd.l4.T R
 | 0,_,_,_=>none
 | fu+1,i,a,b=>zd.l4.body F k0 k1 (zd.l4 F k0 k1 fu) i a b
abbrev zd.l9.K1 (R:Type):Type:=Int->Bool->zi.T->zi.T->Option R
abbrev zd.l9.T (R:Type):Type:=Int->zi.T->zi.T->Option R
def zd.l9.body {R:Type} (F:Nat) (k0:Bool->Option R) (k1:zd.l9.K1 R) (rec:zd.l9.T R) (i:Int) (a:zi.T) (b:zi.T):Option R :=
 bif decide (i<(a.2.2.2.1.length:Int)) then bif idx i a.2.2.2.1.length then bif idx i b.2.2.2.1.length then bif !(((get zf a.2.2.2.1 i.toNat).1==(get zf b.2.2.2.1 i.toNat).1)&&(((get zf a.2.2.2.1 i.toNat).2==(get zf b.2.2.2.1 i.toNat).2)&&true)) then k0 false
 else rec (i64.wrap (i+1)) a b
 else none
 else none
 else k1 i (decide (i<(a.2.2.2.1.length:Int))) a b
def zd.l9 {R:Type} (F:Nat) (k0:Bool->Option R) (k1:zd.l9.K1 R):Nat->zd.l9.T R
 | 0,_,_,_=>none
 | fu+1,i,a,b=>zd.l9.body F k0 k1 (zd.l9 F k0 k1 fu) i a b
abbrev zd.l19.K1 (R:Type):Type:=Int->Int->Bool->zi.T->zi.T->Option R
abbrev zd.l19.T (R:Type):Type:=Int->Int->zi.T->zi.T->Option R
def zd.l19.body {R:Type} (F:Nat) (k0:Bool->Option R) (k1:zd.l19.K1 R) (rec:zd.l19.T R) (i:Int) (k:Int) (a:zi.T) (b:zi.T):Option R :=
 bif idx i a.2.2.2.2.1.length then bif decide (k<((get (.sl zo) a.2.2.2.2.1 i.toNat).length:Int)) then bif idx i a.2.2.2.2.1.length then bif idx k ((get (.sl zo) a.2.2.2.2.1 i.toNat).length) then bif idx i b.2.2.2.2.1.length then bif idx k ((get (.sl zo) b.2.2.2.2.1 i.toNat).length) then bif !(((get zo (get (.sl zo) a.2.2.2.2.1 i.toNat) k.toNat).1==(get zo (get (.sl zo) b.2.2.2.2.1 i.toNat) k.toNat).1)&&(((get zo (get (.sl zo) a.2.2.2.2.1 i.toNat) k.toNat).2==(get zo (get (.sl zo) b.2.2.2.2.1 i.toNat) k.toNat).2)&&true)) then k0 false
 else rec i (i64.wrap (k+1)) a b
 else none
 else none
 else none
 else none
 else k1 i k (decide (k<((get (.sl zo) a.2.2.2.2.1 i.toNat).length:Int))) a b
 else none
def zd.l19 {R:Type} (F:Nat) (k0:Bool->Option R) (k1:zd.l19.K1 R):Nat->zd.l19.T R
 | 0,_,_,_,_=>none
 | fu+1,i,k,a,b=>zd.l19.body F k0 k1 (zd.l19 F k0 k1 fu) i k a b
abbrev zd.l14.K2 (R:Type):Type:=Int->Bool->zi.T->zi.T->Option R
abbrev zd.l14.T (R:Type):Type:=Int->zi.T->zi.T->Option R
def zd.l14.body {R:Type} (F:Nat) (k0:Bool->Option R) (k1:Bool->Option R) (k2:zd.l14.K2 R) (rec:zd.l14.T R) (i:Int) (a:zi.T) (b:zi.T):Option R :=
 bif decide (i<(a.2.2.2.2.1.length:Int)) then bif idx i a.2.2.2.2.1.length then bif idx i b.2.2.2.2.1.length then bif (((get (.sl zo) a.2.2.2.2.1 i.toNat).length:Int) != ((get (.sl zo) b.2.2.2.2.1 i.toNat).length:Int)) then k0 false
 else zd.l19 F (fun r45=>k1 r45) (fun i6 k6 t1216 a6 b6=>rec (i64.wrap (i6+1)) a6 b6) F i 0 a b
 else none
 else none
 else k2 i (decide (i<(a.2.2.2.2.1.length:Int))) a b
def zd.l14 {R:Type} (F:Nat) (k0:Bool->Option R) (k1:Bool->Option R) (k2:zd.l14.K2 R):Nat->zd.l14.T R
 | 0,_,_,_=>none
 | fu+1,i,a,b=>zd.l14.body F k0 k1 k2 (zd.l14 F k0 k1 k2 fu) i a b
abbrev zd.l24.K1 (R:Type):Type:=Int->Bool->zi.T->zi.T->Option R
abbrev zd.l24.T (R:Type):Type:=Int->zi.T->zi.T->Option R
def zd.l24.body {R:Type} (F:Nat) (k0:Bool->Option R) (k1:zd.l24.K1 R) (rec:zd.l24.T R) (i:Int) (a:zi.T) (b:zi.T):Option R :=
 bif decide (i<(a.2.2.2.2.2.length:Int)) then bif idx i a.2.2.2.2.2.length then bif idx i b.2.2.2.2.2.length then bif !(((get zM a.2.2.2.2.2 i.toNat).1==(get zM b.2.2.2.2.2 i.toNat).1)&&(((get zM a.2.2.2.2.2 i.toNat).2.1==(get zM b.2.2.2.2.2 i.toNat).2.1)&&(((get zM a.2.2.2.2.2 i.toNat).2.2==(get zM b.2.2.2.2.2 i.toNat).2.2)&&true))) then k0 false
 else rec (i64.wrap (i+1)) a b
 else none
 else none
 else k1 i (decide (i<(a.2.2.2.2.2.length:Int))) a b
def zd.l24 {R:Type} (F:Nat) (k0:Bool->Option R) (k1:zd.l24.K1 R):Nat->zd.l24.T R
 | 0,_,_,_=>none
 | fu+1,i,a,b=>zd.l24.body F k0 k1 (zd.l24 F k0 k1 fu) i a b
def zd.sh (F:Nat) (a:zi.T) (b:zi.T):Option zd.sg.R :=
 bif (a.1 != b.1) then some ((false,()),())
 else bif (a.2.1 != b.2.1) then some ((false,()),())
 else bif ((a.2.2.1.length:Int) != (b.2.2.1.length:Int)) then some ((false,()),())
 else bif ((a.2.2.2.1.length:Int) != (b.2.2.2.1.length:Int)) then some ((false,()),())
 else bif ((a.2.2.2.2.1.length:Int) != (b.2.2.2.2.1.length:Int)) then some ((false,()),())
 else bif ((a.2.2.2.2.2.length:Int) != (b.2.2.2.2.2.length:Int)) then some ((false,()),())
 else zd.l4 F (fun r41=>some ((r41,()),())) (fun i2 t622 a2 b2=>zd.l9 F (fun r43=>some ((r43,()),())) (fun i4 t804 a4 b4=>zd.l14 F (fun r47=>some ((r47,()),())) (fun r48=>some ((r48,()),())) (fun i9 t989 a9 b9=>zd.l24 F (fun r410=>some ((r410,()),())) (fun i11 t14511 a11 b11=>some ((true,()),())) F 0 a9 b9) F 0 a4 b4) F 0 a2 b2) F 0 a b
def zd.sp (F:Nat):TA zd.sg.args->Option zd.sg.R:=fun x=>zd.sh F x.1 x.2.1
@[reducible] def zU.sg:Sig:={args:=[.d (.b zo)],res:=[.c .bool]}
abbrev zU.l4.K1 (R:Type):Type:=(List zo.T)->(List zo.T)->Int->Int->Bool->Option R
abbrev zU.l4.T (R:Type):Type:=(List zo.T)->(List zo.T)->Int->Int->Option R
def zU.l4.body {R:Type} (F:Nat) (k0:Bool->Option R) (k1:zU.l4.K1 R) (rec:zU.l4.T R) (tiers:List zo.T) (t20:List zo.T) (t21:Int) (t22:Int):Option R :=
 bif decide (t22<t21) then bif idx t22 t20.length then bif decide (t22>0) then bif idx (i64.wrap (t22-1)) tiers.length then bif decide ((get zo t20 t22.toNat).1<=(get zo tiers ((i64.wrap (t22-1)).toNat)).1) then k0 false
 else bif decide ((get zo t20 t22.toNat).1>1000000000000) then k0 false
 else bif decide ((get zo t20 t22.toNat).2<(-1000000000000)) then k0 false
 else bif decide ((get zo t20 t22.toNat).2>1000000000000) then k0 false
 else rec tiers t20 t21 (i64.wrap (t22+1))
 else none
 else bif decide ((get zo t20 t22.toNat).1>1000000000000) then k0 false
 else bif decide ((get zo t20 t22.toNat).2<(-1000000000000)) then k0 false
 else bif decide ((get zo t20 t22.toNat).2>1000000000000) then k0 false
 else rec tiers t20 t21 (i64.wrap (t22+1))
 else none
 else k1 tiers t20 t21 t22 (decide (t22<t21))
def zU.l4 {R:Type} (F:Nat) (k0:Bool->Option R) (k1:zU.l4.K1 R):Nat->zU.l4.T R
 | 0,_,_,_,_=>none
 | fu+1,tiers,t20,t21,t22=>zU.l4.body F k0 k1 (zU.l4 F k0 k1 fu) tiers t20 t21 t22
def zU.sh (F:Nat) (tiers:List zo.T):Option zU.sg.R :=
 bif decide ((tiers.length:Int)<1) then some ((false,()),())
 else bif decide ((tiers.length:Int)>16) then some ((false,()),())
 else bif idx 0 tiers.length then bif ((get zo tiers 0).1 != 0) then some ((false,()),())
 else zU.l4 F (fun r21=>some ((r21,()),())) (fun tiers2 t202 t212 t222 t232=>some ((true,()),())) F tiers tiers (tiers.length:Int) 0
 else none
def zU.sp (F:Nat):TA zU.sg.args->Option zU.sg.R:=fun x=>zU.sh F x.1
@[reducible] def zt.sg:Sig:={args:=[.d (.g zi)],res:=[.c (.int .i64)]}
abbrev zt.l4.K1 (R:Type):Type:=(List Int)->Int->Int->Bool->zi.T->Option R
abbrev zt.l4.T (R:Type):Type:=(List Int)->Int->Int->zi.T->Option R
def zt.l4.body {R:Type} (F:Nat) (k0:Int->Option R) (k1:zt.l4.K1 R) (rec:zt.l4.T R) (t40:List Int) (t41:Int) (t42:Int) (p:zi.T):Option R :=
 bif decide (t42<t41) then bif idx t42 t40.length then bif decide ((get (.int .i64) t40 t42.toNat)<1) then k0 1
 else bif decide ((get (.int .i64) t40 t42.toNat)>1000000000000) then k0 1
 else rec t40 t41 (i64.wrap (t42+1)) p
 else none
 else k1 t40 t41 t42 (decide (t42<t41)) p
def zt.l4 {R:Type} (F:Nat) (k0:Int->Option R) (k1:zt.l4.K1 R):Nat->zt.l4.T R
 | 0,_,_,_,_=>none
 | fu+1,t40,t41,t42,p=>zt.l4.body F k0 k1 (zt.l4 F k0 k1 fu) t40 t41 t42 p
abbrev zt.l12.K1 (R:Type):Type:=(List (List zo.T))->Int->Int->Bool->zi.T->Option R
abbrev zt.l12.T (R:Type):Type:=(List (List zo.T))->Int->Int->zi.T->Option R
def zt.l12.body {R:Type} (F:Nat) (k0:Int->Option R) (k1:zt.l12.K1 R) (rec:zt.l12.T R) (t70:List (List zo.T)) (t71:Int) (t72:Int) (p:zi.T):Option R :=
 bif decide (t72<t71) then bif idx t72 t70.length then oB (zU.sh F (get (.sl zo) t70 t72.toNat)) fun c_3 =>
 bif !c_3.1.1 then k0 51
 else rec t70 t71 (i64.wrap (t72+1)) p
 else none
 else k1 t70 t71 t72 (decide (t72<t71)) p
def zt.l12 {R:Type} (F:Nat) (k0:Int->Option R) (k1:zt.l12.K1 R):Nat->zt.l12.T R
 | 0,_,_,_,_=>none
 | fu+1,t70,t71,t72,p=>zt.l12.body F k0 k1 (zt.l12 F k0 k1 fu) t70 t71 t72 p
abbrev zt.l18.K1 (R:Type):Type:=(List zM.T)->Int->Int->Bool->Option R
abbrev zt.l18.T (R:Type):Type:=(List zM.T)->Int->Int->Option R
def zt.l18.body {R:Type} (F:Nat) (k0:Int->Option R) (k1:zt.l18.K1 R) (rec:zt.l18.T R) (t81:List zM.T) (t82:Int) (t83:Int):Option R :=
 bif decide (t83<t82) then bif idx t83 t81.length then bif decide ((get zM t81 t83.toNat).1<0) then k0 170
 else bif decide ((get zM t81 t83.toNat).1>255) then k0 170
 else bif decide ((get zM t81 t83.toNat).2.1<0) then k0 170
 else bif decide ((get zM t81 t83.toNat).2.1>65535) then k0 170
 else bif decide ((get zM t81 t83.toNat).2.2<0) then k0 170
 else bif decide ((get zM t81 t83.toNat).2.2>65535) then k0 170
 else rec t81 t82 (i64.wrap (t83+1))
 else none
 else k1 t81 t82 t83 (decide (t83<t82))
def zt.l18 {R:Type} (F:Nat) (k0:Int->Option R) (k1:zt.l18.K1 R):Nat->zt.l18.T R
 | 0,_,_,_=>none
 | fu+1,t81,t82,t83=>zt.l18.body F k0 k1 (zt.l18 F k0 k1 fu) t81 t82 t83
def zt.sh (F:Nat) (p:zi.T):Option zt.sg.R :=
 bif decide (p.1<0) then some ((1,()),())
 else bif decide (p.1>4) then some ((1,()),())
 else bif decide (p.2.1<0) then some ((1,()),())
 else bif decide (p.2.1>6) then some ((1,()),())
 else bif decide ((p.2.2.1.length:Int)<1) then some ((1,()),())
 else bif decide ((p.2.2.1.length:Int)>4) then some ((1,()),())
 else zt.l4 F (fun r21=>some ((r21,()),())) (fun t402 t412 t422 t432 p2=>bif decide ((p2.2.2.2.1.length:Int)>1024) then some ((2,()),())
 else bif decide ((p2.2.2.2.2.1.length:Int)>1024) then some ((2,()),())
 else bif decide ((p2.2.2.2.2.2.length:Int)>8192) then some ((2,()),())
 else zt.l12 F (fun r24=>some ((r24,()),())) (fun t705 t715 t725 t735 p5=>zt.l18 F (fun r26=>some ((r26,()),())) (fun t817 t827 t837 t847=>some ((0,()),())) F p5.2.2.2.2.2 (p5.2.2.2.2.2.length:Int) 0) F p2.2.2.2.2.1 (p2.2.2.2.2.1.length:Int) 0 p2) F p.2.2.1 (p.2.2.1.length:Int) 0 p
def zt.sp (F:Nat):TA zt.sg.args->Option zt.sg.R:=fun x=>zt.sh F x.1
@[reducible] def ya.sg:Sig:={args:=[.d (.os (.int .u8)),.d (.c (.int .u64)),.d (.c (.int .i64))],res:=[.os (.int .u8)]}
abbrev ya.l2.K0 (R:Type):Type:=Int->Int->Int->Bool->(List Int)->Option R
abbrev ya.l2.T (R:Type):Type:=Int->Int->Int->(List Int)->Option R
def ya.l2.body {R:Type} (F:Nat) (k0:ya.l2.K0 R) (rec:ya.l2.T R) (n:Int) (t7:Int) (t8:Int) (b:List Int):Option R :=
 bif decide (t8<t7) then bif Nat.ble (b.length+([IntKind.u8.wrap n]:List Int).length) xp then rec (n.fdiv (2^(min (8:Int).toNat IntKind.u64.bits))) t7 (i64.wrap (t8+1)) (b++([IntKind.u8.wrap n]:List Int))
 else none
 else k0 n t7 t8 (decide (t8<t7)) b
def ya.l2 {R:Type} (F:Nat) (k0:ya.l2.K0 R):Nat->ya.l2.T R
 | 0,_,_,_,_=>none
 | fu+1,n,t7,t8,b=>ya.l2.body F k0 (ya.l2 F k0 fu) n t7 t8 b
def ya.sh (F:Nat) (b:List Int) (n:Int) (bytes:Int):Option ya.sg.R :=
 ya.l2 F (fun n1 t71 t81 t91 b1=>some ((b1,()),())) F n bytes 0 b
def ya.sp (F:Nat):TA ya.sg.args->Option ya.sg.R:=fun x=>ya.sh F x.1 x.2.1 x.2.2.1
@[reducible] def zb.sg:Sig:={args:=[.d (.g zi)],res:=[.c (.sl (.int .u8)),.c (.int .i64)]}
abbrev zb.l6.K0 (R:Type):Type:=(List Int)->Int->Int->Bool->zi.T->(List Int)->Option R
abbrev zb.l6.T (R:Type):Type:=(List Int)->Int->Int->zi.T->(List Int)->Option R
def zb.l6.body {R:Type} (F:Nat) (k0:zb.l6.K0 R) (rec:zb.l6.T R) (t36:List Int) (t37:Int) (t38:Int) (p:zi.T) (b:List Int):Option R :=
 bif decide (t38<t37) then bif idx t38 t36.length then oB (ya.sh F b (u64.wrap (get (.int .i64) t36 t38.toNat)) 8) fun c_2 =>
 rec t36 t37 (i64.wrap (t38+1)) p c_2.1.1
 else none
 else k0 t36 t37 t38 (decide (t38<t37)) p b
def zb.l6 {R:Type} (F:Nat) (k0:zb.l6.K0 R):Nat->zb.l6.T R
 | 0,_,_,_,_,_=>none
 | fu+1,t36,t37,t38,p,b=>zb.l6.body F k0 (zb.l6 F k0 fu) t36 t37 t38 p b
abbrev zb.l12.K0 (R:Type):Type:=(List zf.T)->Int->Int->Bool->zi.T->(List Int)->Option R
abbrev zb.l12.T (R:Type):Type:=(List zf.T)->Int->Int->zi.T->(List Int)->Option R
def zb.l12.body {R:Type} (F:Nat) (k0:zb.l12.K0 R) (rec:zb.l12.T R) (t54:List zf.T) (t55:Int) (t56:Int) (p:zi.T) (b:List Int):Option R :=
 bif decide (t56<t55) then bif idx t56 t54.length then oB (ya.sh F b (get zf t54 t56.toNat).2 8) fun c_5 =>
 oB (ya.sh F c_5.1.1 (u64.wrap (get zf t54 t56.toNat).1) 8) fun c_6 =>
 rec t54 t55 (i64.wrap (t56+1)) p c_6.1.1
 else none
 else k0 t54 t55 t56 (decide (t56<t55)) p b
def zb.l12 {R:Type} (F:Nat) (k0:zb.l12.K0 R):Nat->zb.l12.T R
 | 0,_,_,_,_,_=>none
 | fu+1,t54,t55,t56,p,b=>zb.l12.body F k0 (zb.l12 F k0 fu) t54 t55 t56 p b
abbrev zb.l22.K0 (R:Type):Type:=(List (List zo.T))->Int->Int->(List zo.T)->Int->Int->Bool->zi.T->(List Int)->Option R
abbrev zb.l22.T (R:Type):Type:=(List (List zo.T))->Int->Int->(List zo.T)->Int->Int->zi.T->(List Int)->Option R
def zb.l22.body {R:Type} (F:Nat) (k0:zb.l22.K0 R) (rec:zb.l22.T R) (t76:List (List zo.T)) (t77:Int) (t78:Int) (t88:List zo.T) (t89:Int) (t90:Int) (p:zi.T) (b:List Int):Option R :=
 bif decide (t90<t89) then bif idx t90 t88.length then oB (ya.sh F b (u64.wrap (get zo t88 t90.toNat).1) 8) fun c_9 =>
 oB (ya.sh F c_9.1.1 (u64.wrap (get zo t88 t90.toNat).2) 8) fun c_10 =>
 rec t76 t77 t78 t88 t89 (i64.wrap (t90+1)) p c_10.1.1
 else none
 else k0 t76 t77 t78 t88 t89 t90 (decide (t90<t89)) p b
def zb.l22 {R:Type} (F:Nat) (k0:zb.l22.K0 R):Nat->zb.l22.T R
 | 0,_,_,_,_,_,_,_,_=>none
 | fu+1,t76,t77,t78,t88,t89,t90,p,b=>zb.l22.body F k0 (zb.l22 F k0 fu) t76 t77 t78 t88 t89 t90 p b
abbrev zb.l18.K0 (R:Type):Type:=(List (List zo.T))->Int->Int->Bool->zi.T->(List Int)->Option R
abbrev zb.l18.T (R:Type):Type:=(List (List zo.T))->Int->Int->zi.T->(List Int)->Option R
def zb.l18.body {R:Type} (F:Nat) (k0:zb.l18.K0 R) (rec:zb.l18.T R) (t76:List (List zo.T)) (t77:Int) (t78:Int) (p:zi.T) (b:List Int):Option R :=
 bif decide (t78<t77) then bif idx t78 t76.length then bif Nat.ble (b.length+([IntKind.u8.wrap ((get (.sl zo) t76 t78.toNat).length:Int)]:List Int).length) xp then zb.l22 F (fun t7611 t7711 t7811 t8811 t8911 t9011 t9111 p11 b11=>rec t7611 t7711 (i64.wrap (t7811+1)) p11 b11) F t76 t77 t78 (get (.sl zo) t76 t78.toNat) ((get (.sl zo) t76 t78.toNat).length:Int) 0 p (b++([IntKind.u8.wrap ((get (.sl zo) t76 t78.toNat).length:Int)]:List Int))
 else none
 else none
 else k0 t76 t77 t78 (decide (t78<t77)) p b
def zb.l18 {R:Type} (F:Nat) (k0:zb.l18.K0 R):Nat->zb.l18.T R
 | 0,_,_,_,_,_=>none
 | fu+1,t76,t77,t78,p,b=>zb.l18.body F k0 (zb.l18 F k0 fu) t76 t77 t78 p b
abbrev zb.l29.K0 (R:Type):Type:=(List zM.T)->Int->Int->Bool->(List Int)->Option R
abbrev zb.l29.T (R:Type):Type:=(List zM.T)->Int->Int->(List Int)->Option R
def zb.l29.body {R:Type} (F:Nat) (k0:zb.l29.K0 R) (rec:zb.l29.T R) (t112:List zM.T) (t113:Int) (t114:Int) (b:List Int):Option R :=
 bif decide (t114<t113) then bif idx t114 t112.length then oB (ya.sh F b (u64.wrap (get zM t112 t114.toNat).1) 1) fun c_14 =>
 oB (ya.sh F c_14.1.1 (u64.wrap (get zM t112 t114.toNat).2.1) 2) fun c_15 =>
 oB (ya.sh F c_15.1.1 (u64.wrap (get zM t112 t114.toNat).2.2) 2) fun c_16 =>
 rec t112 t113 (i64.wrap (t114+1)) c_16.1.1
 else none
 else k0 t112 t113 t114 (decide (t114<t113)) b
def zb.l29 {R:Type} (F:Nat) (k0:zb.l29.K0 R):Nat->zb.l29.T R
 | 0,_,_,_,_=>none
 | fu+1,t112,t113,t114,b=>zb.l29.body F k0 (zb.l29 F k0 fu) t112 t113 t114 b
def zb.j33 {R:Type} (F:Nat) (k0:(List Int)->Int->Option R) (b:List Int):Option R :=
 k0 b 0
def zb.sh (F:Nat) (p:zi.T):Option zb.sg.R :=
 oB (zt.sh F p) fun c_1 =>
 bif (c_1.1.1 != 0) then some (([],c_1.1.1,()),())
 else bif Nat.ble (([79,67,84,49]:List Int).length+([IntKind.u8.wrap p.1,IntKind.u8.wrap p.2.1,IntKind.u8.wrap (p.2.2.1.length:Int)]:List Int).length) xp then zb.l6 F (fun t363 t373 t383 t393 p3 b3=>oB (ya.sh F b3 (u64.wrap (p3.2.2.2.1.length:Int)) 2) fun c_4 =>
 zb.l12 F (fun t547 t557 t567 t577 p7 b7=>oB (ya.sh F b7 (u64.wrap (p7.2.2.2.2.1.length:Int)) 2) fun c_8 =>
 zb.l18 F (fun t7612 t7712 t7812 t7912 p12 b12=>oB (ya.sh F b12 (u64.wrap (p12.2.2.2.2.2.length:Int)) 2) fun c_13 =>
 zb.l29 F (fun t11217 t11317 t11417 t11517 b17=>zb.j33 F (fun r218 r318=>some ((r218,r318,()),())) b17) F p12.2.2.2.2.2 (p12.2.2.2.2.2.length:Int) 0 c_13.1.1) F p7.2.2.2.2.1 (p7.2.2.2.2.1.length:Int) 0 p7 c_8.1.1) F p3.2.2.2.1 (p3.2.2.2.1.length:Int) 0 p3 c_4.1.1) F p.2.2.1 (p.2.2.1.length:Int) 0 p (([79,67,84,49]:List Int)++([IntKind.u8.wrap p.1,IntKind.u8.wrap p.2.1,IntKind.u8.wrap (p.2.2.1.length:Int)]:List Int))
 else none
def zb.sp (F:Nat):TA zb.sg.args->Option zb.sg.R:=fun x=>zb.sh F x.1
@[reducible] def zm.sg:Sig:={args:=[.d (.g zI)],res:=[.c .bool]}
abbrev zm.l14.K1 (R:Type):Type:=Int->Bool->zI.T->zi.T->Option R
abbrev zm.l14.T (R:Type):Type:=Int->zI.T->zi.T->Option R
def zm.l14.body {R:Type} (F:Nat) (k0:Bool->Option R) (k1:zm.l14.K1 R) (rec:zm.l14.T R) (i:Int) (p:zI.T) (q:zi.T):Option R :=
 bif decide (i<(p.2.1.length:Int)) then bif idx i q.2.2.1.length then bif idx i p.2.1.length then bif ((get (.int .i64) q.2.2.1 i.toNat) != (get xd p.2.1 i.toNat).2) then k0 false
 else rec (i64.wrap (i+1)) p q
 else none
 else none
 else k1 i (decide (i<(p.2.1.length:Int))) p q
def zm.l14 {R:Type} (F:Nat) (k0:Bool->Option R) (k1:zm.l14.K1 R):Nat->zm.l14.T R
 | 0,_,_,_=>none
 | fu+1,i,p,q=>zm.l14.body F k0 k1 (zm.l14 F k0 k1 fu) i p q
def zm.sh (F:Nat) (p:zI.T):Option zm.sg.R :=
 oB (yw.sh F) fun c_1 =>
 bif !c_1.1.1 then some ((false,()),())
 else oB (zL.sh F p) fun c_2 =>
 oB (xa.sh F p) fun c_3 =>
 bif (c_2.1.2.2.1 != c_3.1.2.2.1) then some ((false,()),())
 else bif (c_2.1.2.1 != c_3.1.2.1) then some ((false,()),())
 else bif (c_2.1.2.2.1 != 0) then oB (zd.sh F c_2.1.1 (0,0,[],[],[],[])) fun c_4 =>
 some ((c_4.1.1,()),())
 else oB (zE.sh F p) fun c_5 =>
 oB (zb.sh F c_2.1.1) fun c_6 =>
 bif (c_5.1.2.1 != 0) then some ((false,()),())
 else bif (c_6.1.2.1 != 0) then some ((false,()),())
 else bif (c_2.1.1.1 != p.2.2.1) then some ((false,()),())
 else bif decide (c_2.1.1.2.1>c_5.1.1) then some ((false,()),())
 else bif ((c_2.1.1.2.2.1.length:Int) != (p.2.1.length:Int)) then some ((false,()),())
 else bif decide ((c_2.1.1.2.2.2.2.2.length:Int)>(i64.wrap (8*(p.2.2.2.length:Int)))) then some ((false,()),())
 else zm.l14 F (fun r27=>some ((r27,()),())) (fun i8 t938 p8 q8=>some ((true,()),())) F 0 p c_2.1.1
def zm.sp (F:Nat):TA zm.sg.args->Option zm.sg.R:=fun x=>zm.sh F x.1
end Go.VS
