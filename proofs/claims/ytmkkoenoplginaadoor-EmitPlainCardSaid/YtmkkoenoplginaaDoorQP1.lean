import Derived.Test.YtmkkoenoplginaaDoorQH
set_option linter.unusedVariables false
set_option linter.unusedSimpArgs false
set_option linter.unusedSectionVars false
set_option linter.unusedVariables false
set_option maxRecDepth 100000
namespace Go.VS
open Go IntKind
@[reducible] def yC.sg:Sig:={args:=[.d (.c (.sl zo))],res:=[.g zI]}
def yC.sh (F:Nat) (nodes:List zo.T):Option yC.sg.R :=
 some ((((⟨#[112]⟩:ByteArray),([((⟨#[97]⟩:ByteArray),10)]:List yZ.T),0,nodes),()),())
def yC.sp (F:Nat):TA yC.sg.args->Option yC.sg.R:=fun x=>yC.sh F x.1
@[reducible] def yL.sg:Sig:={args:=[.d (.c (.int .u8))],res:=[.c .bool]}
def yL.sh (F:Nat) (c:Int):Option yL.sg.R :=
 bif decide (c>=97) then some ((decide (c<=122),()),())
 else some ((false,()),())
def yL.sp (F:Nat):TA yL.sg.args->Option yL.sg.R:=fun x=>yL.sh F x.1
@[reducible] def xl.sg:Sig:={args:=[.d (.c (.int .u8))],res:=[.c .bool]}
def xl.sh (F:Nat) (c:Int):Option xl.sg.R :=
 bif decide (c>=48) then some ((decide (c<=57),()),())
 else some ((false,()),())
def xl.sp (F:Nat):TA xl.sg.args->Option xl.sg.R:=fun x=>xl.sh F x.1
@[reducible] def xd.sg:Sig:={args:=[.d (.c (.int .u8))],res:=[.c .bool]}
def xd.sh (F:Nat) (c:Int):Option xd.sg.R :=
 oB (yL.sh F c) fun c_1 =>
 bif c_1.1.1 then some ((true,()),())
 else oB (xl.sh F c) fun c_2 =>
 bif c_2.1.1 then some ((true,()),())
 else some (((c==95),()),())
def xd.sp (F:Nat):TA xd.sg.args->Option xd.sg.R:=fun x=>xd.sh F x.1
@[reducible] def ya.sg:Sig:={args:=[.d (.c .str),.d (.c .fn)],res:=[.c (.int .i64)]}
@[reducible] def ya.ds15:Sig:={args:=[.d (.c (.int .u8))],res:=[.c .bool]}
def ya.d15 (F:Nat):Nat->TA ya.ds15.args->Option ya.ds15.R:=mkT ya.ds15 [(va,xd.sp F),(wR,yL.sp F)]
abbrev ya.l2.K0 (R:Type):Type:=ByteArray->Nat->Int->Bool->Option R
abbrev ya.l2.T (R:Type):Type:=ByteArray->Nat->Int->Option R
def ya.l2.body {R:Type} (F:Nat) (k0:ya.l2.K0 R) (rec:ya.l2.T R) (s:ByteArray) (of:Nat) (n:Int):Option R :=
 bif decide (n<(s.size:Int)) then bif idx n s.size then oB (ya.d15 F of (bt s n,())) fun c_1 =>
 bif c_1.1.1 then rec s of (i64.wrap (n+1))
 else k0 s of n c_1.1.1
 else none
 else k0 s of n false
def ya.l2 {R:Type} (F:Nat) (k0:ya.l2.K0 R):Nat->ya.l2.T R
 | 0,_,_,_=>none
 | fu+1,s,of,n=>ya.l2.body F k0 (ya.l2 F k0 fu) s of n
def ya.sh (F:Nat) (s:ByteArray) (of_:Nat):Option ya.sg.R :=
 ya.l2 F (fun s2 of2 n2 t162=>some ((n2,()),())) F s of_ 0
def ya.sp (F:Nat):TA ya.sg.args->Option ya.sg.R:=fun x=>ya.sh F x.1 x.2.1
@[reducible] def xC.sg:Sig:={args:=[.d (.c .str)],res:=[.c .bool]}
def xC.sh (F:Nat) (s:ByteArray):Option xC.sg.R :=
 bif !(s.toList==(⟨#[]⟩:ByteArray).toList) then oB (ya.sh F s wR) fun c_1 =>
 bif (c_1.1.1==(s.size:Int)) then bif Nat.ble ((⟨#[32]⟩:ByteArray).size+s.size) xj then bif Nat.ble (((⟨#[32]⟩:ByteArray)++s).size+(⟨#[32]⟩:ByteArray).size) xj then oB (yF.sh F (⟨#[32,112,108,97,110,32,114,111,117,110,100,32,98,121,32,98,108,111,99,107,115,32,109,105,110,32,109,97,120,32,111,118,101,114,32,117,112,116,111,32,103,114,97,100,117,97,116,101,100,32,118,111,108,117,109,101,32,111,102,102,32,105,102,32,102,108,111,111,114,32,99,101,105,108,32,122,101,114,111,32,104,97,108,102,32,101,118,101,110,32]⟩:ByteArray) (((⟨#[32]⟩:ByteArray)++s)++(⟨#[32]⟩:ByteArray))) fun c_2 =>
 some ((c_2.1.1,()),())
 else none
 else none
 else some ((false,()),())
 else some ((false,()),())
def xC.sp (F:Nat):TA xC.sg.args->Option xC.sg.R:=fun x=>xC.sh F x.1
@[reducible] def xv.sg:Sig:={args:=[.d (.c .str)],res:=[.c .bool]}
def xv.sh (F:Nat) (s:ByteArray):Option xv.sg.R :=
 bif !(s.toList==(⟨#[]⟩:ByteArray).toList) then bif decide ((s.size:Int)<=32) then bif idx 0 s.size then oB (yL.sh F (bt s 0)) fun c_1 =>
 bif c_1.1.1 then oB (ya.sh F s va) fun c_2 =>
 bif (c_2.1.1==(s.size:Int)) then oB (xC.sh F s) fun c_3 =>
 some ((!c_3.1.1,()),())
 else some ((false,()),())
 else some ((false,()),())
 else none
 else some ((false,()),())
 else some ((false,()),())
def xv.sp (F:Nat):TA xv.sg.args->Option xv.sg.R:=fun x=>xv.sh F x.1
@[reducible] def yU.sg:Sig:={args:=[.d (.g yZ),.d (.p yZ)],res:=[.c .bool]}
def yU.sh (F:Nat) (e:yZ.T) (t1:yZ.T):Option yU.sg.R :=
 some (((e.1.toList==t1.1.toList),()),())
def yU.sp (F:Nat):TA yU.sg.args->Option yU.sg.R:=fun x=>yU.sh F x.1 x.2.1
@[reducible] def zf.sg:Sig:={args:=[.d (.b yZ),.d (.cl yZ)],res:=[.c (.int .i64)]}
@[reducible] def zf.ds16:Sig:={args:=[.d (.g yZ),.d (.p yZ)],res:=[.c .bool]}
def zf.d16 (F:Nat):Nat->TA zf.ds16.args->Option zf.ds16.R:=mkT zf.ds16 [(qp,yU.sp F)]
abbrev zf.l2.K1 (R:Type):Type:=(List yZ.T)->(Nat×yZ.T)->Int->Int->Bool->Option R
abbrev zf.l2.T (R:Type):Type:=(List yZ.T)->(Nat×yZ.T)->Int->Int->Option R
def zf.l2.body {R:Type} (F:Nat) (k0:Int->Option R) (k1:zf.l2.K1 R) (rec:zf.l2.T R) (s:List yZ.T) (f:Nat×yZ.T) (t7:Int) (t8:Int):Option R :=
 bif decide (t8<t7) then bif idx t8 s.length then oB (zf.d16 F (f.1+1) ((get yZ s t8.toNat),f.2,())) fun c_1 =>
 bif c_1.1.1 then k0 t8
 else rec s (f.1,f.2) t7 (i64.wrap (t8+1))
 else none
 else k1 s (f.1,f.2) t7 t8 (decide (t8<t7))
def zf.l2 {R:Type} (F:Nat) (k0:Int->Option R) (k1:zf.l2.K1 R):Nat->zf.l2.T R
 | 0,_,_,_,_=>none
 | fu+1,s,f,t7,t8=>zf.l2.body F k0 k1 (zf.l2 F k0 k1 fu) s f t7 t8
def zf.sh (F:Nat) (s:List yZ.T) (f:Nat×yZ.T):Option zf.sg.R :=
 zf.l2 F (fun r42=>some ((r42,()),())) (fun s3 f3 t73 t83 t93=>some (((-1),()),())) F s (f.1,f.2) (s.length:Int) 0
def zf.sp (F:Nat):TA zf.sg.args->Option zf.sg.R:=fun x=>zf.sh F x.1 x.2.1
@[reducible] def zQ.sg:Sig:={args:=[.d (.b yZ),.d (.cl yZ)],res:=[.c .bool]}
def zQ.sh (F:Nat) (s:List yZ.T) (f:Nat×yZ.T):Option zQ.sg.R :=
 oB (zf.sh F s (f.1,f.2)) fun c_1 =>
 some ((decide (c_1.1.1>=0),()),())
def zQ.sp (F:Nat):TA zQ.sg.args->Option zQ.sg.R:=fun x=>zQ.sh F x.1 x.2.1
@[reducible] def zS.sg:Sig:={args:=[.d (.g zI)],res:=[.c (.int .i64)]}
abbrev zS.l6.K2 (R:Type):Type:=(List yZ.T)->Int->Int->Bool->zI.T->Option R
abbrev zS.l6.T (R:Type):Type:=(List yZ.T)->Int->Int->zI.T->Option R
def zS.l6.body {R:Type} (F:Nat) (k0:Int->Option R) (k1:Int->Option R) (k2:zS.l6.K2 R) (rec:zS.l6.T R) (t21:List yZ.T) (t22:Int) (t23:Int) (p:zI.T):Option R :=
 bif decide (t23<t22) then bif idx t23 t21.length then oB (xv.sh F (get yZ t21 t23.toNat).1) fun c_2 =>
 bif !c_2.1.1 then k0 61
 else bif (zB p.2.1.length none (some t23)).1 then oB (zQ.sh F ((p.2.1.take (zB p.2.1.length none (some t23)).2.2).drop (zB p.2.1.length none (some t23)).2.1) (wd,(get yZ t21 t23.toNat))) fun c_3 =>
 bif c_3.1.1 then k0 61
 else bif decide ((get yZ t21 t23.toNat).2<1) then k1 50
 else bif decide ((get yZ t21 t23.toNat).2>1000000000000) then k1 50
 else rec t21 t22 (i64.wrap (t23+1)) p
 else none
 else none
 else k2 t21 t22 t23 (decide (t23<t22)) p
def zS.l6 {R:Type} (F:Nat) (k0:Int->Option R) (k1:Int->Option R) (k2:zS.l6.K2 R):Nat->zS.l6.T R
 | 0,_,_,_,_=>none
 | fu+1,t21,t22,t23,p=>zS.l6.body F k0 k1 k2 (zS.l6 F k0 k1 k2 fu) t21 t22 t23 p
def zS.sh (F:Nat) (p:zI.T):Option zS.sg.R :=
 oB (xv.sh F p.1) fun c_1 =>
 bif !c_1.1.1 then some ((61,()),())
 else bif decide ((p.2.1.length:Int)<1) then some ((100,()),())
 else bif decide ((p.2.1.length:Int)>4) then some ((100,()),())
 else zS.l6 F (fun r24=>some ((r24,()),())) (fun r25=>some ((r25,()),())) (fun t216 t226 t236 t246 p6=>bif decide (p6.2.2.1<0) then some ((50,()),())
 else bif decide (p6.2.2.1>4) then some ((50,()),())
 else some ((0,()),())) F p.2.1 (p.2.1.length:Int) 0 p
def zS.sp (F:Nat):TA zS.sg.args->Option zS.sg.R:=fun x=>zS.sh F x.1
@[reducible] def yD.sg:Sig:={args:=[.d (.g zo)],res:=[.c (.int .i64)]}
def yD.sh (F:Nat) (n:zo.T):Option yD.sg.R :=
 bif idx n.1 17 then bif decide ((get yE x6 n.1.toNat).1>=0) then some (((get yE x6 n.1.toNat).1,()),())
 else some ((n.2.2.2.1,()),())
 else none
def yD.sp (F:Nat):TA yD.sg.args->Option yD.sg.R:=fun x=>yD.sh F x.1
@[reducible] def zF.sg:Sig:={args:=[.d (.b zy)],res:=[.c .bool]}
abbrev zF.l4.K1 (R:Type):Type:=(List zy.T)->(List zy.T)->Int->Int->Bool->Option R
abbrev zF.l4.T (R:Type):Type:=(List zy.T)->(List zy.T)->Int->Int->Option R
def zF.l4.body {R:Type} (F:Nat) (k0:Bool->Option R) (k1:zF.l4.K1 R) (rec:zF.l4.T R) (tiers:List zy.T) (t20:List zy.T) (t21:Int) (t22:Int):Option R :=
 bif decide (t22<t21) then bif idx t22 t20.length then bif decide (t22>0) then bif idx (i64.wrap (t22-1)) tiers.length then bif decide ((get zy t20 t22.toNat).1<=(get zy tiers ((i64.wrap (t22-1)).toNat)).1) then k0 false
 else bif decide ((get zy t20 t22.toNat).1>1000000000000) then k0 false
 else bif decide ((get zy t20 t22.toNat).2<(-1000000000000)) then k0 false
 else bif decide ((get zy t20 t22.toNat).2>1000000000000) then k0 false
 else rec tiers t20 t21 (i64.wrap (t22+1))
 else none
 else bif decide ((get zy t20 t22.toNat).1>1000000000000) then k0 false
 else bif decide ((get zy t20 t22.toNat).2<(-1000000000000)) then k0 false
 else bif decide ((get zy t20 t22.toNat).2>1000000000000) then k0 false
 else rec tiers t20 t21 (i64.wrap (t22+1))
 else none
 else k1 tiers t20 t21 t22 (decide (t22<t21))
def zF.l4 {R:Type} (F:Nat) (k0:Bool->Option R) (k1:zF.l4.K1 R):Nat->zF.l4.T R
 | 0,_,_,_,_=>none
 | fu+1,tiers,t20,t21,t22=>zF.l4.body F k0 k1 (zF.l4 F k0 k1 fu) tiers t20 t21 t22
def zF.sh (F:Nat) (tiers:List zy.T):Option zF.sg.R :=
 bif decide ((tiers.length:Int)<1) then some ((false,()),())
 else bif decide ((tiers.length:Int)>16) then some ((false,()),())
 else bif idx 0 tiers.length then bif ((get zy tiers 0).1 != 0) then some ((false,()),())
 else zF.l4 F (fun r21=>some ((r21,()),())) (fun tiers2 t202 t212 t222 t232=>some ((true,()),())) F tiers tiers (tiers.length:Int) 0
 else none
def zF.sp (F:Nat):TA zF.sg.args->Option zF.sg.R:=fun x=>zF.sh F x.1
@[reducible] def zP.sg:Sig:={args:=[.d (.g zo),.d (.c (.int .i64)),.d (.c (.int .i64))],res:=[.c (.int .i64)]}
def zP.j13 {R:Type} (F:Nat) (k0:Int->Option R) (k1:Int->Option R) (k2:Int->Option R) (pile:Int) (most:Int) (kids:Bool) (op:Bool) (n:zo.T) (k:yE.T):Option R :=
 bif decide (n.2.1<0) then k0 50
 else bif decide (n.2.1>most) then k0 50
 else bif !kids then k0 50
 else bif !op then k0 50
 else bif !k.2.2.1 then bif decide ((n.2.2.2.2.1.length:Int)>0) then k0 50
 else oB (yD.sh F n) fun c_1 =>
 bif decide (pile<c_1.1.1) then k0 50
 else bif k.2.2.1 then oB (zF.sh F n.2.2.2.2.1) fun c_2 =>
 bif !c_2.1.1 then k1 51
 else k2 0
 else k2 0
 else oB (yD.sh F n) fun c_3 =>
 bif decide (pile<c_3.1.1) then k0 50
 else bif k.2.2.1 then oB (zF.sh F n.2.2.2.2.1) fun c_4 =>
 bif !c_4.1.1 then k1 51
 else k2 0
 else k2 0
def zP.j10 {R:Type} (F:Nat) (k0:Int->Option R) (k1:Int->Option R) (k2:Int->Option R) (pile:Int) (most:Int) (kids:Bool) (n:zo.T) (k:yE.T):Option R :=
 bif k.2.2.2 then bif decide (n.2.2.1>=1) then zP.j13 F (fun r65=>k0 r65) (fun r66=>k1 r66) (fun r67=>k2 r67) pile most kids (decide (n.2.2.1<=6)) n k
 else zP.j13 F (fun r68=>k0 r68) (fun r69=>k1 r69) (fun r610=>k2 r610) pile most kids false n k
 else zP.j13 F (fun r611=>k0 r611) (fun r612=>k1 r612) (fun r613=>k2 r613) pile most kids (n.2.2.1==0) n k
def zP.j7 {R:Type} (F:Nat) (k0:Int->Option R) (k1:Int->Option R) (k2:Int->Option R) (pile:Int) (most:Int) (n:zo.T) (k:yE.T):Option R :=
 bif decide (k.1<0) then bif decide (n.2.2.2.1>=2) then zP.j10 F (fun r614=>k0 r614) (fun r615=>k1 r615) (fun r616=>k2 r616) pile most (decide (n.2.2.2.1<=16)) n k
 else zP.j10 F (fun r617=>k0 r617) (fun r618=>k1 r618) (fun r619=>k2 r619) pile most false n k
 else zP.j10 F (fun r620=>k0 r620) (fun r621=>k1 r621) (fun r622=>k2 r622) pile most (n.2.2.2.1==0) n k
def zP.sh (F:Nat) (n:zo.T) (dims:Int) (pile:Int):Option zP.sg.R :=
 bif decide (n.1<1) then some ((50,()),())
 else bif decide (n.1>16) then some ((50,()),())
 else bif idx n.1 17 then bif decide ((get yE x6 n.1.toNat).2.1<0) then zP.j7 F (fun r623=>some ((r623,()),())) (fun r624=>some ((r624,()),())) (fun r625=>some ((r625,()),())) pile (i64.wrap (dims-1)) n (get yE x6 n.1.toNat)
 else zP.j7 F (fun r626=>some ((r626,()),())) (fun r627=>some ((r627,()),())) (fun r628=>some ((r628,()),())) pile (get yE x6 n.1.toNat).2.1 n (get yE x6 n.1.toNat)
 else none
def zP.sp (F:Nat):TA zP.sg.args->Option zP.sg.R:=fun x=>zP.sh F x.1 x.2.1 x.2.2.1
@[reducible] def zG.sg:Sig:={args:=[.d (.g zI)],res:=[.c (.int .i64),.c (.int .i64)]}
abbrev zG.l8.K1 (R:Type):Type:=Int->(List zo.T)->Int->Int->Bool->zI.T->Option R
abbrev zG.l8.T (R:Type):Type:=Int->(List zo.T)->Int->Int->zI.T->Option R
def zG.l8.body {R:Type} (F:Nat) (k0:Int->Int->Option R) (k1:zG.l8.K1 R) (rec:zG.l8.T R) (pile:Int) (t19:List zo.T) (t20:Int) (t21:Int) (p:zI.T):Option R :=
 bif decide (t21<t20) then bif idx t21 t19.length then oB (zP.sh F (get zo t19 t21.toNat) (p.2.1.length:Int) pile) fun c_2 =>
 bif (c_2.1.1 != 0) then k0 t21 c_2.1.1
 else oB (yD.sh F (get zo t19 t21.toNat)) fun c_3 =>
 rec (i64.wrap (pile+(i64.wrap (1-c_3.1.1)))) t19 t20 (i64.wrap (t21+1)) p
 else none
 else k1 pile t19 t20 t21 (decide (t21<t20)) p
def zG.l8 {R:Type} (F:Nat) (k0:Int->Int->Option R) (k1:zG.l8.K1 R):Nat->zG.l8.T R
 | 0,_,_,_,_,_=>none
 | fu+1,pile,t19,t20,t21,p=>zG.l8.body F k0 k1 (zG.l8 F k0 k1 fu) pile t19 t20 t21 p
def zG.sh (F:Nat) (p:zI.T):Option zG.sg.R :=
 oB (zS.sh F p) fun c_1 =>
 bif (c_1.1.1 != 0) then some (((-1),c_1.1.1,()),())
 else bif decide ((p.2.2.2.length:Int)>1024) then some ((1024,2,()),())
 else zG.l8 F (fun r24 r34=>some ((r24,r34,()),())) (fun pile5 t195 t205 t215 t225 p5=>bif (pile5 != 1) then some (((p5.2.2.2.length:Int),50,()),())
 else some ((0,0,()),())) F 0 p.2.2.2 (p.2.2.2.length:Int) 0 p
def zG.sp (F:Nat):TA zG.sg.args->Option zG.sg.R:=fun x=>zG.sh F x.1
@[reducible] def zw.sg:Sig:={args:=[.d (.g zI)],res:=[.c (.sl (.int .i64))]}
abbrev zw.l3.K0 (R:Type):Type:=(List zo.T)->Int->Int->Bool->(List Int)->(List Int)->Option R
abbrev zw.l3.T (R:Type):Type:=(List zo.T)->Int->Int->(List Int)->(List Int)->Option R
def zw.l3.body {R:Type} (F:Nat) (k0:zw.l3.K0 R) (rec:zw.l3.T R) (t10:List zo.T) (t11:Int) (t12:Int) (list:List Int) (pile:List Int):Option R :=
 bif decide (t12<t11) then bif idx t12 t10.length then oB (yD.sh F (get zo t10 t12.toNat)) fun c_1 =>
 bif decide (c_1.1.1>0) then bif idx (i64.wrap ((pile.length:Int)-c_1.1.1)) pile.length then bif (zB pile.length none (some (i64.wrap ((pile.length:Int)-c_1.1.1)))).1 then bif Nat.ble ((pile.take (zB pile.length none (some (i64.wrap ((pile.length:Int)-c_1.1.1)))).2.2).length+([get (.int .i64) pile ((i64.wrap ((pile.length:Int)-c_1.1.1)).toNat)]:List Int).length) xj then bif Nat.ble (list.length+([get (.int .i64) pile ((i64.wrap ((pile.length:Int)-c_1.1.1)).toNat)]:List Int).length) xj then rec t10 t11 (i64.wrap (t12+1)) (list++([get (.int .i64) pile ((i64.wrap ((pile.length:Int)-c_1.1.1)).toNat)]:List Int)) ((pile.take (zB pile.length none (some (i64.wrap ((pile.length:Int)-c_1.1.1)))).2.2)++([get (.int .i64) pile ((i64.wrap ((pile.length:Int)-c_1.1.1)).toNat)]:List Int))
 else none
 else none
 else none
 else none
 else bif Nat.ble (pile.length+([t12]:List Int).length) xj then bif Nat.ble (list.length+([t12]:List Int).length) xj then rec t10 t11 (i64.wrap (t12+1)) (list++([t12]:List Int)) (pile++([t12]:List Int))
 else none
 else none
 else none
 else k0 t10 t11 t12 (decide (t12<t11)) list pile
def zw.l3 {R:Type} (F:Nat) (k0:zw.l3.K0 R):Nat->zw.l3.T R
 | 0,_,_,_,_,_=>none
 | fu+1,t10,t11,t12,list,pile=>zw.l3.body F k0 (zw.l3 F k0 fu) t10 t11 t12 list pile
def zw.j13 {R:Type} (F:Nat) (k0:(List Int)->Option R) (list:List Int):Option R :=
 k0 list
def zw.sh (F:Nat) (p:zI.T):Option zw.sg.R :=
 zw.l3 F (fun t102 t112 t122 t132 list2 pile2=>zw.j13 F (fun r23=>some ((r23,()),())) list2) F p.2.2.2 (p.2.2.2.length:Int) 0 ([]) ([])
def zw.sp (F:Nat):TA zw.sg.args->Option zw.sg.R:=fun x=>zw.sh F x.1
@[reducible] def yQ.sg:Sig:={args:=[.d (.g zI)],res:=[.c (.sl (.int .i64)),.c (.int .i64)]}
def yQ.sh (F:Nat) (p:zI.T):Option yQ.sg.R :=
 oB (zG.sh F p) fun c_1 =>
 bif (c_1.1.2.1 != 0) then some (([],c_1.1.2.1,()),())
 else oB (zw.sh F p) fun c_2 =>
 some ((c_2.1.1,0,()),())
def yQ.sp (F:Nat):TA yQ.sg.args->Option yQ.sg.R:=fun x=>yQ.sh F x.1
@[reducible] def zq.sg:Sig:={args:=[.d (.g zI)],res:=[.c (.sl .bool),.c (.int .i64)]}
abbrev zq.l7.K0 (R:Type):Type:=(List Int)->Int->(List zo.T)->Int->Int->Bool->(List Bool)->Option R
abbrev zq.l7.T (R:Type):Type:=(List Int)->Int->(List zo.T)->Int->Int->(List Bool)->Option R
def zq.l7.body {R:Type} (F:Nat) (k0:zq.l7.K0 R) (rec:zq.l7.T R) (list:List Int) (last:Int) (t22:List zo.T) (t23:Int) (t24:Int) (out:List Bool):Option R :=
 bif decide (t24<t23) then bif idx t24 t22.length then bif ((get zo t22 t24.toNat).1==3) then bif idx t24 list.length then bif idx t24 out.length then rec list t24 t22 t23 (i64.wrap (t24+1)) (out.set t24.toNat (decide (t24<(get (.int .i64) list t24.toNat))))
 else none
 else none
 else bif ((get zo t22 t24.toNat).1==4) then bif idx t24 list.length then bif idx t24 out.length then rec list t24 t22 t23 (i64.wrap (t24+1)) (out.set t24.toNat (decide (t24<(get (.int .i64) list t24.toNat))))
 else none
 else none
 else bif idx t24 list.length then bif idx t24 out.length then rec list last t22 t23 (i64.wrap (t24+1)) (out.set t24.toNat (decide (last<(get (.int .i64) list t24.toNat))))
 else none
 else none
 else none
 else k0 list last t22 t23 t24 (decide (t24<t23)) out
def zq.l7 {R:Type} (F:Nat) (k0:zq.l7.K0 R):Nat->zq.l7.T R
 | 0,_,_,_,_,_,_=>none
 | fu+1,list,last,t22,t23,t24,out=>zq.l7.body F k0 (zq.l7 F k0 fu) list last t22 t23 t24 out
def zq.j13 {R:Type} (F:Nat) (k0:(List Bool)->Int->Option R) (out:List Bool):Option R :=
 k0 out 0
def zq.sh (F:Nat) (p:zI.T):Option zq.sg.R :=
 oB (yQ.sh F p) fun c_1 =>
 bif (c_1.1.2.1 != 0) then some (([],c_1.1.2.1,()),())
 else bif (decide (0<=(c_1.1.1.length:Int))&&decide ((c_1.1.1.length:Int)<=(c_1.1.1.length:Int))&&decide ((c_1.1.1.length:Int)<=(xj:Int))) then zq.l7 F (fun list2 last2 t222 t232 t242 t252 out2=>zq.j13 F (fun r23 r33=>some ((r23,r33,()),())) out2) F c_1.1.1 (-1) p.2.2.2 (p.2.2.2.length:Int) 0 (ZP .bool ((c_1.1.1.length:Int).toNat))
 else none
def zq.sp (F:Nat):TA zq.sg.args->Option zq.sg.R:=fun x=>zq.sh F x.1
@[reducible] def y7.sg:Sig:={args:=[.d (.c (.int .i64))],res:=[.c .fn,.c (.int .i64)]}
def y7.sh (F:Nat) (kind:Int):Option y7.sg.R :=
 bif idx kind (([Ty.dflt (.pair .fn (.int .i64)),(xO,0),(xU,0),(xA,0),(xJ,0),(zH,1),(zH,2),(zH,2),(xG,2),(zH,(-1)),(zH,(-1)),(yN,1),(yN,1),(yP,1),(yP,1),(xQ,1),(xN,3)]:List (Nat×Int)).length) then bif idx kind (([Ty.dflt (.pair .fn (.int .i64)),(xO,0),(xU,0),(xA,0),(xJ,0),(zH,1),(zH,2),(zH,2),(xG,2),(zH,(-1)),(zH,(-1)),(yN,1),(yN,1),(yP,1),(yP,1),(xQ,1),(xN,3)]:List (Nat×Int)).length) then some (((get (.pair .fn (.int .i64)) ([Ty.dflt (.pair .fn (.int .i64)),(xO,0),(xU,0),(xA,0),(xJ,0),(zH,1),(zH,2),(zH,2),(xG,2),(zH,(-1)),(zH,(-1)),(yN,1),(yN,1),(yP,1),(yP,1),(xQ,1),(xN,3)]:List (Nat×Int)) kind.toNat).1,(get (.pair .fn (.int .i64)) ([Ty.dflt (.pair .fn (.int .i64)),(xO,0),(xU,0),(xA,0),(xJ,0),(zH,1),(zH,2),(zH,2),(xG,2),(zH,(-1)),(zH,(-1)),(yN,1),(yN,1),(yP,1),(yP,1),(xQ,1),(xN,3)]:List (Nat×Int)) kind.toNat).2,()),())
 else none
 else none
def y7.sp (F:Nat):TA y7.sg.args->Option y7.sg.R:=fun x=>y7.sh F x.1
@[reducible] def zv.sg:Sig:={args:=[.d (.g ym),.d (.c (.int .i64))],res:=[.c (.int .i64)]}
abbrev zv.l2.K1 (R:Type):Type:=Int->(List Int)->Int->Int->Bool->ym.T->Option R
abbrev zv.l2.T (R:Type):Type:=Int->(List Int)->Int->Int->ym.T->Option R
def zv.l2.body {R:Type} (F:Nat) (k0:Int->Option R) (k1:zv.l2.K1 R) (rec:zv.l2.T R) (from_:Int) (t10:List Int) (t11:Int) (t12:Int) (n:ym.T):Option R :=
 bif decide (t12<t11) then bif idx t12 t10.length then bif idx from_ n.2.1.length then bif ((get (.int .i64) t10 t12.toNat) != (get (.int .i64) n.2.1 from_.toNat)) then k0 (-1)
 else rec from_ t10 t11 (i64.wrap (t12+1)) n
 else none
 else none
 else k1 from_ t10 t11 t12 (decide (t12<t11)) n
def zv.l2 {R:Type} (F:Nat) (k0:Int->Option R) (k1:zv.l2.K1 R):Nat->zv.l2.T R
 | 0,_,_,_,_,_=>none
 | fu+1,from_,t10,t11,t12,n=>zv.l2.body F k0 k1 (zv.l2 F k0 k1 fu) from_ t10 t11 t12 n
def zv.sh (F:Nat) (n:ym.T) (from_:Int):Option zv.sg.R :=
 bif (zB n.2.1.length (some from_) none).1 then zv.l2 F (fun r41=>some ((r41,()),())) (fun from_2 t102 t112 t122 t132 n2=>bif idx from_2 n2.2.1.length then some ((get (.int .i64) n2.2.1 from_2.toNat,()),())
 else none) F from_ ((n.2.1.take (zB n.2.1.length (some from_) none).2.2).drop (zB n.2.1.length (some from_) none).2.1) (((n.2.1.take (zB n.2.1.length (some from_) none).2.2).drop (zB n.2.1.length (some from_) none).2.1).length:Int) 0 n
 else none
def zv.sp (F:Nat):TA zv.sg.args->Option zv.sg.R:=fun x=>zv.sh F x.1 x.2.1
@[reducible] def yg.sg:Sig:={args:=[.d (.g ym)],res:=[.c (.int .i64)]}
def yg.sh (F:Nat) (n:ym.T):Option yg.sg.R :=
 oB (zv.sh F n 0) fun c_1 =>
 some ((c_1.1.1,()),())
def yg.sp (F:Nat):TA yg.sg.args->Option yg.sg.R:=fun x=>yg.sh F x.1
@[reducible] def yw.sg:Sig:={args:=[.d (.g ym)],res:=[.c (.int .i64)]}
def yw.sh (F:Nat) (n:ym.T):Option yw.sg.R :=
 some ((i64.wrap (3+(i64.wrap (2*n.1.2.1))),()),())
def yw.sp (F:Nat):TA yw.sg.args->Option yw.sg.R:=fun x=>yw.sh F x.1
@[reducible] def yy.sg:Sig:={args:=[.d (.c (.int .i64))],res:=[.c .bool]}
def yy.sh (F:Nat) (t:Int):Option yy.sg.R :=
 some ((decide (t>=2),()),())
def yy.sp (F:Nat):TA yy.sg.args->Option yy.sg.R:=fun x=>yy.sh F x.1
@[reducible] def yb.sg:Sig:={args:=[.d (.g ym)],res:=[.c (.int .i64)]}
def yb.sh (F:Nat) (n:ym.T):Option yb.sg.R :=
 bif idx 0 n.2.1.length then oB (yy.sh F (get (.int .i64) n.2.1 0)) fun c_1 =>
 bif c_1.1.1 then bif idx 0 n.2.1.length then some ((get (.int .i64) n.2.1 0,()),())
 else none
 else some (((-1),()),())
 else none
def yb.sp (F:Nat):TA yb.sg.args->Option yb.sg.R:=fun x=>yb.sh F x.1
@[reducible] def yM.sg:Sig:={args:=[.d (.g ym)],res:=[.c (.int .i64)]}
def yM.sh (F:Nat) (n:ym.T):Option yM.sg.R :=
 some ((1,()),())
def yM.sp (F:Nat):TA yM.sg.args->Option yM.sg.R:=fun x=>yM.sh F x.1
@[reducible] def yH.sg:Sig:={args:=[.d (.g ym)],res:=[.c (.int .i64)]}
def yH.sh (F:Nat) (n:ym.T):Option yH.sg.R :=
 some ((0,()),())
def yH.sp (F:Nat):TA yH.sg.args->Option yH.sg.R:=fun x=>yH.sh F x.1
@[reducible] def yG.sg:Sig:={args:=[.d (.g ym)],res:=[.c (.int .i64)]}
def yG.sh (F:Nat) (n:ym.T):Option yG.sg.R :=
 bif idx 0 n.2.1.length then bif ((get (.int .i64) n.2.1 0)==1) then some ((1,()),())
 else some (((-1),()),())
 else none
def yG.sp (F:Nat):TA yG.sg.args->Option yG.sg.R:=fun x=>yG.sh F x.1
@[reducible] def yn.sg:Sig:={args:=[.d (.g ym)],res:=[.c (.int .i64)]}
def yn.sh (F:Nat) (n:ym.T):Option yn.sg.R :=
 bif idx 0 n.2.1.length then oB (yy.sh F (get (.int .i64) n.2.1 0)) fun c_1 =>
 bif c_1.1.1 then some ((1,()),())
 else some (((-1),()),())
 else none
def yn.sp (F:Nat):TA yn.sg.args->Option yn.sg.R:=fun x=>yn.sh F x.1
@[reducible] def yk.sg:Sig:={args:=[.d (.g ym)],res:=[.c (.int .i64)]}
def yk.sh (F:Nat) (n:ym.T):Option yk.sg.R :=
 bif idx 0 n.2.1.length then bif idx 1 n.2.1.length then bif ((get (.int .i64) n.2.1 0)==0) then some ((get (.int .i64) n.2.1 1,()),())
 else bif ((get (.int .i64) n.2.1 1)==0) then some ((get (.int .i64) n.2.1 0,()),())
 else oB (yy.sh F (get (.int .i64) n.2.1 0)) fun c_1 =>
 bif c_1.1.1 then bif ((get (.int .i64) n.2.1 1)==1) then bif ((get (.int .i64) n.2.1 1)==1) then some ((1,()),())
 else some (((-1),()),())
 else oB (yy.sh F (get (.int .i64) n.2.1 1)) fun c_2 =>
 bif c_2.1.1 then bif ((get (.int .i64) n.2.1 0)==1) then some ((1,()),())
 else some (((-1),()),())
 else some (((-1),()),())
 else oB (yy.sh F (get (.int .i64) n.2.1 1)) fun c_3 =>
 bif c_3.1.1 then bif ((get (.int .i64) n.2.1 0)==1) then some ((1,()),())
 else some (((-1),()),())
 else some (((-1),()),())
 else none
 else none
def yk.sp (F:Nat):TA yk.sg.args->Option yk.sg.R:=fun x=>yk.sh F x.1
@[reducible] def yh.sg:Sig:={args:=[.d (.g ym)],res:=[.c (.int .i64)]}
def yh.sh (F:Nat) (n:ym.T):Option yh.sg.R :=
 some ((i64.wrap (2+(i64.wrap (2*n.1.2.1))),()),())
def yh.sp (F:Nat):TA yh.sg.args->Option yh.sg.R:=fun x=>yh.sh F x.1
@[reducible] def yz.sg:Sig:={args:=[.d (.g ym)],res:=[.c (.int .i64)]}
def yz.sh (F:Nat) (n:ym.T):Option yz.sg.R :=
 bif idx 0 n.2.1.length then oB (yy.sh F (get (.int .i64) n.2.1 0)) fun c_1 =>
 bif c_1.1.1 then oB (zv.sh F n 1) fun c_2 =>
 some ((c_2.1.1,()),())
 else some (((-1),()),())
 else none
def yz.sp (F:Nat):TA yz.sg.args->Option yz.sg.R:=fun x=>yz.sh F x.1
@[reducible] def zh.sg:Sig:={args:=[.d (.g zI)],res:=[.c (.sl (.int .i64)),.c (.int .i64),.c (.int .i64)]}
@[reducible] def zh.ds63:Sig:={args:=[.d (.g ym)],res:=[.c (.int .i64)]}
def zh.d63 (F:Nat):Nat->TA zh.ds63.args->Option zh.ds63.R:=mkT zh.ds63 [(zH,yg.sp F),(xJ,yw.sp F),(yN,yb.sp F),(xU,yM.sp F),(xO,yH.sp F),(xQ,yG.sp F),(yP,yn.sp F),(xG,yk.sp F),(xA,yh.sp F),(xN,yz.sp F)]
abbrev zh.l8.K0 (R:Type):Type:=(List Int)->Int->Int->Option R
abbrev zh.l8.K1 (R:Type):Type:=(List Int)->Int->Int->Option R
abbrev zh.l8.K2 (R:Type):Type:=(List Bool)->(List zo.T)->Int->Int->Bool->(List Int)->(List Int)->(List Bool)->Option R
abbrev zh.l8.T (R:Type):Type:=(List Bool)->(List zo.T)->Int->Int->(List Int)->(List Int)->(List Bool)->Option R
def zh.l8.body {R:Type} (F:Nat) (k0:zh.l8.K0 R) (k1:zh.l8.K1 R) (k2:zh.l8.K2 R) (rec:zh.l8.T R) (fixed:List Bool) (t33:List zo.T) (t34:Int) (t35:Int) (types:List Int) (pile:List Int) (fix:List Bool):Option R :=
 bif decide (t35<t34) then bif idx t35 t33.length then oB (y7.sh F (get zo t33 t35.toNat).1) fun c_3 =>
 bif decide (c_3.1.2.1<0) then bif (zB pile.length (some (i64.wrap ((pile.length:Int)-(get zo t33 t35.toNat).2.2.2.1))) none).1 then bif (zB fix.length (some (i64.wrap ((pile.length:Int)-(get zo t33 t35.toNat).2.2.2.1))) none).1 then oB (zh.d63 F c_3.1.1 (((get zo t33 t35.toNat),(pile.take (zB pile.length (some (i64.wrap ((pile.length:Int)-(get zo t33 t35.toNat).2.2.2.1))) none).2.2).drop (zB pile.length (some (i64.wrap ((pile.length:Int)-(get zo t33 t35.toNat).2.2.2.1))) none).2.1,(fix.take (zB fix.length (some (i64.wrap ((pile.length:Int)-(get zo t33 t35.toNat).2.2.2.1))) none).2.2).drop (zB fix.length (some (i64.wrap ((pile.length:Int)-(get zo t33 t35.toNat).2.2.2.1))) none).2.1),())) fun c_4 =>
 bif (c_4.1.1==(-1)) then k0 ([]) t35 80
 else bif ((get zo t33 t35.toNat).1==8) then bif idx (i64.wrap ((pile.length:Int)-(get zo t33 t35.toNat).2.2.2.1)) fix.length then bif !(get .bool fix ((i64.wrap ((pile.length:Int)-(get zo t33 t35.toNat).2.2.2.1)).toNat)) then bif idx (i64.wrap ((i64.wrap ((pile.length:Int)-(get zo t33 t35.toNat).2.2.2.1))+1)) fix.length then bif !(get .bool fix ((i64.wrap ((i64.wrap ((pile.length:Int)-(get zo t33 t35.toNat).2.2.2.1))+1)).toNat)) then k1 ([]) t35 81
 else bif Nat.ble (types.length+([c_4.1.1]:List Int).length) xj then bif (zB pile.length none (some (i64.wrap ((pile.length:Int)-(get zo t33 t35.toNat).2.2.2.1)))).1 then bif Nat.ble ((zB pile.length none (some (i64.wrap ((pile.length:Int)-(get zo t33 t35.toNat).2.2.2.1)))).2.2+([c_4.1.1]:List Int).length) xj then bif (zB fix.length none (some (i64.wrap ((pile.length:Int)-(get zo t33 t35.toNat).2.2.2.1)))).1 then bif idx t35 fixed.length then bif Nat.ble ((zB fix.length none (some (i64.wrap ((pile.length:Int)-(get zo t33 t35.toNat).2.2.2.1)))).2.2+([get .bool fixed t35.toNat]:List Bool).length) xj then rec fixed t33 t34 (i64.wrap (t35+1)) (types++([c_4.1.1]:List Int)) (pile.take (zB pile.length none (some (i64.wrap ((pile.length:Int)-(get zo t33 t35.toNat).2.2.2.1)))).2.2++([c_4.1.1]:List Int)) (fix.take (zB fix.length none (some (i64.wrap ((pile.length:Int)-(get zo t33 t35.toNat).2.2.2.1)))).2.2++([get .bool fixed t35.toNat]:List Bool))
 else none
 else none
 else none
 else none
 else none
 else none
 else none
 else bif Nat.ble (types.length+([c_4.1.1]:List Int).length) xj then bif (zB pile.length none (some (i64.wrap ((pile.length:Int)-(get zo t33 t35.toNat).2.2.2.1)))).1 then bif Nat.ble ((zB pile.length none (some (i64.wrap ((pile.length:Int)-(get zo t33 t35.toNat).2.2.2.1)))).2.2+([c_4.1.1]:List Int).length) xj then bif (zB fix.length none (some (i64.wrap ((pile.length:Int)-(get zo t33 t35.toNat).2.2.2.1)))).1 then bif idx t35 fixed.length then bif Nat.ble ((zB fix.length none (some (i64.wrap ((pile.length:Int)-(get zo t33 t35.toNat).2.2.2.1)))).2.2+([get .bool fixed t35.toNat]:List Bool).length) xj then rec fixed t33 t34 (i64.wrap (t35+1)) (types++([c_4.1.1]:List Int)) (pile.take (zB pile.length none (some (i64.wrap ((pile.length:Int)-(get zo t33 t35.toNat).2.2.2.1)))).2.2++([c_4.1.1]:List Int)) (fix.take (zB fix.length none (some (i64.wrap ((pile.length:Int)-(get zo t33 t35.toNat).2.2.2.1)))).2.2++([get .bool fixed t35.toNat]:List Bool))
 else none
 else none
 else none
 else none
 else none
 else none
 else none
 else bif Nat.ble (types.length+([c_4.1.1]:List Int).length) xj then bif (zB pile.length none (some (i64.wrap ((pile.length:Int)-(get zo t33 t35.toNat).2.2.2.1)))).1 then bif Nat.ble ((zB pile.length none (some (i64.wrap ((pile.length:Int)-(get zo t33 t35.toNat).2.2.2.1)))).2.2+([c_4.1.1]:List Int).length) xj then bif (zB fix.length none (some (i64.wrap ((pile.length:Int)-(get zo t33 t35.toNat).2.2.2.1)))).1 then bif idx t35 fixed.length then bif Nat.ble ((zB fix.length none (some (i64.wrap ((pile.length:Int)-(get zo t33 t35.toNat).2.2.2.1)))).2.2+([get .bool fixed t35.toNat]:List Bool).length) xj then rec fixed t33 t34 (i64.wrap (t35+1)) (types++([c_4.1.1]:List Int)) (pile.take (zB pile.length none (some (i64.wrap ((pile.length:Int)-(get zo t33 t35.toNat).2.2.2.1)))).2.2++([c_4.1.1]:List Int)) (fix.take (zB fix.length none (some (i64.wrap ((pile.length:Int)-(get zo t33 t35.toNat).2.2.2.1)))).2.2++([get .bool fixed t35.toNat]:List Bool))
 else none
 else none
 else none
 else none
 else none
 else none
 else none
 else none
 else bif (zB pile.length (some (i64.wrap ((pile.length:Int)-c_3.1.2.1))) none).1 then bif (zB fix.length (some (i64.wrap ((pile.length:Int)-c_3.1.2.1))) none).1 then oB (zh.d63 F c_3.1.1 (((get zo t33 t35.toNat),(pile.take (zB pile.length (some (i64.wrap ((pile.length:Int)-c_3.1.2.1))) none).2.2).drop (zB pile.length (some (i64.wrap ((pile.length:Int)-c_3.1.2.1))) none).2.1,(fix.take (zB fix.length (some (i64.wrap ((pile.length:Int)-c_3.1.2.1))) none).2.2).drop (zB fix.length (some (i64.wrap ((pile.length:Int)-c_3.1.2.1))) none).2.1),())) fun c_5 =>
 bif (c_5.1.1==(-1)) then k0 ([]) t35 80
 else bif ((get zo t33 t35.toNat).1==8) then bif idx (i64.wrap ((pile.length:Int)-c_3.1.2.1)) fix.length then bif !(get .bool fix ((i64.wrap ((pile.length:Int)-c_3.1.2.1)).toNat)) then bif idx (i64.wrap ((i64.wrap ((pile.length:Int)-c_3.1.2.1))+1)) fix.length then bif !(get .bool fix ((i64.wrap ((i64.wrap ((pile.length:Int)-c_3.1.2.1))+1)).toNat)) then k1 ([]) t35 81
 else bif Nat.ble (types.length+([c_5.1.1]:List Int).length) xj then bif (zB pile.length none (some (i64.wrap ((pile.length:Int)-c_3.1.2.1)))).1 then bif Nat.ble ((zB pile.length none (some (i64.wrap ((pile.length:Int)-c_3.1.2.1)))).2.2+([c_5.1.1]:List Int).length) xj then bif (zB fix.length none (some (i64.wrap ((pile.length:Int)-c_3.1.2.1)))).1 then bif idx t35 fixed.length then bif Nat.ble ((zB fix.length none (some (i64.wrap ((pile.length:Int)-c_3.1.2.1)))).2.2+([get .bool fixed t35.toNat]:List Bool).length) xj then rec fixed t33 t34 (i64.wrap (t35+1)) (types++([c_5.1.1]:List Int)) (pile.take (zB pile.length none (some (i64.wrap ((pile.length:Int)-c_3.1.2.1)))).2.2++([c_5.1.1]:List Int)) (fix.take (zB fix.length none (some (i64.wrap ((pile.length:Int)-c_3.1.2.1)))).2.2++([get .bool fixed t35.toNat]:List Bool))
 else none
 else none
 else none
 else none
 else none
 else none
 else none
 else bif Nat.ble (types.length+([c_5.1.1]:List Int).length) xj then bif (zB pile.length none (some (i64.wrap ((pile.length:Int)-c_3.1.2.1)))).1 then bif Nat.ble ((zB pile.length none (some (i64.wrap ((pile.length:Int)-c_3.1.2.1)))).2.2+([c_5.1.1]:List Int).length) xj then bif (zB fix.length none (some (i64.wrap ((pile.length:Int)-c_3.1.2.1)))).1 then bif idx t35 fixed.length then bif Nat.ble ((zB fix.length none (some (i64.wrap ((pile.length:Int)-c_3.1.2.1)))).2.2+([get .bool fixed t35.toNat]:List Bool).length) xj then rec fixed t33 t34 (i64.wrap (t35+1)) (types++([c_5.1.1]:List Int)) (pile.take (zB pile.length none (some (i64.wrap ((pile.length:Int)-c_3.1.2.1)))).2.2++([c_5.1.1]:List Int)) (fix.take (zB fix.length none (some (i64.wrap ((pile.length:Int)-c_3.1.2.1)))).2.2++([get .bool fixed t35.toNat]:List Bool))
 else none
 else none
 else none
 else none
 else none
 else none
 else none
 else bif Nat.ble (types.length+([c_5.1.1]:List Int).length) xj then bif (zB pile.length none (some (i64.wrap ((pile.length:Int)-c_3.1.2.1)))).1 then bif Nat.ble ((zB pile.length none (some (i64.wrap ((pile.length:Int)-c_3.1.2.1)))).2.2+([c_5.1.1]:List Int).length) xj then bif (zB fix.length none (some (i64.wrap ((pile.length:Int)-c_3.1.2.1)))).1 then bif idx t35 fixed.length then bif Nat.ble ((zB fix.length none (some (i64.wrap ((pile.length:Int)-c_3.1.2.1)))).2.2+([get .bool fixed t35.toNat]:List Bool).length) xj then rec fixed t33 t34 (i64.wrap (t35+1)) (types++([c_5.1.1]:List Int)) (pile.take (zB pile.length none (some (i64.wrap ((pile.length:Int)-c_3.1.2.1)))).2.2++([c_5.1.1]:List Int)) (fix.take (zB fix.length none (some (i64.wrap ((pile.length:Int)-c_3.1.2.1)))).2.2++([get .bool fixed t35.toNat]:List Bool))
 else none
 else none
 else none
 else none
 else none
 else none
 else none
 else none
 else none
 else k2 fixed t33 t34 t35 (decide (t35<t34)) types pile fix
def zh.l8 {R:Type} (F:Nat) (k0:zh.l8.K0 R) (k1:zh.l8.K1 R) (k2:zh.l8.K2 R):Nat->zh.l8.T R
 | 0,_,_,_,_,_,_,_=>none
 | fu+1,fixed,t33,t34,t35,types,pile,fix=>zh.l8.body F k0 k1 k2 (zh.l8 F k0 k1 k2 fu) fixed t33 t34 t35 types pile fix
def zh.j23 {R:Type} (F:Nat) (k0:(List Int)->Int->Int->Option R) (k1:(List Int)->Int->Int->Option R) (types:List Int) (pile:List Int):Option R :=
 bif idx 0 pile.length then bif ((get (.int .i64) pile 0) != 1) then k0 ([]) (i64.wrap ((types.length:Int)-1)) 80
 else k1 types 0 0
 else none
def zh.sh (F:Nat) (p:zI.T):Option zh.sg.R :=
 oB (zG.sh F p) fun c_1 =>
 bif (c_1.1.2.1 != 0) then some (([],c_1.1.1,c_1.1.2.1,()),())
 else oB (zq.sh F p) fun c_2 =>
 zh.l8 F (fun r26 r36 r46=>some ((r26,r36,r46,()),())) (fun r27 r37 r47=>some ((r27,r37,r47,()),())) (fun fixed8 t338 t348 t358 t368 types8 pile8 fix8=>zh.j23 F (fun r29 r39 r49=>some ((r29,r39,r49,()),())) (fun r210 r310 r410=>some ((r210,r310,r410,()),())) types8 pile8) F c_2.1.1 p.2.2.2 (p.2.2.2.length:Int) 0 ([]) ([]) ([])
def zh.sp (F:Nat):TA zh.sg.args->Option zh.sg.R:=fun x=>zh.sh F x.1
@[reducible] def zx.sg:Sig:={args:=[.d (.b (.int .i64))],res:=[.c (.int .i64)]}
abbrev zx.l5.K0 (R:Type):Type:=(List Int)->Int->Int->Bool->Option R
abbrev zx.l5.T (R:Type):Type:=(List Int)->Int->Int->Option R
def zx.l5.body {R:Type} (F:Nat) (k0:zx.l5.K0 R) (rec:zx.l5.T R) (x:List Int) (m:Int) (i:Int):Option R :=
 bif decide (i<(x.length:Int)) then bif idx i x.length then rec x (if get (.int .i64) x i.toNat>m then get (.int .i64) x i.toNat else m) (i64.wrap (i+1))
 else none
 else k0 x m i (decide (i<(x.length:Int)))
def zx.l5 {R:Type} (F:Nat) (k0:zx.l5.K0 R):Nat->zx.l5.T R
 | 0,_,_,_=>none
 | fu+1,x,m,i=>zx.l5.body F k0 (zx.l5 F k0 fu) x m i
def zx.sh (F:Nat) (x:List Int):Option zx.sg.R :=
 bif decide ((x.length:Int)<1) then none
 else bif idx 0 x.length then zx.l5 F (fun x1 m1 i1 t151=>some ((m1,()),())) F x (get (.int .i64) x 0) 1
 else none
def zx.sp (F:Nat):TA zx.sg.args->Option zx.sg.R:=fun x=>zx.sh F x.1
@[reducible] def zz.sg:Sig:={args:=[.d (.g zI)],res:=[.c (.int .i64),.c (.int .i64)]}
abbrev zz.l6.K0 (R:Type):Type:=(List zo.T)->Int->Int->Bool->(List Int)->Option R
abbrev zz.l6.T (R:Type):Type:=(List zo.T)->Int->Int->(List Int)->Option R
def zz.l6.body {R:Type} (F:Nat) (k0:zz.l6.K0 R) (rec:zz.l6.T R) (t20:List zo.T) (t21:Int) (t22:Int) (pile:List Int):Option R :=
 bif decide (t22<t21) then bif idx t22 t20.length then oB (yD.sh F (get zo t20 t22.toNat)) fun c_2 =>
 bif decide (c_2.1.1>0) then bif (zB pile.length (some (i64.wrap ((pile.length:Int)-c_2.1.1))) none).1 then oB (zx.sh F ((List.take (zB pile.length (some (i64.wrap ((pile.length:Int)-c_2.1.1))) none).2.2 pile).drop (zB pile.length (some (i64.wrap ((pile.length:Int)-c_2.1.1))) none).2.1)) fun c_3 =>
 bif (zB pile.length none (some (i64.wrap ((pile.length:Int)-c_2.1.1)))).1 then bif ((get zo t20 t22.toNat).1==15) then bif Nat.ble ((pile.take (zB pile.length none (some (i64.wrap ((pile.length:Int)-c_2.1.1)))).2.2).length+([i64.wrap (c_3.1.1+1)]:List Int).length) xj then rec t20 t21 (i64.wrap (t22+1)) ((pile.take (zB pile.length none (some (i64.wrap ((pile.length:Int)-c_2.1.1)))).2.2)++([i64.wrap (c_3.1.1+1)]:List Int))
 else none
 else bif Nat.ble ((pile.take (zB pile.length none (some (i64.wrap ((pile.length:Int)-c_2.1.1)))).2.2).length+([c_3.1.1]:List Int).length) xj then rec t20 t21 (i64.wrap (t22+1)) ((pile.take (zB pile.length none (some (i64.wrap ((pile.length:Int)-c_2.1.1)))).2.2)++([c_3.1.1]:List Int))
 else none
 else none
 else none
 else bif ((get zo t20 t22.toNat).1==15) then bif Nat.ble (pile.length+([i64.wrap (0+1)]:List Int).length) xj then rec t20 t21 (i64.wrap (t22+1)) (pile++([i64.wrap (0+1)]:List Int))
 else none
 else bif Nat.ble (pile.length+([0]:List Int).length) xj then rec t20 t21 (i64.wrap (t22+1)) (pile++([0]:List Int))
 else none
 else none
 else k0 t20 t21 t22 (decide (t22<t21)) pile
def zz.l6 {R:Type} (F:Nat) (k0:zz.l6.K0 R):Nat->zz.l6.T R
 | 0,_,_,_,_=>none
 | fu+1,t20,t21,t22,pile=>zz.l6.body F k0 (zz.l6 F k0 fu) t20 t21 t22 pile
def zz.j17 {R:Type} (F:Nat) (k0:Int->Int->Option R) (pile:List Int):Option R :=
 bif idx 0 pile.length then k0 (get (.int .i64) pile 0) 0
 else none
def zz.sh (F:Nat) (p:zI.T):Option zz.sg.R :=
 oB (zG.sh F p) fun c_1 =>
 bif (c_1.1.2.1 != 0) then some ((0,c_1.1.2.1,()),())
 else zz.l6 F (fun t204 t214 t224 t234 pile4=>zz.j17 F (fun r25 r35=>some ((r25,r35,()),())) pile4) F p.2.2.2 (p.2.2.2.length:Int) 0 ([])
def zz.sp (F:Nat):TA zz.sg.args->Option zz.sg.R:=fun x=>zz.sh F x.1
@[reducible] def yt.sg:Sig:={args:=[.d (.c (.int .i64))],res:=[.g zg]}
def yt.sh (F:Nat) (v:Int):Option yt.sg.R :=
 some (((v.fdiv (2^(min (63:Int).toNat IntKind.i64.bits)),u64.wrap v),()),())
def yt.sp (F:Nat):TA yt.sg.args->Option yt.sg.R:=fun x=>yt.sh F x.1
@[reducible] def y6.sg:Sig:={args:=[.d (.g zg)],res:=[.c (.int .u64),.c (.int .u64)]}
def y6.sh (F:Nat) (w:zg.T):Option y6.sg.R :=
 bif decide (w.1>=0) then some ((u64.wrap w.1,w.2,()),())
 else oB (zR.sh F 0 w.2 0) fun c_1 =>
 oB (zR.sh F 0 (u64.wrap w.1) c_1.1.2.1) fun c_2 =>
 some ((c_2.1.1,c_1.1.1,()),())
def y6.sp (F:Nat):TA y6.sg.args->Option y6.sg.R:=fun x=>y6.sh F x.1
@[reducible] def yA.sg:Sig:={args:=[.d (.c (.int .u64)),.d (.c (.int .u64))],res:=[.c (.int .u64),.c (.int .u64)]}
def yA.sh (F:Nat) (x:Int) (y:Int):Option yA.sg.R :=
 some ((u64.wrap ((u64.wrap ((u64.wrap ((x.fdiv (2^(min (32:Int).toNat IntKind.u64.bits)))*(y.fdiv (2^(min (32:Int).toNat IntKind.u64.bits)))))+((u64.wrap ((u64.wrap ((x.fdiv (2^(min (32:Int).toNat IntKind.u64.bits)))*(u64.wrap ((BitVec.ofInt IntKind.u64.bits y &&& BitVec.ofInt IntKind.u64.bits 4294967295).toNat))))+((u64.wrap ((u64.wrap ((BitVec.ofInt IntKind.u64.bits x &&& BitVec.ofInt IntKind.u64.bits 4294967295).toNat))*(u64.wrap ((BitVec.ofInt IntKind.u64.bits y &&& BitVec.ofInt IntKind.u64.bits 4294967295).toNat)))).fdiv (2^(min (32:Int).toNat IntKind.u64.bits))))).fdiv (2^(min (32:Int).toNat IntKind.u64.bits)))))+((u64.wrap ((u64.wrap ((BitVec.ofInt IntKind.u64.bits (u64.wrap ((u64.wrap ((x.fdiv (2^(min (32:Int).toNat IntKind.u64.bits)))*(u64.wrap ((BitVec.ofInt IntKind.u64.bits y &&& BitVec.ofInt IntKind.u64.bits 4294967295).toNat))))+((u64.wrap ((u64.wrap ((BitVec.ofInt IntKind.u64.bits x &&& BitVec.ofInt IntKind.u64.bits 4294967295).toNat))*(u64.wrap ((BitVec.ofInt IntKind.u64.bits y &&& BitVec.ofInt IntKind.u64.bits 4294967295).toNat)))).fdiv (2^(min (32:Int).toNat IntKind.u64.bits))))) &&& BitVec.ofInt IntKind.u64.bits 4294967295).toNat))+(u64.wrap ((u64.wrap ((BitVec.ofInt IntKind.u64.bits x &&& BitVec.ofInt IntKind.u64.bits 4294967295).toNat))*(y.fdiv (2^(min (32:Int).toNat IntKind.u64.bits))))))).fdiv (2^(min (32:Int).toNat IntKind.u64.bits)))),u64.wrap (x*y),()),())
def yA.sp (F:Nat):TA yA.sg.args->Option yA.sg.R:=fun x=>yA.sh F x.1 x.2.1
@[reducible] def xk.sg:Sig:={args:=[.d (.c .bool),.d (.c (.int .u64)),.d (.c (.int .u64))],res:=[.c (.int .u64)]}
def xk.sh (F:Nat) (first_:Bool) (a:Int) (b:Int):Option xk.sg.R :=
 bif first_ then some ((a,()),())
 else some ((b,()),())
def xk.sp (F:Nat):TA xk.sg.args->Option xk.sg.R:=fun x=>xk.sh F x.1 x.2.1 x.2.2.1
@[reducible] def xy.sg:Sig:={args:=[.d (.g zg),.d (.g zg)],res:=[.g zg,.c (.int .i64)]}
def xy.sh (F:Nat) (a:zg.T) (b:zg.T):Option xy.sg.R :=
 oB (zR.sh F a.2 b.2 0) fun c_1 =>
 oB (zR.sh F (u64.wrap a.1) (u64.wrap b.1) c_1.1.2.1) fun c_2 =>
 bif (!(decide (a.1<0)==decide (b.1<0))) then bif (!(decide ((i64.wrap c_2.1.1)<0)==decide (a.1<0))) then some (((0,0),10,()),())
 else some (((i64.wrap c_2.1.1,c_1.1.1),0,()),())
 else some (((i64.wrap c_2.1.1,c_1.1.1),0,()),())
def xy.sp (F:Nat):TA xy.sg.args->Option xy.sg.R:=fun x=>xy.sh F x.1 x.2.1
@[reducible] def xI.sg:Sig:={args:=[.d (.g zg)],res:=[.g zg,.c (.int .i64)]}
def xI.sh (F:Nat) (a:zg.T):Option xI.sg.R :=
 oB (xy.sh F (0,0) a) fun c_1 =>
 some ((c_1.1.1,c_1.1.2.1,()),())
def xI.sp (F:Nat):TA xI.sg.args->Option xI.sg.R:=fun x=>xI.sh F x.1
@[reducible] def xa.sg:Sig:={args:=[.d (.c .bool),.d (.c (.int .u64)),.d (.c (.int .u64))],res:=[.g zg,.c (.int .i64)]}
def xa.sh (F:Nat) (below:Bool) (hi:Int) (lo:Int):Option xa.sg.R :=
 bif ((hi.fdiv (2^(min (63:Int).toNat IntKind.u64.bits)))==0) then bif below then oB (xI.sh F (i64.wrap hi,lo)) fun c_1 =>
 some ((c_1.1.1,c_1.1.2.1,()),())
 else some (((i64.wrap hi,lo),0,()),())
 else bif below then bif (hi==9223372036854775808) then bif (lo==0) then some ((((-9223372036854775808),0),0,()),())
 else some (((0,0),10,()),())
 else some (((0,0),10,()),())
 else some (((0,0),10,()),())
def xa.sp (F:Nat):TA xa.sg.args->Option xa.sg.R:=fun x=>xa.sh F x.1 x.2.1 x.2.2.1
@[reducible] def yu.sg:Sig:={args:=[.d (.g zg),.d (.g zg)],res:=[.g zg,.c (.int .i64)]}
def yu.j5 {R:Type} (F:Nat) (k0:Int->zg.T->Option R) (k1:Int->zg.T->Option R) (ah:Int) (al:Int) (bh:Int) (bl:Int) (a:zg.T) (b:zg.T) (r4:zg.T):Option R :=
 oB (yA.sh F al bl) fun c_3 =>
 oB (xk.sh F (ah != 0) bl al) fun c_4 =>
 oB (yA.sh F (u64.wrap ((BitVec.ofInt IntKind.u64.bits ah ||| BitVec.ofInt IntKind.u64.bits bh).toNat)) c_4.1.1) fun c_5 =>
 oB (z8.sh F c_3.1.1 c_5.1.2.1 0) fun c_6 =>
 bif (c_5.1.1 != 0) then k0 10 (0,0)
 else bif (c_6.1.2.1 != 0) then k0 10 (0,0)
 else oB (xa.sh F (!(decide (a.1<0)==decide (b.1<0))) c_6.1.1 c_3.1.2.1) fun c_7 =>
 k1 c_7.1.2.1 c_7.1.1
def yu.sh (F:Nat) (a:zg.T) (b:zg.T):Option yu.sg.R :=
 oB (y6.sh F a) fun c_1 =>
 oB (y6.sh F b) fun c_2 =>
 bif (c_1.1.1 != 0) then bif (c_2.1.1 != 0) then some (((0,0),10,()),())
 else yu.j5 F (fun r58 r48=>some ((r48,r58,()),())) (fun r59 r49=>some ((r49,r59,()),())) c_1.1.1 c_1.1.2.1 c_2.1.1 c_2.1.2.1 a b (0,0)
 else yu.j5 F (fun r510 r410=>some ((r410,r510,()),())) (fun r511 r411=>some ((r411,r511,()),())) c_1.1.1 c_1.1.2.1 c_2.1.1 c_2.1.2.1 a b (0,0)
def yu.sp (F:Nat):TA yu.sg.args->Option yu.sg.R:=fun x=>yu.sh F x.1 x.2.1
@[reducible] def zN.sg:Sig:={args:=[.d (.c (.int .i64))],res:=[.g zg,.c (.int .i64)]}
abbrev zN.l7.K0 (R:Type):Type:=Int->Int->Bool->zg.T->zg.T->Option R
abbrev zN.l7.T (R:Type):Type:=Int->Int->zg.T->zg.T->Option R
def zN.l7.body {R:Type} (F:Nat) (k0:zN.l7.K0 R) (rec:zN.l7.T R) (t12:Int) (t13:Int) (r2:zg.T) (p:zg.T):Option R :=
 bif decide (t13<t12) then oB (yt.sh F 10000) fun c_2 =>
 oB (yu.sh F p c_2.1.1) fun c_3 =>
 rec t12 (i64.wrap (t13+1)) r2 c_3.1.1
 else k0 t12 t13 (decide (t13<t12)) r2 p
def zN.l7 {R:Type} (F:Nat) (k0:zN.l7.K0 R):Nat->zN.l7.T R
 | 0,_,_,_,_=>none
 | fu+1,t12,t13,r2,p=>zN.l7.body F k0 (zN.l7 F k0 fu) t12 t13 r2 p
def zN.sh (F:Nat) (k:Int):Option zN.sg.R :=
 bif decide (k<0) then some (((0,0),1,()),())
 else bif decide (k>9) then some (((0,0),10,()),())
 else oB (yt.sh F 1) fun c_1 =>
 zN.l7 F (fun t124 t134 t144 r24 p4=>some ((p4,0,()),())) F k 0 (0,0) c_1.1.1
def zN.sp (F:Nat):TA zN.sg.args->Option zN.sg.R:=fun x=>zN.sh F x.1
@[reducible] def zO.sg:Sig:={args:=[.d (.g zo)],res:=[.c (.int .i64)]}
def zO.j10 {R:Type} (F:Nat) (k0:Int->Option R) (k1:Int->Option R) (k2:Int->Option R) (k3:Bool->Option R) (t4:Int) (t10:Bool) (n:zo.T):Option R :=
 bif t10 then k0 2
 else bif (t4==9) then bif (t4==9) then k1 n.2.2.2.1
 else bif (t4==16) then k2 3
 else k3 (t4==16)
 else bif (t4==10) then k1 n.2.2.2.1
 else bif (t4==16) then k2 3
 else k3 (t4==16)
def zO.j6 {R:Type} (F:Nat) (k0:Int->Option R) (k1:Int->Option R) (k2:Int->Option R) (k3:Int->Option R) (k4:Bool->Option R) (t4:Int) (t5:Bool) (n:zo.T):Option R :=
 bif t5 then k0 0
 else bif (t4==6) then zO.j10 F (fun r21=>k1 r21) (fun r22=>k2 r22) (fun r23=>k3 r23) (fun t194=>k4 t194) t4 (t4==6) n
 else bif (t4==7) then zO.j10 F (fun r25=>k1 r25) (fun r26=>k2 r26) (fun r27=>k3 r27) (fun t198=>k4 t198) t4 (t4==7) n
 else zO.j10 F (fun r29=>k1 r29) (fun r210=>k2 r210) (fun r211=>k3 r211) (fun t1912=>k4 t1912) t4 (t4==8) n
def zO.sh (F:Nat) (n:zo.T):Option zO.sg.R :=
 bif (n.1==1) then zO.j6 F (fun r213=>some ((r213,()),())) (fun r214=>some ((r214,()),())) (fun r215=>some ((r215,()),())) (fun r216=>some ((r216,()),())) (fun t1917=>some ((1,()),())) n.1 (n.1==1) n
 else bif (n.1==2) then zO.j6 F (fun r218=>some ((r218,()),())) (fun r219=>some ((r219,()),())) (fun r220=>some ((r220,()),())) (fun r221=>some ((r221,()),())) (fun t1922=>some ((1,()),())) n.1 (n.1==2) n
 else bif (n.1==3) then zO.j6 F (fun r223=>some ((r223,()),())) (fun r224=>some ((r224,()),())) (fun r225=>some ((r225,()),())) (fun r226=>some ((r226,()),())) (fun t1927=>some ((1,()),())) n.1 (n.1==3) n
 else zO.j6 F (fun r228=>some ((r228,()),())) (fun r229=>some ((r229,()),())) (fun r230=>some ((r230,()),())) (fun r231=>some ((r231,()),())) (fun t1932=>some ((1,()),())) n.1 (n.1==4) n
def zO.sp (F:Nat):TA zO.sg.args->Option zO.sg.R:=fun x=>zO.sh F x.1
@[reducible] def zV.sg:Sig:={args:=[.io yq [],.d (.g zg),.d (.c (.int .i64))],res:=[.g zg]}
def zV.sh (F:Nat) (m:yq.T) (w:zg.T) (e:Int):Option zV.sg.R :=
 bif m.2 then some ((w,()),((m.1,true),()))
 else some ((w,()),((m.1,(e != 0)),()))
def zV.sp (F:Nat):TA zV.sg.args->Option zV.sg.R:=fun x=>zV.sh F x.1 x.2.1 x.2.2.1
@[reducible] def zT.sg:Sig:={args:=[.io yq [],.d (.g zg),.d (.g zg)],res:=[.g zg]}
def zT.sh (F:Nat) (m:yq.T) (a:zg.T) (b:zg.T):Option zT.sg.R :=
 oB (yu.sh F a b) fun c_1 =>
 oB (zV.sh F m c_1.1.1 c_1.1.2.1) fun c_2 =>
 some ((c_2.1.1,()),(c_2.2.1,()))
def zT.sp (F:Nat):TA zT.sg.args->Option zT.sg.R:=fun x=>zT.sh F x.1 x.2.1 x.2.2.1
@[reducible] def zL.sg:Sig:={args:=[.d (.c (.int .u64))],res:=[.c (.int .i64)]}
def zL.j7 {R:Type} (F:Nat) (k0:Int->Option R) (x:Int) (n:Int):Option R :=
 bif decide (x>=256) then bif idx (IntKind.u8.wrap (x.fdiv (2^(min (8:Int).toNat IntKind.u64.bits)))) ((⟨#[0,1,2,2,3,3,3,3,4,4,4,4,4,4,4,4,5,5,5,5,5,5,5,5,5,5,5,5,5,5,5,5,6,6,6,6,6,6,6,6,6,6,6,6,6,6,6,6,6,6,6,6,6,6,6,6,6,6,6,6,6,6,6,6,7,7,7,7,7,7,7,7,7,7,7,7,7,7,7,7,7,7,7,7,7,7,7,7,7,7,7,7,7,7,7,7,7,7,7,7,7,7,7,7,7,7,7,7,7,7,7,7,7,7,7,7,7,7,7,7,7,7,7,7,7,7,7,7,8,8,8,8,8,8,8,8,8,8,8,8,8,8,8,8,8,8,8,8,8,8,8,8,8,8,8,8,8,8,8,8,8,8,8,8,8,8,8,8,8,8,8,8,8,8,8,8,8,8,8,8,8,8,8,8,8,8,8,8,8,8,8,8,8,8,8,8,8,8,8,8,8,8,8,8,8,8,8,8,8,8,8,8,8,8,8,8,8,8,8,8,8,8,8,8,8,8,8,8,8,8,8,8,8,8,8,8,8,8,8,8,8,8,8,8,8,8,8,8,8,8,8,8,8,8,8,8]⟩:ByteArray).size) then k0 (i64.wrap ((i64.wrap (n+8))+(i64.wrap (bt (⟨#[0,1,2,2,3,3,3,3,4,4,4,4,4,4,4,4,5,5,5,5,5,5,5,5,5,5,5,5,5,5,5,5,6,6,6,6,6,6,6,6,6,6,6,6,6,6,6,6,6,6,6,6,6,6,6,6,6,6,6,6,6,6,6,6,7,7,7,7,7,7,7,7,7,7,7,7,7,7,7,7,7,7,7,7,7,7,7,7,7,7,7,7,7,7,7,7,7,7,7,7,7,7,7,7,7,7,7,7,7,7,7,7,7,7,7,7,7,7,7,7,7,7,7,7,7,7,7,7,8,8,8,8,8,8,8,8,8,8,8,8,8,8,8,8,8,8,8,8,8,8,8,8,8,8,8,8,8,8,8,8,8,8,8,8,8,8,8,8,8,8,8,8,8,8,8,8,8,8,8,8,8,8,8,8,8,8,8,8,8,8,8,8,8,8,8,8,8,8,8,8,8,8,8,8,8,8,8,8,8,8,8,8,8,8,8,8,8,8,8,8,8,8,8,8,8,8,8,8,8,8,8,8,8,8,8,8,8,8,8,8,8,8,8,8,8,8,8,8,8,8,8,8,8,8,8,8]⟩:ByteArray) (IntKind.u8.wrap (x.fdiv (2^(min (8:Int).toNat IntKind.u64.bits))))))))
 else none
 else bif idx (IntKind.u8.wrap x) ((⟨#[0,1,2,2,3,3,3,3,4,4,4,4,4,4,4,4,5,5,5,5,5,5,5,5,5,5,5,5,5,5,5,5,6,6,6,6,6,6,6,6,6,6,6,6,6,6,6,6,6,6,6,6,6,6,6,6,6,6,6,6,6,6,6,6,7,7,7,7,7,7,7,7,7,7,7,7,7,7,7,7,7,7,7,7,7,7,7,7,7,7,7,7,7,7,7,7,7,7,7,7,7,7,7,7,7,7,7,7,7,7,7,7,7,7,7,7,7,7,7,7,7,7,7,7,7,7,7,7,8,8,8,8,8,8,8,8,8,8,8,8,8,8,8,8,8,8,8,8,8,8,8,8,8,8,8,8,8,8,8,8,8,8,8,8,8,8,8,8,8,8,8,8,8,8,8,8,8,8,8,8,8,8,8,8,8,8,8,8,8,8,8,8,8,8,8,8,8,8,8,8,8,8,8,8,8,8,8,8,8,8,8,8,8,8,8,8,8,8,8,8,8,8,8,8,8,8,8,8,8,8,8,8,8,8,8,8,8,8,8,8,8,8,8,8,8,8,8,8,8,8,8,8,8,8,8,8]⟩:ByteArray).size) then k0 (i64.wrap (n+(i64.wrap (bt (⟨#[0,1,2,2,3,3,3,3,4,4,4,4,4,4,4,4,5,5,5,5,5,5,5,5,5,5,5,5,5,5,5,5,6,6,6,6,6,6,6,6,6,6,6,6,6,6,6,6,6,6,6,6,6,6,6,6,6,6,6,6,6,6,6,6,7,7,7,7,7,7,7,7,7,7,7,7,7,7,7,7,7,7,7,7,7,7,7,7,7,7,7,7,7,7,7,7,7,7,7,7,7,7,7,7,7,7,7,7,7,7,7,7,7,7,7,7,7,7,7,7,7,7,7,7,7,7,7,7,8,8,8,8,8,8,8,8,8,8,8,8,8,8,8,8,8,8,8,8,8,8,8,8,8,8,8,8,8,8,8,8,8,8,8,8,8,8,8,8,8,8,8,8,8,8,8,8,8,8,8,8,8,8,8,8,8,8,8,8,8,8,8,8,8,8,8,8,8,8,8,8,8,8,8,8,8,8,8,8,8,8,8,8,8,8,8,8,8,8,8,8,8,8,8,8,8,8,8,8,8,8,8,8,8,8,8,8,8,8,8,8,8,8,8,8,8,8,8,8,8,8,8,8,8,8,8,8]⟩:ByteArray) (IntKind.u8.wrap x)))))
 else none
def zL.j4 {R:Type} (F:Nat) (k0:Int->Option R) (x:Int) (n:Int):Option R :=
 bif decide (x>=65536) then zL.j7 F (fun n1=>k0 n1) (x.fdiv (2^(min (16:Int).toNat IntKind.u64.bits))) (i64.wrap (n+16))
 else zL.j7 F (fun n2=>k0 n2) x n
def zL.sh (F:Nat) (x:Int):Option zL.sg.R :=
 bif decide (x>=4294967296) then zL.j4 F (fun n3=>some ((n3,()),())) (x.fdiv (2^(min (32:Int).toNat IntKind.u64.bits))) 32
 else zL.j4 F (fun n4=>some ((n4,()),())) x 0
def zL.sp (F:Nat):TA zL.sg.args->Option zL.sg.R:=fun x=>zL.sh F x.1
@[reducible] def zZ.sg:Sig:={args:=[.d (.c (.int .u64))],res:=[.c (.int .i64)]}
def zZ.sh (F:Nat) (x:Int):Option zZ.sg.R :=
 oB (zL.sh F x) fun c_1 =>
 some ((i64.wrap (64-c_1.1.1),()),())
def zZ.sp (F:Nat):TA zZ.sg.args->Option zZ.sg.R:=fun x=>zZ.sh F x.1
@[reducible] def zj.sg:Sig:={args:=[.d (.c (.int .u64)),.d (.c (.int .u64)),.d (.c (.int .u64))],res:=[.c (.int .u64),.c (.int .u64)]}
abbrev zj.l17.K0 (R:Type):Type:=Int->Int->Int->Int->Int->Int->Int->Int->Int->Bool->Option R
abbrev zj.l17.K1 (R:Type):Type:=Int->Int->Int->Int->Int->Int->Int->Int->Int->Bool->Option R
abbrev zj.l17.T (R:Type):Type:=Int->Int->Int->Int->Int->Int->Int->Int->Int->Option R
def zj.l17.body {R:Type} (F:Nat) (k0:zj.l17.K0 R) (k1:zj.l17.K1 R) (rec:zj.l17.T R) (y:Int) (s:Int) (yn1:Int) (yn0:Int) (un32:Int) (un1:Int) (un0:Int) (q1:Int) (rhat:Int):Option R :=
 bif decide (q1>=4294967296) then bif decide ((u64.wrap (rhat+yn1))>=4294967296) then k0 y s yn1 yn0 un32 un1 un0 (u64.wrap (q1-1)) (u64.wrap (rhat+yn1)) (decide ((u64.wrap (rhat+yn1))>=4294967296))
 else rec y s yn1 yn0 un32 un1 un0 (u64.wrap (q1-1)) (u64.wrap (rhat+yn1))
 else bif decide ((u64.wrap (q1*yn0))>(u64.wrap ((u64.wrap (4294967296*rhat))+un1))) then bif decide ((u64.wrap (rhat+yn1))>=4294967296) then k0 y s yn1 yn0 un32 un1 un0 (u64.wrap (q1-1)) (u64.wrap (rhat+yn1)) (decide ((u64.wrap (rhat+yn1))>=4294967296))
 else rec y s yn1 yn0 un32 un1 un0 (u64.wrap (q1-1)) (u64.wrap (rhat+yn1))
 else k1 y s yn1 yn0 un32 un1 un0 q1 rhat (decide ((u64.wrap (q1*yn0))>(u64.wrap ((u64.wrap (4294967296*rhat))+un1))))
def zj.l17 {R:Type} (F:Nat) (k0:zj.l17.K0 R) (k1:zj.l17.K1 R):Nat->zj.l17.T R
 | 0,_,_,_,_,_,_,_,_,_=>none
 | fu+1,y,s,yn1,yn0,un32,un1,un0,q1,rhat=>zj.l17.body F k0 k1 (zj.l17 F k0 k1 fu) y s yn1 yn0 un32 un1 un0 q1 rhat
abbrev zj.l24.K0 (R:Type):Type:=Int->Int->Int->Int->Int->Int->Int->Int->Int->Bool->Option R
abbrev zj.l24.K1 (R:Type):Type:=Int->Int->Int->Int->Int->Int->Int->Int->Int->Bool->Option R
abbrev zj.l24.T (R:Type):Type:=Int->Int->Int->Int->Int->Int->Int->Int->Int->Option R
def zj.l24.body {R:Type} (F:Nat) (k0:zj.l24.K0 R) (k1:zj.l24.K1 R) (rec:zj.l24.T R) (y:Int) (s:Int) (yn1:Int) (yn0:Int) (un0:Int) (q1:Int) (rhat:Int) (un21:Int) (q0:Int):Option R :=
 bif decide (q0>=4294967296) then bif decide ((u64.wrap (rhat+yn1))>=4294967296) then k0 y s yn1 yn0 un0 q1 (u64.wrap (rhat+yn1)) un21 (u64.wrap (q0-1)) (decide ((u64.wrap (rhat+yn1))>=4294967296))
 else rec y s yn1 yn0 un0 q1 (u64.wrap (rhat+yn1)) un21 (u64.wrap (q0-1))
 else bif decide ((u64.wrap (q0*yn0))>(u64.wrap ((u64.wrap (4294967296*rhat))+un0))) then bif decide ((u64.wrap (rhat+yn1))>=4294967296) then k0 y s yn1 yn0 un0 q1 (u64.wrap (rhat+yn1)) un21 (u64.wrap (q0-1)) (decide ((u64.wrap (rhat+yn1))>=4294967296))
 else rec y s yn1 yn0 un0 q1 (u64.wrap (rhat+yn1)) un21 (u64.wrap (q0-1))
 else k1 y s yn1 yn0 un0 q1 rhat un21 q0 (decide ((u64.wrap (q0*yn0))>(u64.wrap ((u64.wrap (4294967296*rhat))+un0))))
def zj.l24 {R:Type} (F:Nat) (k0:zj.l24.K0 R) (k1:zj.l24.K1 R):Nat->zj.l24.T R
 | 0,_,_,_,_,_,_,_,_,_=>none
 | fu+1,y,s,yn1,yn0,un0,q1,rhat,un21,q0=>zj.l24.body F k0 k1 (zj.l24 F k0 k1 fu) y s yn1 yn0 un0 q1 rhat un21 q0
def zj.j28 {R:Type} (F:Nat) (k0:Int->Int->Option R) (y:Int) (s:Int) (un0:Int) (q1:Int) (un21:Int) (q0:Int):Option R :=
 bif decide (0<=s) then k0 (u64.wrap ((u64.wrap (q1*4294967296))+q0)) ((u64.wrap ((u64.wrap ((u64.wrap (un21*4294967296))+un0))-(u64.wrap (q0*y)))).fdiv (2^(min s.toNat IntKind.u64.bits)))
 else none
def zj.j21 {R:Type} (F:Nat) (k0:Int->Int->Option R) (y:Int) (s:Int) (yn1:Int) (yn0:Int) (un32:Int) (un1:Int) (un0:Int) (q1:Int):Option R :=
 bif (yn1 != 0) then zj.l24 F (fun y3 s3 yn13 yn03 un03 q13 rhat3 un213 q03 t1203=>zj.j28 F (fun quo4 rem4=>k0 quo4 rem4) y3 s3 un03 q13 un213 q03) (fun y5 s5 yn15 yn05 un05 q15 rhat5 un215 q05 t1135=>zj.j28 F (fun quo6 rem6=>k0 quo6 rem6) y5 s5 un05 q15 un215 q05) F y s yn1 yn0 un0 q1 (u64.wrap ((u64.wrap ((u64.wrap ((u64.wrap (un32*4294967296))+un1))-(u64.wrap (q1*y))))-(u64.wrap ((u64.wrap ((u64.wrap ((u64.wrap ((u64.wrap (un32*4294967296))+un1))-(u64.wrap (q1*y)))).tdiv yn1))*yn1)))) (u64.wrap ((u64.wrap ((u64.wrap (un32*4294967296))+un1))-(u64.wrap (q1*y)))) (u64.wrap ((u64.wrap ((u64.wrap ((u64.wrap (un32*4294967296))+un1))-(u64.wrap (q1*y)))).tdiv yn1))
 else none
def zj.sh (F:Nat) (hi:Int) (lo:Int) (y:Int):Option zj.sg.R :=
 bif (y==0) then none
 else bif decide (y<=hi) then none
 else bif (hi==0) then bif (y != 0) then bif (y != 0) then some ((u64.wrap (lo.tdiv y),lo.tmod y,()),())
 else none
 else none
 else oB (zZ.sh F y) fun c_1 =>
 bif decide (0<=(u64.wrap c_1.1.1)) then bif decide (0<=(u64.wrap c_1.1.1)) then bif decide (0<=(u64.wrap (64-(u64.wrap c_1.1.1)))) then bif decide (0<=(u64.wrap c_1.1.1)) then bif (((u64.wrap (y*2^(min (u64.wrap c_1.1.1).toNat IntKind.u64.bits))).fdiv (2^(min (32:Int).toNat IntKind.u64.bits))) != 0) then zj.l17 F (fun y2 s2 yn12 yn02 un322 un12 un02 q12 rhat2 t852=>zj.j21 F (fun quo7 rem7=>some ((quo7,rem7,()),())) y2 s2 yn12 yn02 un322 un12 un02 q12) (fun y8 s8 yn18 yn08 un328 un18 un08 q18 rhat8 t788=>zj.j21 F (fun quo9 rem9=>some ((quo9,rem9,()),())) y8 s8 yn18 yn08 un328 un18 un08 q18) F (u64.wrap (y*2^(min (u64.wrap c_1.1.1).toNat IntKind.u64.bits))) (u64.wrap c_1.1.1) ((u64.wrap (y*2^(min (u64.wrap c_1.1.1).toNat IntKind.u64.bits))).fdiv (2^(min (32:Int).toNat IntKind.u64.bits))) (u64.wrap ((BitVec.ofInt IntKind.u64.bits (u64.wrap (y*2^(min (u64.wrap c_1.1.1).toNat IntKind.u64.bits))) &&& BitVec.ofInt IntKind.u64.bits 4294967295).toNat)) (u64.wrap ((BitVec.ofInt IntKind.u64.bits (u64.wrap (hi*2^(min (u64.wrap c_1.1.1).toNat IntKind.u64.bits))) ||| BitVec.ofInt IntKind.u64.bits (lo.fdiv (2^(min (u64.wrap (64-(u64.wrap c_1.1.1))).toNat IntKind.u64.bits)))).toNat)) ((u64.wrap (lo*2^(min (u64.wrap c_1.1.1).toNat IntKind.u64.bits))).fdiv (2^(min (32:Int).toNat IntKind.u64.bits))) (u64.wrap ((BitVec.ofInt IntKind.u64.bits (u64.wrap (lo*2^(min (u64.wrap c_1.1.1).toNat IntKind.u64.bits))) &&& BitVec.ofInt IntKind.u64.bits 4294967295).toNat)) (u64.wrap ((u64.wrap ((BitVec.ofInt IntKind.u64.bits (u64.wrap (hi*2^(min (u64.wrap c_1.1.1).toNat IntKind.u64.bits))) ||| BitVec.ofInt IntKind.u64.bits (lo.fdiv (2^(min (u64.wrap (64-(u64.wrap c_1.1.1))).toNat IntKind.u64.bits)))).toNat)).tdiv ((u64.wrap (y*2^(min (u64.wrap c_1.1.1).toNat IntKind.u64.bits))).fdiv (2^(min (32:Int).toNat IntKind.u64.bits))))) (u64.wrap ((u64.wrap ((BitVec.ofInt IntKind.u64.bits (u64.wrap (hi*2^(min (u64.wrap c_1.1.1).toNat IntKind.u64.bits))) ||| BitVec.ofInt IntKind.u64.bits (lo.fdiv (2^(min (u64.wrap (64-(u64.wrap c_1.1.1))).toNat IntKind.u64.bits)))).toNat))-(u64.wrap ((u64.wrap ((u64.wrap ((BitVec.ofInt IntKind.u64.bits (u64.wrap (hi*2^(min (u64.wrap c_1.1.1).toNat IntKind.u64.bits))) ||| BitVec.ofInt IntKind.u64.bits (lo.fdiv (2^(min (u64.wrap (64-(u64.wrap c_1.1.1))).toNat IntKind.u64.bits)))).toNat)).tdiv ((u64.wrap (y*2^(min (u64.wrap c_1.1.1).toNat IntKind.u64.bits))).fdiv (2^(min (32:Int).toNat IntKind.u64.bits)))))*((u64.wrap (y*2^(min (u64.wrap c_1.1.1).toNat IntKind.u64.bits))).fdiv (2^(min (32:Int).toNat IntKind.u64.bits)))))))
 else none
 else none
 else none
 else none
 else none
def zj.sp (F:Nat):TA zj.sg.args->Option zj.sg.R:=fun x=>zj.sh F x.1 x.2.1 x.2.2.1
@[reducible] def z7.sg:Sig:={args:=[.d (.c (.int .u64)),.d (.c (.int .u64)),.d (.c (.int .u64)),.d (.c (.int .u64))],res:=[.c (.int .u64),.c (.int .u64),.c (.int .u64),.c (.int .u64)]}
abbrev z7.l7.K0 (R:Type):Type:=Int->Int->Int->Int->Int->Int->Int->Bool->Option R
abbrev z7.l7.T (R:Type):Type:=Int->Int->Int->Int->Int->Int->Int->Option R
def z7.l7.body {R:Type} (F:Nat) (k0:z7.l7.K0 R) (rec:z7.l7.T R) (al:Int) (bh:Int) (bl:Int) (ql:Int) (rh:Int) (rl:Int) (i:Int):Option R :=
 bif decide (i>=0) then bif decide (0<=i) then bif decide ((u64.wrap ((BitVec.ofInt IntKind.u64.bits (u64.wrap (rh*2^(min (1:Int).toNat IntKind.u64.bits))) ||| BitVec.ofInt IntKind.u64.bits (rl.fdiv (2^(min (63:Int).toNat IntKind.u64.bits)))).toNat))>bh) then oB (zR.sh F (u64.wrap ((BitVec.ofInt IntKind.u64.bits (u64.wrap (rl*2^(min (1:Int).toNat IntKind.u64.bits))) ||| BitVec.ofInt IntKind.u64.bits (u64.wrap ((BitVec.ofInt IntKind.u64.bits (al.fdiv (2^(min i.toNat IntKind.u64.bits))) &&& BitVec.ofInt IntKind.u64.bits 1).toNat))).toNat)) bl 0) fun c_2 =>
 oB (zR.sh F (u64.wrap ((BitVec.ofInt IntKind.u64.bits (u64.wrap (rh*2^(min (1:Int).toNat IntKind.u64.bits))) ||| BitVec.ofInt IntKind.u64.bits (rl.fdiv (2^(min (63:Int).toNat IntKind.u64.bits)))).toNat)) bh c_2.1.2.1) fun c_3 =>
 bif decide (0<=i) then rec al bh bl (u64.wrap ((BitVec.ofInt IntKind.u64.bits ql ||| BitVec.ofInt IntKind.u64.bits (u64.wrap (1*2^(min i.toNat IntKind.u64.bits)))).toNat)) c_3.1.1 c_2.1.1 (i64.wrap (i-1))
 else none
 else bif ((u64.wrap ((BitVec.ofInt IntKind.u64.bits (u64.wrap (rh*2^(min (1:Int).toNat IntKind.u64.bits))) ||| BitVec.ofInt IntKind.u64.bits (rl.fdiv (2^(min (63:Int).toNat IntKind.u64.bits)))).toNat))==bh) then bif decide ((u64.wrap ((BitVec.ofInt IntKind.u64.bits (u64.wrap (rl*2^(min (1:Int).toNat IntKind.u64.bits))) ||| BitVec.ofInt IntKind.u64.bits (u64.wrap ((BitVec.ofInt IntKind.u64.bits (al.fdiv (2^(min i.toNat IntKind.u64.bits))) &&& BitVec.ofInt IntKind.u64.bits 1).toNat))).toNat))>=bl) then oB (zR.sh F (u64.wrap ((BitVec.ofInt IntKind.u64.bits (u64.wrap (rl*2^(min (1:Int).toNat IntKind.u64.bits))) ||| BitVec.ofInt IntKind.u64.bits (u64.wrap ((BitVec.ofInt IntKind.u64.bits (al.fdiv (2^(min i.toNat IntKind.u64.bits))) &&& BitVec.ofInt IntKind.u64.bits 1).toNat))).toNat)) bl 0) fun c_4 =>
 oB (zR.sh F (u64.wrap ((BitVec.ofInt IntKind.u64.bits (u64.wrap (rh*2^(min (1:Int).toNat IntKind.u64.bits))) ||| BitVec.ofInt IntKind.u64.bits (rl.fdiv (2^(min (63:Int).toNat IntKind.u64.bits)))).toNat)) bh c_4.1.2.1) fun c_5 =>
 bif decide (0<=i) then rec al bh bl (u64.wrap ((BitVec.ofInt IntKind.u64.bits ql ||| BitVec.ofInt IntKind.u64.bits (u64.wrap (1*2^(min i.toNat IntKind.u64.bits)))).toNat)) c_5.1.1 c_4.1.1 (i64.wrap (i-1))
 else none
 else rec al bh bl ql (u64.wrap ((BitVec.ofInt IntKind.u64.bits (u64.wrap (rh*2^(min (1:Int).toNat IntKind.u64.bits))) ||| BitVec.ofInt IntKind.u64.bits (rl.fdiv (2^(min (63:Int).toNat IntKind.u64.bits)))).toNat)) (u64.wrap ((BitVec.ofInt IntKind.u64.bits (u64.wrap (rl*2^(min (1:Int).toNat IntKind.u64.bits))) ||| BitVec.ofInt IntKind.u64.bits (u64.wrap ((BitVec.ofInt IntKind.u64.bits (al.fdiv (2^(min i.toNat IntKind.u64.bits))) &&& BitVec.ofInt IntKind.u64.bits 1).toNat))).toNat)) (i64.wrap (i-1))
 else rec al bh bl ql (u64.wrap ((BitVec.ofInt IntKind.u64.bits (u64.wrap (rh*2^(min (1:Int).toNat IntKind.u64.bits))) ||| BitVec.ofInt IntKind.u64.bits (rl.fdiv (2^(min (63:Int).toNat IntKind.u64.bits)))).toNat)) (u64.wrap ((BitVec.ofInt IntKind.u64.bits (u64.wrap (rl*2^(min (1:Int).toNat IntKind.u64.bits))) ||| BitVec.ofInt IntKind.u64.bits (u64.wrap ((BitVec.ofInt IntKind.u64.bits (al.fdiv (2^(min i.toNat IntKind.u64.bits))) &&& BitVec.ofInt IntKind.u64.bits 1).toNat))).toNat)) (i64.wrap (i-1))
 else none
 else k0 al bh bl ql rh rl i (decide (i>=0))
def z7.l7 {R:Type} (F:Nat) (k0:z7.l7.K0 R):Nat->z7.l7.T R
 | 0,_,_,_,_,_,_,_=>none
 | fu+1,al,bh,bl,ql,rh,rl,i=>z7.l7.body F k0 (z7.l7 F k0 fu) al bh bl ql rh rl i
def z7.sh (F:Nat) (ah:Int) (al:Int) (bh:Int) (bl:Int):Option z7.sg.R :=
 bif (bh==0) then bif (bl != 0) then bif (bl != 0) then oB (zj.sh F (ah.tmod bl) al bl) fun c_1 =>
 some ((u64.wrap (ah.tdiv bl),c_1.1.1,0,c_1.1.2.1,()),())
 else none
 else none
 else z7.l7 F (fun al6 bh6 bl6 ql6 rh6 rl6 i6 t346=>some ((0,ql6,rh6,rl6,()),())) F al bh bl 0 0 ah 63
def z7.sp (F:Nat):TA z7.sg.args->Option z7.sg.R:=fun x=>z7.sh F x.1 x.2.1 x.2.2.1 x.2.2.2.1
@[reducible] def yS.sg:Sig:={args:=[.d (.g zg),.d (.g zg)],res:=[.g zg,.g zg,.c (.int .i64)]}
def yS.sh (F:Nat) (a:zg.T) (b:zg.T):Option yS.sg.R :=
 bif ((b.1==0)&&((b.2==0)&&true)) then some (((0,0),(0,0),20,()),())
 else oB (y6.sh F a) fun c_1 =>
 oB (y6.sh F b) fun c_2 =>
 oB (z7.sh F c_1.1.1 c_1.1.2.1 c_2.1.1 c_2.1.2.1) fun c_3 =>
 oB (xa.sh F (!(decide (a.1<0)==decide (b.1<0))) c_3.1.1 c_3.1.2.1) fun c_4 =>
 bif (c_4.1.2.1 != 0) then some (((0,0),(0,0),c_4.1.2.1,()),())
 else oB (xa.sh F (decide (a.1<0)) c_3.1.2.2.1 c_3.1.2.2.2.1) fun c_5 =>
 some ((c_4.1.1,c_5.1.1,c_5.1.2.1,()),())
def yS.sp (F:Nat):TA yS.sg.args->Option yS.sg.R:=fun x=>yS.sh F x.1 x.2.1
@[reducible] def xc.sg:Sig:={args:=[.d (.g zg),.d (.g zg),.d (.g zg),.d (.c (.int .i64))],res:=[.c .bool]}
def xc.sh (F:Nat) (q:zg.T) (r:zg.T) (b:zg.T) (mode:Int):Option xc.sg.R :=
 bif (mode==0) then some (((!(decide (r.1<0)==decide (b.1<0))),()),())
 else bif (mode==1) then some ((!(!(decide (r.1<0)==decide (b.1<0))),()),())
 else bif (mode==2) then some ((false,()),())
 else oB (y6.sh F r) fun c_1 =>
 oB (y6.sh F b) fun c_2 =>
 oB (zR.sh F c_2.1.2.1 c_1.1.2.1 0) fun c_3 =>
 oB (zR.sh F c_2.1.1 c_1.1.1 c_3.1.2.1) fun c_4 =>
 bif decide (c_1.1.1>c_4.1.1) then some ((true,()),())
 else bif (c_1.1.1==c_4.1.1) then bif decide (c_1.1.2.1>c_3.1.1) then some ((true,()),())
 else bif (c_1.1.1==c_4.1.1) then bif (c_1.1.2.1==c_3.1.1) then bif (mode==3) then some ((true,()),())
 else some ((((u64.wrap ((BitVec.ofInt IntKind.u64.bits q.2 &&& BitVec.ofInt IntKind.u64.bits 1).toNat))==1),()),())
 else some ((false,()),())
 else some ((false,()),())
 else bif (c_1.1.1==c_4.1.1) then bif (c_1.1.2.1==c_3.1.1) then bif (mode==3) then some ((true,()),())
 else some ((((u64.wrap ((BitVec.ofInt IntKind.u64.bits q.2 &&& BitVec.ofInt IntKind.u64.bits 1).toNat))==1),()),())
 else some ((false,()),())
 else some ((false,()),())
def xc.sp (F:Nat):TA xc.sg.args->Option xc.sg.R:=fun x=>xc.sh F x.1 x.2.1 x.2.2.1 x.2.2.2.1
@[reducible] def xz.sg:Sig:={args:=[.d (.g zg),.d (.g zg)],res:=[.g zg,.c (.int .i64)]}
def xz.sh (F:Nat) (a:zg.T) (b:zg.T):Option xz.sg.R :=
 oB (z8.sh F a.2 b.2 0) fun c_1 =>
 oB (z8.sh F (u64.wrap a.1) (u64.wrap b.1) c_1.1.2.1) fun c_2 =>
 bif (decide (a.1<0)==decide (b.1<0)) then bif (!(decide ((i64.wrap c_2.1.1)<0)==decide (a.1<0))) then some (((0,0),10,()),())
 else some (((i64.wrap c_2.1.1,c_1.1.1),0,()),())
 else some (((i64.wrap c_2.1.1,c_1.1.1),0,()),())
def xz.sp (F:Nat):TA xz.sg.args->Option xz.sg.R:=fun x=>xz.sh F x.1 x.2.1
@[reducible] def xn.sg:Sig:={args:=[.d (.g zg),.d (.g zg),.d (.c (.int .i64))],res:=[.g zg,.c (.int .i64)]}
def xn.sh (F:Nat) (a:zg.T) (b:zg.T) (mode:Int):Option xn.sg.R :=
 bif decide (mode<0) then some (((0,0),1,()),())
 else bif decide (mode>4) then some (((0,0),1,()),())
 else oB (yS.sh F a b) fun c_1 =>
 bif (c_1.1.2.2.1 != 0) then some ((c_1.1.1,c_1.1.2.2.1,()),())
 else bif ((c_1.1.2.1.1==0)&&((c_1.1.2.1.2==0)&&true)) then some ((c_1.1.1,c_1.1.2.2.1,()),())
 else oB (xc.sh F c_1.1.1 c_1.1.2.1 b mode) fun c_2 =>
 bif !c_2.1.1 then some ((c_1.1.1,c_1.1.2.2.1,()),())
 else bif (!(decide (a.1<0)==decide (b.1<0))) then oB (yt.sh F 1) fun c_3 =>
 oB (xy.sh F c_1.1.1 c_3.1.1) fun c_4 =>
 some ((c_4.1.1,c_4.1.2.1,()),())
 else oB (yt.sh F 1) fun c_5 =>
 oB (xz.sh F c_1.1.1 c_5.1.1) fun c_6 =>
 some ((c_6.1.1,c_6.1.2.1,()),())
def xn.sp (F:Nat):TA xn.sg.args->Option xn.sg.R:=fun x=>xn.sh F x.1 x.2.1 x.2.2.1
@[reducible] def xp.sg:Sig:={args:=[.d (.c (.int .i64))],res:=[.c (.int .i64)]}
def xp.sh (F:Nat) (v:Int):Option xp.sg.R :=
 some (((if i64.wrap (0-v)>v then i64.wrap (0-v) else v),()),())
def xp.sp (F:Nat):TA xp.sg.args->Option xp.sg.R:=fun x=>xp.sh F x.1
@[reducible] def zY.sg:Sig:={args:=[.io yq [],.d (.g zg),.d (.g zg)],res:=[.g zg]}
def zY.sh (F:Nat) (m:yq.T) (a:zg.T) (b:zg.T):Option zY.sg.R :=
 oB (xz.sh F a b) fun c_1 =>
 oB (zV.sh F m c_1.1.1 c_1.1.2.1) fun c_2 =>
 some ((c_2.1.1,()),(c_2.2.1,()))
def zY.sp (F:Nat):TA zY.sg.args->Option zY.sg.R:=fun x=>zY.sh F x.1 x.2.1 x.2.2.1
@[reducible] def zm.sg:Sig:={args:=[.io yq [],.d (.g zg),.d (.b zy)],res:=[.g zg]}
abbrev zm.l3.K0 (R:Type):Type:=(List zy.T)->Int->(List zy.T)->Int->Int->Bool->yq.T->zg.T->zg.T->zg.T->Option R
abbrev zm.l3.T (R:Type):Type:=(List zy.T)->Int->(List zy.T)->Int->Int->yq.T->zg.T->zg.T->zg.T->Option R
def zm.l3.body {R:Type} (F:Nat) (k0:zm.l3.K0 R) (rec:zm.l3.T R) (tiers:List zy.T) (rate:Int) (t13:List zy.T) (t14:Int) (t15:Int) (m:yq.T) (x:zg.T) (r6:zg.T) (ways:zg.T):Option R :=
 bif decide (t15<t14) then bif idx t15 t13.length then oB (xp.sh F (get zy t13 t15.toNat).2) fun c_1 =>
 bif decide ((i64.wrap (t15+1))<(tiers.length:Int)) then oB (xp.sh F (get zy t13 t15.toNat).2) fun c_2 =>
 oB (yt.sh F c_2.1.1) fun c_3 =>
 bif idx (i64.wrap (t15+1)) tiers.length then oB (yt.sh F (i64.wrap ((get zy tiers ((i64.wrap (t15+1)).toNat)).1-(get zy t13 t15.toNat).1))) fun c_4 =>
 oB (zT.sh F m c_3.1.1 c_4.1.1) fun c_5 =>
 bif (((m.1.1==c_5.2.1.1.1)&&((m.1.2==c_5.2.1.1.2)&&true))&&true) then oB (zY.sh F c_5.2.1 ways c_5.1.1) fun c_6 =>
 bif (((c_5.2.1.1.1==c_6.2.1.1.1)&&((c_5.2.1.1.2==c_6.2.1.1.2)&&true))&&true) then rec tiers (if c_1.1.1>rate then c_1.1.1 else rate) t13 t14 (i64.wrap (t15+1)) c_6.2.1 x r6 c_6.1.1
 else none
 else none
 else none
 else rec tiers (if c_1.1.1>rate then c_1.1.1 else rate) t13 t14 (i64.wrap (t15+1)) m x r6 ways
 else none
 else k0 tiers rate t13 t14 t15 (decide (t15<t14)) m x r6 ways
def zm.l3 {R:Type} (F:Nat) (k0:zm.l3.K0 R):Nat->zm.l3.T R
 | 0,_,_,_,_,_,_,_,_,_=>none
 | fu+1,tiers,rate,t13,t14,t15,m,x,r6,ways=>zm.l3.body F k0 (zm.l3 F k0 fu) tiers rate t13 t14 t15 m x r6 ways
def zm.sh (F:Nat) (m:yq.T) (x:zg.T) (tiers:List zy.T):Option zm.sg.R :=
 zm.l3 F (fun tiers7 rate7 t137 t147 t157 t167 m7 x7 r67 ways7=>bif idx (i64.wrap ((tiers7.length:Int)-1)) tiers7.length then oB (yt.sh F (get zy tiers7 ((i64.wrap ((tiers7.length:Int)-1)).toNat)).1) fun c_8 =>
 oB (zY.sh F m7 x7 c_8.1.1) fun c_9 =>
 bif (((m7.1.1==c_9.2.1.1.1)&&((m7.1.2==c_9.2.1.1.2)&&true))&&true) then oB (yt.sh F rate7) fun c_10 =>
 oB (zT.sh F c_9.2.1 c_10.1.1 c_9.1.1) fun c_11 =>
 bif (((c_9.2.1.1.1==c_11.2.1.1.1)&&((c_9.2.1.1.2==c_11.2.1.1.2)&&true))&&true) then oB (zY.sh F c_11.2.1 c_11.1.1 ways7) fun c_12 =>
 bif (((c_11.2.1.1.1==c_12.2.1.1.1)&&((c_11.2.1.1.2==c_12.2.1.1.2)&&true))&&true) then oB (zT.sh F c_12.2.1 c_9.2.1.1 c_12.1.1) fun c_13 =>
 bif (((c_12.2.1.1.1==c_13.2.1.1.1)&&((c_12.2.1.1.2==c_13.2.1.1.2)&&true))&&true) then some ((c_13.1.1,()),(c_13.2.1,()))
 else none
 else none
 else none
 else none
 else none) F tiers 0 tiers (tiers.length:Int) 0 m x (0,0) (0,0)
def zm.sp (F:Nat):TA zm.sg.args->Option zm.sg.R:=fun x=>zm.sh F x.1 x.2.1 x.2.2.1
@[reducible] def yi.sg:Sig:={args:=[.d (.b zg)],res:=[.g zg,.c (.int .i64)]}
abbrev yi.l4.K0 (R:Type):Type:=Int->Int->Int->(List zg.T)->Int->Int->Bool->zg.T->Option R
abbrev yi.l4.T (R:Type):Type:=Int->Int->Int->(List zg.T)->Int->Int->zg.T->Option R
def yi.l4.body {R:Type} (F:Nat) (k0:yi.l4.K0 R) (rec:yi.l4.T R) (lo:Int) (hi:Int) (top:Int) (t11:List zg.T) (t12:Int) (t13:Int) (r2:zg.T):Option R :=
 bif decide (t13<t12) then bif idx t13 t11.length then oB (z8.sh F lo (get zg t11 t13.toNat).2 0) fun c_1 =>
 oB (z8.sh F hi (u64.wrap (get zg t11 t13.toNat).1) c_1.1.2.1) fun c_2 =>
 rec c_1.1.1 c_2.1.1 (i64.wrap (top+(i64.wrap (((get zg t11 t13.toNat).1.fdiv (2^(min (63:Int).toNat IntKind.i64.bits)))+(i64.wrap c_2.1.2.1))))) t11 t12 (i64.wrap (t13+1)) r2
 else none
 else k0 lo hi top t11 t12 t13 (decide (t13<t12)) r2
def yi.l4 {R:Type} (F:Nat) (k0:yi.l4.K0 R):Nat->yi.l4.T R
 | 0,_,_,_,_,_,_,_=>none
 | fu+1,lo,hi,top,t11,t12,t13,r2=>yi.l4.body F k0 (yi.l4 F k0 fu) lo hi top t11 t12 t13 r2
def yi.sh (F:Nat) (list:List zg.T):Option yi.sg.R :=
 yi.l4 F (fun lo3 hi3 top3 t113 t123 t133 t143 r23=>bif (top3 != ((i64.wrap hi3).fdiv (2^(min (63:Int).toNat IntKind.i64.bits)))) then some (((0,0),10,()),())
 else some (((i64.wrap hi3,lo3),0,()),())) F 0 0 0 list (list.length:Int) 0 (0,0)
def yi.sp (F:Nat):TA yi.sg.args->Option yi.sg.R:=fun x=>yi.sh F x.1
@[reducible] def zu.sg:Sig:={args:=[.io yq [],.d (.g zI),.d (.g zo),.d (.b zg)],res:=[.g zg]}
def zu.j18 {R:Type} (F:Nat) (k0:yq.T->zg.T->Option R) (kids:List zg.T) (m:yq.T) (n:zo.T) (r8:zg.T):Option R :=
 oB (yi.sh F kids) fun c_13 =>
 oB (zV.sh F m c_13.1.1 c_13.1.2.1) fun c_14 =>
 bif (n.1==11) then oB (yt.sh F n.2.1) fun c_15 =>
 oB (zY.sh F c_14.2.1 c_14.1.1 c_15.1.1) fun c_16 =>
 k0 c_16.2.1 c_16.1.1
 else bif (n.1==12) then oB (yt.sh F n.2.1) fun c_17 =>
 oB (zY.sh F c_14.2.1 c_14.1.1 c_17.1.1) fun c_18 =>
 k0 c_18.2.1 c_18.1.1
 else bif (n.1==16) then oB (yt.sh F n.2.1) fun c_19 =>
 oB (zY.sh F c_14.2.1 c_14.1.1 c_19.1.1) fun c_20 =>
 k0 c_20.2.1 c_20.1.1
 else k0 c_14.2.1 c_14.1.1
def zu.sh (F:Nat) (m:yq.T) (p:zI.T) (n:zo.T) (kids:List zg.T):Option zu.sg.R :=
 bif (n.1==1) then oB (yt.sh F n.2.1) fun c_1 =>
 some ((c_1.1.1,()),(m,()))
 else bif (n.1==2) then oB (yt.sh F n.2.1) fun c_2 =>
 oB (zT.sh F m c_2.1.1 m.1) fun c_3 =>
 some ((c_3.1.1,()),(c_3.2.1,()))
 else bif (n.1==3) then oB (yt.sh F 1099511627776) fun c_4 =>
 some ((c_4.1.1,()),(m,()))
 else bif (n.1==4) then oB (yt.sh F 1099511627776) fun c_5 =>
 bif idx n.2.1 p.2.1.length then oB (yt.sh F (get yZ p.2.1 n.2.1.toNat).2) fun c_6 =>
 oB (xn.sh F c_5.1.1 c_6.1.1 1) fun c_7 =>
 oB (zV.sh F m c_7.1.1 c_7.1.2.1) fun c_8 =>
 some ((c_8.1.1,()),(c_8.2.1,()))
 else none
 else bif (n.1==8) then bif idx 0 kids.length then bif idx 1 kids.length then oB (zT.sh F m (get zg kids 0) (get zg kids 1)) fun c_9 =>
 some ((c_9.1.1,()),(c_9.2.1,()))
 else none
 else none
 else bif (n.1==13) then bif (n.1==13) then bif idx 0 kids.length then oB (zm.sh F m (get zg kids 0) n.2.2.2.2.1) fun c_10 =>
 some ((c_10.1.1,()),(c_10.2.1,()))
 else none
 else bif (n.1==15) then bif idx 0 kids.length then oB (yt.sh F 10000) fun c_11 =>
 oB (zT.sh F m (get zg kids 0) c_11.1.1) fun c_12 =>
 bif idx 0 kids.length then some (((get zg kids 0),()),(c_12.2.1,()))
 else none
 else none
 else zu.j18 F (fun m21 r821=>some ((r821,()),(m21,()))) kids m n (0,0)
 else bif (n.1==14) then bif idx 0 kids.length then oB (zm.sh F m (get zg kids 0) n.2.2.2.2.1) fun c_22 =>
 some ((c_22.1.1,()),(c_22.2.1,()))
 else none
 else bif (n.1==15) then bif idx 0 kids.length then oB (yt.sh F 10000) fun c_23 =>
 oB (zT.sh F m (get zg kids 0) c_23.1.1) fun c_24 =>
 bif idx 0 kids.length then some (((get zg kids 0),()),(c_24.2.1,()))
 else none
 else none
 else zu.j18 F (fun m25 r825=>some ((r825,()),(m25,()))) kids m n (0,0)
def zu.sp (F:Nat):TA zu.sg.args->Option zu.sg.R:=fun x=>zu.sh F x.1 x.2.1 x.2.2.1 x.2.2.2.1
@[reducible] def xH.sg:Sig:={args:=[.d (.g zg),.d (.g zg)],res:=[.c (.int .i64)]}
def xH.sh (F:Nat) (a:zg.T) (b:zg.T):Option xH.sg.R :=
 bif ((a.1==b.1)&&((a.2==b.2)&&true)) then some ((0,()),())
 else bif decide (a.1<b.1) then bif decide (a.1<b.1) then some (((-1),()),())
 else some ((1,()),())
 else bif (a.1==b.1) then bif decide (a.2<b.2) then some (((-1),()),())
 else some ((1,()),())
 else some ((1,()),())
def xH.sp (F:Nat):TA xH.sg.args->Option xH.sg.R:=fun x=>xH.sh F x.1 x.2.1
@[reducible] def yW.sg:Sig:={args:=[.d (.g zo),.d (.g zg)],res:=[.c .bool]}
def yW.sh (F:Nat) (n:zo.T) (mag:zg.T):Option yW.sg.R :=
 bif (n.1==15) then oB (yt.sh F 10000) fun c_1 =>
 oB (yu.sh F mag c_1.1.1) fun c_2 =>
 oB (xH.sh F c_2.1.1 (72057594037927936,0)) fun c_3 =>
 some ((decide (c_3.1.1>0),()),())
 else oB (xH.sh F mag (72057594037927936,0)) fun c_4 =>
 some ((decide (c_4.1.1>0),()),())
def yW.sp (F:Nat):TA yW.sg.args->Option yW.sg.R:=fun x=>yW.sh F x.1 x.2.1
@[reducible] def zl.sg:Sig:={args:=[.d (.g zI),.d (.g zg)],res:=[.c (.sl zg),.c (.int .i64)]}
abbrev zl.l4.K0 (R:Type):Type:=(List zg.T)->Int->Option R
abbrev zl.l4.K1 (R:Type):Type:=(List zo.T)->Int->Int->Bool->zI.T->yq.T->(List zg.T)->(List zg.T)->Option R
abbrev zl.l4.T (R:Type):Type:=(List zo.T)->Int->Int->zI.T->yq.T->(List zg.T)->(List zg.T)->Option R
def zl.l4.body {R:Type} (F:Nat) (k0:zl.l4.K0 R) (k1:zl.l4.K1 R) (rec:zl.l4.T R) (t17:List zo.T) (t18:Int) (t19:Int) (p:zI.T) (m:yq.T) (mags:List zg.T) (pile:List zg.T):Option R :=
 bif decide (t19<t18) then bif idx t19 t17.length then oB (zO.sh F (get zo t17 t19.toNat)) fun c_1 =>
 bif (zB pile.length (some (i64.wrap ((pile.length:Int)-c_1.1.1))) none).1 then oB (zu.sh F m p (get zo t17 t19.toNat) ((List.take (zB pile.length (some (i64.wrap ((pile.length:Int)-c_1.1.1))) none).2.2 pile).drop (zB pile.length (some (i64.wrap ((pile.length:Int)-c_1.1.1))) none).2.1)) fun c_2 =>
 bif c_2.2.1.2 then k0 ([]) t19
 else oB (yW.sh F (get zo t17 t19.toNat) c_2.1.1) fun c_3 =>
 bif c_3.1.1 then k0 ([]) t19
 else bif Nat.ble (mags.length+([c_2.1.1]:List zg.T).length) xj then bif (zB pile.length none (some (i64.wrap ((pile.length:Int)-c_1.1.1)))).1 then bif Nat.ble ((zB pile.length none (some (i64.wrap ((pile.length:Int)-c_1.1.1)))).2.2+([c_2.1.1]:List zg.T).length) xj then rec t17 t18 (i64.wrap (t19+1)) p c_2.2.1 (mags++([c_2.1.1]:List zg.T)) (pile.take (zB pile.length none (some (i64.wrap ((pile.length:Int)-c_1.1.1)))).2.2++([c_2.1.1]:List zg.T))
 else none
 else none
 else none
 else none
 else none
 else k1 t17 t18 t19 (decide (t19<t18)) p m mags pile
def zl.l4 {R:Type} (F:Nat) (k0:zl.l4.K0 R) (k1:zl.l4.K1 R):Nat->zl.l4.T R
 | 0,_,_,_,_,_,_,_=>none
 | fu+1,t17,t18,t19,p,m,mags,pile=>zl.l4.body F k0 k1 (zl.l4 F k0 k1 fu) t17 t18 t19 p m mags pile
def zl.j13 {R:Type} (F:Nat) (k0:(List zg.T)->Int->Option R) (mags:List zg.T):Option R :=
 k0 mags (-1)
def zl.sh (F:Nat) (p:zI.T) (unit:zg.T):Option zl.sg.R :=
 zl.l4 F (fun r44 r54=>some ((r44,r54,()),())) (fun t175 t185 t195 t205 p5 m5 mags5 pile5=>zl.j13 F (fun r46 r56=>some ((r46,r56,()),())) mags5) F p.2.2.2 (p.2.2.2.length:Int) 0 p (unit,false) ([]) ([])
def zl.sp (F:Nat):TA zl.sg.args->Option zl.sg.R:=fun x=>zl.sh F x.1 x.2.1
@[reducible] def yX.sg:Sig:={args:=[.d (.g zI)],res:=[.g zg,.c (.int .i64),.c (.int .i64)]}
def yX.sh (F:Nat) (p:zI.T):Option yX.sg.R :=
 oB (zh.sh F p) fun c_1 =>
 bif (c_1.1.2.2.1 != 0) then some (((0,0),c_1.1.2.1,c_1.1.2.2.1,()),())
 else oB (zz.sh F p) fun c_2 =>
 bif decide (c_2.1.1>6) then some (((0,0),i64.wrap ((p.2.2.2.length:Int)-1),90,()),())
 else oB (zN.sh F c_2.1.1) fun c_3 =>
 oB (zl.sh F p c_3.1.1) fun c_4 =>
 bif decide (c_4.1.2.1>=0) then some (((0,0),c_4.1.2.1,90,()),())
 else some ((c_3.1.1,0,c_3.1.2.1,()),())
def yX.sp (F:Nat):TA yX.sg.args->Option yX.sg.R:=fun x=>yX.sh F x.1
@[reducible] def yd.sg:Sig:={args:=[.io (.pair zI (.pair (.sl (.int .i64)) (.pair zg (.pair zD (.sl .fnb))))) [0,0,0,0,0,0,0,0,0,1,1,1,1,2]],res:=[.c (.sl .fnb)]}
def yd.sh (F:Nat) (m:zI.T×(List Int)×zg.T×zD.T×List Nat):Option yd.sg.R :=
 some ((([Ty.dflt .fnb,xR,xV,y9,y9,yB,yB,yB,yB,xg,xg,xF,xF,xi,xi,we,x9]:List Nat),()),(m,()))
def yd.sp (F:Nat):TA yd.sg.args->Option yd.sg.R:=fun x=>yd.sh F x.1
@[reducible] def zt.sg:Sig:={args:=[.ios (.int .i64)],res:=[]}
abbrev zt.l1.K0 (R:Type):Type:=Int->Int->Bool->(List Int)->Option R
abbrev zt.l1.T (R:Type):Type:=Int->Int->(List Int)->Option R
def zt.l1.body {R:Type} (F:Nat) (k0:zt.l1.K0 R) (rec:zt.l1.T R) (i:Int) (j:Int) (s:List Int):Option R :=
 bif decide (i<j) then bif idx j s.length then bif idx i s.length then bif idx i s.length then bif idx j ((s.set i.toNat (get (.int .i64) s j.toNat)).length) then rec (i64.wrap (i+1)) (i64.wrap (j-1)) ((s.set i.toNat (get (.int .i64) s j.toNat)).set j.toNat (get (.int .i64) s i.toNat))
 else none
 else none
 else none
 else none
 else k0 i j (decide (i<j)) s
def zt.l1 {R:Type} (F:Nat) (k0:zt.l1.K0 R):Nat->zt.l1.T R
 | 0,_,_,_=>none
 | fu+1,i,j,s=>zt.l1.body F k0 (zt.l1 F k0 fu) i j s
def zt.sh (F:Nat) (s:List Int):Option zt.sg.R :=
 zt.l1 F (fun i1 j1 t91 s1=>some ((()),(s1,()))) F 0 (i64.wrap ((s.length:Int)-1)) s
def zt.sp (F:Nat):TA zt.sg.args->Option zt.sg.R:=fun x=>zt.sh F x.1
@[reducible] def za.sg:Sig:={args:=[.io (.pair zI (.pair (.sl (.int .i64)) (.pair zg (.pair zD (.sl .fnb))))) [0,0,0,0,0,0,0,0,0,1,1,1,1,2],.d (.c (.int .i64))],res:=[]}
abbrev za.M:Type:=(zI.T×(List Int)×zg.T×zD.T×List Nat)->Int->Option za.sg.R
@[reducible] def zk.sg:Sig:={args:=[.io (.pair zI (.pair (.sl (.int .i64)) (.pair zg (.pair zD (.sl .fnb))))) [0,0,0,0,0,0,0,0,0,1,1,1,1,2],.d (.b (.int .i64))],res:=[]}
abbrev zk.l1.K0 (R:Type):Type:=(List Int)->Int->Int->Bool->(zI.T×(List Int)×zg.T×zD.T×List Nat)->(List Int)->(List zg.T)->(List (List zy.T))->(List zK.T)->Option R
abbrev zk.l1.T (R:Type):Type:=(List Int)->Int->Int->(zI.T×(List Int)×zg.T×zD.T×List Nat)->(List Int)->(List zg.T)->(List (List zy.T))->(List zK.T)->Option R
def zk.l1.body {R:Type} (me:za.M) (F:Nat) (k0:zk.l1.K0 R) (rec:zk.l1.T R) (t6:List Int) (t7:Int) (t8:Int) (m:zI.T×(List Int)×zg.T×zD.T×List Nat) (m_9:List Int) (m_10:List zg.T) (m_11:List (List zy.T)) (m_12:List zK.T):Option R :=
 bif decide (t8<t7) then bif idx t8 t6.length then oB (me (m.1,m.2.1,m.2.2.1,(m.2.2.2.1.1,m.2.2.2.1.2.1,m_9,m_10,m_11,m_12),m.2.2.2.2) (get (.int .i64) t6 t8.toNat)) fun c_1 =>
 rec t6 t7 (i64.wrap (t8+1)) (c_1.2.1.1,c_1.2.1.2.1,c_1.2.1.2.2.1,(c_1.2.1.2.2.2.1.1,c_1.2.1.2.2.2.1.2.1,[],[],[],[]),c_1.2.1.2.2.2.2) c_1.2.1.2.2.2.1.2.2.1 c_1.2.1.2.2.2.1.2.2.2.1 c_1.2.1.2.2.2.1.2.2.2.2.1 c_1.2.1.2.2.2.1.2.2.2.2.2
 else none
 else k0 t6 t7 t8 (decide (t8<t7)) (m.1,m.2.1,m.2.2.1,(m.2.2.2.1.1,m.2.2.2.1.2.1,[],[],[],[]),m.2.2.2.2) m_9 m_10 m_11 m_12
def zk.l1 {R:Type} (me:za.M) (F:Nat) (k0:zk.l1.K0 R):Nat->zk.l1.T R
 | 0,_,_,_,_,_,_,_,_=>none
 | fu+1,t6,t7,t8,m,m_9,m_10,m_11,m_12=>zk.l1.body me F k0 (zk.l1 me F k0 fu) t6 t7 t8 m m_9 m_10 m_11 m_12
def zk.sh (me:za.M) (F:Nat) (m:zI.T×(List Int)×zg.T×zD.T×List Nat) (kids:List Int):Option zk.sg.R :=
 zk.l1 me F (fun t62 t72 t82 t92 m2 m_92 m_102 m_112 m_122=>some ((()),((m2.1,m2.2.1,m2.2.2.1,(m2.2.2.2.1.1,m2.2.2.2.1.2.1,m_92,m_102,m_112,m_122),m2.2.2.2.2),()))) F kids (kids.length:Int) 0 (m.1,m.2.1,m.2.2.1,(m.2.2.2.1.1,m.2.2.2.1.2.1,[],[],[],[]),m.2.2.2.2) m.2.2.2.1.2.2.1 m.2.2.2.1.2.2.2.1 m.2.2.2.1.2.2.2.2.1 m.2.2.2.1.2.2.2.2.2
def zk.sp (me:za.M) (F:Nat):TA zk.sg.args->Option zk.sg.R:=fun x=>zk.sh me F x.1 x.2.1
@[reducible] def zp.sg:Sig:={args:=[.d (.b zy),.d (.b zy)],res:=[.c .bool]}
abbrev zp.l4.K1 (R:Type):Type:=(List zy.T)->(List zy.T)->Int->Int->Bool->Option R
abbrev zp.l4.T (R:Type):Type:=(List zy.T)->(List zy.T)->Int->Int->Option R
def zp.l4.body {R:Type} (F:Nat) (k0:Bool->Option R) (k1:zp.l4.K1 R) (rec:zp.l4.T R) (s1:List zy.T) (s2:List zy.T) (t12:Int) (t13:Int):Option R :=
 bif decide (t13<t12) then bif idx t13 s1.length then bif idx t13 s2.length then bif !(((get zy s1 t13.toNat).1==(get zy s2 t13.toNat).1)&&(((get zy s1 t13.toNat).2==(get zy s2 t13.toNat).2)&&true)) then k0 false
 else rec s1 s2 t12 (i64.wrap (t13+1))
 else none
 else none
 else k1 s1 s2 t12 t13 (decide (t13<t12))
def zp.l4 {R:Type} (F:Nat) (k0:Bool->Option R) (k1:zp.l4.K1 R):Nat->zp.l4.T R
 | 0,_,_,_,_=>none
 | fu+1,s1,s2,t12,t13=>zp.l4.body F k0 k1 (zp.l4 F k0 k1 fu) s1 s2 t12 t13
def zp.sh (F:Nat) (s1:List zy.T) (s2:List zy.T):Option zp.sg.R :=
 bif ((s1.length:Int) != (s2.length:Int)) then some ((false,()),())
 else zp.l4 F (fun r41=>some ((r41,()),())) (fun s12 s22 t122 t132 t142=>some ((true,()),())) F s1 s2 (s1.length:Int) 0
def zp.sp (F:Nat):TA zp.sg.args->Option zp.sg.R:=fun x=>zp.sh F x.1 x.2.1
@[reducible] def yf.sg:Sig:={args:=[.d (.b zy),.d (.p (.bsl zy))],res:=[.c .bool]}
def yf.sh (F:Nat) (l:List zy.T) (t1:List zy.T):Option yf.sg.R :=
 oB (zp.sh F l t1) fun c_1 =>
 some ((c_1.1.1,()),())
def yf.sp (F:Nat):TA yf.sg.args->Option yf.sg.R:=fun x=>yf.sh F x.1 x.2.1
@[reducible] def zd.sg:Sig:={args:=[.d (.b (.sl zy)),.d (.cl (.bsl zy))],res:=[.c (.int .i64)]}
@[reducible] def zd.ds16:Sig:={args:=[.d (.b zy),.d (.p (.bsl zy))],res:=[.c .bool]}
def zd.d16 (F:Nat):Nat->TA zd.ds16.args->Option zd.ds16.R:=mkT zd.ds16 [(tk,yf.sp F)]
abbrev zd.l2.K1 (R:Type):Type:=(List (List zy.T))->(Nat×(List zy.T))->Int->Int->Bool->Option R
abbrev zd.l2.T (R:Type):Type:=(List (List zy.T))->(Nat×(List zy.T))->Int->Int->Option R
def zd.l2.body {R:Type} (F:Nat) (k0:Int->Option R) (k1:zd.l2.K1 R) (rec:zd.l2.T R) (s:List (List zy.T)) (f:Nat×(List zy.T)) (t7:Int) (t8:Int):Option R :=
 bif decide (t8<t7) then bif idx t8 s.length then oB (zd.d16 F (f.1+1) (get (.sl zy) s t8.toNat,f.2,())) fun c_1 =>
 bif c_1.1.1 then k0 t8
 else rec s (f.1,f.2) t7 (i64.wrap (t8+1))
 else none
 else k1 s (f.1,f.2) t7 t8 (decide (t8<t7))
def zd.l2 {R:Type} (F:Nat) (k0:Int->Option R) (k1:zd.l2.K1 R):Nat->zd.l2.T R
 | 0,_,_,_,_=>none
 | fu+1,s,f,t7,t8=>zd.l2.body F k0 k1 (zd.l2 F k0 k1 fu) s f t7 t8
def zd.sh (F:Nat) (s:List (List zy.T)) (f:Nat×(List zy.T)):Option zd.sg.R :=
 zd.l2 F (fun r42=>some ((r42,()),())) (fun s3 f3 t73 t83 t93=>some (((-1),()),())) F s (f.1,f.2) (s.length:Int) 0
def zd.sp (F:Nat):TA zd.sg.args->Option zd.sg.R:=fun x=>zd.sh F x.1 x.2.1
@[reducible] def yK.sg:Sig:=qd zy
def yK.sh (_F:Nat) (l:List zy.T):Option yK.sg.R:=Xv zy l
def yK.sp (F:Nat):TA yK.sg.args->Option yK.sg.R:=fun x=>yK.sh F x.1
@[reducible] def zU.sg:Sig:={args:=[.io (.pair zI (.pair (.sl (.int .i64)) (.pair zg (.pair zD (.sl .fnb))))) [0,0,0,0,0,0,0,0,0,1,1,1,1,2],.d (.b zy)],res:=[.c (.int .i64)]}
def zU.sh (F:Nat) (m:zI.T×(List Int)×zg.T×zD.T×List Nat) (tiers:List zy.T):Option zU.sg.R :=
 oB (zd.sh F m.2.2.2.1.2.2.2.2.1 (xM,tiers)) fun c_1 =>
 bif decide (c_1.1.1>=0) then some ((c_1.1.1,()),(m,()))
 else oB (yK.sh F tiers) fun c_2 =>
 bif Nat.ble (m.2.2.2.1.2.2.2.2.1.length+([c_2.1.1]:List (List zy.T)).length) xj then some ((i64.wrap (((m.2.2.2.1.2.2.2.2.1++([c_2.1.1]:List (List zy.T))).length:Int)-1),()),((m.1,m.2.1,m.2.2.1,(m.2.2.2.1.1,m.2.2.2.1.2.1,m.2.2.2.1.2.2.1,m.2.2.2.1.2.2.2.1,m.2.2.2.1.2.2.2.2.1++([c_2.1.1]:List (List zy.T)),m.2.2.2.1.2.2.2.2.2),m.2.2.2.2),()))
 else none
def zU.sp (F:Nat):TA zU.sg.args->Option zU.sg.R:=fun x=>zU.sh F x.1 x.2.1
@[reducible] def zr.sg:Sig:={args:=[.io (.pair zI (.pair (.sl (.int .i64)) (.pair zg (.pair zD (.sl .fnb))))) [0,0,0,0,0,0,0,0,0,1,1,1,1,2],.d (.c (.int .i64)),.d (.c (.int .i64))],res:=[]}
def zr.sh (F:Nat) (m:zI.T×(List Int)×zg.T×zD.T×List Nat) (op:Int) (arg:Int):Option zr.sg.R :=
 bif Nat.ble (m.2.2.2.1.2.2.2.2.2.length+([(op,arg,0)]:List zK.T).length) xj then some ((()),((m.1,m.2.1,m.2.2.1,(m.2.2.2.1.1,m.2.2.2.1.2.1,m.2.2.2.1.2.2.1,m.2.2.2.1.2.2.2.1,m.2.2.2.1.2.2.2.2.1,m.2.2.2.1.2.2.2.2.2++([(op,arg,0)]:List zK.T)),m.2.2.2.2),()))
 else none
def zr.sp (F:Nat):TA zr.sg.args->Option zr.sg.R:=fun x=>zr.sh F x.1 x.2.1 x.2.2.1
@[reducible] def zX.sg:Sig:={args:=[.io (.pair zI (.pair (.sl (.int .i64)) (.pair zg (.pair zD (.sl .fnb))))) [0,0,0,0,0,0,0,0,0,1,1,1,1,2],.d (.g zo),.d (.b (.int .i64))],res:=[]}
def zX.sh (me:za.M) (F:Nat) (m:zI.T×(List Int)×zg.T×zD.T×List Nat) (n:zo.T) (kids:List Int):Option zX.sg.R :=
 oB (zk.sh me F m kids) fun c_1 =>
 bif (n.1==14) then oB (zU.sh F c_1.2.1 n.2.2.2.2.1) fun c_2 =>
 oB (zr.sh F c_2.2.1 13 c_2.1.1) fun c_3 =>
 some ((()),(c_3.2.1,()))
 else oB (zU.sh F c_1.2.1 n.2.2.2.2.1) fun c_4 =>
 oB (zr.sh F c_4.2.1 12 c_4.1.1) fun c_5 =>
 some ((()),(c_5.2.1,()))
def zX.sp (me:za.M) (F:Nat):TA zX.sg.args->Option zX.sg.R:=fun x=>zX.sh me F x.1 x.2.1 x.2.2.1
@[reducible] def zn.sg:Sig:={args:=[.d (.b zg),.d (.g zg)],res:=[.c (.int .i64)]}
abbrev zn.l2.K1 (R:Type):Type:=(List zg.T)->Int->Int->Bool->zg.T->Option R
abbrev zn.l2.T (R:Type):Type:=(List zg.T)->Int->Int->zg.T->Option R
def zn.l2.body {R:Type} (F:Nat) (k0:Int->Option R) (k1:zn.l2.K1 R) (rec:zn.l2.T R) (s:List zg.T) (t7:Int) (t8:Int) (v:zg.T):Option R :=
 bif decide (t8<t7) then bif idx t8 s.length then bif ((v.1==(get zg s t8.toNat).1)&&((v.2==(get zg s t8.toNat).2)&&true)) then k0 t8
 else rec s t7 (i64.wrap (t8+1)) v
 else none
 else k1 s t7 t8 (decide (t8<t7)) v
def zn.l2 {R:Type} (F:Nat) (k0:Int->Option R) (k1:zn.l2.K1 R):Nat->zn.l2.T R
 | 0,_,_,_,_=>none
 | fu+1,s,t7,t8,v=>zn.l2.body F k0 k1 (zn.l2 F k0 k1 fu) s t7 t8 v
def zn.sh (F:Nat) (s:List zg.T) (v:zg.T):Option zn.sg.R :=
 zn.l2 F (fun r41=>some ((r41,()),())) (fun s2 t72 t82 t92 v2=>some (((-1),()),())) F s (s.length:Int) 0 v
def zn.sp (F:Nat):TA zn.sg.args->Option zn.sg.R:=fun x=>zn.sh F x.1 x.2.1
@[reducible] def zA.sg:Sig:={args:=[.io (.pair zI (.pair (.sl (.int .i64)) (.pair zg (.pair zD (.sl .fnb))))) [0,0,0,0,0,0,0,0,0,1,1,1,1,2],.d (.g zg)],res:=[.c (.int .i64)]}
def zA.sh (F:Nat) (m:zI.T×(List Int)×zg.T×zD.T×List Nat) (w:zg.T):Option zA.sg.R :=
 oB (zn.sh F m.2.2.2.1.2.2.2.1 w) fun c_1 =>
 bif decide (c_1.1.1>=0) then some ((c_1.1.1,()),(m,()))
 else bif Nat.ble (m.2.2.2.1.2.2.2.1.length+([w]:List zg.T).length) xj then some ((i64.wrap (((m.2.2.2.1.2.2.2.1++([w]:List zg.T)).length:Int)-1),()),((m.1,m.2.1,m.2.2.1,(m.2.2.2.1.1,m.2.2.2.1.2.1,m.2.2.2.1.2.2.1,m.2.2.2.1.2.2.2.1++([w]:List zg.T),m.2.2.2.1.2.2.2.2),m.2.2.2.2),()))
 else none
def zA.sp (F:Nat):TA zA.sg.args->Option zA.sg.R:=fun x=>zA.sh F x.1 x.2.1
@[reducible] def yp.sg:Sig:={args:=[.io (.pair zI (.pair (.sl (.int .i64)) (.pair zg (.pair zD (.sl .fnb))))) [0,0,0,0,0,0,0,0,0,1,1,1,1,2],.d (.g zo),.d (.b (.int .i64))],res:=[]}
def yp.sh (me:za.M) (F:Nat) (m:zI.T×(List Int)×zg.T×zD.T×List Nat) (n:zo.T) (kids:List Int):Option yp.sg.R :=
 oB (zk.sh me F m kids) fun c_1 =>
 bif (n.1==12) then oB (yt.sh F n.2.1) fun c_2 =>
 oB (zA.sh F c_1.2.1 c_2.1.1) fun c_3 =>
 oB (zr.sh F c_3.2.1 11 c_3.1.1) fun c_4 =>
 some ((()),(c_4.2.1,()))
 else oB (yt.sh F n.2.1) fun c_5 =>
 oB (zA.sh F c_1.2.1 c_5.1.1) fun c_6 =>
 oB (zr.sh F c_6.2.1 10 c_6.1.1) fun c_7 =>
 some ((()),(c_7.2.1,()))
def yp.sp (me:za.M) (F:Nat):TA yp.sg.args->Option yp.sg.R:=fun x=>yp.sh me F x.1 x.2.1 x.2.2.1
@[reducible] def ye.sg:Sig:={args:=[.io (.pair zI (.pair (.sl (.int .i64)) (.pair zg (.pair zD (.sl .fnb))))) [0,0,0,0,0,0,0,0,0,1,1,1,1,2],.d (.g zo),.d (.b (.int .i64))],res:=[]}
def ye.sh (F:Nat) (m:zI.T×(List Int)×zg.T×zD.T×List Nat) (n:zo.T) (t2:List Int):Option ye.sg.R :=
 oB (yt.sh F n.2.1) fun c_1 =>
 oB (yu.sh F c_1.1.1 m.2.2.1) fun c_2 =>
 oB (zA.sh F m c_2.1.1) fun c_3 =>
 oB (zr.sh F c_3.2.1 1 c_3.1.1) fun c_4 =>
 some ((()),(c_4.2.1,()))
def ye.sp (F:Nat):TA ye.sg.args->Option ye.sg.R:=fun x=>ye.sh F x.1 x.2.1 x.2.2.1
@[reducible] def z6.sg:Sig:={args:=[.io (.pair zI (.pair (.sl (.int .i64)) (.pair zg (.pair zD (.sl .fnb))))) [0,0,0,0,0,0,0,0,0,1,1,1,1,2],.d (.g zo),.d (.b (.int .i64))],res:=[]}
def z6.sh (F:Nat) (m:zI.T×(List Int)×zg.T×zD.T×List Nat) (n:zo.T) (t2:List Int):Option z6.sg.R :=
 oB (yt.sh F n.2.1) fun c_1 =>
 oB (zA.sh F m c_1.1.1) fun c_2 =>
 oB (zr.sh F c_2.2.1 1 c_2.1.1) fun c_3 =>
 some ((()),(c_3.2.1,()))
def z6.sp (F:Nat):TA z6.sg.args->Option z6.sg.R:=fun x=>z6.sh F x.1 x.2.1 x.2.2.1
@[reducible] def yv.sg:Sig:={args:=[.io (.pair zI (.pair (.sl (.int .i64)) (.pair zg (.pair zD (.sl .fnb))))) [0,0,0,0,0,0,0,0,0,1,1,1,1,2],.d (.g zo),.d (.b (.int .i64))],res:=[]}
def yv.sh (me:za.M) (F:Nat) (m:zI.T×(List Int)×zg.T×zD.T×List Nat) (n:zo.T) (kids:List Int):Option yv.sg.R :=
 oB (zk.sh me F m kids) fun c_1 =>
 oB (zr.sh F c_1.2.1 14 n.2.1) fun c_2 =>
 some ((()),(c_2.2.1,()))
def yv.sp (me:za.M) (F:Nat):TA yv.sg.args->Option yv.sg.R:=fun x=>yv.sh me F x.1 x.2.1 x.2.2.1
@[reducible] def zM.sg:Sig:={args:=[.io (.pair zI (.pair (.sl (.int .i64)) (.pair zg (.pair zD (.sl .fnb))))) [0,0,0,0,0,0,0,0,0,1,1,1,1,2],.d (.g zo),.d (.b (.int .i64))],res:=[]}
def zM.sh (F:Nat) (m:zI.T×(List Int)×zg.T×zD.T×List Nat) (n:zo.T) (t2:List Int):Option zM.sg.R :=
 bif (n.1==4) then oB (zr.sh F m 3 n.2.1) fun c_1 =>
 some ((()),(c_1.2.1,()))
 else oB (zr.sh F m 2 n.2.1) fun c_2 =>
 some ((()),(c_2.2.1,()))
def zM.sp (F:Nat):TA zM.sg.args->Option zM.sg.R:=fun x=>zM.sh F x.1 x.2.1 x.2.2.1
@[reducible] def zb.sg:Sig:={args:=[.io (.pair zI (.pair (.sl (.int .i64)) (.pair zg (.pair zD (.sl .fnb))))) [0,0,0,0,0,0,0,0,0,1,1,1,1,2],.d (.g zo),.d (.b (.int .i64))],res:=[]}
abbrev zb.l6.K0 (R:Type):Type:=Int->(List Int)->Int->Int->Bool->(zI.T×(List Int)×zg.T×zD.T×List Nat)->(List Int)->(List zg.T)->(List (List zy.T))->(List zK.T)->Option R
abbrev zb.l6.T (R:Type):Type:=Int->(List Int)->Int->Int->(zI.T×(List Int)×zg.T×zD.T×List Nat)->(List Int)->(List zg.T)->(List (List zy.T))->(List zK.T)->Option R
def zb.l6.body {R:Type} (me:za.M) (F:Nat) (k0:zb.l6.K0 R) (rec:zb.l6.T R) (op:Int) (t18:List Int) (t19:Int) (t20:Int) (m:zI.T×(List Int)×zg.T×zD.T×List Nat) (m_9:List Int) (m_10:List zg.T) (m_11:List (List zy.T)) (m_12:List zK.T):Option R :=
 bif decide (t20<t19) then bif idx t20 t18.length then oB (me (m.1,m.2.1,m.2.2.1,(m.2.2.2.1.1,m.2.2.2.1.2.1,m_9,m_10,m_11,m_12),m.2.2.2.2) (get (.int .i64) t18 t20.toNat)) fun c_2 =>
 oB (zr.sh F c_2.2.1 op 0) fun c_3 =>
 rec op t18 t19 (i64.wrap (t20+1)) (c_3.2.1.1,c_3.2.1.2.1,c_3.2.1.2.2.1,(c_3.2.1.2.2.2.1.1,c_3.2.1.2.2.2.1.2.1,[],[],[],[]),c_3.2.1.2.2.2.2) c_3.2.1.2.2.2.1.2.2.1 c_3.2.1.2.2.2.1.2.2.2.1 c_3.2.1.2.2.2.1.2.2.2.2.1 c_3.2.1.2.2.2.1.2.2.2.2.2
 else none
 else k0 op t18 t19 t20 (decide (t20<t19)) (m.1,m.2.1,m.2.2.1,(m.2.2.2.1.1,m.2.2.2.1.2.1,[],[],[],[]),m.2.2.2.2) m_9 m_10 m_11 m_12
def zb.l6 {R:Type} (me:za.M) (F:Nat) (k0:zb.l6.K0 R):Nat->zb.l6.T R
 | 0,_,_,_,_,_,_,_,_,_=>none
 | fu+1,op,t18,t19,t20,m,m_9,m_10,m_11,m_12=>zb.l6.body me F k0 (zb.l6 me F k0 fu) op t18 t19 t20 m m_9 m_10 m_11 m_12
def zb.j4 {R:Type} (me:za.M) (F:Nat) (k0:Int->(List Int)->Int->Int->Bool->(zI.T×(List Int)×zg.T×zD.T×List Nat)->(List Int)->(List zg.T)->(List (List zy.T))->(List zK.T)->Option R) (kids:List Int) (op:Int) (m:zI.T×(List Int)×zg.T×zD.T×List Nat) (m_9:List Int) (m_10:List zg.T) (m_11:List (List zy.T)) (m_12:List zK.T):Option R :=
 bif idx 0 kids.length then oB (me (m.1,m.2.1,m.2.2.1,(m.2.2.2.1.1,m.2.2.2.1.2.1,m_9,m_10,m_11,m_12),m.2.2.2.2) (get (.int .i64) kids 0)) fun c_1 =>
 bif (zB kids.length (some 1) none).1 then zb.l6 me F (fun op4 t184 t194 t204 t214 m4 m_94 m_104 m_114 m_124=>k0 op4 t184 t194 t204 t214 (m4.1,m4.2.1,m4.2.2.1,(m4.2.2.2.1.1,m4.2.2.2.1.2.1,[],[],[],[]),m4.2.2.2.2) m_94 m_104 m_114 m_124) F op ((kids.take (zB kids.length (some 1) none).2.2).drop (zB kids.length (some 1) none).2.1) (((kids.take (zB kids.length (some 1) none).2.2).drop (zB kids.length (some 1) none).2.1).length:Int) 0 (c_1.2.1.1,c_1.2.1.2.1,c_1.2.1.2.2.1,(c_1.2.1.2.2.2.1.1,c_1.2.1.2.2.2.1.2.1,[],[],[],[]),c_1.2.1.2.2.2.2) c_1.2.1.2.2.2.1.2.2.1 c_1.2.1.2.2.2.1.2.2.2.1 c_1.2.1.2.2.2.1.2.2.2.2.1 c_1.2.1.2.2.2.1.2.2.2.2.2
 else none
 else none
def zb.sh (me:za.M) (F:Nat) (m:zI.T×(List Int)×zg.T×zD.T×List Nat) (n:zo.T) (kids:List Int):Option zb.sg.R :=
 bif (n.1==10) then zb.j4 me F (fun op5 t185 t195 t205 t215 m5 m_95 m_105 m_115 m_125=>some ((()),((m5.1,m5.2.1,m5.2.2.1,(m5.2.2.2.1.1,m5.2.2.2.1.2.1,m_95,m_105,m_115,m_125),m5.2.2.2.2),()))) kids 9 (m.1,m.2.1,m.2.2.1,(m.2.2.2.1.1,m.2.2.2.1.2.1,[],[],[],[]),m.2.2.2.2) m.2.2.2.1.2.2.1 m.2.2.2.1.2.2.2.1 m.2.2.2.1.2.2.2.2.1 m.2.2.2.1.2.2.2.2.2
 else zb.j4 me F (fun op6 t186 t196 t206 t216 m6 m_96 m_106 m_116 m_126=>some ((()),((m6.1,m6.2.1,m6.2.2.1,(m6.2.2.2.1.1,m6.2.2.2.1.2.1,m_96,m_106,m_116,m_126),m6.2.2.2.2),()))) kids 8 (m.1,m.2.1,m.2.2.1,(m.2.2.2.1.1,m.2.2.2.1.2.1,[],[],[],[]),m.2.2.2.2) m.2.2.2.1.2.2.1 m.2.2.2.1.2.2.2.1 m.2.2.2.1.2.2.2.2.1 m.2.2.2.1.2.2.2.2.2
def zb.sp (me:za.M) (F:Nat):TA zb.sg.args->Option zb.sg.R:=fun x=>zb.sh me F x.1 x.2.1 x.2.2.1
@[reducible] def zW.sg:Sig:={args:=[.io (.pair zI (.pair (.sl (.int .i64)) (.pair zg (.pair zD (.sl .fnb))))) [0,0,0,0,0,0,0,0,0,1,1,1,1,2],.d (.g zo),.d (.b (.int .i64))],res:=[]}
def zW.sh (me:za.M) (F:Nat) (m:zI.T×(List Int)×zg.T×zD.T×List Nat) (n:zo.T) (kids:List Int):Option zW.sg.R :=
 oB (zk.sh me F m kids) fun c_1 =>
 oB (zr.sh F c_1.2.1 (lkI n.1 [(5,4),(6,5),(7,6),(8,7)]) 0) fun c_2 =>
 some ((()),(c_2.2.1,()))
def zW.sp (me:za.M) (F:Nat):TA zW.sg.args->Option zW.sg.R:=fun x=>zW.sh me F x.1 x.2.1 x.2.2.1
@[reducible] def yj.sg:Sig:={args:=[.io (.pair zI (.pair (.sl (.int .i64)) (.pair zg (.pair zD (.sl .fnb))))) [0,0,0,0,0,0,0,0,0,1,1,1,1,2],.d (.g zo),.d (.b (.int .i64))],res:=[]}
def yj.sh (me:za.M) (F:Nat) (m:zI.T×(List Int)×zg.T×zD.T×List Nat) (n:zo.T) (kids:List Int):Option yj.sg.R :=
 bif idx 0 kids.length then oB (me m (get (.int .i64) kids 0)) fun c_1 =>
 oB (yt.sh F n.2.1) fun c_2 =>
 oB (zA.sh F c_1.2.1 c_2.1.1) fun c_3 =>
 oB (zr.sh F c_3.2.1 (i64.wrap (15+n.2.2.1)) c_3.1.1) fun c_4 =>
 bif idx 1 kids.length then oB (me c_4.2.1 (get (.int .i64) kids 1)) fun c_5 =>
 oB (zr.sh F c_5.2.1 15 0) fun c_6 =>
 bif idx 2 kids.length then oB (me c_6.2.1 (get (.int .i64) kids 2)) fun c_7 =>
 bif idx (c_1.2.1.2.2.2.1.2.2.2.2.2.length:Int) c_7.2.1.2.2.2.1.2.2.2.2.2.length then bif idx (c_5.2.1.2.2.2.1.2.2.2.2.2.length:Int) ((c_7.2.1.2.2.2.1.2.2.2.2.2.set ((c_1.2.1.2.2.2.1.2.2.2.2.2.length:Int).toNat) ((get zK c_7.2.1.2.2.2.1.2.2.2.2.2 ((c_1.2.1.2.2.2.1.2.2.2.2.2.length:Int).toNat)).1,(get zK c_7.2.1.2.2.2.1.2.2.2.2.2 ((c_1.2.1.2.2.2.1.2.2.2.2.2.length:Int).toNat)).2.1,i64.wrap ((c_5.2.1.2.2.2.1.2.2.2.2.2.length:Int)-(c_1.2.1.2.2.2.1.2.2.2.2.2.length:Int)))).length) then some ((()),((c_7.2.1.1,c_7.2.1.2.1,c_7.2.1.2.2.1,(c_7.2.1.2.2.2.1.1,c_7.2.1.2.2.2.1.2.1,c_7.2.1.2.2.2.1.2.2.1,c_7.2.1.2.2.2.1.2.2.2.1,c_7.2.1.2.2.2.1.2.2.2.2.1,(c_7.2.1.2.2.2.1.2.2.2.2.2.set ((c_1.2.1.2.2.2.1.2.2.2.2.2.length:Int).toNat) ((get zK c_7.2.1.2.2.2.1.2.2.2.2.2 ((c_1.2.1.2.2.2.1.2.2.2.2.2.length:Int).toNat)).1,(get zK c_7.2.1.2.2.2.1.2.2.2.2.2 ((c_1.2.1.2.2.2.1.2.2.2.2.2.length:Int).toNat)).2.1,i64.wrap ((c_5.2.1.2.2.2.1.2.2.2.2.2.length:Int)-(c_1.2.1.2.2.2.1.2.2.2.2.2.length:Int)))).set ((c_5.2.1.2.2.2.1.2.2.2.2.2.length:Int).toNat) ((get zK (c_7.2.1.2.2.2.1.2.2.2.2.2.set ((c_1.2.1.2.2.2.1.2.2.2.2.2.length:Int).toNat) ((get zK c_7.2.1.2.2.2.1.2.2.2.2.2 ((c_1.2.1.2.2.2.1.2.2.2.2.2.length:Int).toNat)).1,(get zK c_7.2.1.2.2.2.1.2.2.2.2.2 ((c_1.2.1.2.2.2.1.2.2.2.2.2.length:Int).toNat)).2.1,i64.wrap ((c_5.2.1.2.2.2.1.2.2.2.2.2.length:Int)-(c_1.2.1.2.2.2.1.2.2.2.2.2.length:Int)))) ((c_5.2.1.2.2.2.1.2.2.2.2.2.length:Int).toNat)).1,(get zK (c_7.2.1.2.2.2.1.2.2.2.2.2.set ((c_1.2.1.2.2.2.1.2.2.2.2.2.length:Int).toNat) ((get zK c_7.2.1.2.2.2.1.2.2.2.2.2 ((c_1.2.1.2.2.2.1.2.2.2.2.2.length:Int).toNat)).1,(get zK c_7.2.1.2.2.2.1.2.2.2.2.2 ((c_1.2.1.2.2.2.1.2.2.2.2.2.length:Int).toNat)).2.1,i64.wrap ((c_5.2.1.2.2.2.1.2.2.2.2.2.length:Int)-(c_1.2.1.2.2.2.1.2.2.2.2.2.length:Int)))) ((c_5.2.1.2.2.2.1.2.2.2.2.2.length:Int).toNat)).2.1,i64.wrap ((i64.wrap (((c_7.2.1.2.2.2.1.2.2.2.2.2.set ((c_1.2.1.2.2.2.1.2.2.2.2.2.length:Int).toNat) ((get zK c_7.2.1.2.2.2.1.2.2.2.2.2 ((c_1.2.1.2.2.2.1.2.2.2.2.2.length:Int).toNat)).1,(get zK c_7.2.1.2.2.2.1.2.2.2.2.2 ((c_1.2.1.2.2.2.1.2.2.2.2.2.length:Int).toNat)).2.1,i64.wrap ((c_5.2.1.2.2.2.1.2.2.2.2.2.length:Int)-(c_1.2.1.2.2.2.1.2.2.2.2.2.length:Int)))).length:Int)-(c_5.2.1.2.2.2.1.2.2.2.2.2.length:Int)))-1))),c_7.2.1.2.2.2.2),()))
 else none
 else none
 else none
 else none
 else none
def yj.sp (me:za.M) (F:Nat):TA yj.sg.args->Option yj.sg.R:=fun x=>yj.sh me F x.1 x.2.1 x.2.2.1
@[reducible] def za.ds50:Sig:={args:=[.io (.pair zI (.pair (.sl (.int .i64)) (.pair zg (.pair zD (.sl .fnb))))) [0,0,0,0,0,0,0,0,0,1,1,1,1,2],.d (.g zo),.d (.b (.int .i64))],res:=[]}
def za.d50 (me:za.M) (F:Nat):Nat->TA za.ds50.args->Option za.ds50.R:=mkT za.ds50 [(xi,zX.sp me F),(xF,yp.sp me F),(xV,ye.sp F),(xR,z6.sp F),(we,yv.sp me F),(y9,zM.sp F),(xg,zb.sp me F),(yB,zW.sp me F),(x9,yj.sp me F)]
abbrev za.l2.K0 (R:Type):Type:=Int->Int->Bool->(zI.T×(List Int)×zg.T×zD.T×List Nat)->(List Int)->(List Int)->(List zg.T)->(List (List zy.T))->(List zK.T)->Option R
abbrev za.l2.T (R:Type):Type:=Int->Int->(zI.T×(List Int)×zg.T×zD.T×List Nat)->(List Int)->(List Int)->(List zg.T)->(List (List zy.T))->(List zK.T)->Option R
def za.l2.body {R:Type} (me:za.M) (F:Nat) (k0:za.l2.K0 R) (rec:za.l2.T R) (i:Int) (at_:Int) (m:zI.T×(List Int)×zg.T×zD.T×List Nat) (kids:List Int) (m_9:List Int) (m_10:List zg.T) (m_11:List (List zy.T)) (m_12:List zK.T):Option R :=
 bif idx i m.2.1.length then bif decide (at_>=(get (.int .i64) m.2.1 i.toNat)) then bif Nat.ble (kids.length+([at_]:List Int).length) xj then bif idx at_ m.2.1.length then rec i (i64.wrap ((get (.int .i64) m.2.1 at_.toNat)-1)) (m.1,m.2.1,m.2.2.1,(m.2.2.2.1.1,m.2.2.2.1.2.1,[],[],[],[]),m.2.2.2.2) (kids++([at_]:List Int)) m_9 m_10 m_11 m_12
 else none
 else none
 else k0 i at_ (decide (at_>=(get (.int .i64) m.2.1 i.toNat))) (m.1,m.2.1,m.2.2.1,(m.2.2.2.1.1,m.2.2.2.1.2.1,[],[],[],[]),m.2.2.2.2) kids m_9 m_10 m_11 m_12
 else none
def za.l2 {R:Type} (me:za.M) (F:Nat) (k0:za.l2.K0 R):Nat->za.l2.T R
 | 0,_,_,_,_,_,_,_,_=>none
 | fu+1,i,at_,m,kids,m_9,m_10,m_11,m_12=>za.l2.body me F k0 (za.l2 me F k0 fu) i at_ m kids m_9 m_10 m_11 m_12
def za.sh0 (me:za.M) (F:Nat) (m:zI.T×(List Int)×zg.T×zD.T×List Nat) (i:Int):Option za.sg.R :=
 za.l2 me F (fun i1 at_1 t171 m1 kids1 m_91 m_101 m_111 m_121=>oB (zt.sh F kids1) fun c_2 =>
 bif idx i1 m1.1.2.2.2.length then bif idx (get zo m1.1.2.2.2 i1.toNat).1 m1.2.2.2.2.length then oB (za.d50 me F (get .fnb m1.2.2.2.2 ((get zo m1.1.2.2.2 i1.toNat).1.toNat)) ((m1.1,m1.2.1,m1.2.2.1,(m1.2.2.2.1.1,m1.2.2.2.1.2.1,m_91,m_101,m_111,m_121),m1.2.2.2.2),(get zo m1.1.2.2.2 i1.toNat),c_2.2.1,())) fun c_3 =>
 some ((()),(c_3.2.1,()))
 else none
 else none) F i (i64.wrap (i-1)) (m.1,m.2.1,m.2.2.1,(m.2.2.2.1.1,m.2.2.2.1.2.1,[],[],[],[]),m.2.2.2.2) ([]) m.2.2.2.1.2.2.1 m.2.2.2.1.2.2.2.1 m.2.2.2.1.2.2.2.2.1 m.2.2.2.1.2.2.2.2.2
def za.it (F:Nat):Nat->za.M
 | 0,_,_=>none
 | n+1,a,b=>za.sh0 (za.it F n) F a b
def za.itp (F n:Nat):TA za.sg.args->Option za.sg.R:=fun x=>za.it F n x.1 x.2.1
def za.sh (F:Nat) (a:zI.T×(List Int)×zg.T×zD.T×List Nat) (b:Int):Option za.sg.R:=za.it F F a b
def za.sp (F:Nat):TA za.sg.args->Option za.sg.R:=fun x=>za.sh F x.1 x.2.1
@[reducible] def zJ.sg:Sig:={args:=[.d (.g zI)],res:=[.g zD,.c (.int .i64),.c (.int .i64)]}
abbrev zJ.l10.K0 (R:Type):Type:=(List yZ.T)->Int->Int->Bool->zI.T->zD.T->(zI.T×(List Int)×zg.T×zD.T×List Nat)->(List Int)->(List zg.T)->(List (List zy.T))->(List zK.T)->Option R
abbrev zJ.l10.T (R:Type):Type:=(List yZ.T)->Int->Int->zI.T->zD.T->(zI.T×(List Int)×zg.T×zD.T×List Nat)->(List Int)->(List zg.T)->(List (List zy.T))->(List zK.T)->Option R
def zJ.l10.body {R:Type} (F:Nat) (k0:zJ.l10.K0 R) (rec:zJ.l10.T R) (t55:List yZ.T) (t56:Int) (t57:Int) (p:zI.T) (r2:zD.T) (m:zI.T×(List Int)×zg.T×zD.T×List Nat) (m_9:List Int) (m_10:List zg.T) (m_11:List (List zy.T)) (m_12:List zK.T):Option R :=
 bif decide (t57<t56) then bif idx t57 t55.length then bif Nat.ble (m_9.length+([(get yZ t55 t57.toNat).2]:List Int).length) xj then rec t55 t56 (i64.wrap (t57+1)) p r2 (m.1,m.2.1,m.2.2.1,(m.2.2.2.1.1,m.2.2.2.1.2.1,[],[],[],[]),m.2.2.2.2) (m_9++([(get yZ t55 t57.toNat).2]:List Int)) m_10 m_11 m_12
 else none
 else none
 else k0 t55 t56 t57 (decide (t57<t56)) p r2 (m.1,m.2.1,m.2.2.1,(m.2.2.2.1.1,m.2.2.2.1.2.1,[],[],[],[]),m.2.2.2.2) m_9 m_10 m_11 m_12
def zJ.l10 {R:Type} (F:Nat) (k0:zJ.l10.K0 R):Nat->zJ.l10.T R
 | 0,_,_,_,_,_,_,_,_,_,_=>none
 | fu+1,t55,t56,t57,p,r2,m,m_9,m_10,m_11,m_12=>zJ.l10.body F k0 (zJ.l10 F k0 fu) t55 t56 t57 p r2 m m_9 m_10 m_11 m_12
def zJ.sh (F:Nat) (p:zI.T):Option zJ.sg.R :=
 oB (yX.sh F p) fun c_1 =>
 bif (c_1.1.2.2.1 != 0) then some (((0,0,[],[],[],[]),c_1.1.2.1,c_1.1.2.2.1,()),())
 else oB (yQ.sh F p) fun c_2 =>
 oB (yd.sh F (p,c_2.1.1,c_1.1.1,(0,0,[],[],[],[]),[])) fun c_3 =>
 oB (zz.sh F p) fun c_4 =>
 zJ.l10 F (fun t555 t565 t575 t585 p5 r25 m5 m_95 m_105 m_115 m_125=>oB (za.sh F (m5.1,m5.2.1,m5.2.2.1,(m5.2.2.2.1.1,m5.2.2.2.1.2.1,m_95,m_105,m_115,m_125),m5.2.2.2.2) (i64.wrap ((p5.2.2.2.length:Int)-1))) fun c_6 =>
 some ((c_6.2.1.2.2.2.1,0,0,()),())) F p.2.1 (p.2.1.length:Int) 0 p (0,0,[],[],[],[]) (c_3.2.1.1,c_3.2.1.2.1,c_3.2.1.2.2.1,(p.2.2.1,c_4.1.1,[],[],[],[]),c_3.1.1) c_3.2.1.2.2.2.1.2.2.1 c_3.2.1.2.2.2.1.2.2.2.1 c_3.2.1.2.2.2.1.2.2.2.2.1 c_3.2.1.2.2.2.1.2.2.2.2.2
def zJ.sp (F:Nat):TA zJ.sg.args->Option zJ.sg.R:=fun x=>zJ.sh F x.1
@[reducible] def yr.sg:Sig:={args:=[],res:=[.c .bool]}
def yr.sh (F:Nat):Option yr.sg.R :=
 oB (yC.sh F ([(3,0,0,0,[],0),(2,12,0,0,[],0),(8,0,0,0,[],0),(2,200,0,0,[],0),(6,0,0,0,[],0)]:List zo.T)) fun c_1 =>
 oB (zJ.sh F c_1.1.1) fun c_2 =>
 oB (yC.sh F ([(3,0,0,0,[],0)]:List zo.T)) fun c_3 =>
 oB (zJ.sh F c_3.1.1) fun c_4 =>
 bif (c_2.1.2.1==0) then bif (c_2.1.2.2.1==0) then bif ((c_2.1.1.2.2.1.length:Int)==1) then bif idx 0 c_2.1.1.2.2.1.length then bif ((get (.int .i64) c_2.1.1.2.2.1 0)==10) then bif decide ((c_2.1.1.2.2.2.2.2.length:Int)>=3) then bif decide ((c_2.1.1.2.2.2.2.2.length:Int)<=40) then bif (c_4.1.2.1==0) then some (((c_4.1.2.2.1==80),()),())
 else some ((false,()),())
 else some ((false,()),())
 else some ((false,()),())
 else some ((false,()),())
 else none
 else some ((false,()),())
 else some ((false,()),())
 else some ((false,()),())
def yr.sp (F:Nat):TA yr.sg.args->Option yr.sg.R:=fun x=>yr.sh F
@[reducible] def ze.sg:Sig:={args:=[.d (.g zD),.d (.g zK)],res:=[.c .bool]}
def ze.j17 {R:Type} (F:Nat) (k0:Bool->Option R) (k1:Bool->Option R) (k2:Bool->Option R) (k3:Int->Bool->zK.T->Option R) (k4:Int->Bool->zK.T->Option R) (k5:Int->Bool->zK.T->Option R) (k6:Int->Bool->zK.T->Option R) (k7:Int->Bool->zK.T->Option R) (k8:Int->Bool->zK.T->Option R) (k9:Bool->zK.T->Option R) (t6:Int) (t32:Bool) (p:zD.T) (c:zK.T):Option R :=
 bif t32 then k0 (decide (c.2.1<(p.2.2.2.2.1.length:Int)))
 else bif (t6==14) then k1 (decide (c.2.1<=10000))
 else bif (t6==4) then bif (t6==4) then k2 (c.2.1==0)
 else k3 t6 (t6==4) c
 else bif (t6==5) then bif (t6==5) then k2 (c.2.1==0)
 else k4 t6 (t6==5) c
 else bif (t6==6) then bif (t6==6) then k2 (c.2.1==0)
 else k5 t6 (t6==6) c
 else bif (t6==7) then bif (t6==7) then k2 (c.2.1==0)
 else k6 t6 (t6==7) c
 else bif (t6==8) then bif (t6==8) then k2 (c.2.1==0)
 else k7 t6 (t6==8) c
 else bif (t6==9) then bif (t6==9) then k2 (c.2.1==0)
 else k8 t6 (t6==9) c
 else bif (t6==15) then k2 (c.2.1==0)
 else k9 (t6==15) c
def ze.j14 {R:Type} (F:Nat) (k0:Bool->Option R) (k1:Bool->Option R) (k2:Bool->Option R) (k3:Bool->Option R) (k4:Int->Bool->zK.T->Option R) (k5:Int->Bool->zK.T->Option R) (k6:Int->Bool->zK.T->Option R) (k7:Int->Bool->zK.T->Option R) (k8:Int->Bool->zK.T->Option R) (k9:Int->Bool->zK.T->Option R) (k10:Bool->zK.T->Option R) (t6:Int) (t23:Bool) (p:zD.T) (c:zK.T):Option R :=
 bif t23 then k0 (decide (c.2.1<(p.2.2.1.length:Int)))
 else bif (t6==12) then ze.j17 F (fun r41=>k1 r41) (fun r42=>k2 r42) (fun r43=>k3 r43) (fun t64 t464 c4=>k4 t64 t464 c4) (fun t65 t465 c5=>k5 t65 t465 c5) (fun t66 t466 c6=>k6 t66 t466 c6) (fun t67 t467 c7=>k7 t67 t467 c7) (fun t68 t468 c8=>k8 t68 t468 c8) (fun t69 t469 c9=>k9 t69 t469 c9) (fun t4610 c10=>k10 t4610 c10) t6 (t6==12) p c
 else ze.j17 F (fun r411=>k1 r411) (fun r412=>k2 r412) (fun r413=>k3 r413) (fun t614 t4614 c14=>k4 t614 t4614 c14) (fun t615 t4615 c15=>k5 t615 t4615 c15) (fun t616 t4616 c16=>k6 t616 t4616 c16) (fun t617 t4617 c17=>k7 t617 t4617 c17) (fun t618 t4618 c18=>k8 t618 t4618 c18) (fun t619 t4619 c19=>k9 t619 t4619 c19) (fun t4620 c20=>k10 t4620 c20) t6 (t6==13) p c
def ze.j11 {R:Type} (F:Nat) (k0:Bool->Option R) (k1:Bool->Option R) (k2:Bool->Option R) (k3:Bool->Option R) (k4:Bool->Option R) (k5:Int->Bool->zK.T->Option R) (k6:Int->Bool->zK.T->Option R) (k7:Int->Bool->zK.T->Option R) (k8:Int->Bool->zK.T->Option R) (k9:Int->Bool->zK.T->Option R) (k10:Int->Bool->zK.T->Option R) (k11:Bool->zK.T->Option R) (t6:Int) (t7:Bool) (p:zD.T) (c:zK.T):Option R :=
 bif t7 then k0 (decide (c.2.1<(p.2.2.2.1.length:Int)))
 else bif (t6==2) then ze.j14 F (fun r421=>k1 r421) (fun r422=>k2 r422) (fun r423=>k3 r423) (fun r424=>k4 r424) (fun t625 t4625 c25=>k5 t625 t4625 c25) (fun t626 t4626 c26=>k6 t626 t4626 c26) (fun t627 t4627 c27=>k7 t627 t4627 c27) (fun t628 t4628 c28=>k8 t628 t4628 c28) (fun t629 t4629 c29=>k9 t629 t4629 c29) (fun t630 t4630 c30=>k10 t630 t4630 c30) (fun t4631 c31=>k11 t4631 c31) t6 (t6==2) p c
 else ze.j14 F (fun r432=>k1 r432) (fun r433=>k2 r433) (fun r434=>k3 r434) (fun r435=>k4 r435) (fun t636 t4636 c36=>k5 t636 t4636 c36) (fun t637 t4637 c37=>k6 t637 t4637 c37) (fun t638 t4638 c38=>k7 t638 t4638 c38) (fun t639 t4639 c39=>k8 t639 t4639 c39) (fun t640 t4640 c40=>k9 t640 t4640 c40) (fun t641 t4641 c41=>k10 t641 t4641 c41) (fun t4642 c42=>k11 t4642 c42) t6 (t6==3) p c
def ze.sh (F:Nat) (p:zD.T) (c:zK.T):Option ze.sg.R :=
 bif (c.1==1) then ze.j11 F (fun r443=>some ((r443,()),())) (fun r444=>some ((r444,()),())) (fun r445=>some ((r445,()),())) (fun r446=>some ((r446,()),())) (fun r447=>some ((r447,()),())) (fun t648 t4648 c48=>some ((false,()),())) (fun t649 t4649 c49=>some ((false,()),())) (fun t650 t4650 c50=>some ((false,()),())) (fun t651 t4651 c51=>some ((false,()),())) (fun t652 t4652 c52=>some ((false,()),())) (fun t653 t4653 c53=>some ((false,()),())) (fun t4654 c54=>some ((false,()),())) c.1 (c.1==1) p c
 else bif (c.1==10) then ze.j11 F (fun r455=>some ((r455,()),())) (fun r456=>some ((r456,()),())) (fun r457=>some ((r457,()),())) (fun r458=>some ((r458,()),())) (fun r459=>some ((r459,()),())) (fun t660 t4660 c60=>some ((false,()),())) (fun t661 t4661 c61=>some ((false,()),())) (fun t662 t4662 c62=>some ((false,()),())) (fun t663 t4663 c63=>some ((false,()),())) (fun t664 t4664 c64=>some ((false,()),())) (fun t665 t4665 c65=>some ((false,()),())) (fun t4666 c66=>some ((false,()),())) c.1 (c.1==10) p c
 else bif (c.1==11) then ze.j11 F (fun r467=>some ((r467,()),())) (fun r468=>some ((r468,()),())) (fun r469=>some ((r469,()),())) (fun r470=>some ((r470,()),())) (fun r471=>some ((r471,()),())) (fun t672 t4672 c72=>some ((false,()),())) (fun t673 t4673 c73=>some ((false,()),())) (fun t674 t4674 c74=>some ((false,()),())) (fun t675 t4675 c75=>some ((false,()),())) (fun t676 t4676 c76=>some ((false,()),())) (fun t677 t4677 c77=>some ((false,()),())) (fun t4678 c78=>some ((false,()),())) c.1 (c.1==11) p c
 else bif (c.1==16) then ze.j11 F (fun r479=>some ((r479,()),())) (fun r480=>some ((r480,()),())) (fun r481=>some ((r481,()),())) (fun r482=>some ((r482,()),())) (fun r483=>some ((r483,()),())) (fun t684 t4684 c84=>some ((false,()),())) (fun t685 t4685 c85=>some ((false,()),())) (fun t686 t4686 c86=>some ((false,()),())) (fun t687 t4687 c87=>some ((false,()),())) (fun t688 t4688 c88=>some ((false,()),())) (fun t689 t4689 c89=>some ((false,()),())) (fun t4690 c90=>some ((false,()),())) c.1 (c.1==16) p c
 else bif (c.1==17) then ze.j11 F (fun r491=>some ((r491,()),())) (fun r492=>some ((r492,()),())) (fun r493=>some ((r493,()),())) (fun r494=>some ((r494,()),())) (fun r495=>some ((r495,()),())) (fun t696 t4696 c96=>some ((false,()),())) (fun t697 t4697 c97=>some ((false,()),())) (fun t698 t4698 c98=>some ((false,()),())) (fun t699 t4699 c99=>some ((false,()),())) (fun t6100 t46100 c100=>some ((false,()),())) (fun t6101 t46101 c101=>some ((false,()),())) (fun t46102 c102=>some ((false,()),())) c.1 (c.1==17) p c
 else bif (c.1==18) then ze.j11 F (fun r4103=>some ((r4103,()),())) (fun r4104=>some ((r4104,()),())) (fun r4105=>some ((r4105,()),())) (fun r4106=>some ((r4106,()),())) (fun r4107=>some ((r4107,()),())) (fun t6108 t46108 c108=>some ((false,()),())) (fun t6109 t46109 c109=>some ((false,()),())) (fun t6110 t46110 c110=>some ((false,()),())) (fun t6111 t46111 c111=>some ((false,()),())) (fun t6112 t46112 c112=>some ((false,()),())) (fun t6113 t46113 c113=>some ((false,()),())) (fun t46114 c114=>some ((false,()),())) c.1 (c.1==18) p c
 else bif (c.1==19) then ze.j11 F (fun r4115=>some ((r4115,()),())) (fun r4116=>some ((r4116,()),())) (fun r4117=>some ((r4117,()),())) (fun r4118=>some ((r4118,()),())) (fun r4119=>some ((r4119,()),())) (fun t6120 t46120 c120=>some ((false,()),())) (fun t6121 t46121 c121=>some ((false,()),())) (fun t6122 t46122 c122=>some ((false,()),())) (fun t6123 t46123 c123=>some ((false,()),())) (fun t6124 t46124 c124=>some ((false,()),())) (fun t6125 t46125 c125=>some ((false,()),())) (fun t46126 c126=>some ((false,()),())) c.1 (c.1==19) p c
 else bif (c.1==20) then ze.j11 F (fun r4127=>some ((r4127,()),())) (fun r4128=>some ((r4128,()),())) (fun r4129=>some ((r4129,()),())) (fun r4130=>some ((r4130,()),())) (fun r4131=>some ((r4131,()),())) (fun t6132 t46132 c132=>some ((false,()),())) (fun t6133 t46133 c133=>some ((false,()),())) (fun t6134 t46134 c134=>some ((false,()),())) (fun t6135 t46135 c135=>some ((false,()),())) (fun t6136 t46136 c136=>some ((false,()),())) (fun t6137 t46137 c137=>some ((false,()),())) (fun t46138 c138=>some ((false,()),())) c.1 (c.1==20) p c
 else ze.j11 F (fun r4139=>some ((r4139,()),())) (fun r4140=>some ((r4140,()),())) (fun r4141=>some ((r4141,()),())) (fun r4142=>some ((r4142,()),())) (fun r4143=>some ((r4143,()),())) (fun t6144 t46144 c144=>some ((false,()),())) (fun t6145 t46145 c145=>some ((false,()),())) (fun t6146 t46146 c146=>some ((false,()),())) (fun t6147 t46147 c147=>some ((false,()),())) (fun t6148 t46148 c148=>some ((false,()),())) (fun t6149 t46149 c149=>some ((false,()),())) (fun t46150 c150=>some ((false,()),())) c.1 (c.1==21) p c
def ze.sp (F:Nat):TA ze.sg.args->Option ze.sg.R:=fun x=>ze.sh F x.1 x.2.1
@[reducible] def zi.sg:Sig:={args:=[.d (.g zI)],res:=[.c .bool]}
abbrev zi.l7.K1 (R:Type):Type:=Int->Bool->zD.T->Option R
abbrev zi.l7.T (R:Type):Type:=Int->zD.T->Option R
def zi.l7.body {R:Type} (F:Nat) (k0:Bool->Option R) (k1:zi.l7.K1 R) (rec:zi.l7.T R) (i:Int) (q:zD.T):Option R :=
 bif decide (i<(q.2.2.2.2.2.length:Int)) then bif idx i q.2.2.2.2.2.length then bif decide ((get zK q.2.2.2.2.2 i.toNat).2.1<0) then k0 false
 else bif decide ((get zK q.2.2.2.2.2 i.toNat).2.2<0) then k0 false
 else oB (ze.sh F q (get zK q.2.2.2.2.2 i.toNat)) fun c_3 =>
 bif !c_3.1.1 then k0 false
 else bif decide ((get zK q.2.2.2.2.2 i.toNat).1<15) then bif ((get zK q.2.2.2.2.2 i.toNat).2.2 != 0) then k0 false
 else bif decide ((get zK q.2.2.2.2.2 i.toNat).2.2>(i64.wrap ((i64.wrap ((q.2.2.2.2.2.length:Int)-i))-1))) then k0 false
 else rec (i64.wrap (i+1)) q
 else bif decide ((get zK q.2.2.2.2.2 i.toNat).2.2>(i64.wrap ((i64.wrap ((q.2.2.2.2.2.length:Int)-i))-1))) then k0 false
 else rec (i64.wrap (i+1)) q
 else none
 else k1 i (decide (i<(q.2.2.2.2.2.length:Int))) q
def zi.l7 {R:Type} (F:Nat) (k0:Bool->Option R) (k1:zi.l7.K1 R):Nat->zi.l7.T R
 | 0,_,_=>none
 | fu+1,i,q=>zi.l7.body F k0 k1 (zi.l7 F k0 k1 fu) i q
def zi.sh (F:Nat) (p:zI.T):Option zi.sg.R :=
 oB (yr.sh F) fun c_1 =>
 bif !c_1.1.1 then some ((false,()),())
 else oB (zJ.sh F p) fun c_2 =>
 bif (c_2.1.2.2.1 != 0) then some ((((c_2.1.1.2.2.2.2.2.length:Int)==0),()),())
 else zi.l7 F (fun r24=>some ((r24,()),())) (fun i5 t265 q5=>some ((decide ((q5.2.2.2.2.2.length:Int)>0),()),())) F 0 c_2.1.1
def zi.sp (F:Nat):TA zi.sg.args->Option zi.sg.R:=fun x=>zi.sh F x.1
end Go.VS
