import Derived.Test.YtiliboioeieeoaaGreatDoorQH
set_option linter.all false
set_option maxRecDepth 100000
namespace Go.VS
open Go IntKind
variable {R:Type} (F:Nat)
abbrev wv.sg:Sig:=⟨[.d (.c (.int .u8))],[.c .bool]⟩
def wv.sh (F:Nat) (c:Int):Option wv.sg.R:=
 bif decide (c>=97) then some ((decide (c<=122),()),())
 else some ((false,()),())
def wv.sp:sP_ wv.sg:=fun x=>wv.sh F x.1
abbrev vb.sg:Sig:=⟨[.d (.c (.int .u8))],[.c .bool]⟩
def vb.sh (F:Nat) (c:Int):Option vb.sg.R:=
 bif decide (c>=48) then some ((decide (c<=57),()),())
 else some ((false,()),())
def vb.sp:sP_ vb.sg:=fun x=>vb.sh F x.1
abbrev wW.sg:Sig:=⟨[.d (.c (.int .u8))],[.c .bool]⟩
def wW.sh (c:Int):Option wW.sg.R:=
 oB (wv.sh F c) fun c_1=>
 bif c_1.1.1 then some ((true,()),())
 else oB (vb.sh F c) fun c_2=>
 bif c_2.1.1 then some ((true,()),())
 else some (((c==95),()),())
def wW.sp:sP_ wW.sg:=fun x=>wW.sh F x.1
abbrev xm.sg:Sig:=⟨[.d (.c .str),.d (.c .fn)],[.c (.int .i64)]⟩
abbrev xm.ds15:Sig:=⟨[.d (.c (.int .u8))],[.c .bool]⟩
def xm.d15:Nat->sP_ xm.ds15:=mkT xm.ds15 [(tT,wW.sp F),(tE,wv.sp F)]
abbrev xm.l2.K0 (R:Type):Type:=ByteArray->Nat->Int->Bool->Option R
abbrev xm.l2.T (R:Type):Type:=ByteArray->Nat->Int->Option R
def xm.l2.y (k0:xm.l2.K0 R) (rec:xm.l2.T R) (s:ByteArray) (of:Nat) (n:Int):Option R:=
 bif decide (n<(s.size:Int)) then bif idx n s.size then oB (xm.d15 F of (bt s n,())) fun c_1=>
 bif c_1.1.1 then rec s of (i64.wrap (n+1))
 else k0 s of n c_1.1.1
 else none
 else k0 s of n false
def xm.l2 {R:Type} (F:Nat) (k0:xm.l2.K0 R):Nat->xm.l2.T R
 | 0,_,_,_=>none
 | fu+1,s,of,n=>xm.l2.y F k0 (xm.l2 F k0 fu) s of n
def xm.sh (s:ByteArray) (of_:Nat):Option xm.sg.R:=
 xm.l2 F (fun s2 of2 n2 t162=>some ((n2,()),())) F s of_ 0
def xm.sp:sP_ xm.sg:=fun x=>xm.sh F x.1 x.2.1
abbrev vB.sg:Sig:=⟨[.d (.c .str)],[.c .bool]⟩
def vB.sh (s:ByteArray):Option vB.sg.R:=
 bif !(s.toList==(⟨#[]⟩:ByteArray).toList) then oB (xm.sh F s tE) fun c_1=>
 bif (c_1.1.1==(s.size:Int)) then bif Nat.ble ((⟨#[32]⟩:ByteArray).size+s.size) wF then bif Nat.ble (((⟨#[32]⟩:ByteArray)++s).size+(⟨#[32]⟩:ByteArray).size) wF then oB (wj.sh F (⟨#[32,112,108,97,110,32,114,111,117,110,100,32,98,121,32,98,108,111,99,107,115,32,109,105,110,32,109,97,120,32,111,118,101,114,32,117,112,116,111,32,103,114,97,100,117,97,116,101,100,32,118,111,108,117,109,101,32,111,102,102,32,105,102,32,102,108,111,111,114,32,99,101,105,108,32,122,101,114,111,32,104,97,108,102,32,101,118,101,110,32]⟩:ByteArray) (((⟨#[32]⟩:ByteArray)++s)++(⟨#[32]⟩:ByteArray))) fun c_2=>
 some ((c_2.1.1,()),())
 else none
 else none
 else some ((false,()),())
 else some ((false,()),())
def vB.sp:sP_ vB.sg:=fun x=>vB.sh F x.1
abbrev vj.sg:Sig:=⟨[.d (.c .str)],[.c .bool]⟩
def vj.sh (s:ByteArray):Option vj.sg.R:=
 bif !(s.toList==(⟨#[]⟩:ByteArray).toList) then bif decide ((s.size:Int)<=32) then bif idx 0 s.size then oB (wv.sh F (bt s 0)) fun c_1=>
 bif c_1.1.1 then oB (xm.sh F s tT) fun c_2=>
 bif (c_2.1.1==(s.size:Int)) then oB (vB.sh F s) fun c_3=>
 some ((!c_3.1.1,()),())
 else some ((false,()),())
 else some ((false,()),())
 else none
 else some ((false,()),())
 else some ((false,()),())
def vj.sp:sP_ vj.sg:=fun x=>vj.sh F x.1
abbrev wJ.sg:Sig:=⟨[.d (.g xB),.d (.p xB)],[.c .bool]⟩
def wJ.sh (F:Nat) (e:xB.T) (t1:xB.T):Option wJ.sg.R:=
 some (((e.1.toList==t1.1.toList),()),())
def wJ.sp:sP_ wJ.sg:=fun x=>wJ.sh F x.1 x.2.1
abbrev zr.sg:Sig:=⟨[.d (.b xB),.d (.cl xB)],[.c (.int .i64)]⟩
abbrev zr.ds16:Sig:=⟨[.d (.g xB),.d (.p xB)],[.c .bool]⟩
def zr.d16:Nat->sP_ zr.ds16:=mkT zr.ds16 [(Xn,wJ.sp F)]
abbrev zr.l2.K1 (R:Type):Type:=(List xB.T)->(Nat×xB.T)->Int->Int->Bool->Option R
abbrev zr.l2.T (R:Type):Type:=(List xB.T)->(Nat×xB.T)->Int->Int->Option R
def zr.l2.y (k0:Int->Option R) (k1:zr.l2.K1 R) (rec:zr.l2.T R) (s:List xB.T) (f:Nat×xB.T) (t7:Int) (t8:Int):Option R:=
 bif decide (t8<t7) then bif idx t8 s.length then oB (zr.d16 F (f.1+1) ((get xB s t8.toNat),f.2,())) fun c_1=>
 bif c_1.1.1 then k0 t8
 else rec s (f.1,f.2) t7 (i64.wrap (t8+1))
 else none
 else k1 s (f.1,f.2) t7 t8 (decide (t8<t7))
def zr.l2 {R:Type} (F:Nat) (k0:Int->Option R) (k1:zr.l2.K1 R):Nat->zr.l2.T R
 | 0,_,_,_,_=>none
 | fu+1,s,f,t7,t8=>zr.l2.y F k0 k1 (zr.l2 F k0 k1 fu) s f t7 t8
def zr.sh (s:List xB.T) (f:Nat×xB.T):Option zr.sg.R:=
 zr.l2 F (fun r42=>some ((r42,()),())) (fun s3 f3 t73 t83 t93=>some (((-1),()),())) F s (f.1,f.2) (s.length:Int) 0
def zr.sp:sP_ zr.sg:=fun x=>zr.sh F x.1 x.2.1
abbrev yW.sg:Sig:=⟨[.d (.b xB),.d (.cl xB)],[.c .bool]⟩
def yW.sh (s:List xB.T) (f:Nat×xB.T):Option yW.sg.R:=
 oB (zr.sh F s (f.1,f.2)) fun c_1=>
 some ((decide (c_1.1.1>=0),()),())
def yW.sp:sP_ yW.sg:=fun x=>yW.sh F x.1 x.2.1
abbrev yZ.sg:Sig:=⟨[.d (.g zO)],[.c (.int .i64)]⟩
abbrev yZ.l6.K2 (R:Type):Type:=(List xB.T)->Int->Int->Bool->zO.T->Option R
abbrev yZ.l6.T (R:Type):Type:=(List xB.T)->Int->Int->zO.T->Option R
def yZ.l6.y (k0:Int->Option R) (k1:Int->Option R) (k2:yZ.l6.K2 R) (rec:yZ.l6.T R) (t21:List xB.T) (t22:Int) (t23:Int) (p:zO.T):Option R:=
 bif decide (t23<t22) then bif idx t23 t21.length then oB (vj.sh F (get xB t21 t23.toNat).1) fun c_2=>
 bif !c_2.1.1 then k0 61
 else bif (zJ p.2.1.length none (some t23)).1 then oB (yW.sh F ((p.2.1.take (zJ p.2.1.length none (some t23)).2.2).drop (zJ p.2.1.length none (some t23)).2.1) (uF,(get xB t21 t23.toNat))) fun c_3=>
 bif c_3.1.1 then k0 61
 else bif decide ((get xB t21 t23.toNat).2<1) then k1 50
 else bif decide ((get xB t21 t23.toNat).2>1000000000000) then k1 50
 else rec t21 t22 (i64.wrap (t23+1)) p
 else none
 else none
 else k2 t21 t22 t23 (decide (t23<t22)) p
def yZ.l6 {R:Type} (F:Nat) (k0:Int->Option R) (k1:Int->Option R) (k2:yZ.l6.K2 R):Nat->yZ.l6.T R
 | 0,_,_,_,_=>none
 | fu+1,t21,t22,t23,p=>yZ.l6.y F k0 k1 k2 (yZ.l6 F k0 k1 k2 fu) t21 t22 t23 p
def yZ.sh (p:zO.T):Option yZ.sg.R:=
 oB (vj.sh F p.1) fun c_1=>
 bif !c_1.1.1 then some ((61,()),())
 else bif decide ((p.2.1.length:Int)<1) then some ((100,()),())
 else bif decide ((p.2.1.length:Int)>4) then some ((100,()),())
 else yZ.l6 F (fun r24=>some ((r24,()),())) (fun r25=>some ((r25,()),())) (fun t216 t226 t236 t246 p6=>bif decide (p6.2.2.1<0) then some ((50,()),())
 else bif decide (p6.2.2.1>4) then some ((50,()),())
 else some ((0,()),())) F p.2.1 (p.2.1.length:Int) 0 p
def yZ.sp:sP_ yZ.sg:=fun x=>yZ.sh F x.1
abbrev wi.sg:Sig:=⟨[.d (.g za)],[.c (.int .i64)]⟩
def wi.sh (F:Nat) (n:za.T):Option wi.sg.R:=
 bif idx n.1 17 then bif decide ((get wt uK n.1.toNat).1>=0) then some (((get wt uK n.1.toNat).1,()),())
 else some ((n.2.2.2.1,()),())
 else none
def wi.sp:sP_ wi.sg:=fun x=>wi.sh F x.1
abbrev yy.sg:Sig:=⟨[.d (.b yp)],[.c .bool]⟩
abbrev yy.l4.K1 (R:Type):Type:=(List yp.T)->(List yp.T)->Int->Int->Bool->Option R
abbrev yy.l4.T (R:Type):Type:=(List yp.T)->(List yp.T)->Int->Int->Option R
def yy.l4.y (F:Nat) (k0:Bool->Option R) (k1:yy.l4.K1 R) (rec:yy.l4.T R) (tiers:List yp.T) (t20:List yp.T) (t21:Int) (t22:Int):Option R:=
 bif decide (t22<t21) then bif idx t22 t20.length then bif decide (t22>0) then bif idx (i64.wrap (t22-1)) tiers.length then bif decide ((get yp t20 t22.toNat).1<=(get yp tiers ((i64.wrap (t22-1)).toNat)).1) then k0 false
 else bif decide ((get yp t20 t22.toNat).1>1000000000000) then k0 false
 else bif decide ((get yp t20 t22.toNat).2<(-1000000000000)) then k0 false
 else bif decide ((get yp t20 t22.toNat).2>1000000000000) then k0 false
 else rec tiers t20 t21 (i64.wrap (t22+1))
 else none
 else bif decide ((get yp t20 t22.toNat).1>1000000000000) then k0 false
 else bif decide ((get yp t20 t22.toNat).2<(-1000000000000)) then k0 false
 else bif decide ((get yp t20 t22.toNat).2>1000000000000) then k0 false
 else rec tiers t20 t21 (i64.wrap (t22+1))
 else none
 else k1 tiers t20 t21 t22 (decide (t22<t21))
def yy.l4 {R:Type} (F:Nat) (k0:Bool->Option R) (k1:yy.l4.K1 R):Nat->yy.l4.T R
 | 0,_,_,_,_=>none
 | fu+1,tiers,t20,t21,t22=>yy.l4.y F k0 k1 (yy.l4 F k0 k1 fu) tiers t20 t21 t22
def yy.sh (tiers:List yp.T):Option yy.sg.R:=
 bif decide ((tiers.length:Int)<1) then some ((false,()),())
 else bif decide ((tiers.length:Int)>16) then some ((false,()),())
 else bif idx 0 tiers.length then bif ((get yp tiers 0).1 != 0) then some ((false,()),())
 else yy.l4 F (fun r21=>some ((r21,()),())) (fun tiers2 t202 t212 t222 t232=>some ((true,()),())) F tiers tiers (tiers.length:Int) 0
 else none
def yy.sp:sP_ yy.sg:=fun x=>yy.sh F x.1
abbrev yV.sg:Sig:=⟨[.d (.g za),.d (.c (.int .i64)),.d (.c (.int .i64))],[.c (.int .i64)]⟩
def yV.j13 (k0:Int->Option R) (k1:Int->Option R) (k2:Int->Option R) (pile:Int) (most:Int) (kids:Bool) (op:Bool) (n:za.T) (k:wt.T):Option R:=
 bif decide (n.2.1<0) then k0 50
 else bif decide (n.2.1>most) then k0 50
 else bif !kids then k0 50
 else bif !op then k0 50
 else bif !k.2.2.1 then bif decide ((n.2.2.2.2.1.length:Int)>0) then k0 50
 else oB (wi.sh F n) fun c_1=>
 bif decide (pile<c_1.1.1) then k0 50
 else bif k.2.2.1 then oB (yy.sh F n.2.2.2.2.1) fun c_2=>
 bif !c_2.1.1 then k1 51
 else k2 0
 else k2 0
 else oB (wi.sh F n) fun c_3=>
 bif decide (pile<c_3.1.1) then k0 50
 else bif k.2.2.1 then oB (yy.sh F n.2.2.2.2.1) fun c_4=>
 bif !c_4.1.1 then k1 51
 else k2 0
 else k2 0
def yV.j10 (k0:Int->Option R) (k1:Int->Option R) (k2:Int->Option R) (pile:Int) (most:Int) (kids:Bool) (n:za.T) (k:wt.T):Option R:=
 bif k.2.2.2 then bif decide (n.2.2.1>=1) then yV.j13 F (fun r65=>k0 r65) (fun r66=>k1 r66) (fun r67=>k2 r67) pile most kids (decide (n.2.2.1<=6)) n k
 else yV.j13 F (fun r68=>k0 r68) (fun r69=>k1 r69) (fun r610=>k2 r610) pile most kids false n k
 else yV.j13 F (fun r611=>k0 r611) (fun r612=>k1 r612) (fun r613=>k2 r613) pile most kids (n.2.2.1==0) n k
def yV.j7 (k0:Int->Option R) (k1:Int->Option R) (k2:Int->Option R) (pile:Int) (most:Int) (n:za.T) (k:wt.T):Option R:=
 bif decide (k.1<0) then bif decide (n.2.2.2.1>=2) then yV.j10 F (fun r614=>k0 r614) (fun r615=>k1 r615) (fun r616=>k2 r616) pile most (decide (n.2.2.2.1<=16)) n k
 else yV.j10 F (fun r617=>k0 r617) (fun r618=>k1 r618) (fun r619=>k2 r619) pile most false n k
 else yV.j10 F (fun r620=>k0 r620) (fun r621=>k1 r621) (fun r622=>k2 r622) pile most (n.2.2.2.1==0) n k
def yV.sh (n:za.T) (dims:Int) (pile:Int):Option yV.sg.R:=
 bif decide (n.1<1) then some ((50,()),())
 else bif decide (n.1>16) then some ((50,()),())
 else bif idx n.1 17 then bif decide ((get wt uK n.1.toNat).2.1<0) then yV.j7 F (fun r623=>some ((r623,()),())) (fun r624=>some ((r624,()),())) (fun r625=>some ((r625,()),())) pile (i64.wrap (dims-1)) n (get wt uK n.1.toNat)
 else yV.j7 F (fun r626=>some ((r626,()),())) (fun r627=>some ((r627,()),())) (fun r628=>some ((r628,()),())) pile (get wt uK n.1.toNat).2.1 n (get wt uK n.1.toNat)
 else none
def yV.sp:sP_ yV.sg:=fun x=>yV.sh F x.1 x.2.1 x.2.2.1
abbrev yE.sg:Sig:=⟨[.d (.g zO)],[.c (.int .i64),.c (.int .i64)]⟩
abbrev yE.l8.K1 (R:Type):Type:=Int->(List za.T)->Int->Int->Bool->zO.T->Option R
abbrev yE.l8.T (R:Type):Type:=Int->(List za.T)->Int->Int->zO.T->Option R
def yE.l8.y (k0:Int->Int->Option R) (k1:yE.l8.K1 R) (rec:yE.l8.T R) (pile:Int) (t19:List za.T) (t20:Int) (t21:Int) (p:zO.T):Option R:=
 bif decide (t21<t20) then bif idx t21 t19.length then oB (yV.sh F (get za t19 t21.toNat) (p.2.1.length:Int) pile) fun c_2=>
 bif (c_2.1.1 != 0) then k0 t21 c_2.1.1
 else oB (wi.sh F (get za t19 t21.toNat)) fun c_3=>
 rec (i64.wrap (pile+(i64.wrap (1-c_3.1.1)))) t19 t20 (i64.wrap (t21+1)) p
 else none
 else k1 pile t19 t20 t21 (decide (t21<t20)) p
def yE.l8 {R:Type} (F:Nat) (k0:Int->Int->Option R) (k1:yE.l8.K1 R):Nat->yE.l8.T R
 | 0,_,_,_,_,_=>none
 | fu+1,pile,t19,t20,t21,p=>yE.l8.y F k0 k1 (yE.l8 F k0 k1 fu) pile t19 t20 t21 p
def yE.sh (p:zO.T):Option yE.sg.R:=
 oB (yZ.sh F p) fun c_1=>
 bif (c_1.1.1 != 0) then some (((-1),c_1.1.1,()),())
 else bif decide ((p.2.2.2.length:Int)>1024) then some ((1024,2,()),())
 else yE.l8 F (fun r24 r34=>some ((r24,r34,()),())) (fun pile5 t195 t205 t215 t225 p5=>bif (pile5 != 1) then some (((p5.2.2.2.length:Int),50,()),())
 else some ((0,0,()),())) F 0 p.2.2.2 (p.2.2.2.length:Int) 0 p
def yE.sp:sP_ yE.sg:=fun x=>yE.sh F x.1
abbrev yi.sg:Sig:=⟨[.d (.g zO)],[.c (.sl (.int .i64))]⟩
abbrev yi.l3.K0 (R:Type):Type:=(List za.T)->Int->Int->Bool->(List Int)->(List Int)->Option R
abbrev yi.l3.T (R:Type):Type:=(List za.T)->Int->Int->(List Int)->(List Int)->Option R
def yi.l3.y (k0:yi.l3.K0 R) (rec:yi.l3.T R) (t10:List za.T) (t11:Int) (t12:Int) (list:List Int) (pile:List Int):Option R:=
 bif decide (t12<t11) then bif idx t12 t10.length then oB (wi.sh F (get za t10 t12.toNat)) fun c_1=>
 bif decide (c_1.1.1>0) then bif idx (i64.wrap ((pile.length:Int)-c_1.1.1)) pile.length then bif (zJ pile.length none (some (i64.wrap ((pile.length:Int)-c_1.1.1)))).1 then bif Nat.ble ((pile.take (zJ pile.length none (some (i64.wrap ((pile.length:Int)-c_1.1.1)))).2.2).length+([get (.int .i64) pile ((i64.wrap ((pile.length:Int)-c_1.1.1)).toNat)]:List Int).length) wF then bif Nat.ble (list.length+([get (.int .i64) pile ((i64.wrap ((pile.length:Int)-c_1.1.1)).toNat)]:List Int).length) wF then rec t10 t11 (i64.wrap (t12+1)) (list++([get (.int .i64) pile ((i64.wrap ((pile.length:Int)-c_1.1.1)).toNat)]:List Int)) ((pile.take (zJ pile.length none (some (i64.wrap ((pile.length:Int)-c_1.1.1)))).2.2)++([get (.int .i64) pile ((i64.wrap ((pile.length:Int)-c_1.1.1)).toNat)]:List Int))
 else none
 else none
 else none
 else none
 else bif Nat.ble (pile.length+([t12]:List Int).length) wF then bif Nat.ble (list.length+([t12]:List Int).length) wF then rec t10 t11 (i64.wrap (t12+1)) (list++([t12]:List Int)) (pile++([t12]:List Int))
 else none
 else none
 else none
 else k0 t10 t11 t12 (decide (t12<t11)) list pile
def yi.l3 {R:Type} (F:Nat) (k0:yi.l3.K0 R):Nat->yi.l3.T R
 | 0,_,_,_,_,_=>none
 | fu+1,t10,t11,t12,list,pile=>yi.l3.y F k0 (yi.l3 F k0 fu) t10 t11 t12 list pile
def yi.j13 (F:Nat) (k0:(List Int)->Option R) (list:List Int):Option R:=
 k0 list
def yi.sh (p:zO.T):Option yi.sg.R:=
 yi.l3 F (fun t102 t112 t122 t132 list2 pile2=>yi.j13 F (fun r23=>some ((r23,()),())) list2) F p.2.2.2 (p.2.2.2.length:Int) 0 ([]) ([])
def yi.sp:sP_ yi.sg:=fun x=>yi.sh F x.1
abbrev wL.sg:Sig:=⟨[.d (.g zO)],[.c (.sl (.int .i64)),.c (.int .i64)]⟩
def wL.sh (p:zO.T):Option wL.sg.R:=
 oB (yE.sh F p) fun c_1=>
 bif (c_1.1.2.1 != 0) then some (([],c_1.1.2.1,()),())
 else oB (yi.sh F p) fun c_2=>
 some ((c_2.1.1,0,()),())
def wL.sp:sP_ wL.sg:=fun x=>wL.sh F x.1
abbrev zT.sg:Sig:=⟨[.d (.g zO)],[.c (.sl .bool),.c (.int .i64)]⟩
abbrev zT.l7.K0 (R:Type):Type:=(List Int)->Int->(List za.T)->Int->Int->Bool->(List Bool)->Option R
abbrev zT.l7.T (R:Type):Type:=(List Int)->Int->(List za.T)->Int->Int->(List Bool)->Option R
def zT.l7.y (F:Nat) (k0:zT.l7.K0 R) (rec:zT.l7.T R) (list:List Int) (last:Int) (t22:List za.T) (t23:Int) (t24:Int) (out:List Bool):Option R:=
 bif decide (t24<t23) then bif idx t24 t22.length then bif ((get za t22 t24.toNat).1==3) then bif idx t24 list.length then bif idx t24 out.length then rec list t24 t22 t23 (i64.wrap (t24+1)) (out.set t24.toNat (decide (t24<(get (.int .i64) list t24.toNat))))
 else none
 else none
 else bif ((get za t22 t24.toNat).1==4) then bif idx t24 list.length then bif idx t24 out.length then rec list t24 t22 t23 (i64.wrap (t24+1)) (out.set t24.toNat (decide (t24<(get (.int .i64) list t24.toNat))))
 else none
 else none
 else bif idx t24 list.length then bif idx t24 out.length then rec list last t22 t23 (i64.wrap (t24+1)) (out.set t24.toNat (decide (last<(get (.int .i64) list t24.toNat))))
 else none
 else none
 else none
 else k0 list last t22 t23 t24 (decide (t24<t23)) out
def zT.l7 {R:Type} (F:Nat) (k0:zT.l7.K0 R):Nat->zT.l7.T R
 | 0,_,_,_,_,_,_=>none
 | fu+1,list,last,t22,t23,t24,out=>zT.l7.y F k0 (zT.l7 F k0 fu) list last t22 t23 t24 out
def zT.j13 (F:Nat) (k0:(List Bool)->Int->Option R) (out:List Bool):Option R:=
 k0 out 0
def zT.sh (p:zO.T):Option zT.sg.R:=
 oB (wL.sh F p) fun c_1=>
 bif (c_1.1.2.1 != 0) then some (([],c_1.1.2.1,()),())
 else bif (decide (0<=(c_1.1.1.length:Int))&&decide ((c_1.1.1.length:Int)<=(c_1.1.1.length:Int))&&decide ((c_1.1.1.length:Int)<=(wF:Int))) then zT.l7 F (fun list2 last2 t222 t232 t242 t252 out2=>zT.j13 F (fun r23 r33=>some ((r23,r33,()),())) out2) F c_1.1.1 (-1) p.2.2.2 (p.2.2.2.length:Int) 0 (WA .bool ((c_1.1.1.length:Int).toNat))
 else none
def zT.sp:sP_ zT.sg:=fun x=>zT.sh F x.1
abbrev wT.sg:Sig:=⟨[.d (.c (.int .i64))],[.c .fn,.c (.int .i64)]⟩
def wT.sh (F:Nat) (kind:Int):Option wT.sg.R:=
 bif idx kind (([Ty.dflt (.pair .fn (.int .i64)),(uc,0),(um,0),(vq,0),(vM,0),(yH,1),(yH,2),(yH,2),(vE,2),(yH,(-1)),(yH,(-1)),(wy,1),(wy,1),(wE,1),(wE,1),(uh,1),(v6,3)]:List (Nat×Int)).length) then bif idx kind (([Ty.dflt (.pair .fn (.int .i64)),(uc,0),(um,0),(vq,0),(vM,0),(yH,1),(yH,2),(yH,2),(vE,2),(yH,(-1)),(yH,(-1)),(wy,1),(wy,1),(wE,1),(wE,1),(uh,1),(v6,3)]:List (Nat×Int)).length) then some (((get (.pair .fn (.int .i64)) ([Ty.dflt (.pair .fn (.int .i64)),(uc,0),(um,0),(vq,0),(vM,0),(yH,1),(yH,2),(yH,2),(vE,2),(yH,(-1)),(yH,(-1)),(wy,1),(wy,1),(wE,1),(wE,1),(uh,1),(v6,3)]:List (Nat×Int)) kind.toNat).1,(get (.pair .fn (.int .i64)) ([Ty.dflt (.pair .fn (.int .i64)),(uc,0),(um,0),(vq,0),(vM,0),(yH,1),(yH,2),(yH,2),(vE,2),(yH,(-1)),(yH,(-1)),(wy,1),(wy,1),(wE,1),(wE,1),(uh,1),(v6,3)]:List (Nat×Int)) kind.toNat).2,()),())
 else none
 else none
def wT.sp:sP_ wT.sg:=fun x=>wT.sh F x.1
abbrev yb.sg:Sig:=⟨[.d (.g xD),.d (.c (.int .i64))],[.c (.int .i64)]⟩
abbrev yb.l2.K1 (R:Type):Type:=Int->(List Int)->Int->Int->Bool->xD.T->Option R
abbrev yb.l2.T (R:Type):Type:=Int->(List Int)->Int->Int->xD.T->Option R
def yb.l2.y (F:Nat) (k0:Int->Option R) (k1:yb.l2.K1 R) (rec:yb.l2.T R) (from_:Int) (t10:List Int) (t11:Int) (t12:Int) (n:xD.T):Option R:=
 bif decide (t12<t11) then bif idx t12 t10.length then bif idx from_ n.2.1.length then bif ((get (.int .i64) t10 t12.toNat) != (get (.int .i64) n.2.1 from_.toNat)) then k0 (-1)
 else rec from_ t10 t11 (i64.wrap (t12+1)) n
 else none
 else none
 else k1 from_ t10 t11 t12 (decide (t12<t11)) n
def yb.l2 {R:Type} (F:Nat) (k0:Int->Option R) (k1:yb.l2.K1 R):Nat->yb.l2.T R
 | 0,_,_,_,_,_=>none
 | fu+1,from_,t10,t11,t12,n=>yb.l2.y F k0 k1 (yb.l2 F k0 k1 fu) from_ t10 t11 t12 n
def yb.sh (n:xD.T) (from_:Int):Option yb.sg.R:=
 bif (zJ n.2.1.length (some from_) none).1 then yb.l2 F (fun r41=>some ((r41,()),())) (fun from_2 t102 t112 t122 t132 n2=>bif idx from_2 n2.2.1.length then some ((get (.int .i64) n2.2.1 from_2.toNat,()),())
 else none) F from_ ((n.2.1.take (zJ n.2.1.length (some from_) none).2.2).drop (zJ n.2.1.length (some from_) none).2.1) (((n.2.1.take (zJ n.2.1.length (some from_) none).2.2).drop (zJ n.2.1.length (some from_) none).2.1).length:Int) 0 n
 else none
def yb.sp:sP_ yb.sg:=fun x=>yb.sh F x.1 x.2.1
abbrev xq.sg:Sig:=⟨[.d (.g xD)],[.c (.int .i64)]⟩
def xq.sh (n:xD.T):Option xq.sg.R:=
 oB (yb.sh F n 0) fun c_1=>
 some ((c_1.1.1,()),())
def xq.sp:sP_ xq.sg:=fun x=>xq.sh F x.1
abbrev xQ.sg:Sig:=⟨[.d (.g xD)],[.c (.int .i64)]⟩
def xQ.sh (F:Nat) (n:xD.T):Option xQ.sg.R:=
 some ((i64.wrap (3+(i64.wrap (2*n.1.2.1))),()),())
def xQ.sp:sP_ xQ.sg:=fun x=>xQ.sh F x.1
abbrev xX.sg:Sig:=⟨[.d (.c (.int .i64))],[.c .bool]⟩
def xX.sh (F:Nat) (t:Int):Option xX.sg.R:=
 some ((decide (t>=2),()),())
def xX.sp:sP_ xX.sg:=fun x=>xX.sh F x.1
abbrev xn.sg:Sig:=⟨[.d (.g xD)],[.c (.int .i64)]⟩
def xn.sh (n:xD.T):Option xn.sg.R:=
 bif idx 0 n.2.1.length then oB (xX.sh F (get (.int .i64) n.2.1 0)) fun c_1=>
 bif c_1.1.1 then bif idx 0 n.2.1.length then some ((get (.int .i64) n.2.1 0,()),())
 else none
 else some (((-1),()),())
 else none
def xn.sp:sP_ xn.sg:=fun x=>xn.sh F x.1
abbrev wx.sg:Sig:=⟨[.d (.g xD)],[.c (.int .i64)]⟩
def wx.sh (F:Nat) (n:xD.T):Option wx.sg.R:=
 some ((1,()),())
def wx.sp:sP_ wx.sg:=fun x=>wx.sh F x.1
abbrev wo.sg:Sig:=⟨[.d (.g xD)],[.c (.int .i64)]⟩
def wo.sh (F:Nat) (n:xD.T):Option wo.sg.R:=
 some ((0,()),())
def wo.sp:sP_ wo.sg:=fun x=>wo.sh F x.1
abbrev wm.sg:Sig:=⟨[.d (.g xD)],[.c (.int .i64)]⟩
def wm.sh (F:Nat) (n:xD.T):Option wm.sg.R:=
 bif idx 0 n.2.1.length then bif ((get (.int .i64) n.2.1 0)==1) then some ((1,()),())
 else some (((-1),()),())
 else none
def wm.sp:sP_ wm.sg:=fun x=>wm.sh F x.1
abbrev xG.sg:Sig:=⟨[.d (.g xD)],[.c (.int .i64)]⟩
def xG.sh (n:xD.T):Option xG.sg.R:=
 bif idx 0 n.2.1.length then oB (xX.sh F (get (.int .i64) n.2.1 0)) fun c_1=>
 bif c_1.1.1 then some ((1,()),())
 else some (((-1),()),())
 else none
def xG.sp:sP_ xG.sg:=fun x=>xG.sh F x.1
abbrev xA.sg:Sig:=⟨[.d (.g xD)],[.c (.int .i64)]⟩
def xA.sh (n:xD.T):Option xA.sg.R:=
 bif idx 0 n.2.1.length then bif idx 1 n.2.1.length then bif ((get (.int .i64) n.2.1 0)==0) then some ((get (.int .i64) n.2.1 1,()),())
 else bif ((get (.int .i64) n.2.1 1)==0) then some ((get (.int .i64) n.2.1 0,()),())
 else oB (xX.sh F (get (.int .i64) n.2.1 0)) fun c_1=>
 bif c_1.1.1 then bif ((get (.int .i64) n.2.1 1)==1) then bif ((get (.int .i64) n.2.1 1)==1) then some ((1,()),())
 else some (((-1),()),())
 else oB (xX.sh F (get (.int .i64) n.2.1 1)) fun c_2=>
 bif c_2.1.1 then bif ((get (.int .i64) n.2.1 0)==1) then some ((1,()),())
 else some (((-1),()),())
 else some (((-1),()),())
 else oB (xX.sh F (get (.int .i64) n.2.1 1)) fun c_3=>
 bif c_3.1.1 then bif ((get (.int .i64) n.2.1 0)==1) then some ((1,()),())
 else some (((-1),()),())
 else some (((-1),()),())
 else none
 else none
def xA.sp:sP_ xA.sg:=fun x=>xA.sh F x.1
abbrev xu.sg:Sig:=⟨[.d (.g xD)],[.c (.int .i64)]⟩
def xu.sh (F:Nat) (n:xD.T):Option xu.sg.R:=
 some ((i64.wrap (2+(i64.wrap (2*n.1.2.1))),()),())
def xu.sp:sP_ xu.sg:=fun x=>xu.sh F x.1
abbrev xZ.sg:Sig:=⟨[.d (.g xD)],[.c (.int .i64)]⟩
def xZ.sh (n:xD.T):Option xZ.sg.R:=
 bif idx 0 n.2.1.length then oB (xX.sh F (get (.int .i64) n.2.1 0)) fun c_1=>
 bif c_1.1.1 then oB (yb.sh F n 1) fun c_2=>
 some ((c_2.1.1,()),())
 else some (((-1),()),())
 else none
def xZ.sp:sP_ xZ.sg:=fun x=>xZ.sh F x.1
abbrev zF.sg:Sig:=⟨[.d (.g zO)],[.c (.sl (.int .i64)),.c (.int .i64),.c (.int .i64)]⟩
abbrev zF.ds63:Sig:=⟨[.d (.g xD)],[.c (.int .i64)]⟩
def zF.d63:Nat->sP_ zF.ds63:=mkT zF.ds63 [(yH,xq.sp F),(vM,xQ.sp F),(wy,xn.sp F),(um,wx.sp F),(uc,wo.sp F),(uh,wm.sp F),(wE,xG.sp F),(vE,xA.sp F),(vq,xu.sp F),(v6,xZ.sp F)]
abbrev zF.l8.K0 (R:Type):Type:=(List Int)->Int->Int->Option R
abbrev zF.l8.K1 (R:Type):Type:=(List Int)->Int->Int->Option R
abbrev zF.l8.K2 (R:Type):Type:=(List Bool)->(List za.T)->Int->Int->Bool->(List Int)->(List Int)->(List Bool)->Option R
abbrev zF.l8.T (R:Type):Type:=(List Bool)->(List za.T)->Int->Int->(List Int)->(List Int)->(List Bool)->Option R
def zF.l8.y (k0:zF.l8.K0 R) (k1:zF.l8.K1 R) (k2:zF.l8.K2 R) (rec:zF.l8.T R) (fixed:List Bool) (t33:List za.T) (t34:Int) (t35:Int) (types:List Int) (pile:List Int) (fix:List Bool):Option R:=
 bif decide (t35<t34) then bif idx t35 t33.length then oB (wT.sh F (get za t33 t35.toNat).1) fun c_3=>
 bif decide (c_3.1.2.1<0) then bif (zJ pile.length (some (i64.wrap ((pile.length:Int)-(get za t33 t35.toNat).2.2.2.1))) none).1 then bif (zJ fix.length (some (i64.wrap ((pile.length:Int)-(get za t33 t35.toNat).2.2.2.1))) none).1 then oB (zF.d63 F c_3.1.1 (((get za t33 t35.toNat),(pile.take (zJ pile.length (some (i64.wrap ((pile.length:Int)-(get za t33 t35.toNat).2.2.2.1))) none).2.2).drop (zJ pile.length (some (i64.wrap ((pile.length:Int)-(get za t33 t35.toNat).2.2.2.1))) none).2.1,(fix.take (zJ fix.length (some (i64.wrap ((pile.length:Int)-(get za t33 t35.toNat).2.2.2.1))) none).2.2).drop (zJ fix.length (some (i64.wrap ((pile.length:Int)-(get za t33 t35.toNat).2.2.2.1))) none).2.1),())) fun c_4=>
 bif (c_4.1.1==(-1)) then k0 ([]) t35 80
 else bif ((get za t33 t35.toNat).1==8) then bif idx (i64.wrap ((pile.length:Int)-(get za t33 t35.toNat).2.2.2.1)) fix.length then bif !(get .bool fix ((i64.wrap ((pile.length:Int)-(get za t33 t35.toNat).2.2.2.1)).toNat)) then bif idx (i64.wrap ((i64.wrap ((pile.length:Int)-(get za t33 t35.toNat).2.2.2.1))+1)) fix.length then bif !(get .bool fix ((i64.wrap ((i64.wrap ((pile.length:Int)-(get za t33 t35.toNat).2.2.2.1))+1)).toNat)) then k1 ([]) t35 81
 else bif Nat.ble (types.length+([c_4.1.1]:List Int).length) wF then bif (zJ pile.length none (some (i64.wrap ((pile.length:Int)-(get za t33 t35.toNat).2.2.2.1)))).1 then bif Nat.ble ((zJ pile.length none (some (i64.wrap ((pile.length:Int)-(get za t33 t35.toNat).2.2.2.1)))).2.2+([c_4.1.1]:List Int).length) wF then bif (zJ fix.length none (some (i64.wrap ((pile.length:Int)-(get za t33 t35.toNat).2.2.2.1)))).1 then bif idx t35 fixed.length then bif Nat.ble ((zJ fix.length none (some (i64.wrap ((pile.length:Int)-(get za t33 t35.toNat).2.2.2.1)))).2.2+([get .bool fixed t35.toNat]:List Bool).length) wF then rec fixed t33 t34 (i64.wrap (t35+1)) (types++([c_4.1.1]:List Int)) (pile.take (zJ pile.length none (some (i64.wrap ((pile.length:Int)-(get za t33 t35.toNat).2.2.2.1)))).2.2++([c_4.1.1]:List Int)) (fix.take (zJ fix.length none (some (i64.wrap ((pile.length:Int)-(get za t33 t35.toNat).2.2.2.1)))).2.2++([get .bool fixed t35.toNat]:List Bool))
 else none
 else none
 else none
 else none
 else none
 else none
 else none
 else bif Nat.ble (types.length+([c_4.1.1]:List Int).length) wF then bif (zJ pile.length none (some (i64.wrap ((pile.length:Int)-(get za t33 t35.toNat).2.2.2.1)))).1 then bif Nat.ble ((zJ pile.length none (some (i64.wrap ((pile.length:Int)-(get za t33 t35.toNat).2.2.2.1)))).2.2+([c_4.1.1]:List Int).length) wF then bif (zJ fix.length none (some (i64.wrap ((pile.length:Int)-(get za t33 t35.toNat).2.2.2.1)))).1 then bif idx t35 fixed.length then bif Nat.ble ((zJ fix.length none (some (i64.wrap ((pile.length:Int)-(get za t33 t35.toNat).2.2.2.1)))).2.2+([get .bool fixed t35.toNat]:List Bool).length) wF then rec fixed t33 t34 (i64.wrap (t35+1)) (types++([c_4.1.1]:List Int)) (pile.take (zJ pile.length none (some (i64.wrap ((pile.length:Int)-(get za t33 t35.toNat).2.2.2.1)))).2.2++([c_4.1.1]:List Int)) (fix.take (zJ fix.length none (some (i64.wrap ((pile.length:Int)-(get za t33 t35.toNat).2.2.2.1)))).2.2++([get .bool fixed t35.toNat]:List Bool))
 else none
 else none
 else none
 else none
 else none
 else none
 else none
 else bif Nat.ble (types.length+([c_4.1.1]:List Int).length) wF then bif (zJ pile.length none (some (i64.wrap ((pile.length:Int)-(get za t33 t35.toNat).2.2.2.1)))).1 then bif Nat.ble ((zJ pile.length none (some (i64.wrap ((pile.length:Int)-(get za t33 t35.toNat).2.2.2.1)))).2.2+([c_4.1.1]:List Int).length) wF then bif (zJ fix.length none (some (i64.wrap ((pile.length:Int)-(get za t33 t35.toNat).2.2.2.1)))).1 then bif idx t35 fixed.length then bif Nat.ble ((zJ fix.length none (some (i64.wrap ((pile.length:Int)-(get za t33 t35.toNat).2.2.2.1)))).2.2+([get .bool fixed t35.toNat]:List Bool).length) wF then rec fixed t33 t34 (i64.wrap (t35+1)) (types++([c_4.1.1]:List Int)) (pile.take (zJ pile.length none (some (i64.wrap ((pile.length:Int)-(get za t33 t35.toNat).2.2.2.1)))).2.2++([c_4.1.1]:List Int)) (fix.take (zJ fix.length none (some (i64.wrap ((pile.length:Int)-(get za t33 t35.toNat).2.2.2.1)))).2.2++([get .bool fixed t35.toNat]:List Bool))
 else none
 else none
 else none
 else none
 else none
 else none
 else none
 else none
 else bif (zJ pile.length (some (i64.wrap ((pile.length:Int)-c_3.1.2.1))) none).1 then bif (zJ fix.length (some (i64.wrap ((pile.length:Int)-c_3.1.2.1))) none).1 then oB (zF.d63 F c_3.1.1 (((get za t33 t35.toNat),(pile.take (zJ pile.length (some (i64.wrap ((pile.length:Int)-c_3.1.2.1))) none).2.2).drop (zJ pile.length (some (i64.wrap ((pile.length:Int)-c_3.1.2.1))) none).2.1,(fix.take (zJ fix.length (some (i64.wrap ((pile.length:Int)-c_3.1.2.1))) none).2.2).drop (zJ fix.length (some (i64.wrap ((pile.length:Int)-c_3.1.2.1))) none).2.1),())) fun c_5=>
 bif (c_5.1.1==(-1)) then k0 ([]) t35 80
 else bif ((get za t33 t35.toNat).1==8) then bif idx (i64.wrap ((pile.length:Int)-c_3.1.2.1)) fix.length then bif !(get .bool fix ((i64.wrap ((pile.length:Int)-c_3.1.2.1)).toNat)) then bif idx (i64.wrap ((i64.wrap ((pile.length:Int)-c_3.1.2.1))+1)) fix.length then bif !(get .bool fix ((i64.wrap ((i64.wrap ((pile.length:Int)-c_3.1.2.1))+1)).toNat)) then k1 ([]) t35 81
 else bif Nat.ble (types.length+([c_5.1.1]:List Int).length) wF then bif (zJ pile.length none (some (i64.wrap ((pile.length:Int)-c_3.1.2.1)))).1 then bif Nat.ble ((zJ pile.length none (some (i64.wrap ((pile.length:Int)-c_3.1.2.1)))).2.2+([c_5.1.1]:List Int).length) wF then bif (zJ fix.length none (some (i64.wrap ((pile.length:Int)-c_3.1.2.1)))).1 then bif idx t35 fixed.length then bif Nat.ble ((zJ fix.length none (some (i64.wrap ((pile.length:Int)-c_3.1.2.1)))).2.2+([get .bool fixed t35.toNat]:List Bool).length) wF then rec fixed t33 t34 (i64.wrap (t35+1)) (types++([c_5.1.1]:List Int)) (pile.take (zJ pile.length none (some (i64.wrap ((pile.length:Int)-c_3.1.2.1)))).2.2++([c_5.1.1]:List Int)) (fix.take (zJ fix.length none (some (i64.wrap ((pile.length:Int)-c_3.1.2.1)))).2.2++([get .bool fixed t35.toNat]:List Bool))
 else none
 else none
 else none
 else none
 else none
 else none
 else none
 else bif Nat.ble (types.length+([c_5.1.1]:List Int).length) wF then bif (zJ pile.length none (some (i64.wrap ((pile.length:Int)-c_3.1.2.1)))).1 then bif Nat.ble ((zJ pile.length none (some (i64.wrap ((pile.length:Int)-c_3.1.2.1)))).2.2+([c_5.1.1]:List Int).length) wF then bif (zJ fix.length none (some (i64.wrap ((pile.length:Int)-c_3.1.2.1)))).1 then bif idx t35 fixed.length then bif Nat.ble ((zJ fix.length none (some (i64.wrap ((pile.length:Int)-c_3.1.2.1)))).2.2+([get .bool fixed t35.toNat]:List Bool).length) wF then rec fixed t33 t34 (i64.wrap (t35+1)) (types++([c_5.1.1]:List Int)) (pile.take (zJ pile.length none (some (i64.wrap ((pile.length:Int)-c_3.1.2.1)))).2.2++([c_5.1.1]:List Int)) (fix.take (zJ fix.length none (some (i64.wrap ((pile.length:Int)-c_3.1.2.1)))).2.2++([get .bool fixed t35.toNat]:List Bool))
 else none
 else none
 else none
 else none
 else none
 else none
 else none
 else bif Nat.ble (types.length+([c_5.1.1]:List Int).length) wF then bif (zJ pile.length none (some (i64.wrap ((pile.length:Int)-c_3.1.2.1)))).1 then bif Nat.ble ((zJ pile.length none (some (i64.wrap ((pile.length:Int)-c_3.1.2.1)))).2.2+([c_5.1.1]:List Int).length) wF then bif (zJ fix.length none (some (i64.wrap ((pile.length:Int)-c_3.1.2.1)))).1 then bif idx t35 fixed.length then bif Nat.ble ((zJ fix.length none (some (i64.wrap ((pile.length:Int)-c_3.1.2.1)))).2.2+([get .bool fixed t35.toNat]:List Bool).length) wF then rec fixed t33 t34 (i64.wrap (t35+1)) (types++([c_5.1.1]:List Int)) (pile.take (zJ pile.length none (some (i64.wrap ((pile.length:Int)-c_3.1.2.1)))).2.2++([c_5.1.1]:List Int)) (fix.take (zJ fix.length none (some (i64.wrap ((pile.length:Int)-c_3.1.2.1)))).2.2++([get .bool fixed t35.toNat]:List Bool))
 else none
 else none
 else none
 else none
 else none
 else none
 else none
 else none
 else none
 else k2 fixed t33 t34 t35 (decide (t35<t34)) types pile fix
def zF.l8 {R:Type} (F:Nat) (k0:zF.l8.K0 R) (k1:zF.l8.K1 R) (k2:zF.l8.K2 R):Nat->zF.l8.T R
 | 0,_,_,_,_,_,_,_=>none
 | fu+1,fixed,t33,t34,t35,types,pile,fix=>zF.l8.y F k0 k1 k2 (zF.l8 F k0 k1 k2 fu) fixed t33 t34 t35 types pile fix
def zF.j23 (F:Nat) (k0:(List Int)->Int->Int->Option R) (k1:(List Int)->Int->Int->Option R) (types:List Int) (pile:List Int):Option R:=
 bif idx 0 pile.length then bif ((get (.int .i64) pile 0) != 1) then k0 ([]) (i64.wrap ((types.length:Int)-1)) 80
 else k1 types 0 0
 else none
def zF.sh (p:zO.T):Option zF.sg.R:=
 oB (yE.sh F p) fun c_1=>
 bif (c_1.1.2.1 != 0) then some (([],c_1.1.1,c_1.1.2.1,()),())
 else oB (zT.sh F p) fun c_2=>
 zF.l8 F (fun r26 r36 r46=>some ((r26,r36,r46,()),())) (fun r27 r37 r47=>some ((r27,r37,r47,()),())) (fun fixed8 t338 t348 t358 t368 types8 pile8 fix8=>zF.j23 F (fun r29 r39 r49=>some ((r29,r39,r49,()),())) (fun r210 r310 r410=>some ((r210,r310,r410,()),())) types8 pile8) F c_2.1.1 p.2.2.2 (p.2.2.2.length:Int) 0 ([]) ([]) ([])
def zF.sp:sP_ zF.sg:=fun x=>zF.sh F x.1
abbrev ym.sg:Sig:=⟨[.d (.b (.int .i64))],[.c (.int .i64)]⟩
abbrev ym.l5.K0 (R:Type):Type:=(List Int)->Int->Int->Bool->Option R
abbrev ym.l5.T (R:Type):Type:=(List Int)->Int->Int->Option R
def ym.l5.y (F:Nat) (k0:ym.l5.K0 R) (rec:ym.l5.T R) (x:List Int) (m:Int) (i:Int):Option R:=
 bif decide (i<(x.length:Int)) then bif idx i x.length then rec x (if get (.int .i64) x i.toNat>m then get (.int .i64) x i.toNat else m) (i64.wrap (i+1))
 else none
 else k0 x m i (decide (i<(x.length:Int)))
def ym.l5 {R:Type} (F:Nat) (k0:ym.l5.K0 R):Nat->ym.l5.T R
 | 0,_,_,_=>none
 | fu+1,x,m,i=>ym.l5.y F k0 (ym.l5 F k0 fu) x m i
def ym.sh (x:List Int):Option ym.sg.R:=
 bif decide ((x.length:Int)<1) then none
 else bif idx 0 x.length then ym.l5 F (fun x1 m1 i1 t151=>some ((m1,()),())) F x (get (.int .i64) x 0) 1
 else none
def ym.sp:sP_ ym.sg:=fun x=>ym.sh F x.1
abbrev yu.sg:Sig:=⟨[.d (.g zO)],[.c (.int .i64),.c (.int .i64)]⟩
abbrev yu.l6.K0 (R:Type):Type:=(List za.T)->Int->Int->Bool->(List Int)->Option R
abbrev yu.l6.T (R:Type):Type:=(List za.T)->Int->Int->(List Int)->Option R
def yu.l6.y (k0:yu.l6.K0 R) (rec:yu.l6.T R) (t20:List za.T) (t21:Int) (t22:Int) (pile:List Int):Option R:=
 bif decide (t22<t21) then bif idx t22 t20.length then oB (wi.sh F (get za t20 t22.toNat)) fun c_2=>
 bif decide (c_2.1.1>0) then bif (zJ pile.length (some (i64.wrap ((pile.length:Int)-c_2.1.1))) none).1 then oB (ym.sh F ((List.take (zJ pile.length (some (i64.wrap ((pile.length:Int)-c_2.1.1))) none).2.2 pile).drop (zJ pile.length (some (i64.wrap ((pile.length:Int)-c_2.1.1))) none).2.1)) fun c_3=>
 bif (zJ pile.length none (some (i64.wrap ((pile.length:Int)-c_2.1.1)))).1 then bif ((get za t20 t22.toNat).1==15) then bif Nat.ble ((pile.take (zJ pile.length none (some (i64.wrap ((pile.length:Int)-c_2.1.1)))).2.2).length+([i64.wrap (c_3.1.1+1)]:List Int).length) wF then rec t20 t21 (i64.wrap (t22+1)) ((pile.take (zJ pile.length none (some (i64.wrap ((pile.length:Int)-c_2.1.1)))).2.2)++([i64.wrap (c_3.1.1+1)]:List Int))
 else none
 else bif Nat.ble ((pile.take (zJ pile.length none (some (i64.wrap ((pile.length:Int)-c_2.1.1)))).2.2).length+([c_3.1.1]:List Int).length) wF then rec t20 t21 (i64.wrap (t22+1)) ((pile.take (zJ pile.length none (some (i64.wrap ((pile.length:Int)-c_2.1.1)))).2.2)++([c_3.1.1]:List Int))
 else none
 else none
 else none
 else bif ((get za t20 t22.toNat).1==15) then bif Nat.ble (pile.length+([i64.wrap (0+1)]:List Int).length) wF then rec t20 t21 (i64.wrap (t22+1)) (pile++([i64.wrap (0+1)]:List Int))
 else none
 else bif Nat.ble (pile.length+([0]:List Int).length) wF then rec t20 t21 (i64.wrap (t22+1)) (pile++([0]:List Int))
 else none
 else none
 else k0 t20 t21 t22 (decide (t22<t21)) pile
def yu.l6 {R:Type} (F:Nat) (k0:yu.l6.K0 R):Nat->yu.l6.T R
 | 0,_,_,_,_=>none
 | fu+1,t20,t21,t22,pile=>yu.l6.y F k0 (yu.l6 F k0 fu) t20 t21 t22 pile
def yu.j17 (F:Nat) (k0:Int->Int->Option R) (pile:List Int):Option R:=
 bif idx 0 pile.length then k0 (get (.int .i64) pile 0) 0
 else none
def yu.sh (p:zO.T):Option yu.sg.R:=
 oB (yE.sh F p) fun c_1=>
 bif (c_1.1.2.1 != 0) then some ((0,c_1.1.2.1,()),())
 else yu.l6 F (fun t204 t214 t224 t234 pile4=>yu.j17 F (fun r25 r35=>some ((r25,r35,()),())) pile4) F p.2.2.2 (p.2.2.2.length:Int) 0 ([])
def yu.sp:sP_ yu.sg:=fun x=>yu.sh F x.1
abbrev xV.sg:Sig:=⟨[.d (.c (.int .i64))],[.g zd]⟩
def xV.sh (F:Nat) (v:Int):Option xV.sg.R:=
 some (((v.fdiv (2^(min (63:Int).toNat IntKind.i64.bits)),u64.wrap v),()),())
def xV.sp:sP_ xV.sg:=fun x=>xV.sh F x.1
abbrev wS.sg:Sig:=⟨[.d (.g zd)],[.c (.int .u64),.c (.int .u64)]⟩
def wS.sh (w:zd.T):Option wS.sg.R:=
 bif decide (w.1>=0) then some ((u64.wrap w.1,w.2,()),())
 else oB (yY.sh F 0 w.2 0) fun c_1=>
 oB (yY.sh F 0 (u64.wrap w.1) c_1.1.2.1) fun c_2=>
 some ((c_2.1.1,c_1.1.1,()),())
def wS.sp:sP_ wS.sg:=fun x=>wS.sh F x.1
abbrev x9.sg:Sig:=⟨[.d (.c (.int .u64)),.d (.c (.int .u64))],[.c (.int .u64),.c (.int .u64)]⟩
def x9.sh (F:Nat) (x:Int) (y:Int):Option x9.sg.R:=
 some ((u64.wrap ((u64.wrap ((u64.wrap ((x.fdiv (2^(min (32:Int).toNat IntKind.u64.bits)))*(y.fdiv (2^(min (32:Int).toNat IntKind.u64.bits)))))+((u64.wrap ((u64.wrap ((x.fdiv (2^(min (32:Int).toNat IntKind.u64.bits)))*(u64.wrap ((BitVec.ofInt IntKind.u64.bits y &&& BitVec.ofInt IntKind.u64.bits 4294967295).toNat))))+((u64.wrap ((u64.wrap ((BitVec.ofInt IntKind.u64.bits x &&& BitVec.ofInt IntKind.u64.bits 4294967295).toNat))*(u64.wrap ((BitVec.ofInt IntKind.u64.bits y &&& BitVec.ofInt IntKind.u64.bits 4294967295).toNat)))).fdiv (2^(min (32:Int).toNat IntKind.u64.bits))))).fdiv (2^(min (32:Int).toNat IntKind.u64.bits)))))+((u64.wrap ((u64.wrap ((BitVec.ofInt IntKind.u64.bits (u64.wrap ((u64.wrap ((x.fdiv (2^(min (32:Int).toNat IntKind.u64.bits)))*(u64.wrap ((BitVec.ofInt IntKind.u64.bits y &&& BitVec.ofInt IntKind.u64.bits 4294967295).toNat))))+((u64.wrap ((u64.wrap ((BitVec.ofInt IntKind.u64.bits x &&& BitVec.ofInt IntKind.u64.bits 4294967295).toNat))*(u64.wrap ((BitVec.ofInt IntKind.u64.bits y &&& BitVec.ofInt IntKind.u64.bits 4294967295).toNat)))).fdiv (2^(min (32:Int).toNat IntKind.u64.bits))))) &&& BitVec.ofInt IntKind.u64.bits 4294967295).toNat))+(u64.wrap ((u64.wrap ((BitVec.ofInt IntKind.u64.bits x &&& BitVec.ofInt IntKind.u64.bits 4294967295).toNat))*(y.fdiv (2^(min (32:Int).toNat IntKind.u64.bits))))))).fdiv (2^(min (32:Int).toNat IntKind.u64.bits)))),u64.wrap (x*y),()),())
def x9.sp:sP_ x9.sg:=fun x=>x9.sh F x.1 x.2.1
abbrev va.sg:Sig:=⟨[.d (.c .bool),.d (.c (.int .u64)),.d (.c (.int .u64))],[.c (.int .u64)]⟩
def va.sh (F:Nat) (first_:Bool) (a:Int) (b:Int):Option va.sg.R:=
 bif first_ then some ((a,()),())
 else some ((b,()),())
def va.sp:sP_ va.sg:=fun x=>va.sh F x.1 x.2.1 x.2.2.1
abbrev wY.sg:Sig:=⟨[.d (.g zd),.d (.g zd)],[.g zd,.c (.int .i64)]⟩
def wY.sh (a:zd.T) (b:zd.T):Option wY.sg.R:=
 oB (yY.sh F a.2 b.2 0) fun c_1=>
 oB (yY.sh F (u64.wrap a.1) (u64.wrap b.1) c_1.1.2.1) fun c_2=>
 bif (!(decide (a.1<0)==decide (b.1<0))) then bif (!(decide ((i64.wrap c_2.1.1)<0)==decide (a.1<0))) then some (((0,0),10,()),())
 else some (((i64.wrap c_2.1.1,c_1.1.1),0,()),())
 else some (((i64.wrap c_2.1.1,c_1.1.1),0,()),())
def wY.sp:sP_ wY.sg:=fun x=>wY.sh F x.1 x.2.1
abbrev vi.sg:Sig:=⟨[.d (.g zd)],[.g zd,.c (.int .i64)]⟩
def vi.sh (a:zd.T):Option vi.sg.R:=
 oB (wY.sh F (0,0) a) fun c_1=>
 some ((c_1.1.1,c_1.1.2.1,()),())
def vi.sp:sP_ vi.sg:=fun x=>vi.sh F x.1
abbrev wU.sg:Sig:=⟨[.d (.c .bool),.d (.c (.int .u64)),.d (.c (.int .u64))],[.g zd,.c (.int .i64)]⟩
def wU.sh (below:Bool) (hi:Int) (lo:Int):Option wU.sg.R:=
 bif ((hi.fdiv (2^(min (63:Int).toNat IntKind.u64.bits)))==0) then bif below then oB (vi.sh F (i64.wrap hi,lo)) fun c_1=>
 some ((c_1.1.1,c_1.1.2.1,()),())
 else some (((i64.wrap hi,lo),0,()),())
 else bif below then bif (hi==9223372036854775808) then bif (lo==0) then some ((((-9223372036854775808),0),0,()),())
 else some (((0,0),10,()),())
 else some (((0,0),10,()),())
 else some (((0,0),10,()),())
def wU.sp:sP_ wU.sg:=fun x=>wU.sh F x.1 x.2.1 x.2.2.1
abbrev xC.sg:Sig:=⟨[.d (.g zd),.d (.g zd)],[.g zd,.c (.int .i64)]⟩
def xC.j5 (k0:Int->zd.T->Option R) (k1:Int->zd.T->Option R) (ah:Int) (al:Int) (bh:Int) (bl:Int) (a:zd.T) (b:zd.T) (r4:zd.T):Option R:=
 oB (x9.sh F al bl) fun c_3=>
 oB (va.sh F (ah != 0) bl al) fun c_4=>
 oB (x9.sh F (u64.wrap ((BitVec.ofInt IntKind.u64.bits ah ||| BitVec.ofInt IntKind.u64.bits bh).toNat)) c_4.1.1) fun c_5=>
 oB (xi.sh F c_3.1.1 c_5.1.2.1 0) fun c_6=>
 bif (c_5.1.1 != 0) then k0 10 (0,0)
 else bif (c_6.1.2.1 != 0) then k0 10 (0,0)
 else oB (wU.sh F (!(decide (a.1<0)==decide (b.1<0))) c_6.1.1 c_3.1.2.1) fun c_7=>
 k1 c_7.1.2.1 c_7.1.1
def xC.sh (a:zd.T) (b:zd.T):Option xC.sg.R:=
 oB (wS.sh F a) fun c_1=>
 oB (wS.sh F b) fun c_2=>
 bif (c_1.1.1 != 0) then bif (c_2.1.1 != 0) then some (((0,0),10,()),())
 else xC.j5 F (fun r58 r48=>some ((r48,r58,()),())) (fun r59 r49=>some ((r49,r59,()),())) c_1.1.1 c_1.1.2.1 c_2.1.1 c_2.1.2.1 a b (0,0)
 else xC.j5 F (fun r510 r410=>some ((r410,r510,()),())) (fun r511 r411=>some ((r411,r511,()),())) c_1.1.1 c_1.1.2.1 c_2.1.1 c_2.1.2.1 a b (0,0)
def xC.sp:sP_ xC.sg:=fun x=>xC.sh F x.1 x.2.1
abbrev yR.sg:Sig:=⟨[.d (.c (.int .i64))],[.g zd,.c (.int .i64)]⟩
abbrev yR.l7.K0 (R:Type):Type:=Int->Int->Bool->zd.T->zd.T->Option R
abbrev yR.l7.T (R:Type):Type:=Int->Int->zd.T->zd.T->Option R
def yR.l7.y (k0:yR.l7.K0 R) (rec:yR.l7.T R) (t12:Int) (t13:Int) (r2:zd.T) (p:zd.T):Option R:=
 bif decide (t13<t12) then oB (xV.sh F 10000) fun c_2=>
 oB (xC.sh F p c_2.1.1) fun c_3=>
 rec t12 (i64.wrap (t13+1)) r2 c_3.1.1
 else k0 t12 t13 (decide (t13<t12)) r2 p
def yR.l7 {R:Type} (F:Nat) (k0:yR.l7.K0 R):Nat->yR.l7.T R
 | 0,_,_,_,_=>none
 | fu+1,t12,t13,r2,p=>yR.l7.y F k0 (yR.l7 F k0 fu) t12 t13 r2 p
def yR.sh (k:Int):Option yR.sg.R:=
 bif decide (k<0) then some (((0,0),1,()),())
 else bif decide (k>9) then some (((0,0),10,()),())
 else oB (xV.sh F 1) fun c_1=>
 yR.l7 F (fun t124 t134 t144 r24 p4=>some ((p4,0,()),())) F k 0 (0,0) c_1.1.1
def yR.sp:sP_ yR.sg:=fun x=>yR.sh F x.1
abbrev yT.sg:Sig:=⟨[.d (.g za)],[.c (.int .i64)]⟩
def yT.j10 (F:Nat) (k0:Int->Option R) (k1:Int->Option R) (k2:Int->Option R) (k3:Bool->Option R) (t4:Int) (t10:Bool) (n:za.T):Option R:=
 bif t10 then k0 2
 else bif (t4==9) then bif (t4==9) then k1 n.2.2.2.1
 else bif (t4==16) then k2 3
 else k3 (t4==16)
 else bif (t4==10) then k1 n.2.2.2.1
 else bif (t4==16) then k2 3
 else k3 (t4==16)
def yT.j6 (k0:Int->Option R) (k1:Int->Option R) (k2:Int->Option R) (k3:Int->Option R) (k4:Bool->Option R) (t4:Int) (t5:Bool) (n:za.T):Option R:=
 bif t5 then k0 0
 else bif (t4==6) then yT.j10 F (fun r21=>k1 r21) (fun r22=>k2 r22) (fun r23=>k3 r23) (fun t194=>k4 t194) t4 (t4==6) n
 else bif (t4==7) then yT.j10 F (fun r25=>k1 r25) (fun r26=>k2 r26) (fun r27=>k3 r27) (fun t198=>k4 t198) t4 (t4==7) n
 else yT.j10 F (fun r29=>k1 r29) (fun r210=>k2 r210) (fun r211=>k3 r211) (fun t1912=>k4 t1912) t4 (t4==8) n
def yT.sh (n:za.T):Option yT.sg.R:=
 bif (n.1==1) then yT.j6 F (fun r213=>some ((r213,()),())) (fun r214=>some ((r214,()),())) (fun r215=>some ((r215,()),())) (fun r216=>some ((r216,()),())) (fun t1917=>some ((1,()),())) n.1 (n.1==1) n
 else bif (n.1==2) then yT.j6 F (fun r218=>some ((r218,()),())) (fun r219=>some ((r219,()),())) (fun r220=>some ((r220,()),())) (fun r221=>some ((r221,()),())) (fun t1922=>some ((1,()),())) n.1 (n.1==2) n
 else bif (n.1==3) then yT.j6 F (fun r223=>some ((r223,()),())) (fun r224=>some ((r224,()),())) (fun r225=>some ((r225,()),())) (fun r226=>some ((r226,()),())) (fun t1927=>some ((1,()),())) n.1 (n.1==3) n
 else yT.j6 F (fun r228=>some ((r228,()),())) (fun r229=>some ((r229,()),())) (fun r230=>some ((r230,()),())) (fun r231=>some ((r231,()),())) (fun t1932=>some ((1,()),())) n.1 (n.1==4) n
def yT.sp:sP_ yT.sg:=fun x=>yT.sh F x.1
abbrev xc.sg:Sig:=⟨[.io zg [],.d (.g zd),.d (.c (.int .i64))],[.g zd]⟩
def xc.sh (F:Nat) (m:zg.T) (w:zd.T) (e:Int):Option xc.sg.R:=
 bif m.2 then some ((w,()),((m.1,true),()))
 else some ((w,()),((m.1,(e != 0)),()))
def xc.sp:sP_ xc.sg:=fun x=>xc.sh F x.1 x.2.1 x.2.2.1
abbrev y7.sg:Sig:=⟨[.io zg [],.d (.g zd),.d (.g zd)],[.g zd]⟩
def y7.sh (m:zg.T) (a:zd.T) (b:zd.T):Option y7.sg.R:=
 oB (xC.sh F a b) fun c_1=>
 oB (xc.sh F m c_1.1.1 c_1.1.2.1) fun c_2=>
 some ((c_2.1.1,()),(c_2.2.1,()))
def y7.sp:sP_ y7.sg:=fun x=>y7.sh F x.1 x.2.1 x.2.2.1
abbrev yA.sg:Sig:=⟨[.d (.c (.int .u64))],[.c (.int .i64)]⟩
def yA.j7 (F:Nat) (k0:Int->Option R) (x:Int) (n:Int):Option R:=
 bif decide (x>=256) then bif idx (IntKind.u8.wrap (x.fdiv (2^(min (8:Int).toNat IntKind.u64.bits)))) ((⟨#[0,1,2,2,3,3,3,3,4,4,4,4,4,4,4,4,5,5,5,5,5,5,5,5,5,5,5,5,5,5,5,5,6,6,6,6,6,6,6,6,6,6,6,6,6,6,6,6,6,6,6,6,6,6,6,6,6,6,6,6,6,6,6,6,7,7,7,7,7,7,7,7,7,7,7,7,7,7,7,7,7,7,7,7,7,7,7,7,7,7,7,7,7,7,7,7,7,7,7,7,7,7,7,7,7,7,7,7,7,7,7,7,7,7,7,7,7,7,7,7,7,7,7,7,7,7,7,7,8,8,8,8,8,8,8,8,8,8,8,8,8,8,8,8,8,8,8,8,8,8,8,8,8,8,8,8,8,8,8,8,8,8,8,8,8,8,8,8,8,8,8,8,8,8,8,8,8,8,8,8,8,8,8,8,8,8,8,8,8,8,8,8,8,8,8,8,8,8,8,8,8,8,8,8,8,8,8,8,8,8,8,8,8,8,8,8,8,8,8,8,8,8,8,8,8,8,8,8,8,8,8,8,8,8,8,8,8,8,8,8,8,8,8,8,8,8,8,8,8,8,8,8,8,8,8,8]⟩:ByteArray).size) then k0 (i64.wrap ((i64.wrap (n+8))+(i64.wrap (bt (⟨#[0,1,2,2,3,3,3,3,4,4,4,4,4,4,4,4,5,5,5,5,5,5,5,5,5,5,5,5,5,5,5,5,6,6,6,6,6,6,6,6,6,6,6,6,6,6,6,6,6,6,6,6,6,6,6,6,6,6,6,6,6,6,6,6,7,7,7,7,7,7,7,7,7,7,7,7,7,7,7,7,7,7,7,7,7,7,7,7,7,7,7,7,7,7,7,7,7,7,7,7,7,7,7,7,7,7,7,7,7,7,7,7,7,7,7,7,7,7,7,7,7,7,7,7,7,7,7,7,8,8,8,8,8,8,8,8,8,8,8,8,8,8,8,8,8,8,8,8,8,8,8,8,8,8,8,8,8,8,8,8,8,8,8,8,8,8,8,8,8,8,8,8,8,8,8,8,8,8,8,8,8,8,8,8,8,8,8,8,8,8,8,8,8,8,8,8,8,8,8,8,8,8,8,8,8,8,8,8,8,8,8,8,8,8,8,8,8,8,8,8,8,8,8,8,8,8,8,8,8,8,8,8,8,8,8,8,8,8,8,8,8,8,8,8,8,8,8,8,8,8,8,8,8,8,8,8]⟩:ByteArray) (IntKind.u8.wrap (x.fdiv (2^(min (8:Int).toNat IntKind.u64.bits))))))))
 else none
 else bif idx (IntKind.u8.wrap x) ((⟨#[0,1,2,2,3,3,3,3,4,4,4,4,4,4,4,4,5,5,5,5,5,5,5,5,5,5,5,5,5,5,5,5,6,6,6,6,6,6,6,6,6,6,6,6,6,6,6,6,6,6,6,6,6,6,6,6,6,6,6,6,6,6,6,6,7,7,7,7,7,7,7,7,7,7,7,7,7,7,7,7,7,7,7,7,7,7,7,7,7,7,7,7,7,7,7,7,7,7,7,7,7,7,7,7,7,7,7,7,7,7,7,7,7,7,7,7,7,7,7,7,7,7,7,7,7,7,7,7,8,8,8,8,8,8,8,8,8,8,8,8,8,8,8,8,8,8,8,8,8,8,8,8,8,8,8,8,8,8,8,8,8,8,8,8,8,8,8,8,8,8,8,8,8,8,8,8,8,8,8,8,8,8,8,8,8,8,8,8,8,8,8,8,8,8,8,8,8,8,8,8,8,8,8,8,8,8,8,8,8,8,8,8,8,8,8,8,8,8,8,8,8,8,8,8,8,8,8,8,8,8,8,8,8,8,8,8,8,8,8,8,8,8,8,8,8,8,8,8,8,8,8,8,8,8,8,8]⟩:ByteArray).size) then k0 (i64.wrap (n+(i64.wrap (bt (⟨#[0,1,2,2,3,3,3,3,4,4,4,4,4,4,4,4,5,5,5,5,5,5,5,5,5,5,5,5,5,5,5,5,6,6,6,6,6,6,6,6,6,6,6,6,6,6,6,6,6,6,6,6,6,6,6,6,6,6,6,6,6,6,6,6,7,7,7,7,7,7,7,7,7,7,7,7,7,7,7,7,7,7,7,7,7,7,7,7,7,7,7,7,7,7,7,7,7,7,7,7,7,7,7,7,7,7,7,7,7,7,7,7,7,7,7,7,7,7,7,7,7,7,7,7,7,7,7,7,8,8,8,8,8,8,8,8,8,8,8,8,8,8,8,8,8,8,8,8,8,8,8,8,8,8,8,8,8,8,8,8,8,8,8,8,8,8,8,8,8,8,8,8,8,8,8,8,8,8,8,8,8,8,8,8,8,8,8,8,8,8,8,8,8,8,8,8,8,8,8,8,8,8,8,8,8,8,8,8,8,8,8,8,8,8,8,8,8,8,8,8,8,8,8,8,8,8,8,8,8,8,8,8,8,8,8,8,8,8,8,8,8,8,8,8,8,8,8,8,8,8,8,8,8,8,8,8]⟩:ByteArray) (IntKind.u8.wrap x)))))
 else none
def yA.j4 (k0:Int->Option R) (x:Int) (n:Int):Option R:=
 bif decide (x>=65536) then yA.j7 F (fun n1=>k0 n1) (x.fdiv (2^(min (16:Int).toNat IntKind.u64.bits))) (i64.wrap (n+16))
 else yA.j7 F (fun n2=>k0 n2) x n
def yA.sh (x:Int):Option yA.sg.R:=
 bif decide (x>=4294967296) then yA.j4 F (fun n3=>some ((n3,()),())) (x.fdiv (2^(min (32:Int).toNat IntKind.u64.bits))) 32
 else yA.j4 F (fun n4=>some ((n4,()),())) x 0
def yA.sp:sP_ yA.sg:=fun x=>yA.sh F x.1
abbrev yU.sg:Sig:=⟨[.d (.c (.int .u64))],[.c (.int .i64)]⟩
def yU.sh (x:Int):Option yU.sg.R:=
 oB (yA.sh F x) fun c_1=>
 some ((i64.wrap (64-c_1.1.1),()),())
def yU.sp:sP_ yU.sg:=fun x=>yU.sh F x.1
abbrev zt.sg:Sig:=⟨[.d (.c (.int .u64)),.d (.c (.int .u64)),.d (.c (.int .u64))],[.c (.int .u64),.c (.int .u64)]⟩
abbrev zt.l17.K0 (R:Type):Type:=Int->Int->Int->Int->Int->Int->Int->Int->Int->Bool->Option R
abbrev zt.l17.K1 (R:Type):Type:=Int->Int->Int->Int->Int->Int->Int->Int->Int->Bool->Option R
abbrev zt.l17.T (R:Type):Type:=Int->Int->Int->Int->Int->Int->Int->Int->Int->Option R
def zt.l17.y (F:Nat) (k0:zt.l17.K0 R) (k1:zt.l17.K1 R) (rec:zt.l17.T R) (y:Int) (s:Int) (yn1:Int) (yn0:Int) (un32:Int) (un1:Int) (un0:Int) (q1:Int) (rhat:Int):Option R:=
 bif decide (q1>=4294967296) then bif decide ((u64.wrap (rhat+yn1))>=4294967296) then k0 y s yn1 yn0 un32 un1 un0 (u64.wrap (q1-1)) (u64.wrap (rhat+yn1)) (decide ((u64.wrap (rhat+yn1))>=4294967296))
 else rec y s yn1 yn0 un32 un1 un0 (u64.wrap (q1-1)) (u64.wrap (rhat+yn1))
 else bif decide ((u64.wrap (q1*yn0))>(u64.wrap ((u64.wrap (4294967296*rhat))+un1))) then bif decide ((u64.wrap (rhat+yn1))>=4294967296) then k0 y s yn1 yn0 un32 un1 un0 (u64.wrap (q1-1)) (u64.wrap (rhat+yn1)) (decide ((u64.wrap (rhat+yn1))>=4294967296))
 else rec y s yn1 yn0 un32 un1 un0 (u64.wrap (q1-1)) (u64.wrap (rhat+yn1))
 else k1 y s yn1 yn0 un32 un1 un0 q1 rhat (decide ((u64.wrap (q1*yn0))>(u64.wrap ((u64.wrap (4294967296*rhat))+un1))))
def zt.l17 {R:Type} (F:Nat) (k0:zt.l17.K0 R) (k1:zt.l17.K1 R):Nat->zt.l17.T R
 | 0,_,_,_,_,_,_,_,_,_=>none
 | fu+1,y,s,yn1,yn0,un32,un1,un0,q1,rhat=>zt.l17.y F k0 k1 (zt.l17 F k0 k1 fu) y s yn1 yn0 un32 un1 un0 q1 rhat
abbrev zt.l24.K0 (R:Type):Type:=Int->Int->Int->Int->Int->Int->Int->Int->Int->Bool->Option R
abbrev zt.l24.K1 (R:Type):Type:=Int->Int->Int->Int->Int->Int->Int->Int->Int->Bool->Option R
abbrev zt.l24.T (R:Type):Type:=Int->Int->Int->Int->Int->Int->Int->Int->Int->Option R
def zt.l24.y (F:Nat) (k0:zt.l24.K0 R) (k1:zt.l24.K1 R) (rec:zt.l24.T R) (y:Int) (s:Int) (yn1:Int) (yn0:Int) (un0:Int) (q1:Int) (rhat:Int) (un21:Int) (q0:Int):Option R:=
 bif decide (q0>=4294967296) then bif decide ((u64.wrap (rhat+yn1))>=4294967296) then k0 y s yn1 yn0 un0 q1 (u64.wrap (rhat+yn1)) un21 (u64.wrap (q0-1)) (decide ((u64.wrap (rhat+yn1))>=4294967296))
 else rec y s yn1 yn0 un0 q1 (u64.wrap (rhat+yn1)) un21 (u64.wrap (q0-1))
 else bif decide ((u64.wrap (q0*yn0))>(u64.wrap ((u64.wrap (4294967296*rhat))+un0))) then bif decide ((u64.wrap (rhat+yn1))>=4294967296) then k0 y s yn1 yn0 un0 q1 (u64.wrap (rhat+yn1)) un21 (u64.wrap (q0-1)) (decide ((u64.wrap (rhat+yn1))>=4294967296))
 else rec y s yn1 yn0 un0 q1 (u64.wrap (rhat+yn1)) un21 (u64.wrap (q0-1))
 else k1 y s yn1 yn0 un0 q1 rhat un21 q0 (decide ((u64.wrap (q0*yn0))>(u64.wrap ((u64.wrap (4294967296*rhat))+un0))))
def zt.l24 {R:Type} (F:Nat) (k0:zt.l24.K0 R) (k1:zt.l24.K1 R):Nat->zt.l24.T R
 | 0,_,_,_,_,_,_,_,_,_=>none
 | fu+1,y,s,yn1,yn0,un0,q1,rhat,un21,q0=>zt.l24.y F k0 k1 (zt.l24 F k0 k1 fu) y s yn1 yn0 un0 q1 rhat un21 q0
def zt.j28 (F:Nat) (k0:Int->Int->Option R) (y:Int) (s:Int) (un0:Int) (q1:Int) (un21:Int) (q0:Int):Option R:=
 bif decide (0<=s) then k0 (u64.wrap ((u64.wrap (q1*4294967296))+q0)) ((u64.wrap ((u64.wrap ((u64.wrap (un21*4294967296))+un0))-(u64.wrap (q0*y)))).fdiv (2^(min s.toNat IntKind.u64.bits)))
 else none
def zt.j21 (k0:Int->Int->Option R) (y:Int) (s:Int) (yn1:Int) (yn0:Int) (un32:Int) (un1:Int) (un0:Int) (q1:Int):Option R:=
 bif (yn1 != 0) then zt.l24 F (fun y3 s3 yn13 yn03 un03 q13 rhat3 un213 q03 t1203=>zt.j28 F (fun quo4 rem4=>k0 quo4 rem4) y3 s3 un03 q13 un213 q03) (fun y5 s5 yn15 yn05 un05 q15 rhat5 un215 q05 t1135=>zt.j28 F (fun quo6 rem6=>k0 quo6 rem6) y5 s5 un05 q15 un215 q05) F y s yn1 yn0 un0 q1 (u64.wrap ((u64.wrap ((u64.wrap ((u64.wrap (un32*4294967296))+un1))-(u64.wrap (q1*y))))-(u64.wrap ((u64.wrap ((u64.wrap ((u64.wrap ((u64.wrap (un32*4294967296))+un1))-(u64.wrap (q1*y)))).tdiv yn1))*yn1)))) (u64.wrap ((u64.wrap ((u64.wrap (un32*4294967296))+un1))-(u64.wrap (q1*y)))) (u64.wrap ((u64.wrap ((u64.wrap ((u64.wrap (un32*4294967296))+un1))-(u64.wrap (q1*y)))).tdiv yn1))
 else none
def zt.sh (hi:Int) (lo:Int) (y:Int):Option zt.sg.R:=
 bif (y==0) then none
 else bif decide (y<=hi) then none
 else bif (hi==0) then bif (y != 0) then bif (y != 0) then some ((u64.wrap (lo.tdiv y),lo.tmod y,()),())
 else none
 else none
 else oB (yU.sh F y) fun c_1=>
 bif decide (0<=(u64.wrap c_1.1.1)) then bif decide (0<=(u64.wrap c_1.1.1)) then bif decide (0<=(u64.wrap (64-(u64.wrap c_1.1.1)))) then bif decide (0<=(u64.wrap c_1.1.1)) then bif (((u64.wrap (y*2^(min (u64.wrap c_1.1.1).toNat IntKind.u64.bits))).fdiv (2^(min (32:Int).toNat IntKind.u64.bits))) != 0) then zt.l17 F (fun y2 s2 yn12 yn02 un322 un12 un02 q12 rhat2 t852=>zt.j21 F (fun quo7 rem7=>some ((quo7,rem7,()),())) y2 s2 yn12 yn02 un322 un12 un02 q12) (fun y8 s8 yn18 yn08 un328 un18 un08 q18 rhat8 t788=>zt.j21 F (fun quo9 rem9=>some ((quo9,rem9,()),())) y8 s8 yn18 yn08 un328 un18 un08 q18) F (u64.wrap (y*2^(min (u64.wrap c_1.1.1).toNat IntKind.u64.bits))) (u64.wrap c_1.1.1) ((u64.wrap (y*2^(min (u64.wrap c_1.1.1).toNat IntKind.u64.bits))).fdiv (2^(min (32:Int).toNat IntKind.u64.bits))) (u64.wrap ((BitVec.ofInt IntKind.u64.bits (u64.wrap (y*2^(min (u64.wrap c_1.1.1).toNat IntKind.u64.bits))) &&& BitVec.ofInt IntKind.u64.bits 4294967295).toNat)) (u64.wrap ((BitVec.ofInt IntKind.u64.bits (u64.wrap (hi*2^(min (u64.wrap c_1.1.1).toNat IntKind.u64.bits))) ||| BitVec.ofInt IntKind.u64.bits (lo.fdiv (2^(min (u64.wrap (64-(u64.wrap c_1.1.1))).toNat IntKind.u64.bits)))).toNat)) ((u64.wrap (lo*2^(min (u64.wrap c_1.1.1).toNat IntKind.u64.bits))).fdiv (2^(min (32:Int).toNat IntKind.u64.bits))) (u64.wrap ((BitVec.ofInt IntKind.u64.bits (u64.wrap (lo*2^(min (u64.wrap c_1.1.1).toNat IntKind.u64.bits))) &&& BitVec.ofInt IntKind.u64.bits 4294967295).toNat)) (u64.wrap ((u64.wrap ((BitVec.ofInt IntKind.u64.bits (u64.wrap (hi*2^(min (u64.wrap c_1.1.1).toNat IntKind.u64.bits))) ||| BitVec.ofInt IntKind.u64.bits (lo.fdiv (2^(min (u64.wrap (64-(u64.wrap c_1.1.1))).toNat IntKind.u64.bits)))).toNat)).tdiv ((u64.wrap (y*2^(min (u64.wrap c_1.1.1).toNat IntKind.u64.bits))).fdiv (2^(min (32:Int).toNat IntKind.u64.bits))))) (u64.wrap ((u64.wrap ((BitVec.ofInt IntKind.u64.bits (u64.wrap (hi*2^(min (u64.wrap c_1.1.1).toNat IntKind.u64.bits))) ||| BitVec.ofInt IntKind.u64.bits (lo.fdiv (2^(min (u64.wrap (64-(u64.wrap c_1.1.1))).toNat IntKind.u64.bits)))).toNat))-(u64.wrap ((u64.wrap ((u64.wrap ((BitVec.ofInt IntKind.u64.bits (u64.wrap (hi*2^(min (u64.wrap c_1.1.1).toNat IntKind.u64.bits))) ||| BitVec.ofInt IntKind.u64.bits (lo.fdiv (2^(min (u64.wrap (64-(u64.wrap c_1.1.1))).toNat IntKind.u64.bits)))).toNat)).tdiv ((u64.wrap (y*2^(min (u64.wrap c_1.1.1).toNat IntKind.u64.bits))).fdiv (2^(min (32:Int).toNat IntKind.u64.bits)))))*((u64.wrap (y*2^(min (u64.wrap c_1.1.1).toNat IntKind.u64.bits))).fdiv (2^(min (32:Int).toNat IntKind.u64.bits)))))))
 else none
 else none
 else none
 else none
 else none
def zt.sp:sP_ zt.sg:=fun x=>zt.sh F x.1 x.2.1 x.2.2.1
abbrev yJ.sg:Sig:=⟨[.d (.c (.int .u64)),.d (.c (.int .u64)),.d (.c (.int .u64)),.d (.c (.int .u64))],[.c (.int .u64),.c (.int .u64),.c (.int .u64),.c (.int .u64)]⟩
abbrev yJ.l7.K0 (R:Type):Type:=Int->Int->Int->Int->Int->Int->Int->Bool->Option R
abbrev yJ.l7.T (R:Type):Type:=Int->Int->Int->Int->Int->Int->Int->Option R
def yJ.l7.y (k0:yJ.l7.K0 R) (rec:yJ.l7.T R) (al:Int) (bh:Int) (bl:Int) (ql:Int) (rh:Int) (rl:Int) (i:Int):Option R:=
 bif decide (i>=0) then bif decide (0<=i) then bif decide ((u64.wrap ((BitVec.ofInt IntKind.u64.bits (u64.wrap (rh*2^(min (1:Int).toNat IntKind.u64.bits))) ||| BitVec.ofInt IntKind.u64.bits (rl.fdiv (2^(min (63:Int).toNat IntKind.u64.bits)))).toNat))>bh) then oB (yY.sh F (u64.wrap ((BitVec.ofInt IntKind.u64.bits (u64.wrap (rl*2^(min (1:Int).toNat IntKind.u64.bits))) ||| BitVec.ofInt IntKind.u64.bits (u64.wrap ((BitVec.ofInt IntKind.u64.bits (al.fdiv (2^(min i.toNat IntKind.u64.bits))) &&& BitVec.ofInt IntKind.u64.bits 1).toNat))).toNat)) bl 0) fun c_2=>
 oB (yY.sh F (u64.wrap ((BitVec.ofInt IntKind.u64.bits (u64.wrap (rh*2^(min (1:Int).toNat IntKind.u64.bits))) ||| BitVec.ofInt IntKind.u64.bits (rl.fdiv (2^(min (63:Int).toNat IntKind.u64.bits)))).toNat)) bh c_2.1.2.1) fun c_3=>
 bif decide (0<=i) then rec al bh bl (u64.wrap ((BitVec.ofInt IntKind.u64.bits ql ||| BitVec.ofInt IntKind.u64.bits (u64.wrap (1*2^(min i.toNat IntKind.u64.bits)))).toNat)) c_3.1.1 c_2.1.1 (i64.wrap (i-1))
 else none
 else bif ((u64.wrap ((BitVec.ofInt IntKind.u64.bits (u64.wrap (rh*2^(min (1:Int).toNat IntKind.u64.bits))) ||| BitVec.ofInt IntKind.u64.bits (rl.fdiv (2^(min (63:Int).toNat IntKind.u64.bits)))).toNat))==bh) then bif decide ((u64.wrap ((BitVec.ofInt IntKind.u64.bits (u64.wrap (rl*2^(min (1:Int).toNat IntKind.u64.bits))) ||| BitVec.ofInt IntKind.u64.bits (u64.wrap ((BitVec.ofInt IntKind.u64.bits (al.fdiv (2^(min i.toNat IntKind.u64.bits))) &&& BitVec.ofInt IntKind.u64.bits 1).toNat))).toNat))>=bl) then oB (yY.sh F (u64.wrap ((BitVec.ofInt IntKind.u64.bits (u64.wrap (rl*2^(min (1:Int).toNat IntKind.u64.bits))) ||| BitVec.ofInt IntKind.u64.bits (u64.wrap ((BitVec.ofInt IntKind.u64.bits (al.fdiv (2^(min i.toNat IntKind.u64.bits))) &&& BitVec.ofInt IntKind.u64.bits 1).toNat))).toNat)) bl 0) fun c_4=>
 oB (yY.sh F (u64.wrap ((BitVec.ofInt IntKind.u64.bits (u64.wrap (rh*2^(min (1:Int).toNat IntKind.u64.bits))) ||| BitVec.ofInt IntKind.u64.bits (rl.fdiv (2^(min (63:Int).toNat IntKind.u64.bits)))).toNat)) bh c_4.1.2.1) fun c_5=>
 bif decide (0<=i) then rec al bh bl (u64.wrap ((BitVec.ofInt IntKind.u64.bits ql ||| BitVec.ofInt IntKind.u64.bits (u64.wrap (1*2^(min i.toNat IntKind.u64.bits)))).toNat)) c_5.1.1 c_4.1.1 (i64.wrap (i-1))
 else none
 else rec al bh bl ql (u64.wrap ((BitVec.ofInt IntKind.u64.bits (u64.wrap (rh*2^(min (1:Int).toNat IntKind.u64.bits))) ||| BitVec.ofInt IntKind.u64.bits (rl.fdiv (2^(min (63:Int).toNat IntKind.u64.bits)))).toNat)) (u64.wrap ((BitVec.ofInt IntKind.u64.bits (u64.wrap (rl*2^(min (1:Int).toNat IntKind.u64.bits))) ||| BitVec.ofInt IntKind.u64.bits (u64.wrap ((BitVec.ofInt IntKind.u64.bits (al.fdiv (2^(min i.toNat IntKind.u64.bits))) &&& BitVec.ofInt IntKind.u64.bits 1).toNat))).toNat)) (i64.wrap (i-1))
 else rec al bh bl ql (u64.wrap ((BitVec.ofInt IntKind.u64.bits (u64.wrap (rh*2^(min (1:Int).toNat IntKind.u64.bits))) ||| BitVec.ofInt IntKind.u64.bits (rl.fdiv (2^(min (63:Int).toNat IntKind.u64.bits)))).toNat)) (u64.wrap ((BitVec.ofInt IntKind.u64.bits (u64.wrap (rl*2^(min (1:Int).toNat IntKind.u64.bits))) ||| BitVec.ofInt IntKind.u64.bits (u64.wrap ((BitVec.ofInt IntKind.u64.bits (al.fdiv (2^(min i.toNat IntKind.u64.bits))) &&& BitVec.ofInt IntKind.u64.bits 1).toNat))).toNat)) (i64.wrap (i-1))
 else none
 else k0 al bh bl ql rh rl i (decide (i>=0))
def yJ.l7 {R:Type} (F:Nat) (k0:yJ.l7.K0 R):Nat->yJ.l7.T R
 | 0,_,_,_,_,_,_,_=>none
 | fu+1,al,bh,bl,ql,rh,rl,i=>yJ.l7.y F k0 (yJ.l7 F k0 fu) al bh bl ql rh rl i
def yJ.sh (ah:Int) (al:Int) (bh:Int) (bl:Int):Option yJ.sg.R:=
 bif (bh==0) then bif (bl != 0) then bif (bl != 0) then oB (zt.sh F (ah.tmod bl) al bl) fun c_1=>
 some ((u64.wrap (ah.tdiv bl),c_1.1.1,0,c_1.1.2.1,()),())
 else none
 else none
 else yJ.l7 F (fun al6 bh6 bl6 ql6 rh6 rl6 i6 t346=>some ((0,ql6,rh6,rl6,()),())) F al bh bl 0 0 ah 63
def yJ.sp:sP_ yJ.sg:=fun x=>yJ.sh F x.1 x.2.1 x.2.2.1 x.2.2.2.1
abbrev wk.sg:Sig:=⟨[.d (.g zd),.d (.g zd)],[.g zd,.g zd,.c (.int .i64)]⟩
def wk.sh (a:zd.T) (b:zd.T):Option wk.sg.R:=
 bif ((b.1==0)&&((b.2==0)&&true)) then some (((0,0),(0,0),20,()),())
 else oB (wS.sh F a) fun c_1=>
 oB (wS.sh F b) fun c_2=>
 oB (yJ.sh F c_1.1.1 c_1.1.2.1 c_2.1.1 c_2.1.2.1) fun c_3=>
 oB (wU.sh F (!(decide (a.1<0)==decide (b.1<0))) c_3.1.1 c_3.1.2.1) fun c_4=>
 bif (c_4.1.2.1 != 0) then some (((0,0),(0,0),c_4.1.2.1,()),())
 else oB (wU.sh F (decide (a.1<0)) c_3.1.2.2.1 c_3.1.2.2.2.1) fun c_5=>
 some ((c_4.1.1,c_5.1.1,c_5.1.2.1,()),())
def wk.sp:sP_ wk.sg:=fun x=>wk.sh F x.1 x.2.1
abbrev wO.sg:Sig:=⟨[.d (.g zd),.d (.g zd),.d (.g zd),.d (.c (.int .i64))],[.c .bool]⟩
def wO.sh (q:zd.T) (r:zd.T) (b:zd.T) (mode:Int):Option wO.sg.R:=
 bif (mode==0) then some (((!(decide (r.1<0)==decide (b.1<0))),()),())
 else bif (mode==1) then some ((!(!(decide (r.1<0)==decide (b.1<0))),()),())
 else bif (mode==2) then some ((false,()),())
 else oB (wS.sh F r) fun c_1=>
 oB (wS.sh F b) fun c_2=>
 oB (yY.sh F c_2.1.2.1 c_1.1.2.1 0) fun c_3=>
 oB (yY.sh F c_2.1.1 c_1.1.1 c_3.1.2.1) fun c_4=>
 bif decide (c_1.1.1>c_4.1.1) then some ((true,()),())
 else bif (c_1.1.1==c_4.1.1) then bif decide (c_1.1.2.1>c_3.1.1) then some ((true,()),())
 else bif (c_1.1.1==c_4.1.1) then bif (c_1.1.2.1==c_3.1.1) then bif (mode==3) then some ((true,()),())
 else some ((((u64.wrap ((BitVec.ofInt IntKind.u64.bits q.2 &&& BitVec.ofInt IntKind.u64.bits 1).toNat))==1),()),())
 else some ((false,()),())
 else some ((false,()),())
 else bif (c_1.1.1==c_4.1.1) then bif (c_1.1.2.1==c_3.1.1) then bif (mode==3) then some ((true,()),())
 else some ((((u64.wrap ((BitVec.ofInt IntKind.u64.bits q.2 &&& BitVec.ofInt IntKind.u64.bits 1).toNat))==1),()),())
 else some ((false,()),())
 else some ((false,()),())
def wO.sp:sP_ wO.sg:=fun x=>wO.sh F x.1 x.2.1 x.2.2.1 x.2.2.2.1
abbrev wZ.sg:Sig:=⟨[.d (.g zd),.d (.g zd)],[.g zd,.c (.int .i64)]⟩
def wZ.sh (a:zd.T) (b:zd.T):Option wZ.sg.R:=
 oB (xi.sh F a.2 b.2 0) fun c_1=>
 oB (xi.sh F (u64.wrap a.1) (u64.wrap b.1) c_1.1.2.1) fun c_2=>
 bif (decide (a.1<0)==decide (b.1<0)) then bif (!(decide ((i64.wrap c_2.1.1)<0)==decide (a.1<0))) then some (((0,0),10,()),())
 else some (((i64.wrap c_2.1.1,c_1.1.1),0,()),())
 else some (((i64.wrap c_2.1.1,c_1.1.1),0,()),())
def wZ.sp:sP_ wZ.sg:=fun x=>wZ.sh F x.1 x.2.1
abbrev wN.sg:Sig:=⟨[.d (.g zd),.d (.g zd),.d (.c (.int .i64))],[.g zd,.c (.int .i64)]⟩
def wN.sh (a:zd.T) (b:zd.T) (mode:Int):Option wN.sg.R:=
 bif decide (mode<0) then some (((0,0),1,()),())
 else bif decide (mode>4) then some (((0,0),1,()),())
 else oB (wk.sh F a b) fun c_1=>
 bif (c_1.1.2.2.1 != 0) then some ((c_1.1.1,c_1.1.2.2.1,()),())
 else bif ((c_1.1.2.1.1==0)&&((c_1.1.2.1.2==0)&&true)) then some ((c_1.1.1,c_1.1.2.2.1,()),())
 else oB (wO.sh F c_1.1.1 c_1.1.2.1 b mode) fun c_2=>
 bif !c_2.1.1 then some ((c_1.1.1,c_1.1.2.2.1,()),())
 else bif (!(decide (a.1<0)==decide (b.1<0))) then oB (xV.sh F 1) fun c_3=>
 oB (wY.sh F c_1.1.1 c_3.1.1) fun c_4=>
 some ((c_4.1.1,c_4.1.2.1,()),())
 else oB (xV.sh F 1) fun c_5=>
 oB (wZ.sh F c_1.1.1 c_5.1.1) fun c_6=>
 some ((c_6.1.1,c_6.1.2.1,()),())
def wN.sp:sP_ wN.sg:=fun x=>wN.sh F x.1 x.2.1 x.2.2.1
abbrev vf.sg:Sig:=⟨[.d (.c (.int .i64))],[.c (.int .i64)]⟩
def vf.sh (F:Nat) (v:Int):Option vf.sg.R:=
 some (((if i64.wrap (0-v)>v then i64.wrap (0-v) else v),()),())
def vf.sp:sP_ vf.sg:=fun x=>vf.sh F x.1
abbrev xd.sg:Sig:=⟨[.io zg [],.d (.g zd),.d (.g zd)],[.g zd]⟩
def xd.sh (m:zg.T) (a:zd.T) (b:zd.T):Option xd.sg.R:=
 oB (wZ.sh F a b) fun c_1=>
 oB (xc.sh F m c_1.1.1 c_1.1.2.1) fun c_2=>
 some ((c_2.1.1,()),(c_2.2.1,()))
def xd.sp:sP_ xd.sg:=fun x=>xd.sh F x.1 x.2.1 x.2.2.1
abbrev zP.sg:Sig:=⟨[.io zg [],.d (.g zd),.d (.b yp)],[.g zd]⟩
abbrev zP.l3.K0 (R:Type):Type:=(List yp.T)->Int->(List yp.T)->Int->Int->Bool->zg.T->zd.T->zd.T->zd.T->Option R
abbrev zP.l3.T (R:Type):Type:=(List yp.T)->Int->(List yp.T)->Int->Int->zg.T->zd.T->zd.T->zd.T->Option R
def zP.l3.y (k0:zP.l3.K0 R) (rec:zP.l3.T R) (tiers:List yp.T) (rate:Int) (t13:List yp.T) (t14:Int) (t15:Int) (m:zg.T) (x:zd.T) (r6:zd.T) (ways:zd.T):Option R:=
 bif decide (t15<t14) then bif idx t15 t13.length then oB (vf.sh F (get yp t13 t15.toNat).2) fun c_1=>
 bif decide ((i64.wrap (t15+1))<(tiers.length:Int)) then oB (vf.sh F (get yp t13 t15.toNat).2) fun c_2=>
 oB (xV.sh F c_2.1.1) fun c_3=>
 bif idx (i64.wrap (t15+1)) tiers.length then oB (xV.sh F (i64.wrap ((get yp tiers ((i64.wrap (t15+1)).toNat)).1-(get yp t13 t15.toNat).1))) fun c_4=>
 oB (y7.sh F m c_3.1.1 c_4.1.1) fun c_5=>
 bif (((m.1.1==c_5.2.1.1.1)&&((m.1.2==c_5.2.1.1.2)&&true))&&true) then oB (xd.sh F c_5.2.1 ways c_5.1.1) fun c_6=>
 bif (((c_5.2.1.1.1==c_6.2.1.1.1)&&((c_5.2.1.1.2==c_6.2.1.1.2)&&true))&&true) then rec tiers (if c_1.1.1>rate then c_1.1.1 else rate) t13 t14 (i64.wrap (t15+1)) c_6.2.1 x r6 c_6.1.1
 else none
 else none
 else none
 else rec tiers (if c_1.1.1>rate then c_1.1.1 else rate) t13 t14 (i64.wrap (t15+1)) m x r6 ways
 else none
 else k0 tiers rate t13 t14 t15 (decide (t15<t14)) m x r6 ways
def zP.l3 {R:Type} (F:Nat) (k0:zP.l3.K0 R):Nat->zP.l3.T R
 | 0,_,_,_,_,_,_,_,_,_=>none
 | fu+1,tiers,rate,t13,t14,t15,m,x,r6,ways=>zP.l3.y F k0 (zP.l3 F k0 fu) tiers rate t13 t14 t15 m x r6 ways
def zP.sh (m:zg.T) (x:zd.T) (tiers:List yp.T):Option zP.sg.R:=
 zP.l3 F (fun tiers7 rate7 t137 t147 t157 t167 m7 x7 r67 ways7=>bif idx (i64.wrap ((tiers7.length:Int)-1)) tiers7.length then oB (xV.sh F (get yp tiers7 ((i64.wrap ((tiers7.length:Int)-1)).toNat)).1) fun c_8=>
 oB (xd.sh F m7 x7 c_8.1.1) fun c_9=>
 bif (((m7.1.1==c_9.2.1.1.1)&&((m7.1.2==c_9.2.1.1.2)&&true))&&true) then oB (xV.sh F rate7) fun c_10=>
 oB (y7.sh F c_9.2.1 c_10.1.1 c_9.1.1) fun c_11=>
 bif (((c_9.2.1.1.1==c_11.2.1.1.1)&&((c_9.2.1.1.2==c_11.2.1.1.2)&&true))&&true) then oB (xd.sh F c_11.2.1 c_11.1.1 ways7) fun c_12=>
 bif (((c_11.2.1.1.1==c_12.2.1.1.1)&&((c_11.2.1.1.2==c_12.2.1.1.2)&&true))&&true) then oB (y7.sh F c_12.2.1 c_9.2.1.1 c_12.1.1) fun c_13=>
 bif (((c_12.2.1.1.1==c_13.2.1.1.1)&&((c_12.2.1.1.2==c_13.2.1.1.2)&&true))&&true) then some ((c_13.1.1,()),(c_13.2.1,()))
 else none
 else none
 else none
 else none
 else none) F tiers 0 tiers (tiers.length:Int) 0 m x (0,0) (0,0)
def zP.sp:sP_ zP.sg:=fun x=>zP.sh F x.1 x.2.1 x.2.2.1
abbrev xw.sg:Sig:=⟨[.d (.b zd)],[.g zd,.c (.int .i64)]⟩
abbrev xw.l4.K0 (R:Type):Type:=Int->Int->Int->(List zd.T)->Int->Int->Bool->zd.T->Option R
abbrev xw.l4.T (R:Type):Type:=Int->Int->Int->(List zd.T)->Int->Int->zd.T->Option R
def xw.l4.y (k0:xw.l4.K0 R) (rec:xw.l4.T R) (lo:Int) (hi:Int) (top:Int) (t11:List zd.T) (t12:Int) (t13:Int) (r2:zd.T):Option R:=
 bif decide (t13<t12) then bif idx t13 t11.length then oB (xi.sh F lo (get zd t11 t13.toNat).2 0) fun c_1=>
 oB (xi.sh F hi (u64.wrap (get zd t11 t13.toNat).1) c_1.1.2.1) fun c_2=>
 rec c_1.1.1 c_2.1.1 (i64.wrap (top+(i64.wrap (((get zd t11 t13.toNat).1.fdiv (2^(min (63:Int).toNat IntKind.i64.bits)))+(i64.wrap c_2.1.2.1))))) t11 t12 (i64.wrap (t13+1)) r2
 else none
 else k0 lo hi top t11 t12 t13 (decide (t13<t12)) r2
def xw.l4 {R:Type} (F:Nat) (k0:xw.l4.K0 R):Nat->xw.l4.T R
 | 0,_,_,_,_,_,_,_=>none
 | fu+1,lo,hi,top,t11,t12,t13,r2=>xw.l4.y F k0 (xw.l4 F k0 fu) lo hi top t11 t12 t13 r2
def xw.sh (list:List zd.T):Option xw.sg.R:=
 xw.l4 F (fun lo3 hi3 top3 t113 t123 t133 t143 r23=>bif (top3 != ((i64.wrap hi3).fdiv (2^(min (63:Int).toNat IntKind.i64.bits)))) then some (((0,0),10,()),())
 else some (((i64.wrap hi3,lo3),0,()),())) F 0 0 0 list (list.length:Int) 0 (0,0)
def xw.sp:sP_ xw.sg:=fun x=>xw.sh F x.1
abbrev z8.sg:Sig:=⟨[.io zg [],.d (.g zO),.d (.g za),.d (.b zd)],[.g zd]⟩
def z8.j18 (k0:zg.T->zd.T->Option R) (kids:List zd.T) (m:zg.T) (n:za.T) (r8:zd.T):Option R:=
 oB (xw.sh F kids) fun c_13=>
 oB (xc.sh F m c_13.1.1 c_13.1.2.1) fun c_14=>
 bif (n.1==11) then oB (xV.sh F n.2.1) fun c_15=>
 oB (xd.sh F c_14.2.1 c_14.1.1 c_15.1.1) fun c_16=>
 k0 c_16.2.1 c_16.1.1
 else bif (n.1==12) then oB (xV.sh F n.2.1) fun c_17=>
 oB (xd.sh F c_14.2.1 c_14.1.1 c_17.1.1) fun c_18=>
 k0 c_18.2.1 c_18.1.1
 else bif (n.1==16) then oB (xV.sh F n.2.1) fun c_19=>
 oB (xd.sh F c_14.2.1 c_14.1.1 c_19.1.1) fun c_20=>
 k0 c_20.2.1 c_20.1.1
 else k0 c_14.2.1 c_14.1.1
def z8.sh (m:zg.T) (p:zO.T) (n:za.T) (kids:List zd.T):Option z8.sg.R:=
 bif (n.1==1) then oB (xV.sh F n.2.1) fun c_1=>
 some ((c_1.1.1,()),(m,()))
 else bif (n.1==2) then oB (xV.sh F n.2.1) fun c_2=>
 oB (y7.sh F m c_2.1.1 m.1) fun c_3=>
 some ((c_3.1.1,()),(c_3.2.1,()))
 else bif (n.1==3) then oB (xV.sh F 1099511627776) fun c_4=>
 some ((c_4.1.1,()),(m,()))
 else bif (n.1==4) then oB (xV.sh F 1099511627776) fun c_5=>
 bif idx n.2.1 p.2.1.length then oB (xV.sh F (get xB p.2.1 n.2.1.toNat).2) fun c_6=>
 oB (wN.sh F c_5.1.1 c_6.1.1 1) fun c_7=>
 oB (xc.sh F m c_7.1.1 c_7.1.2.1) fun c_8=>
 some ((c_8.1.1,()),(c_8.2.1,()))
 else none
 else bif (n.1==8) then bif idx 0 kids.length then bif idx 1 kids.length then oB (y7.sh F m (get zd kids 0) (get zd kids 1)) fun c_9=>
 some ((c_9.1.1,()),(c_9.2.1,()))
 else none
 else none
 else bif (n.1==13) then bif (n.1==13) then bif idx 0 kids.length then oB (zP.sh F m (get zd kids 0) n.2.2.2.2.1) fun c_10=>
 some ((c_10.1.1,()),(c_10.2.1,()))
 else none
 else bif (n.1==15) then bif idx 0 kids.length then oB (xV.sh F 10000) fun c_11=>
 oB (y7.sh F m (get zd kids 0) c_11.1.1) fun c_12=>
 bif idx 0 kids.length then some (((get zd kids 0),()),(c_12.2.1,()))
 else none
 else none
 else z8.j18 F (fun m21 r821=>some ((r821,()),(m21,()))) kids m n (0,0)
 else bif (n.1==14) then bif idx 0 kids.length then oB (zP.sh F m (get zd kids 0) n.2.2.2.2.1) fun c_22=>
 some ((c_22.1.1,()),(c_22.2.1,()))
 else none
 else bif (n.1==15) then bif idx 0 kids.length then oB (xV.sh F 10000) fun c_23=>
 oB (y7.sh F m (get zd kids 0) c_23.1.1) fun c_24=>
 bif idx 0 kids.length then some (((get zd kids 0),()),(c_24.2.1,()))
 else none
 else none
 else z8.j18 F (fun m25 r825=>some ((r825,()),(m25,()))) kids m n (0,0)
def z8.sp:sP_ z8.sg:=fun x=>z8.sh F x.1 x.2.1 x.2.2.1 x.2.2.2.1
abbrev wV.sg:Sig:=⟨[.d (.g zd),.d (.g zd)],[.c (.int .i64)]⟩
def wV.sh (F:Nat) (a:zd.T) (b:zd.T):Option wV.sg.R:=
 bif ((a.1==b.1)&&((a.2==b.2)&&true)) then some ((0,()),())
 else bif decide (a.1<b.1) then bif decide (a.1<b.1) then some (((-1),()),())
 else some ((1,()),())
 else bif (a.1==b.1) then bif decide (a.2<b.2) then some (((-1),()),())
 else some ((1,()),())
 else some ((1,()),())
def wV.sp:sP_ wV.sg:=fun x=>wV.sh F x.1 x.2.1
abbrev wK.sg:Sig:=⟨[.d (.g za),.d (.g zd)],[.c .bool]⟩
def wK.sh (n:za.T) (mag:zd.T):Option wK.sg.R:=
 bif (n.1==15) then oB (xV.sh F 10000) fun c_1=>
 oB (xC.sh F mag c_1.1.1) fun c_2=>
 oB (wV.sh F c_2.1.1 (72057594037927936,0)) fun c_3=>
 some ((decide (c_3.1.1>0),()),())
 else oB (wV.sh F mag (72057594037927936,0)) fun c_4=>
 some ((decide (c_4.1.1>0),()),())
def wK.sp:sP_ wK.sg:=fun x=>wK.sh F x.1 x.2.1
abbrev zK.sg:Sig:=⟨[.d (.g zO),.d (.g zd)],[.c (.sl zd),.c (.int .i64)]⟩
abbrev zK.l4.K0 (R:Type):Type:=(List zd.T)->Int->Option R
abbrev zK.l4.K1 (R:Type):Type:=(List za.T)->Int->Int->Bool->zO.T->zg.T->(List zd.T)->(List zd.T)->Option R
abbrev zK.l4.T (R:Type):Type:=(List za.T)->Int->Int->zO.T->zg.T->(List zd.T)->(List zd.T)->Option R
def zK.l4.y (k0:zK.l4.K0 R) (k1:zK.l4.K1 R) (rec:zK.l4.T R) (t17:List za.T) (t18:Int) (t19:Int) (p:zO.T) (m:zg.T) (mags:List zd.T) (pile:List zd.T):Option R:=
 bif decide (t19<t18) then bif idx t19 t17.length then oB (yT.sh F (get za t17 t19.toNat)) fun c_1=>
 bif (zJ pile.length (some (i64.wrap ((pile.length:Int)-c_1.1.1))) none).1 then oB (z8.sh F m p (get za t17 t19.toNat) ((List.take (zJ pile.length (some (i64.wrap ((pile.length:Int)-c_1.1.1))) none).2.2 pile).drop (zJ pile.length (some (i64.wrap ((pile.length:Int)-c_1.1.1))) none).2.1)) fun c_2=>
 bif c_2.2.1.2 then k0 ([]) t19
 else oB (wK.sh F (get za t17 t19.toNat) c_2.1.1) fun c_3=>
 bif c_3.1.1 then k0 ([]) t19
 else bif Nat.ble (mags.length+([c_2.1.1]:List zd.T).length) wF then bif (zJ pile.length none (some (i64.wrap ((pile.length:Int)-c_1.1.1)))).1 then bif Nat.ble ((zJ pile.length none (some (i64.wrap ((pile.length:Int)-c_1.1.1)))).2.2+([c_2.1.1]:List zd.T).length) wF then rec t17 t18 (i64.wrap (t19+1)) p c_2.2.1 (mags++([c_2.1.1]:List zd.T)) (pile.take (zJ pile.length none (some (i64.wrap ((pile.length:Int)-c_1.1.1)))).2.2++([c_2.1.1]:List zd.T))
 else none
 else none
 else none
 else none
 else none
 else k1 t17 t18 t19 (decide (t19<t18)) p m mags pile
def zK.l4 {R:Type} (F:Nat) (k0:zK.l4.K0 R) (k1:zK.l4.K1 R):Nat->zK.l4.T R
 | 0,_,_,_,_,_,_,_=>none
 | fu+1,t17,t18,t19,p,m,mags,pile=>zK.l4.y F k0 k1 (zK.l4 F k0 k1 fu) t17 t18 t19 p m mags pile
def zK.j13 (F:Nat) (k0:(List zd.T)->Int->Option R) (mags:List zd.T):Option R:=
 k0 mags (-1)
def zK.sh (p:zO.T) (unit:zd.T):Option zK.sg.R:=
 zK.l4 F (fun r44 r54=>some ((r44,r54,()),())) (fun t175 t185 t195 t205 p5 m5 mags5 pile5=>zK.j13 F (fun r46 r56=>some ((r46,r56,()),())) mags5) F p.2.2.2 (p.2.2.2.length:Int) 0 p (unit,false) ([]) ([])
def zK.sp:sP_ zK.sg:=fun x=>zK.sh F x.1 x.2.1
abbrev wM.sg:Sig:=⟨[.d (.g zO)],[.g zd,.c (.int .i64),.c (.int .i64)]⟩
def wM.sh (p:zO.T):Option wM.sg.R:=
 oB (zF.sh F p) fun c_1=>
 bif (c_1.1.2.2.1 != 0) then some (((0,0),c_1.1.2.1,c_1.1.2.2.1,()),())
 else oB (yu.sh F p) fun c_2=>
 bif decide (c_2.1.1>6) then some (((0,0),i64.wrap ((p.2.2.2.length:Int)-1),90,()),())
 else oB (yR.sh F c_2.1.1) fun c_3=>
 oB (zK.sh F p c_3.1.1) fun c_4=>
 bif decide (c_4.1.2.1>=0) then some (((0,0),c_4.1.2.1,90,()),())
 else some ((c_3.1.1,0,c_3.1.2.1,()),())
def wM.sp:sP_ wM.sg:=fun x=>wM.sh F x.1
abbrev xa.sg:Sig:=⟨[.d (.g za)],[.c (.int .i64)]⟩
def xa.j10 (F:Nat) (k0:Int->Option R) (k1:Int->Option R) (k2:Int->Option R) (k3:Bool->Option R) (t4:Int) (t10:Bool) (n:za.T):Option R:=
 bif t10 then k0 2
 else bif (t4==9) then bif (t4==9) then k1 n.2.2.2.1
 else bif (t4==16) then k2 3
 else k3 (t4==16)
 else bif (t4==10) then k1 n.2.2.2.1
 else bif (t4==16) then k2 3
 else k3 (t4==16)
def xa.j6 (k0:Int->Option R) (k1:Int->Option R) (k2:Int->Option R) (k3:Int->Option R) (k4:Bool->Option R) (t4:Int) (t5:Bool) (n:za.T):Option R:=
 bif t5 then k0 0
 else bif (t4==6) then xa.j10 F (fun r21=>k1 r21) (fun r22=>k2 r22) (fun r23=>k3 r23) (fun t194=>k4 t194) t4 (t4==6) n
 else bif (t4==7) then xa.j10 F (fun r25=>k1 r25) (fun r26=>k2 r26) (fun r27=>k3 r27) (fun t198=>k4 t198) t4 (t4==7) n
 else xa.j10 F (fun r29=>k1 r29) (fun r210=>k2 r210) (fun r211=>k3 r211) (fun t1912=>k4 t1912) t4 (t4==8) n
def xa.sh (n:za.T):Option xa.sg.R:=
 bif (n.1==1) then xa.j6 F (fun r213=>some ((r213,()),())) (fun r214=>some ((r214,()),())) (fun r215=>some ((r215,()),())) (fun r216=>some ((r216,()),())) (fun t1917=>some ((1,()),())) n.1 (n.1==1) n
 else bif (n.1==2) then xa.j6 F (fun r218=>some ((r218,()),())) (fun r219=>some ((r219,()),())) (fun r220=>some ((r220,()),())) (fun r221=>some ((r221,()),())) (fun t1922=>some ((1,()),())) n.1 (n.1==2) n
 else bif (n.1==3) then xa.j6 F (fun r223=>some ((r223,()),())) (fun r224=>some ((r224,()),())) (fun r225=>some ((r225,()),())) (fun r226=>some ((r226,()),())) (fun t1927=>some ((1,()),())) n.1 (n.1==3) n
 else xa.j6 F (fun r228=>some ((r228,()),())) (fun r229=>some ((r229,()),())) (fun r230=>some ((r230,()),())) (fun r231=>some ((r231,()),())) (fun t1932=>some ((1,()),())) n.1 (n.1==4) n
def xa.sp:sP_ xa.sg:=fun x=>xa.sh F x.1
abbrev wq.sg:Sig:=ZF (.tr za)
def wq.sh (_F:Nat) (l:List (LTr za.T)):Option wq.sg.R:=Yk (.tr za) l
def wq.sp:sP_ wq.sg:=fun x=>wq.sh F x.1
abbrev yw.sg:Sig:=⟨[.d (.b za)],[.c (.tr za)]⟩
abbrev yw.l3.K0 (R:Type):Type:=(List za.T)->Int->Int->Bool->(List (LTr za.T))->Option R
abbrev yw.l3.T (R:Type):Type:=(List za.T)->Int->Int->(List (LTr za.T))->Option R
def yw.l3.y (k0:yw.l3.K0 R) (rec:yw.l3.T R) (t7:List za.T) (t8:Int) (t9:Int) (pile:List (LTr za.T)):Option R:=
 bif decide (t9<t8) then bif idx t9 t7.length then oB (xa.sh F (get za t7 t9.toNat)) fun c_1=>
 bif (zJ pile.length none (some (i64.wrap ((pile.length:Int)-c_1.1.1)))).1 then bif (zJ pile.length (some (i64.wrap ((pile.length:Int)-c_1.1.1))) none).1 then oB (wq.sh F ((List.take (zJ pile.length (some (i64.wrap ((pile.length:Int)-c_1.1.1))) none).2.2 pile).drop (zJ pile.length (some (i64.wrap ((pile.length:Int)-c_1.1.1))) none).2.1)) fun c_2=>
 bif Nat.ble ((zJ pile.length none (some (i64.wrap ((pile.length:Int)-c_1.1.1)))).2.2+([(LTr.nd (get za t7 t9.toNat) c_2.1.1)]:List (LTr za.T)).length) wF then rec t7 t8 (i64.wrap (t9+1)) (pile.take (zJ pile.length none (some (i64.wrap ((pile.length:Int)-c_1.1.1)))).2.2++([(LTr.nd (get za t7 t9.toNat) c_2.1.1)]:List (LTr za.T)))
 else none
 else none
 else none
 else none
 else k0 t7 t8 t9 (decide (t9<t8)) pile
def yw.l3 {R:Type} (F:Nat) (k0:yw.l3.K0 R):Nat->yw.l3.T R
 | 0,_,_,_,_=>none
 | fu+1,t7,t8,t9,pile=>yw.l3.y F k0 (yw.l3 F k0 fu) t7 t8 t9 pile
def yw.j8 (F:Nat) (k0:(LTr za.T)->Option R) (pile:List (LTr za.T)):Option R:=
 bif idx 0 pile.length then k0 (get (.tr za) pile 0)
 else none
def yw.sh (nodes:List za.T):Option yw.sg.R:=
 yw.l3 F (fun t73 t83 t93 t103 pile3=>yw.j8 F (fun r24=>some ((r24,()),())) pile3) F nodes (nodes.length:Int) 0 ([])
def yw.sp:sP_ yw.sg:=fun x=>yw.sh F x.1
abbrev yl.sg:Sig:=⟨[.d (.b yp),.d (.b yp)],[.c .bool]⟩
abbrev yl.l4.K1 (R:Type):Type:=(List yp.T)->(List yp.T)->Int->Int->Bool->Option R
abbrev yl.l4.T (R:Type):Type:=(List yp.T)->(List yp.T)->Int->Int->Option R
def yl.l4.y (F:Nat) (k0:Bool->Option R) (k1:yl.l4.K1 R) (rec:yl.l4.T R) (s1:List yp.T) (s2:List yp.T) (t12:Int) (t13:Int):Option R:=
 bif decide (t13<t12) then bif idx t13 s1.length then bif idx t13 s2.length then bif !(((get yp s1 t13.toNat).1==(get yp s2 t13.toNat).1)&&(((get yp s1 t13.toNat).2==(get yp s2 t13.toNat).2)&&true)) then k0 false
 else rec s1 s2 t12 (i64.wrap (t13+1))
 else none
 else none
 else k1 s1 s2 t12 t13 (decide (t13<t12))
def yl.l4 {R:Type} (F:Nat) (k0:Bool->Option R) (k1:yl.l4.K1 R):Nat->yl.l4.T R
 | 0,_,_,_,_=>none
 | fu+1,s1,s2,t12,t13=>yl.l4.y F k0 k1 (yl.l4 F k0 k1 fu) s1 s2 t12 t13
def yl.sh (s1:List yp.T) (s2:List yp.T):Option yl.sg.R:=
 bif ((s1.length:Int) != (s2.length:Int)) then some ((false,()),())
 else yl.l4 F (fun r41=>some ((r41,()),())) (fun s12 s22 t122 t132 t142=>some ((true,()),())) F s1 s2 (s1.length:Int) 0
def yl.sp:sP_ yl.sg:=fun x=>yl.sh F x.1 x.2.1
abbrev yX.sg:Sig:=⟨[.d (.c (.tr za)),.d (.c (.tr za))],[.c .bool]⟩
abbrev yX.M:Type:=(LTr za.T)->(LTr za.T)->Option yX.sg.R
abbrev zp.sg:Sig:=⟨[.d (.b (.tr za)),.d (.b (.tr za)),.d (.c .fn)],[.c .bool]⟩
abbrev zp.ds29:Sig:=⟨[.d (.c (.tr za)),.d (.c (.tr za))],[.c .bool]⟩
def zp.d29 (me:yX.M) (F:Nat):Nat->sP_ zp.ds29:=mkT zp.ds29 [(qM,fun x=>me x.1 x.2.1)]
abbrev zp.l4.K1 (R:Type):Type:=(List (LTr za.T))->Nat->(List (LTr za.T))->Int->Int->Bool->Option R
abbrev zp.l4.T (R:Type):Type:=(List (LTr za.T))->Nat->(List (LTr za.T))->Int->Int->Option R
def zp.l4.y (me:yX.M) (F:Nat) (k0:Bool->Option R) (k1:zp.l4.K1 R) (rec:zp.l4.T R) (s2:List (LTr za.T)) (eq:Nat) (t15:List (LTr za.T)) (t16:Int) (t17:Int):Option R:=
 bif decide (t17<t16) then bif idx t17 t15.length then bif idx t17 s2.length then oB (zp.d29 me F eq (get (.tr za) t15 t17.toNat,get (.tr za) s2 t17.toNat,())) fun c_1=>
 bif !c_1.1.1 then k0 false
 else rec s2 eq t15 t16 (i64.wrap (t17+1))
 else none
 else none
 else k1 s2 eq t15 t16 t17 (decide (t17<t16))
def zp.l4 {R:Type} (me:yX.M) (F:Nat) (k0:Bool->Option R) (k1:zp.l4.K1 R):Nat->zp.l4.T R
 | 0,_,_,_,_,_=>none
 | fu+1,s2,eq,t15,t16,t17=>zp.l4.y me F k0 k1 (zp.l4 me F k0 k1 fu) s2 eq t15 t16 t17
def zp.sh (me:yX.M) (F:Nat) (s1:List (LTr za.T)) (s2:List (LTr za.T)) (eq:Nat):Option zp.sg.R:=
 bif ((s1.length:Int) != (s2.length:Int)) then some ((false,()),())
 else zp.l4 me F (fun r62=>some ((r62,()),())) (fun s23 eq3 t153 t163 t173 t183=>some ((true,()),())) F s2 eq s1 (s1.length:Int) 0
def zp.sp (me:yX.M) (F:Nat):TA zp.sg.args->Option zp.sg.R:=fun x=>zp.sh me F x.1 x.2.1 x.2.2.1
def yX.sh0 (me:yX.M) (F:Nat) (x:LTr za.T) (y:LTr za.T):Option yX.sg.R:=
 bif LTr.isNd x then bif LTr.isNd y then bif ((LTr.lab (Ty.dflt za) x).1==(LTr.lab (Ty.dflt za) y).1) then bif ((LTr.lab (Ty.dflt za) x).2.1==(LTr.lab (Ty.dflt za) y).2.1) then bif ((LTr.lab (Ty.dflt za) x).2.2.1==(LTr.lab (Ty.dflt za) y).2.2.1) then bif ((LTr.lab (Ty.dflt za) x).2.2.2.1==(LTr.lab (Ty.dflt za) y).2.2.2.1) then oB (yl.sh F (LTr.lab (Ty.dflt za) x).2.2.2.2.1 (LTr.lab (Ty.dflt za) y).2.2.2.2.1) fun c_1=>
 bif c_1.1.1 then bif LTr.isNd x then bif LTr.isNd y then oB (zp.sh me F (LTr.kids x) (LTr.kids y) qM) fun c_2=>
 some ((c_2.1.1,()),())
 else none
 else none
 else some ((false,()),())
 else some ((false,()),())
 else some ((false,()),())
 else some ((false,()),())
 else some ((false,()),())
 else none
 else none
def yX.it (F:Nat):Nat->yX.M
 | 0,_,_=>none
 | n+1,a,b=>yX.sh0 (yX.it F n) F a b
def yX.itp (F n:Nat):TA yX.sg.args->Option yX.sg.R:=fun x=>yX.it F n x.1 x.2.1
def yX.sh (a:LTr za.T) (b:LTr za.T):Option yX.sg.R:=yX.it F F a b
def yX.sp:sP_ yX.sg:=fun x=>yX.sh F x.1 x.2.1
abbrev xj.sg:Sig:=⟨[.d (.g zd),.d (.c (.tr za))],[.c (.tr za)]⟩
def xj.sh (f:zd.T) (x:LTr za.T):Option xj.sg.R:=
 bif LTr.isNd x then bif ((LTr.lab (Ty.dflt za) x).1==16) then bif LTr.isNd x then bif idx 1 ((LTr.kids x).length) then bif LTr.isNd x then bif idx 2 ((LTr.kids x).length) then oB (yX.sh F (get (.tr za) (LTr.kids x) 1) (get (.tr za) (LTr.kids x) 2)) fun c_1=>
 bif c_1.1.1 then bif LTr.isNd x then bif idx 1 ((LTr.kids x).length) then some ((get (.tr za) (LTr.kids x) 1,()),())
 else none
 else none
 else some (((.nil:LTr za.T),()),())
 else none
 else none
 else none
 else none
 else some (((.nil:LTr za.T),()),())
 else none
def xj.sp:sP_ xj.sg:=fun x=>xj.sh F x.1 x.2.1
abbrev zx.sg:Sig:=⟨[.d (.c (.tr za))],[.c .bool,.c .bool]⟩
abbrev zx.M:Type:=(LTr za.T)->Option zx.sg.R
abbrev zx.l5.K0 (R:Type):Type:=Bool->Bool->(List (LTr za.T))->Int->Int->Bool->Option R
abbrev zx.l5.T (R:Type):Type:=Bool->Bool->(List (LTr za.T))->Int->Int->Option R
def zx.l5.y (me:zx.M) (F:Nat) (k0:zx.l5.K0 R) (rec:zx.l5.T R) (is:Bool) (money:Bool) (t31:List (LTr za.T)) (t32:Int) (t33:Int):Option R:=
 bif decide (t33<t32) then bif idx t33 t31.length then oB (me (get (.tr za) t31 t33.toNat)) fun c_1=>
 bif is then bif money then rec c_1.1.1 true t31 t32 (i64.wrap (t33+1))
 else rec c_1.1.1 c_1.1.2.1 t31 t32 (i64.wrap (t33+1))
 else bif money then rec false true t31 t32 (i64.wrap (t33+1))
 else rec false c_1.1.2.1 t31 t32 (i64.wrap (t33+1))
 else none
 else k0 is money t31 t32 t33 (decide (t33<t32))
def zx.l5 {R:Type} (me:zx.M) (F:Nat) (k0:zx.l5.K0 R):Nat->zx.l5.T R
 | 0,_,_,_,_,_=>none
 | fu+1,is,money,t31,t32,t33=>zx.l5.y me F k0 (zx.l5 me F k0 fu) is money t31 t32 t33
def zx.sh0 (me:zx.M) (F:Nat) (x:LTr za.T):Option zx.sg.R:=
 bif LTr.isNd x then bif ((LTr.lab (Ty.dflt za) x).1==3) then some ((false,false,()),())
 else bif LTr.isNd x then bif ((LTr.lab (Ty.dflt za) x).1==4) then some ((false,false,()),())
 else bif LTr.isNd x then bif LTr.isNd x then zx.l5 me F (fun is2 money2 t312 t322 t332 t342=>some ((is2,money2,()),())) F true ((LTr.lab (Ty.dflt za) x).1==2) (LTr.kids x) ((LTr.kids x).length:Int) 0
 else none
 else none
 else none
 else none
def zx.it (F:Nat):Nat->zx.M
 | 0,_=>none
 | n+1,a=>zx.sh0 (zx.it F n) F a
def zx.itp (F n:Nat):TA zx.sg.args->Option zx.sg.R:=fun x=>zx.it F n x.1
def zx.sh (a:LTr za.T):Option zx.sg.R:=zx.it F F a
def zx.sp:sP_ zx.sg:=fun x=>zx.sh F x.1
abbrev xz.sg:Sig:=⟨[.d (.c (.tr za))],[.c .bool]⟩
def xz.sh (F:Nat) (x:LTr za.T):Option xz.sg.R:=
 bif LTr.isNd x then bif ((LTr.lab (Ty.dflt za) x).1==1) then some ((true,()),())
 else bif LTr.isNd x then some ((((LTr.lab (Ty.dflt za) x).1==2),()),())
 else none
 else none
def xz.sp:sP_ xz.sg:=fun x=>xz.sh F x.1
abbrev wn.sg:Sig:=⟨[.d (.c (.tr za))],[.c .bool]⟩
def wn.sh (x:LTr za.T):Option wn.sg.R:=
 oB (xz.sh F x) fun c_1=>
 bif c_1.1.1 then some ((true,()),())
 else bif LTr.isNd x then bif ((LTr.lab (Ty.dflt za) x).1==5) then bif LTr.isNd x then bif idx 0 ((LTr.kids x).length) then oB (xz.sh F (get (.tr za) (LTr.kids x) 0)) fun c_2=>
 bif c_2.1.1 then bif LTr.isNd x then bif idx 0 ((LTr.kids x).length) then bif LTr.isNd (get (.tr za) (LTr.kids x) 0) then some ((((LTr.lab (Ty.dflt za) (get (.tr za) (LTr.kids x) 0)).2.1 != 0),()),())
 else none
 else none
 else none
 else some ((false,()),())
 else none
 else none
 else some ((false,()),())
 else none
def wn.sp:sP_ wn.sg:=fun x=>wn.sh F x.1
abbrev zv.sg:Sig:=⟨[.d (.b zd),.d (.c .fn)],[.g zd]⟩
abbrev zv.ds26:Sig:=⟨[.d (.g zd),.d (.g zd)],[.c (.int .i64)]⟩
def zv.d26:Nat->sP_ zv.ds26:=mkT zv.ds26 [(vT,wV.sp F)]
abbrev zv.l5.K0 (R:Type):Type:=(List zd.T)->Nat->Int->Bool->zd.T->zd.T->Option R
abbrev zv.l5.T (R:Type):Type:=(List zd.T)->Nat->Int->zd.T->zd.T->Option R
def zv.l5.y (k0:zv.l5.K0 R) (rec:zv.l5.T R) (x:List zd.T) (cmp:Nat) (i:Int) (r4:zd.T) (m:zd.T):Option R:=
 bif decide (i<(x.length:Int)) then bif idx i x.length then oB (zv.d26 F cmp ((get zd x i.toNat),m,())) fun c_1=>
 bif decide (c_1.1.1<0) then bif idx i x.length then rec x cmp (i64.wrap (i+1)) r4 (get zd x i.toNat)
 else none
 else rec x cmp (i64.wrap (i+1)) r4 m
 else none
 else k0 x cmp i (decide (i<(x.length:Int))) r4 m
def zv.l5 {R:Type} (F:Nat) (k0:zv.l5.K0 R):Nat->zv.l5.T R
 | 0,_,_,_,_,_=>none
 | fu+1,x,cmp,i,r4,m=>zv.l5.y F k0 (zv.l5 F k0 fu) x cmp i r4 m
def zv.sh (x:List zd.T) (cmp:Nat):Option zv.sg.R:=
 bif decide ((x.length:Int)<1) then none
 else bif idx 0 x.length then zv.l5 F (fun x2 cmp2 i2 t172 r42 m2=>some ((m2,()),())) F x cmp 1 (0,0) (get zd x 0)
 else none
def zv.sp:sP_ zv.sg:=fun x=>zv.sh F x.1 x.2.1
abbrev zw.sg:Sig:=⟨[.d (.b zd),.d (.c .fn)],[.g zd]⟩
abbrev zw.ds26:Sig:=⟨[.d (.g zd),.d (.g zd)],[.c (.int .i64)]⟩
def zw.d26:Nat->sP_ zw.ds26:=mkT zw.ds26 [(vT,wV.sp F)]
abbrev zw.l5.K0 (R:Type):Type:=(List zd.T)->Nat->Int->Bool->zd.T->zd.T->Option R
abbrev zw.l5.T (R:Type):Type:=(List zd.T)->Nat->Int->zd.T->zd.T->Option R
def zw.l5.y (k0:zw.l5.K0 R) (rec:zw.l5.T R) (x:List zd.T) (cmp:Nat) (i:Int) (r4:zd.T) (m:zd.T):Option R:=
 bif decide (i<(x.length:Int)) then bif idx i x.length then oB (zw.d26 F cmp ((get zd x i.toNat),m,())) fun c_1=>
 bif decide (c_1.1.1>0) then bif idx i x.length then rec x cmp (i64.wrap (i+1)) r4 (get zd x i.toNat)
 else none
 else rec x cmp (i64.wrap (i+1)) r4 m
 else none
 else k0 x cmp i (decide (i<(x.length:Int))) r4 m
def zw.l5 {R:Type} (F:Nat) (k0:zw.l5.K0 R):Nat->zw.l5.T R
 | 0,_,_,_,_,_=>none
 | fu+1,x,cmp,i,r4,m=>zw.l5.y F k0 (zw.l5 F k0 fu) x cmp i r4 m
def zw.sh (x:List zd.T) (cmp:Nat):Option zw.sg.R:=
 bif decide ((x.length:Int)<1) then none
 else bif idx 0 x.length then zw.l5 F (fun x2 cmp2 i2 t172 r42 m2=>some ((m2,()),())) F x cmp 1 (0,0) (get zd x 0)
 else none
def zw.sp:sP_ zw.sg:=fun x=>zw.sh F x.1 x.2.1
abbrev ze.sg:Sig:=⟨[.d (.g zd),.d (.c (.tr za))],[.g zd]⟩
abbrev ze.M:Type:=zd.T->(LTr za.T)->Option ze.sg.R
abbrev ze.l3.K0 (R:Type):Type:=(LTr za.T)->(List (LTr za.T))->Int->Int->Bool->zd.T->zd.T->(List zd.T)->Option R
abbrev ze.l3.T (R:Type):Type:=(LTr za.T)->(List (LTr za.T))->Int->Int->zd.T->zd.T->(List zd.T)->Option R
def ze.l3.y (me:ze.M) (F:Nat) (k0:ze.l3.K0 R) (rec:ze.l3.T R) (x:LTr za.T) (t12:List (LTr za.T)) (t13:Int) (t14:Int) (f:zd.T) (r4:zd.T) (k:List zd.T):Option R:=
 bif decide (t14<t13) then bif idx t14 t12.length then oB (me f (get (.tr za) t12 t14.toNat)) fun c_1=>
 bif Nat.ble (k.length+([c_1.1.1]:List zd.T).length) wF then rec x t12 t13 (i64.wrap (t14+1)) f r4 (k++([c_1.1.1]:List zd.T))
 else none
 else none
 else k0 x t12 t13 t14 (decide (t14<t13)) f r4 k
def ze.l3 {R:Type} (me:ze.M) (F:Nat) (k0:ze.l3.K0 R):Nat->ze.l3.T R
 | 0,_,_,_,_,_,_,_=>none
 | fu+1,x,t12,t13,t14,f,r4,k=>ze.l3.y me F k0 (ze.l3 me F k0 fu) x t12 t13 t14 f r4 k
def ze.j7 (me:ze.M) (F:Nat) (k0:zd.T->Option R) (x:LTr za.T) (k:List zd.T) (f:zd.T) (r4:zd.T):Option R:=
 bif LTr.isNd x then bif ((LTr.lab (Ty.dflt za) x).1==1) then bif LTr.isNd x then oB (xV.sh F (LTr.lab (Ty.dflt za) x).2.1) fun c_3=>
 k0 c_3.1.1
 else none
 else bif ((LTr.lab (Ty.dflt za) x).1==2) then bif LTr.isNd x then oB (xV.sh F (LTr.lab (Ty.dflt za) x).2.1) fun c_4=>
 oB (xC.sh F c_4.1.1 f) fun c_5=>
 k0 c_5.1.1
 else none
 else bif ((LTr.lab (Ty.dflt za) x).1==5) then bif idx 0 k.length then oB (vi.sh F (get zd k 0)) fun c_6=>
 k0 c_6.1.1
 else none
 else bif ((LTr.lab (Ty.dflt za) x).1==6) then bif idx 0 k.length then bif idx 1 k.length then oB (wZ.sh F (get zd k 0) (get zd k 1)) fun c_7=>
 k0 c_7.1.1
 else none
 else none
 else bif ((LTr.lab (Ty.dflt za) x).1==7) then bif idx 0 k.length then bif idx 1 k.length then oB (wY.sh F (get zd k 0) (get zd k 1)) fun c_8=>
 k0 c_8.1.1
 else none
 else none
 else bif ((LTr.lab (Ty.dflt za) x).1==8) then bif idx 0 k.length then bif idx 1 k.length then oB (xC.sh F (get zd k 0) (get zd k 1)) fun c_9=>
 k0 c_9.1.1
 else none
 else none
 else bif ((LTr.lab (Ty.dflt za) x).1==9) then oB (zv.sh F k vT) fun c_10=>
 k0 c_10.1.1
 else bif ((LTr.lab (Ty.dflt za) x).1==10) then oB (zw.sh F k vT) fun c_11=>
 k0 c_11.1.1
 else bif ((LTr.lab (Ty.dflt za) x).1==15) then bif idx 0 k.length then bif LTr.isNd x then oB (xV.sh F (i64.wrap (10000-(LTr.lab (Ty.dflt za) x).2.1))) fun c_12=>
 oB (xC.sh F (get zd k 0) c_12.1.1) fun c_13=>
 oB (xV.sh F 10000) fun c_14=>
 oB (wN.sh F c_13.1.1 c_14.1.1 2) fun c_15=>
 k0 c_15.1.1
 else none
 else none
 else k0 (0,0)
 else none
def ze.sh0 (me:ze.M) (F:Nat) (f:zd.T) (x:LTr za.T):Option ze.sg.R:=
 bif LTr.isNd x then ze.l3 me F (fun x2 t122 t132 t142 t152 f2 r42 k2=>ze.j7 me F (fun r416=>some ((r416,()),())) x2 k2 f2 r42) F x (LTr.kids x) ((LTr.kids x).length:Int) 0 f (0,0) ([])
 else none
def ze.it (F:Nat):Nat->ze.M
 | 0,_,_=>none
 | n+1,a,b=>ze.sh0 (ze.it F n) F a b
def ze.itp (F n:Nat):TA ze.sg.args->Option ze.sg.R:=fun x=>ze.it F n x.1 x.2.1
def ze.sh (a:zd.T) (b:LTr za.T):Option ze.sg.R:=ze.it F F a b
def ze.sp:sP_ ze.sg:=fun x=>ze.sh F x.1 x.2.1
abbrev vK.sg:Sig:=⟨[.d (.g zd)],[.c (.int .i64),.c .bool]⟩
def vK.sh (F:Nat) (w:zd.T):Option vK.sg.R:=
 bif (w.1 != ((i64.wrap w.2).fdiv (2^(min (63:Int).toNat IntKind.i64.bits)))) then some ((0,false,()),())
 else some ((i64.wrap w.2,true,()),())
def vK.sp:sP_ vK.sg:=fun x=>vK.sh F x.1
abbrev yj.sg:Sig:=⟨[.d (.g zd),.d (.c (.tr za))],[.c (.tr za)]⟩
def yj.j10 (k0:(LTr za.T)->Option R) (k1:(LTr za.T)->Option R) (k2:(LTr za.T)->Option R) (x:LTr za.T) (kind:Int) (v:zd.T):Option R:=
 oB (vK.sh F v) fun c_5=>
 bif !c_5.1.2.1 then k0 (.nil:LTr za.T)
 else bif decide (c_5.1.1<(-1000000000000)) then k0 (.nil:LTr za.T)
 else bif decide (c_5.1.1>1000000000000) then k0 (.nil:LTr za.T)
 else bif LTr.isNd x then bif decide (c_5.1.1<0) then bif LTr.isNd x then k1 (LTr.nd (5,0,0,0,[],(LTr.lab (Ty.dflt za) x).2.2.2.2.2) ([(LTr.nd (kind,(if i64.wrap (0-c_5.1.1)>c_5.1.1 then i64.wrap (0-c_5.1.1) else c_5.1.1),0,0,[],(LTr.lab (Ty.dflt za) x).2.2.2.2.2) ([]))]:List (LTr za.T)))
 else none
 else k2 (LTr.nd (kind,(if i64.wrap (0-c_5.1.1)>c_5.1.1 then i64.wrap (0-c_5.1.1) else c_5.1.1),0,0,[],(LTr.lab (Ty.dflt za) x).2.2.2.2.2) ([]))
 else none
def yj.sh (f:zd.T) (x:LTr za.T):Option yj.sg.R:=
 oB (zx.sh F x) fun c_1=>
 bif !c_1.1.1 then some (((.nil:LTr za.T),()),())
 else oB (wn.sh F x) fun c_2=>
 bif c_2.1.1 then some (((.nil:LTr za.T),()),())
 else oB (ze.sh F f x) fun c_3=>
 bif c_1.1.2.1 then oB (wk.sh F c_3.1.1 f) fun c_4=>
 bif !((c_4.1.2.1.1==0)&&((c_4.1.2.1.2==0)&&true)) then some (((.nil:LTr za.T),()),())
 else yj.j10 F (fun r46=>some ((r46,()),())) (fun r47=>some ((r47,()),())) (fun r48=>some ((r48,()),())) x 2 c_4.1.1
 else yj.j10 F (fun r49=>some ((r49,()),())) (fun r410=>some ((r410,()),())) (fun r411=>some ((r411,()),())) x 1 c_3.1.1
def yj.sp:sP_ yj.sg:=fun x=>yj.sh F x.1 x.2.1
abbrev wg.sg:Sig:=⟨[.d (.g zd),.d (.c (.tr za))],[.c (.tr za)]⟩
def wg.sh (F:Nat) (f:zd.T) (x:LTr za.T):Option wg.sg.R:=
 bif LTr.isNd x then bif ((LTr.lab (Ty.dflt za) x).1==5) then bif LTr.isNd x then bif idx 0 ((LTr.kids x).length) then bif LTr.isNd (get (.tr za) (LTr.kids x) 0) then bif ((LTr.lab (Ty.dflt za) (get (.tr za) (LTr.kids x) 0)).1==5) then bif LTr.isNd x then bif idx 0 ((LTr.kids x).length) then bif LTr.isNd (get (.tr za) (LTr.kids x) 0) then bif idx 0 ((LTr.kids (get (.tr za) (LTr.kids x) 0)).length) then some ((get (.tr za) (LTr.kids (get (.tr za) (LTr.kids x) 0)) 0,()),())
 else none
 else none
 else none
 else none
 else some (((.nil:LTr za.T),()),())
 else none
 else none
 else none
 else some (((.nil:LTr za.T),()),())
 else none
def wg.sp:sP_ wg.sg:=fun x=>wg.sh F x.1 x.2.1
abbrev wa.sg:Sig:=⟨[.d (.c (.tr za))],[.c .bool]⟩
def wa.sh (x:LTr za.T):Option wa.sg.R:=
 oB (xz.sh F x) fun c_1=>
 bif c_1.1.1 then bif LTr.isNd x then some ((((LTr.lab (Ty.dflt za) x).2.1==0),()),())
 else none
 else some ((false,()),())
def wa.sp:sP_ wa.sg:=fun x=>wa.sh F x.1
abbrev xv.sg:Sig:=⟨[.d (.g zd),.d (.c (.tr za))],[.c (.tr za)]⟩
def xv.sh (f:zd.T) (x:LTr za.T):Option xv.sg.R:=
 bif LTr.isNd x then bif ((LTr.lab (Ty.dflt za) x).1==6) then bif LTr.isNd x then bif idx 0 ((LTr.kids x).length) then oB (wa.sh F (get (.tr za) (LTr.kids x) 0)) fun c_1=>
 bif c_1.1.1 then bif LTr.isNd x then bif idx 1 ((LTr.kids x).length) then some ((get (.tr za) (LTr.kids x) 1,()),())
 else none
 else none
 else bif LTr.isNd x then bif ((LTr.lab (Ty.dflt za) x).1==6) then bif LTr.isNd x then bif idx 1 ((LTr.kids x).length) then oB (wa.sh F (get (.tr za) (LTr.kids x) 1)) fun c_2=>
 bif c_2.1.1 then bif LTr.isNd x then bif idx 0 ((LTr.kids x).length) then some ((get (.tr za) (LTr.kids x) 0,()),())
 else none
 else none
 else some (((.nil:LTr za.T),()),())
 else none
 else none
 else bif LTr.isNd x then bif ((LTr.lab (Ty.dflt za) x).1==7) then bif LTr.isNd x then bif idx 1 ((LTr.kids x).length) then oB (wa.sh F (get (.tr za) (LTr.kids x) 1)) fun c_3=>
 bif c_3.1.1 then bif LTr.isNd x then bif idx 0 ((LTr.kids x).length) then some ((get (.tr za) (LTr.kids x) 0,()),())
 else none
 else none
 else some (((.nil:LTr za.T),()),())
 else none
 else none
 else some (((.nil:LTr za.T),()),())
 else none
 else none
 else none
 else none
 else bif LTr.isNd x then bif ((LTr.lab (Ty.dflt za) x).1==6) then bif LTr.isNd x then bif idx 1 ((LTr.kids x).length) then oB (wa.sh F (get (.tr za) (LTr.kids x) 1)) fun c_4=>
 bif c_4.1.1 then bif LTr.isNd x then bif idx 0 ((LTr.kids x).length) then some ((get (.tr za) (LTr.kids x) 0,()),())
 else none
 else none
 else some (((.nil:LTr za.T),()),())
 else none
 else none
 else bif LTr.isNd x then bif ((LTr.lab (Ty.dflt za) x).1==7) then bif LTr.isNd x then bif idx 1 ((LTr.kids x).length) then oB (wa.sh F (get (.tr za) (LTr.kids x) 1)) fun c_5=>
 bif c_5.1.1 then bif LTr.isNd x then bif idx 0 ((LTr.kids x).length) then some ((get (.tr za) (LTr.kids x) 0,()),())
 else none
 else none
 else some (((.nil:LTr za.T),()),())
 else none
 else none
 else some (((.nil:LTr za.T),()),())
 else none
 else none
 else none
def xv.sp:sP_ xv.sg:=fun x=>xv.sh F x.1 x.2.1
abbrev we.sg:Sig:=⟨[.d (.g zd),.d (.c (.tr za))],[.c (.tr za)]⟩
def we.sh (F:Nat) (f:zd.T) (x:LTr za.T):Option we.sg.R:=
 bif LTr.isNd x then bif ((LTr.lab (Ty.dflt za) x).1==15) then bif LTr.isNd x then bif ((LTr.lab (Ty.dflt za) x).2.1==0) then bif LTr.isNd x then bif idx 0 ((LTr.kids x).length) then some ((get (.tr za) (LTr.kids x) 0,()),())
 else none
 else none
 else some (((.nil:LTr za.T),()),())
 else none
 else some (((.nil:LTr za.T),()),())
 else none
def we.sp:sP_ we.sg:=fun x=>we.sh F x.1 x.2.1
abbrev wA.sg:Sig:=⟨[.d (.c (.tr za))],[.c .bool]⟩
def wA.sh (F:Nat) (x:LTr za.T):Option wA.sg.R:=
 bif LTr.isNd x then bif ((LTr.lab (Ty.dflt za) x).1==1) then bif LTr.isNd x then some ((((LTr.lab (Ty.dflt za) x).2.1==1),()),())
 else none
 else some ((false,()),())
 else none
def wA.sp:sP_ wA.sg:=fun x=>wA.sh F x.1
abbrev xU.sg:Sig:=⟨[.d (.g zd),.d (.c (.tr za))],[.c (.tr za)]⟩
def xU.sh (f:zd.T) (x:LTr za.T):Option xU.sg.R:=
 bif LTr.isNd x then bif ((LTr.lab (Ty.dflt za) x).1==8) then bif LTr.isNd x then bif idx 0 ((LTr.kids x).length) then oB (wA.sh F (get (.tr za) (LTr.kids x) 0)) fun c_1=>
 bif c_1.1.1 then bif LTr.isNd x then bif idx 1 ((LTr.kids x).length) then some ((get (.tr za) (LTr.kids x) 1,()),())
 else none
 else none
 else bif LTr.isNd x then bif ((LTr.lab (Ty.dflt za) x).1==8) then bif LTr.isNd x then bif idx 1 ((LTr.kids x).length) then oB (wA.sh F (get (.tr za) (LTr.kids x) 1)) fun c_2=>
 bif c_2.1.1 then bif LTr.isNd x then bif idx 0 ((LTr.kids x).length) then some ((get (.tr za) (LTr.kids x) 0,()),())
 else none
 else none
 else some (((.nil:LTr za.T),()),())
 else none
 else none
 else some (((.nil:LTr za.T),()),())
 else none
 else none
 else none
 else bif LTr.isNd x then bif ((LTr.lab (Ty.dflt za) x).1==8) then bif LTr.isNd x then bif idx 1 ((LTr.kids x).length) then oB (wA.sh F (get (.tr za) (LTr.kids x) 1)) fun c_3=>
 bif c_3.1.1 then bif LTr.isNd x then bif idx 0 ((LTr.kids x).length) then some ((get (.tr za) (LTr.kids x) 0,()),())
 else none
 else none
 else some (((.nil:LTr za.T),()),())
 else none
 else none
 else some (((.nil:LTr za.T),()),())
 else none
 else none
def xU.sp:sP_ xU.sg:=fun x=>xU.sh F x.1 x.2.1
abbrev xh.sg:Sig:=⟨[.d (.c (.tr za)),.d (.p (.tr za))],[.c .bool]⟩
def xh.sh (o:LTr za.T) (t1:LTr za.T):Option xh.sg.R:=
 oB (yX.sh F o t1) fun c_1=>
 some ((c_1.1.1,()),())
def xh.sp:sP_ xh.sg:=fun x=>xh.sh F x.1 x.2.1
abbrev zn.sg:Sig:=⟨[.d (.b (.tr za)),.d (.cl (.tr za))],[.c (.int .i64)]⟩
abbrev zn.ds16:Sig:=⟨[.d (.c (.tr za)),.d (.p (.tr za))],[.c .bool]⟩
def zn.d16:Nat->sP_ zn.ds16:=mkT zn.ds16 [(Yd,xh.sp F)]
abbrev zn.l2.K1 (R:Type):Type:=(List (LTr za.T))->(Nat×(LTr za.T))->Int->Int->Bool->Option R
abbrev zn.l2.T (R:Type):Type:=(List (LTr za.T))->(Nat×(LTr za.T))->Int->Int->Option R
def zn.l2.y (k0:Int->Option R) (k1:zn.l2.K1 R) (rec:zn.l2.T R) (s:List (LTr za.T)) (f:Nat×(LTr za.T)) (t7:Int) (t8:Int):Option R:=
 bif decide (t8<t7) then bif idx t8 s.length then oB (zn.d16 F (f.1+1) (get (.tr za) s t8.toNat,f.2,())) fun c_1=>
 bif c_1.1.1 then k0 t8
 else rec s (f.1,f.2) t7 (i64.wrap (t8+1))
 else none
 else k1 s (f.1,f.2) t7 t8 (decide (t8<t7))
def zn.l2 {R:Type} (F:Nat) (k0:Int->Option R) (k1:zn.l2.K1 R):Nat->zn.l2.T R
 | 0,_,_,_,_=>none
 | fu+1,s,f,t7,t8=>zn.l2.y F k0 k1 (zn.l2 F k0 k1 fu) s f t7 t8
def zn.sh (s:List (LTr za.T)) (f:Nat×(LTr za.T)):Option zn.sg.R:=
 zn.l2 F (fun r42=>some ((r42,()),())) (fun s3 f3 t73 t83 t93=>some (((-1),()),())) F s (f.1,f.2) (s.length:Int) 0
def zn.sp:sP_ zn.sg:=fun x=>zn.sh F x.1 x.2.1
abbrev yL.sg:Sig:=⟨[.d (.b (.tr za)),.d (.cl (.tr za))],[.c .bool]⟩
def yL.sh (s:List (LTr za.T)) (f:Nat×(LTr za.T)):Option yL.sg.R:=
 oB (zn.sh F s (f.1,f.2)) fun c_1=>
 some ((decide (c_1.1.1>=0),()),())
def yL.sp:sP_ yL.sg:=fun x=>yL.sh F x.1 x.2.1
abbrev zj.sg:Sig:=⟨[.d (.g zd),.d (.c (.tr za))],[.c (.tr za)]⟩
abbrev zj.l5.K0 (R:Type):Type:=(LTr za.T)->(List (LTr za.T))->Int->Int->Bool->(List (LTr za.T))->Option R
abbrev zj.l5.T (R:Type):Type:=(LTr za.T)->(List (LTr za.T))->Int->Int->(List (LTr za.T))->Option R
def zj.l5.y (k0:zj.l5.K0 R) (rec:zj.l5.T R) (x:LTr za.T) (t26:List (LTr za.T)) (t27:Int) (t28:Int) (kids:List (LTr za.T)):Option R:=
 bif decide (t28<t27) then bif idx t28 t26.length then oB (yL.sh F kids (wP,get (.tr za) t26 t28.toNat)) fun c_1=>
 bif !c_1.1.1 then bif Nat.ble (kids.length+([get (.tr za) t26 t28.toNat]:List (LTr za.T)).length) wF then rec x t26 t27 (i64.wrap (t28+1)) (kids++([get (.tr za) t26 t28.toNat]:List (LTr za.T)))
 else none
 else rec x t26 t27 (i64.wrap (t28+1)) kids
 else none
 else k0 x t26 t27 t28 (decide (t28<t27)) kids
def zj.l5 {R:Type} (F:Nat) (k0:zj.l5.K0 R):Nat->zj.l5.T R
 | 0,_,_,_,_,_=>none
 | fu+1,x,t26,t27,t28,kids=>zj.l5.y F k0 (zj.l5 F k0 fu) x t26 t27 t28 kids
def zj.j10 (F:Nat) (k0:(LTr za.T)->Option R) (k1:(LTr za.T)->Option R) (k2:(LTr za.T)->Option R) (x:LTr za.T) (kids:List (LTr za.T)):Option R:=
 bif LTr.isNd x then bif ((kids.length:Int)==((LTr.kids x).length:Int)) then k0 (.nil:LTr za.T)
 else bif ((kids.length:Int)==1) then bif idx 0 kids.length then k1 (get (.tr za) kids 0)
 else none
 else bif LTr.isNd x then k2 (LTr.nd ((LTr.lab (Ty.dflt za) x).1,(LTr.lab (Ty.dflt za) x).2.1,(LTr.lab (Ty.dflt za) x).2.2.1,(kids.length:Int),(LTr.lab (Ty.dflt za) x).2.2.2.2) kids)
 else none
 else none
def zj.j3 (k0:(LTr za.T)->Option R) (k1:(LTr za.T)->Option R) (k2:(LTr za.T)->Option R) (x:LTr za.T):Option R:=
 bif LTr.isNd x then zj.l5 F (fun x2 t262 t272 t282 t292 kids2=>zj.j10 F (fun r43=>k0 r43) (fun r44=>k1 r44) (fun r45=>k2 r45) x2 kids2) F x (LTr.kids x) ((LTr.kids x).length:Int) 0 ([])
 else none
def zj.sh (f:zd.T) (x:LTr za.T):Option zj.sg.R:=
 bif LTr.isNd x then bif ((LTr.lab (Ty.dflt za) x).1 != 9) then bif LTr.isNd x then bif ((LTr.lab (Ty.dflt za) x).1 != 10) then some (((.nil:LTr za.T),()),())
 else zj.j3 F (fun r46=>some ((r46,()),())) (fun r47=>some ((r47,()),())) (fun r48=>some ((r48,()),())) x
 else none
 else zj.j3 F (fun r49=>some ((r49,()),())) (fun r410=>some ((r410,()),())) (fun r411=>some ((r411,()),())) x
 else none
def zj.sp:sP_ zj.sg:=fun x=>zj.sh F x.1 x.2.1
abbrev zb.sg:Sig:=⟨[.d (.g zd),.d (.c (.tr za))],[.c (.tr za)]⟩
abbrev zb.M:Type:=zd.T->(LTr za.T)->Option zb.sg.R
abbrev zb.ds63:Sig:=⟨[.d (.g zd),.d (.c (.tr za))],[.c (.tr za)]⟩
def zb.d63 (me:zb.M) (F:Nat):Nat->sP_ zb.ds63:=mkT zb.ds63 [(vJ,xj.sp F),(vI,yj.sp F),(uv,wg.sp F),(vP,xv.sp F),(ut,we.sp F),(uo,xU.sp F),(vO,zj.sp F)]
abbrev zb.l3.K0 (R:Type):Type:=(LTr za.T)->(List (LTr za.T))->Int->Int->Bool->zd.T->(List (LTr za.T))->Option R
abbrev zb.l3.T (R:Type):Type:=(LTr za.T)->(List (LTr za.T))->Int->Int->zd.T->(List (LTr za.T))->Option R
def zb.l3.y (me:zb.M) (F:Nat) (k0:zb.l3.K0 R) (rec:zb.l3.T R) (x:LTr za.T) (t20:List (LTr za.T)) (t21:Int) (t22:Int) (f:zd.T) (kids:List (LTr za.T)):Option R:=
 bif decide (t22<t21) then bif idx t22 t20.length then oB (me f (get (.tr za) t20 t22.toNat)) fun c_1=>
 bif idx t22 kids.length then rec x t20 t21 (i64.wrap (t22+1)) f (kids.set t22.toNat c_1.1.1)
 else none
 else none
 else k0 x t20 t21 t22 (decide (t22<t21)) f kids
def zb.l3 {R:Type} (me:zb.M) (F:Nat) (k0:zb.l3.K0 R):Nat->zb.l3.T R
 | 0,_,_,_,_,_,_=>none
 | fu+1,x,t20,t21,t22,f,kids=>zb.l3.y me F k0 (zb.l3 me F k0 fu) x t20 t21 t22 f kids
abbrev zb.l9.K1 (R:Type):Type:=(LTr za.T)->(List (Nat×zd.T))->Int->Int->Bool->zd.T->Option R
abbrev zb.l9.T (R:Type):Type:=(LTr za.T)->(List (Nat×zd.T))->Int->Int->zd.T->Option R
def zb.l9.y (me:zb.M) (F:Nat) (k0:(LTr za.T)->Option R) (k1:zb.l9.K1 R) (rec:zb.l9.T R) (x:LTr za.T) (t55:List (Nat×zd.T)) (t56:Int) (t57:Int) (f:zd.T):Option R:=
 bif decide (t57<t56) then bif idx t57 t55.length then oB (zb.d63 me F (get (.bnd zd) t55 t57.toNat).1 ((get (.bnd zd) t55 t57.toNat).2,x,())) fun c_3=>
 bif LTr.isNd c_3.1.1 then oB (me f c_3.1.1) fun c_4=>
 k0 c_4.1.1
 else rec x t55 t56 (i64.wrap (t57+1)) f
 else none
 else k1 x t55 t56 t57 (decide (t57<t56)) f
def zb.l9 {R:Type} (me:zb.M) (F:Nat) (k0:(LTr za.T)->Option R) (k1:zb.l9.K1 R):Nat->zb.l9.T R
 | 0,_,_,_,_,_=>none
 | fu+1,x,t55,t56,t57,f=>zb.l9.y me F k0 k1 (zb.l9 me F k0 k1 fu) x t55 t56 t57 f
def zb.j7 (me:zb.M) (F:Nat) (k0:(LTr za.T)->Option R) (k1:(LTr za.T)->Option R) (x:LTr za.T) (kids:List (LTr za.T)) (f:zd.T):Option R:=
 bif LTr.isNd x then zb.l9 me F (fun r45=>k0 r45) (fun x6 t556 t566 t576 t586 f6=>k1 x6) F (LTr.nd (LTr.lab (Ty.dflt za) x) kids) ([(vI,f),(uv,f),(ut,f),(vJ,f),(vO,f),(vP,f),(uo,f)]:List (Nat×zd.T)) (([(vI,f),(uv,f),(ut,f),(vJ,f),(vO,f),(vP,f),(uo,f)]:List (Nat×zd.T)).length:Int) 0 f
 else none
def zb.sh0 (me:zb.M) (F:Nat) (f:zd.T) (x:LTr za.T):Option zb.sg.R:=
 bif LTr.isNd x then bif (decide (0<=((LTr.kids x).length:Int))&&decide (((LTr.kids x).length:Int)<=((LTr.kids x).length:Int))&&decide (((LTr.kids x).length:Int)<=(wF:Int))) then bif LTr.isNd x then zb.l3 me F (fun x2 t202 t212 t222 t232 f2 kids2=>zb.j7 me F (fun r47=>some ((r47,()),())) (fun r48=>some ((r48,()),())) x2 kids2 f2) F x (LTr.kids x) ((LTr.kids x).length:Int) 0 f (WA (.tr za) (((LTr.kids x).length:Int).toNat))
 else none
 else none
 else none
def zb.it (F:Nat):Nat->zb.M
 | 0,_,_=>none
 | n+1,a,b=>zb.sh0 (zb.it F n) F a b
def zb.itp (F n:Nat):TA zb.sg.args->Option zb.sg.R:=fun x=>zb.it F n x.1 x.2.1
def zb.sh (a:zd.T) (b:LTr za.T):Option zb.sg.R:=zb.it F F a b
def zb.sp:sP_ zb.sg:=fun x=>zb.sh F x.1 x.2.1
abbrev wC.sg:Sig:=ZF xB
def wC.sh (_F:Nat) (l:List xB.T):Option wC.sg.R:=Yk xB l
def wC.sp:sP_ wC.sg:=fun x=>wC.sh F x.1
abbrev wb.sg:Sig:=ZF yp
def wb.sh (_F:Nat) (l:List yp.T):Option wb.sg.R:=Yk yp l
def wb.sp:sP_ wb.sg:=fun x=>wb.sh F x.1
abbrev zB.sg:Sig:=⟨[.d (.c (.tr za)),.d (.os za)],[.os za]⟩
abbrev zB.M:Type:=(LTr za.T)->(List za.T)->Option zB.sg.R
abbrev zB.l2.K0 (R:Type):Type:=(LTr za.T)->(List (LTr za.T))->Int->Int->Bool->(List za.T)->Option R
abbrev zB.l2.T (R:Type):Type:=(LTr za.T)->(List (LTr za.T))->Int->Int->(List za.T)->Option R
def zB.l2.y (me:zB.M) (F:Nat) (k0:zB.l2.K0 R) (rec:zB.l2.T R) (x:LTr za.T) (t11:List (LTr za.T)) (t12:Int) (t13:Int) (l:List za.T):Option R:=
 bif decide (t13<t12) then bif idx t13 t11.length then oB (me (get (.tr za) t11 t13.toNat) l) fun c_1=>
 rec x t11 t12 (i64.wrap (t13+1)) c_1.1.1
 else none
 else k0 x t11 t12 t13 (decide (t13<t12)) l
def zB.l2 {R:Type} (me:zB.M) (F:Nat) (k0:zB.l2.K0 R):Nat->zB.l2.T R
 | 0,_,_,_,_,_=>none
 | fu+1,x,t11,t12,t13,l=>zB.l2.y me F k0 (zB.l2 me F k0 fu) x t11 t12 t13 l
def zB.sh0 (me:zB.M) (F:Nat) (x:LTr za.T) (l:List za.T):Option zB.sg.R:=
 bif LTr.isNd x then zB.l2 me F (fun x2 t112 t122 t132 t142 l2=>bif LTr.isNd x2 then oB (wb.sh F (LTr.lab (Ty.dflt za) x2).2.2.2.2.1) fun c_3=>
 bif Nat.ble (l2.length+([((LTr.lab (Ty.dflt za) x2).1,(LTr.lab (Ty.dflt za) x2).2.1,(LTr.lab (Ty.dflt za) x2).2.2.1,(LTr.lab (Ty.dflt za) x2).2.2.2.1,c_3.1.1,(LTr.lab (Ty.dflt za) x2).2.2.2.2.2)]:List za.T).length) wF then some ((l2++([((LTr.lab (Ty.dflt za) x2).1,(LTr.lab (Ty.dflt za) x2).2.1,(LTr.lab (Ty.dflt za) x2).2.2.1,(LTr.lab (Ty.dflt za) x2).2.2.2.1,c_3.1.1,(LTr.lab (Ty.dflt za) x2).2.2.2.2.2)]:List za.T),()),())
 else none
 else none) F x (LTr.kids x) ((LTr.kids x).length:Int) 0 l
 else none
def zB.it (F:Nat):Nat->zB.M
 | 0,_,_=>none
 | n+1,a,b=>zB.sh0 (zB.it F n) F a b
def zB.itp (F n:Nat):TA zB.sg.args->Option zB.sg.R:=fun x=>zB.it F n x.1 x.2.1
def zB.sh (a:LTr za.T) (b:List za.T):Option zB.sg.R:=zB.it F F a b
def zB.sp:sP_ zB.sg:=fun x=>zB.sh F x.1 x.2.1
abbrev wI.sg:Sig:=⟨[.d (.g zO)],[.g zO,.c (.int .i64)]⟩
def wI.sh (p:zO.T):Option wI.sg.R:=
 oB (wM.sh F p) fun c_1=>
 bif (c_1.1.2.2.1 != 0) then some ((((⟨#[]⟩:ByteArray),[],0,[]),c_1.1.2.2.1,()),())
 else oB (yw.sh F p.2.2.2) fun c_2=>
 oB (zb.sh F c_1.1.1 c_2.1.1) fun c_3=>
 oB (wC.sh F p.2.1) fun c_4=>
 oB (zB.sh F c_3.1.1 ([])) fun c_5=>
 some (((p.1,c_4.1.1,p.2.2.1,c_5.1.1),0,()),())
def wI.sp:sP_ wI.sg:=fun x=>wI.sh F x.1
abbrev yh.sg:Sig:=⟨[.d (.g za),.d (.g za)],[.c .bool]⟩
abbrev yh.l4.K1 (R:Type):Type:=Int->Bool->za.T->za.T->Option R
abbrev yh.l4.T (R:Type):Type:=Int->za.T->za.T->Option R
def yh.l4.y (F:Nat) (k0:Bool->Option R) (k1:yh.l4.K1 R) (rec:yh.l4.T R) (i:Int) (a:za.T) (b:za.T):Option R:=
 bif decide (i<(a.2.2.2.2.1.length:Int)) then bif idx i a.2.2.2.2.1.length then bif idx i b.2.2.2.2.1.length then bif !(((get yp a.2.2.2.2.1 i.toNat).1==(get yp b.2.2.2.2.1 i.toNat).1)&&(((get yp a.2.2.2.2.1 i.toNat).2==(get yp b.2.2.2.2.1 i.toNat).2)&&true)) then k0 false
 else rec (i64.wrap (i+1)) a b
 else none
 else none
 else k1 i (decide (i<(a.2.2.2.2.1.length:Int))) a b
def yh.l4 {R:Type} (F:Nat) (k0:Bool->Option R) (k1:yh.l4.K1 R):Nat->yh.l4.T R
 | 0,_,_,_=>none
 | fu+1,i,a,b=>yh.l4.y F k0 k1 (yh.l4 F k0 k1 fu) i a b
def yh.sh (a:za.T) (b:za.T):Option yh.sg.R:=
 bif (a.1 != b.1) then some ((false,()),())
 else bif (a.2.1 != b.2.1) then some ((false,()),())
 else bif (a.2.2.1 != b.2.2.1) then some ((false,()),())
 else bif (a.2.2.2.1 != b.2.2.2.1) then some ((false,()),())
 else bif ((a.2.2.2.2.1.length:Int) != (b.2.2.2.2.1.length:Int)) then some ((false,()),())
 else yh.l4 F (fun r41=>some ((r41,()),())) (fun i2 t452 a2 b2=>some ((true,()),())) F 0 a b
def yh.sp:sP_ yh.sg:=fun x=>yh.sh F x.1 x.2.1
abbrev zZ.sg:Sig:=⟨[.d (.g zO),.d (.g zO)],[.c .bool]⟩
abbrev zZ.l4.K1 (R:Type):Type:=Int->Bool->zO.T->zO.T->Option R
abbrev zZ.l4.T (R:Type):Type:=Int->zO.T->zO.T->Option R
def zZ.l4.y (F:Nat) (k0:Bool->Option R) (k1:zZ.l4.K1 R) (rec:zZ.l4.T R) (i:Int) (p:zO.T) (q:zO.T):Option R:=
 bif decide (i<(p.2.1.length:Int)) then bif idx i p.2.1.length then bif idx i q.2.1.length then bif !(((get xB p.2.1 i.toNat).1==(get xB q.2.1 i.toNat).1)&&(((get xB p.2.1 i.toNat).2==(get xB q.2.1 i.toNat).2)&&true)) then k0 false
 else rec (i64.wrap (i+1)) p q
 else none
 else none
 else k1 i (decide (i<(p.2.1.length:Int))) p q
def zZ.l4 {R:Type} (F:Nat) (k0:Bool->Option R) (k1:zZ.l4.K1 R):Nat->zZ.l4.T R
 | 0,_,_,_=>none
 | fu+1,i,p,q=>zZ.l4.y F k0 k1 (zZ.l4 F k0 k1 fu) i p q
abbrev zZ.l9.K1 (R:Type):Type:=Int->Bool->zO.T->zO.T->Option R
abbrev zZ.l9.T (R:Type):Type:=Int->zO.T->zO.T->Option R
def zZ.l9.y (k0:Bool->Option R) (k1:zZ.l9.K1 R) (rec:zZ.l9.T R) (i:Int) (p:zO.T) (q:zO.T):Option R:=
 bif decide (i<(p.2.2.2.length:Int)) then bif idx i p.2.2.2.length then bif idx i q.2.2.2.length then oB (yh.sh F (get za p.2.2.2 i.toNat) (get za q.2.2.2 i.toNat)) fun c_3=>
 bif !c_3.1.1 then k0 false
 else rec (i64.wrap (i+1)) p q
 else none
 else none
 else k1 i (decide (i<(p.2.2.2.length:Int))) p q
def zZ.l9 {R:Type} (F:Nat) (k0:Bool->Option R) (k1:zZ.l9.K1 R):Nat->zZ.l9.T R
 | 0,_,_,_=>none
 | fu+1,i,p,q=>zZ.l9.y F k0 k1 (zZ.l9 F k0 k1 fu) i p q
def zZ.sh (p:zO.T) (q:zO.T):Option zZ.sg.R:=
 bif !(p.1.toList==q.1.toList) then some ((false,()),())
 else bif (p.2.2.1 != q.2.2.1) then some ((false,()),())
 else bif ((p.2.1.length:Int) != (q.2.1.length:Int)) then some ((false,()),())
 else bif ((p.2.2.2.length:Int) != (q.2.2.2.length:Int)) then some ((false,()),())
 else zZ.l4 F (fun r41=>some ((r41,()),())) (fun i2 t412 p2 q2=>zZ.l9 F (fun r44=>some ((r44,()),())) (fun i5 t595 p5 q5=>some ((true,()),())) F 0 p2 q2) F 0 p q
def zZ.sp:sP_ zZ.sg:=fun x=>zZ.sh F x.1 x.2.1
abbrev xN.sg:Sig:=⟨[],[.c .bool]⟩
def xN.sh:Option xN.sg.R:=
 oB (wI.sh F ((⟨#[112]⟩:ByteArray),([((⟨#[97]⟩:ByteArray),10)]:List xB.T),0,([(2,5,0,0,[],0),(2,7,0,0,[],0),(7,0,0,0,[],0)]:List za.T))) fun c_1=>
 oB (wI.sh F ((⟨#[]⟩:ByteArray),[],0,[])) fun c_2=>
 bif (c_1.1.2.1==0) then oB (zZ.sh F ((⟨#[112]⟩:ByteArray),([((⟨#[97]⟩:ByteArray),10)]:List xB.T),0,([(2,2,0,0,[],0),(5,0,0,0,[],0)]:List za.T)) c_1.1.1) fun c_3=>
 bif c_3.1.1 then some (((c_2.1.2.1==61),()),())
 else some ((false,()),())
 else some ((false,()),())
def xN.sp:sP_ xN.sg:=fun x=>xN.sh F
abbrev xI.sg:Sig:=⟨[.d (.c (.int .u8))],[.c .bool]⟩
def xI.sh (F:Nat) (c:Int):Option xI.sg.R:=
 bif decide (c>=97) then some ((decide (c<=122),()),())
 else some ((false,()),())
def xI.sp:sP_ xI.sg:=fun x=>xI.sh F x.1
abbrev xY.sg:Sig:=⟨[],[.c (.sl .str)]⟩
def xY.sh (F:Nat):Option xY.sg.R:=
 some ((([(⟨#[112,108,97,110]⟩:ByteArray),(⟨#[114,111,117,110,100]⟩:ByteArray),(⟨#[98,121]⟩:ByteArray),(⟨#[98,108,111,99,107,115]⟩:ByteArray),(⟨#[109,105,110]⟩:ByteArray),(⟨#[109,97,120]⟩:ByteArray),(⟨#[111,118,101,114]⟩:ByteArray),(⟨#[117,112,116,111]⟩:ByteArray),(⟨#[103,114,97,100,117,97,116,101,100]⟩:ByteArray),(⟨#[118,111,108,117,109,101]⟩:ByteArray),(⟨#[111,102,102]⟩:ByteArray),(⟨#[105,102]⟩:ByteArray),(⟨#[102,108,111,111,114]⟩:ByteArray),(⟨#[99,101,105,108]⟩:ByteArray),(⟨#[122,101,114,111]⟩:ByteArray),(⟨#[104,97,108,102]⟩:ByteArray),(⟨#[101,118,101,110]⟩:ByteArray)]:List ByteArray),()),())
def xY.sp:sP_ xY.sg:=fun x=>xY.sh F
abbrev zX.sg:Sig:=⟨[.d (.c .str)],[.c .bool]⟩
abbrev zX.l3.K1 (R:Type):Type:=ByteArray->(List ByteArray)->Int->Bool->Option R
abbrev zX.l3.T (R:Type):Type:=ByteArray->(List ByteArray)->Int->Option R
def zX.l3.y (F:Nat) (k0:Bool->Option R) (k1:zX.l3.K1 R) (rec:zX.l3.T R) (s:ByteArray) (l:List ByteArray) (i:Int):Option R:=
 bif decide (i<(l.length:Int)) then bif idx i l.length then bif ((get .str l i.toNat).toList==s.toList) then k0 true
 else rec s l (i64.wrap (i+1))
 else none
 else k1 s l i (decide (i<(l.length:Int)))
def zX.l3 {R:Type} (F:Nat) (k0:Bool->Option R) (k1:zX.l3.K1 R):Nat->zX.l3.T R
 | 0,_,_,_=>none
 | fu+1,s,l,i=>zX.l3.y F k0 k1 (zX.l3 F k0 k1 fu) s l i
def zX.sh (s:ByteArray):Option zX.sg.R:=
 oB (xY.sh F) fun c_1=>
 zX.l3 F (fun r22=>some ((r22,()),())) (fun s3 l3 i3 t93=>some ((false,()),())) F s c_1.1.1 0
def zX.sp:sP_ zX.sg:=fun x=>zX.sh F x.1
abbrev xT.sg:Sig:=⟨[.d (.c (.int .u8))],[.c .bool]⟩
def xT.sh (F:Nat) (c:Int):Option xT.sg.R:=
 bif decide (c>=48) then some ((decide (c<=57),()),())
 else some ((false,()),())
def xT.sp:sP_ xT.sg:=fun x=>xT.sh F x.1
abbrev yq.sg:Sig:=⟨[.d (.c .str)],[.c .bool]⟩
abbrev yq.l4.K1 (R:Type):Type:=ByteArray->Int->Bool->Option R
abbrev yq.l4.T (R:Type):Type:=ByteArray->Int->Option R
def yq.l4.y (k0:Bool->Option R) (k1:yq.l4.K1 R) (rec:yq.l4.T R) (s:ByteArray) (i:Int):Option R:=
 bif decide (i<(s.size:Int)) then bif idx i s.size then oB (xI.sh F (bt s i)) fun c_3=>
 bif !c_3.1.1 then bif idx i s.size then oB (xT.sh F (bt s i)) fun c_4=>
 bif !c_4.1.1 then bif idx i s.size then bif ((bt s i) != 95) then k0 false
 else rec s (i64.wrap (i+1))
 else none
 else rec s (i64.wrap (i+1))
 else none
 else rec s (i64.wrap (i+1))
 else none
 else k1 s i (decide (i<(s.size:Int)))
def yq.l4 {R:Type} (F:Nat) (k0:Bool->Option R) (k1:yq.l4.K1 R):Nat->yq.l4.T R
 | 0,_,_=>none
 | fu+1,s,i=>yq.l4.y F k0 k1 (yq.l4 F k0 k1 fu) s i
def yq.sh (s:ByteArray):Option yq.sg.R:=
 bif decide ((s.size:Int)<1) then some ((false,()),())
 else bif decide ((s.size:Int)>32) then some ((false,()),())
 else bif idx 0 s.size then oB (xI.sh F (bt s 0)) fun c_1=>
 bif !c_1.1.1 then some ((false,()),())
 else oB (zX.sh F s) fun c_2=>
 bif c_2.1.1 then some ((false,()),())
 else yq.l4 F (fun r25=>some ((r25,()),())) (fun s6 i6 t256=>some ((true,()),())) F s 1
 else none
def yq.sp:sP_ yq.sg:=fun x=>yq.sh F x.1
abbrev zM.sg:Sig:=⟨[.d (.g zO)],[.c (.int .i64)]⟩
abbrev zM.l11.K1 (R:Type):Type:=Int->Int->Bool->zO.T->Option R
abbrev zM.l11.T (R:Type):Type:=Int->Int->zO.T->Option R
def zM.l11.y (F:Nat) (k0:Int->Option R) (k1:zM.l11.K1 R) (rec:zM.l11.T R) (i:Int) (k:Int) (p:zO.T):Option R:=
 bif decide (k<i) then bif idx k p.2.1.length then bif idx i p.2.1.length then bif ((get xB p.2.1 k.toNat).1.toList==(get xB p.2.1 i.toNat).1.toList) then k0 61
 else rec i (i64.wrap (k+1)) p
 else none
 else none
 else k1 i k (decide (k<i)) p
def zM.l11 {R:Type} (F:Nat) (k0:Int->Option R) (k1:zM.l11.K1 R):Nat->zM.l11.T R
 | 0,_,_,_=>none
 | fu+1,i,k,p=>zM.l11.y F k0 k1 (zM.l11 F k0 k1 fu) i k p
abbrev zM.l6.K3 (R:Type):Type:=Int->Bool->zO.T->Option R
def zM.l6.y (k0:Int->Option R) (k1:Int->Option R) (k2:Int->Option R) (k3:zM.l6.K3 R) (rec:Int->zO.T->Option R) (i:Int) (p:zO.T):Option R:=
 bif decide (i<(p.2.1.length:Int)) then bif idx i p.2.1.length then oB (yq.sh F (get xB p.2.1 i.toNat).1) fun c_2=>
 bif !c_2.1.1 then k0 61
 else zM.l11 F (fun r23=>k1 r23) (fun i4 k4 t364 p4=>bif idx i4 p4.2.1.length then bif decide ((get xB p4.2.1 i4.toNat).2<1) then k2 50
 else bif idx i4 p4.2.1.length then bif decide ((get xB p4.2.1 i4.toNat).2>1000000000000) then k2 50
 else rec (i64.wrap (i4+1)) p4
 else none
 else none) F i 0 p
 else none
 else k3 i (decide (i<(p.2.1.length:Int))) p
def zM.l6 {R:Type} (F:Nat) (k0:Int->Option R) (k1:Int->Option R) (k2:Int->Option R) (k3:zM.l6.K3 R):Nat->Int->zO.T->Option R
 | 0,_,_=>none
 | fu+1,i,p=>zM.l6.y F k0 k1 k2 k3 (zM.l6 F k0 k1 k2 k3 fu) i p
def zM.sh (p:zO.T):Option zM.sg.R:=
 oB (yq.sh F p.1) fun c_1=>
 bif !c_1.1.1 then some ((61,()),())
 else bif ((p.2.1.length:Int)==0) then some ((100,()),())
 else bif decide ((p.2.1.length:Int)>4) then some ((100,()),())
 else zM.l6 F (fun r25=>some ((r25,()),())) (fun r26=>some ((r26,()),())) (fun r27=>some ((r27,()),())) (fun i8 t238 p8=>bif decide (p8.2.2.1<0) then some ((50,()),())
 else bif decide (p8.2.2.1>4) then some ((50,()),())
 else some ((0,()),())) F 0 p
def zM.sp:sP_ zM.sg:=fun x=>zM.sh F x.1
abbrev zq.sg:Sig:=⟨[.d (.g za)],[.c (.int .i64)]⟩
def zq.j17 (F:Nat) (k0:Int->Option R) (k1:Int->Option R) (k2:Int->Option R) (k3:Bool->Option R) (t4:Int) (t17:Bool) (n:za.T):Option R:=
 bif t17 then k0 2
 else bif (t4==9) then bif (t4==9) then k1 n.2.2.2.1
 else bif (t4==16) then k2 3
 else k3 (t4==16)
 else bif (t4==10) then k1 n.2.2.2.1
 else bif (t4==16) then k2 3
 else k3 (t4==16)
def zq.j13 (k0:Int->Option R) (k1:Int->Option R) (k2:Int->Option R) (k3:Int->Option R) (k4:Bool->Option R) (t4:Int) (t10:Bool) (n:za.T):Option R:=
 bif t10 then k0 1
 else bif (t4==6) then zq.j17 F (fun r21=>k1 r21) (fun r22=>k2 r22) (fun r23=>k3 r23) (fun t264=>k4 t264) t4 (t4==6) n
 else bif (t4==7) then zq.j17 F (fun r25=>k1 r25) (fun r26=>k2 r26) (fun r27=>k3 r27) (fun t268=>k4 t268) t4 (t4==7) n
 else zq.j17 F (fun r29=>k1 r29) (fun r210=>k2 r210) (fun r211=>k3 r211) (fun t2612=>k4 t2612) t4 (t4==8) n
def zq.j6 (k0:Int->Option R) (k1:Int->Option R) (k2:Int->Option R) (k3:Int->Option R) (k4:Int->Option R) (k5:Bool->Option R) (t4:Int) (t5:Bool) (n:za.T):Option R:=
 bif t5 then k0 0
 else bif (t4==5) then zq.j13 F (fun r213=>k1 r213) (fun r214=>k2 r214) (fun r215=>k3 r215) (fun r216=>k4 r216) (fun t2617=>k5 t2617) t4 (t4==5) n
 else bif (t4==11) then zq.j13 F (fun r218=>k1 r218) (fun r219=>k2 r219) (fun r220=>k3 r220) (fun r221=>k4 r221) (fun t2622=>k5 t2622) t4 (t4==11) n
 else bif (t4==12) then zq.j13 F (fun r223=>k1 r223) (fun r224=>k2 r224) (fun r225=>k3 r225) (fun r226=>k4 r226) (fun t2627=>k5 t2627) t4 (t4==12) n
 else bif (t4==13) then zq.j13 F (fun r228=>k1 r228) (fun r229=>k2 r229) (fun r230=>k3 r230) (fun r231=>k4 r231) (fun t2632=>k5 t2632) t4 (t4==13) n
 else bif (t4==14) then zq.j13 F (fun r233=>k1 r233) (fun r234=>k2 r234) (fun r235=>k3 r235) (fun r236=>k4 r236) (fun t2637=>k5 t2637) t4 (t4==14) n
 else zq.j13 F (fun r238=>k1 r238) (fun r239=>k2 r239) (fun r240=>k3 r240) (fun r241=>k4 r241) (fun t2642=>k5 t2642) t4 (t4==15) n
def zq.sh (n:za.T):Option zq.sg.R:=
 bif (n.1==1) then zq.j6 F (fun r243=>some ((r243,()),())) (fun r244=>some ((r244,()),())) (fun r245=>some ((r245,()),())) (fun r246=>some ((r246,()),())) (fun r247=>some ((r247,()),())) (fun t2648=>some (((-1),()),())) n.1 (n.1==1) n
 else bif (n.1==2) then zq.j6 F (fun r249=>some ((r249,()),())) (fun r250=>some ((r250,()),())) (fun r251=>some ((r251,()),())) (fun r252=>some ((r252,()),())) (fun r253=>some ((r253,()),())) (fun t2654=>some (((-1),()),())) n.1 (n.1==2) n
 else bif (n.1==3) then zq.j6 F (fun r255=>some ((r255,()),())) (fun r256=>some ((r256,()),())) (fun r257=>some ((r257,()),())) (fun r258=>some ((r258,()),())) (fun r259=>some ((r259,()),())) (fun t2660=>some (((-1),()),())) n.1 (n.1==3) n
 else zq.j6 F (fun r261=>some ((r261,()),())) (fun r262=>some ((r262,()),())) (fun r263=>some ((r263,()),())) (fun r264=>some ((r264,()),())) (fun r265=>some ((r265,()),())) (fun t2666=>some (((-1),()),())) n.1 (n.1==4) n
def zq.sp:sP_ zq.sg:=fun x=>zq.sh F x.1
abbrev yF.sg:Sig:=⟨[.d (.c (.int .i64)),.d (.c (.int .i64))],[.c (.int .i64)]⟩
def yF.j7 (F:Nat) (k0:Int->Option R) (k1:Int->Option R) (k2:Int->Option R) (k3:Bool->Option R) (dims:Int) (t5:Int) (t6:Bool):Option R:=
 bif t6 then k0 1000000000000
 else bif (t5==3) then bif (t5==3) then k1 (i64.wrap (dims-1))
 else bif (t5==15) then k2 10000
 else k3 (t5==15)
 else bif (t5==4) then k1 (i64.wrap (dims-1))
 else bif (t5==15) then k2 10000
 else k3 (t5==15)
def yF.sh (kind:Int) (dims:Int):Option yF.sg.R:=
 bif (kind==1) then yF.j7 F (fun r41=>some ((r41,()),())) (fun r42=>some ((r42,()),())) (fun r43=>some ((r43,()),())) (fun t174=>some ((0,()),())) dims kind (kind==1)
 else bif (kind==2) then yF.j7 F (fun r45=>some ((r45,()),())) (fun r46=>some ((r46,()),())) (fun r47=>some ((r47,()),())) (fun t178=>some ((0,()),())) dims kind (kind==2)
 else bif (kind==11) then yF.j7 F (fun r49=>some ((r49,()),())) (fun r410=>some ((r410,()),())) (fun r411=>some ((r411,()),())) (fun t1712=>some ((0,()),())) dims kind (kind==11)
 else bif (kind==12) then yF.j7 F (fun r413=>some ((r413,()),())) (fun r414=>some ((r414,()),())) (fun r415=>some ((r415,()),())) (fun t1716=>some ((0,()),())) dims kind (kind==12)
 else yF.j7 F (fun r417=>some ((r417,()),())) (fun r418=>some ((r418,()),())) (fun r419=>some ((r419,()),())) (fun t1720=>some ((0,()),())) dims kind (kind==16)
def yF.sp:sP_ yF.sg:=fun x=>yF.sh F x.1 x.2.1
abbrev z7.sg:Sig:=⟨[.d (.g za),.d (.c (.int .i64))],[.c .bool]⟩
def z7.j13 (F:Nat) (k0:Bool->Option R) (n:za.T):Option R:=
 bif (n.1==13) then k0 true
 else bif (n.1==14) then k0 true
 else k0 ((n.2.2.2.2.1.length:Int)==0)
def z7.j8 (k0:Bool->Option R) (k1:Bool->Option R) (k2:Bool->Option R) (n:za.T):Option R:=
 bif (n.1==9) then bif decide (n.2.2.2.1<2) then k0 false
 else bif decide (n.2.2.2.1>16) then k0 false
 else z7.j13 F (fun r42=>k1 r42) n
 else bif (n.1==10) then bif decide (n.2.2.2.1<2) then k0 false
 else bif decide (n.2.2.2.1>16) then k0 false
 else z7.j13 F (fun r43=>k1 r43) n
 else bif (n.2.2.2.1 != 0) then k2 false
 else z7.j13 F (fun r44=>k1 r44) n
def z7.sh (n:za.T) (dims:Int):Option z7.sg.R:=
 bif decide (n.2.1<0) then some ((false,()),())
 else oB (yF.sh F n.1 dims) fun c_1=>
 bif decide (n.2.1>c_1.1.1) then some ((false,()),())
 else bif (n.1==16) then bif decide (n.2.2.1<1) then some ((false,()),())
 else bif decide (n.2.2.1>6) then some ((false,()),())
 else z7.j8 F (fun r45=>some ((r45,()),())) (fun r46=>some ((r46,()),())) (fun r47=>some ((r47,()),())) n
 else bif (n.2.2.1 != 0) then some ((false,()),())
 else z7.j8 F (fun r48=>some ((r48,()),())) (fun r49=>some ((r49,()),())) (fun r410=>some ((r410,()),())) n
def z7.sp:sP_ z7.sg:=fun x=>z7.sh F x.1 x.2.1
abbrev zQ.sg:Sig:=⟨[.d (.b yp)],[.c .bool]⟩
def zQ.j8 (F:Nat) (k0:Bool->Option R) (k1:(List yp.T)->Int->Bool->Option R) (l:List yp.T) (i:Int):Option R:=
 bif idx i l.length then bif decide ((get yp l i.toNat).1>1000000000000) then k0 false
 else bif idx i l.length then bif decide ((get yp l i.toNat).2>1000000000000) then k0 false
 else bif idx i l.length then bif decide ((get yp l i.toNat).2<(-1000000000000)) then k0 false
 else k1 l i (decide ((get yp l i.toNat).2<(-1000000000000)))
 else none
 else none
 else none
abbrev zQ.l4.K2 (R:Type):Type:=(List yp.T)->Int->Bool->Option R
abbrev zQ.l4.T (R:Type):Type:=(List yp.T)->Int->Option R
def zQ.l4.y (k0:Bool->Option R) (k1:Bool->Option R) (k2:zQ.l4.K2 R) (rec:zQ.l4.T R) (l:List yp.T) (i:Int):Option R:=
 bif decide (i<(l.length:Int)) then bif decide (i>0) then bif idx (i64.wrap (i-1)) l.length then bif idx i l.length then bif decide ((get yp l ((i64.wrap (i-1)).toNat)).1>=(get yp l i.toNat).1) then k0 false
 else zQ.j8 F (fun r21=>k1 r21) (fun l2 i2 t622=>rec l2 (i64.wrap (i2+1))) l i
 else none
 else none
 else zQ.j8 F (fun r23=>k1 r23) (fun l4 i4 t624=>rec l4 (i64.wrap (i4+1))) l i
 else k2 l i (decide (i<(l.length:Int)))
def zQ.l4 {R:Type} (F:Nat) (k0:Bool->Option R) (k1:Bool->Option R) (k2:zQ.l4.K2 R):Nat->zQ.l4.T R
 | 0,_,_=>none
 | fu+1,l,i=>zQ.l4.y F k0 k1 k2 (zQ.l4 F k0 k1 k2 fu) l i
def zQ.sh (l:List yp.T):Option zQ.sg.R:=
 bif ((l.length:Int)==0) then some ((false,()),())
 else bif decide ((l.length:Int)>16) then some ((false,()),())
 else bif idx 0 l.length then bif ((get yp l 0).1 != 0) then some ((false,()),())
 else zQ.l4 F (fun r25=>some ((r25,()),())) (fun r26=>some ((r26,()),())) (fun l7 i7 t227=>some ((true,()),())) F l 0
 else none
def zQ.sp:sP_ zQ.sg:=fun x=>zQ.sh F x.1
abbrev zW.sg:Sig:=⟨[.d (.g zO)],[.c (.int .i64),.c (.int .i64)]⟩
abbrev zW.l8.K2 (R:Type):Type:=Int->Int->Bool->zO.T->Option R
abbrev zW.l8.T (R:Type):Type:=Int->Int->zO.T->Option R
def zW.l8.y (k0:Int->Int->Option R) (k1:Int->Int->Option R) (k2:zW.l8.K2 R) (rec:zW.l8.T R) (pile:Int) (i:Int) (p:zO.T):Option R:=
 bif decide (i<(p.2.2.2.length:Int)) then bif idx i p.2.2.2.length then oB (zq.sh F (get za p.2.2.2 i.toNat)) fun c_2=>
 bif decide (c_2.1.1<0) then k0 i 50
 else oB (z7.sh F (get za p.2.2.2 i.toNat) (p.2.1.length:Int)) fun c_3=>
 bif !c_3.1.1 then k0 i 50
 else bif decide (pile<c_2.1.1) then k0 i 50
 else bif ((get za p.2.2.2 i.toNat).1==13) then oB (zQ.sh F (get za p.2.2.2 i.toNat).2.2.2.2.1) fun c_4=>
 bif !c_4.1.1 then k1 i 51
 else rec (i64.wrap ((i64.wrap (pile-c_2.1.1))+1)) (i64.wrap (i+1)) p
 else bif ((get za p.2.2.2 i.toNat).1==14) then oB (zQ.sh F (get za p.2.2.2 i.toNat).2.2.2.2.1) fun c_5=>
 bif !c_5.1.1 then k1 i 51
 else rec (i64.wrap ((i64.wrap (pile-c_2.1.1))+1)) (i64.wrap (i+1)) p
 else rec (i64.wrap ((i64.wrap (pile-c_2.1.1))+1)) (i64.wrap (i+1)) p
 else none
 else k2 pile i (decide (i<(p.2.2.2.length:Int))) p
def zW.l8 {R:Type} (F:Nat) (k0:Int->Int->Option R) (k1:Int->Int->Option R) (k2:zW.l8.K2 R):Nat->zW.l8.T R
 | 0,_,_,_=>none
 | fu+1,pile,i,p=>zW.l8.y F k0 k1 k2 (zW.l8 F k0 k1 k2 fu) pile i p
def zW.sh (p:zO.T):Option zW.sg.R:=
 oB (zM.sh F p) fun c_1=>
 bif (c_1.1.1 != 0) then some (((-1),c_1.1.1,()),())
 else bif decide ((p.2.2.2.length:Int)>1024) then some ((1024,2,()),())
 else zW.l8 F (fun r26 r36=>some ((r26,r36,()),())) (fun r27 r37=>some ((r27,r37,()),())) (fun pile8 i8 t228 p8=>bif (pile8 != 1) then some (((p8.2.2.2.length:Int),50,()),())
 else some ((0,0,()),())) F 0 0 p
def zW.sp:sP_ zW.sg:=fun x=>zW.sh F x.1
abbrev zI.sg:Sig:=⟨[.d (.g zO),.d (.c (.int .i64))],[.c (.int .i64)]⟩
abbrev zI.l3.T (R:Type):Type:=Int->Int->zO.T->Option R
def zI.l3.y (k0:Int->Option R) (rec:zI.l3.T R) (want:Int) (i:Int) (p:zO.T):Option R:=
 bif idx i p.2.2.2.length then oB (zq.sh F (get za p.2.2.2 i.toNat)) fun c_1=>
 bif ((i64.wrap ((i64.wrap (want-1))+c_1.1.1))==0) then k0 i
 else rec (i64.wrap ((i64.wrap (want-1))+c_1.1.1)) (i64.wrap (i-1)) p
 else none
def zI.l3 {R:Type} (F:Nat) (k0:Int->Option R):Nat->zI.l3.T R
 | 0,_,_,_=>none
 | fu+1,want,i,p=>zI.l3.y F k0 (zI.l3 F k0 fu) want i p
def zI.sh (p:zO.T) (node:Int):Option zI.sg.R:=
 zI.l3 F (fun r42=>some ((r42,()),())) F 1 node p
def zI.sp:sP_ zI.sg:=fun x=>zI.sh F x.1 x.2.1
abbrev zi.sg:Sig:=⟨[.d (.g zO)],[.c (.sl .bool),.c (.int .i64)]⟩
abbrev zi.l10.K0 (R:Type):Type:=Int->Bool->Int->Bool->zO.T->(List Bool)->Option R
abbrev zi.l10.T (R:Type):Type:=Int->Bool->Int->zO.T->(List Bool)->Option R
def zi.l10.y (F:Nat) (k0:zi.l10.K0 R) (rec:zi.l10.T R) (i:Int) (is:Bool) (k:Int) (p:zO.T) (out:List Bool):Option R:=
 bif decide (k<=i) then bif is then bif idx k p.2.2.2.length then bif ((get za p.2.2.2 k.toNat).1 != 3) then bif idx k p.2.2.2.length then rec i ((get za p.2.2.2 k.toNat).1 != 4) (i64.wrap (k+1)) p out
 else none
 else rec i false (i64.wrap (k+1)) p out
 else none
 else rec i false (i64.wrap (k+1)) p out
 else k0 i is k (decide (k<=i)) p out
def zi.l10 {R:Type} (F:Nat) (k0:zi.l10.K0 R):Nat->zi.l10.T R
 | 0,_,_,_,_,_=>none
 | fu+1,i,is,k,p,out=>zi.l10.y F k0 (zi.l10 F k0 fu) i is k p out
abbrev zi.l6.K0 (R:Type):Type:=Int->Bool->zO.T->(List Bool)->Option R
abbrev zi.l6.T (R:Type):Type:=Int->zO.T->(List Bool)->Option R
def zi.l6.y (k0:zi.l6.K0 R) (rec:zi.l6.T R) (i:Int) (p:zO.T) (out:List Bool):Option R:=
 bif decide (i<(p.2.2.2.length:Int)) then oB (zI.sh F p i) fun c_2=>
 zi.l10 F (fun i3 is3 k3 t303 p3 out3=>bif Nat.ble (out3.length+([is3]:List Bool).length) wF then rec (i64.wrap (i3+1)) p3 (out3++([is3]:List Bool))
 else none) F i true c_2.1.1 p out
 else k0 i (decide (i<(p.2.2.2.length:Int))) p out
def zi.l6 {R:Type} (F:Nat) (k0:zi.l6.K0 R):Nat->zi.l6.T R
 | 0,_,_,_=>none
 | fu+1,i,p,out=>zi.l6.y F k0 (zi.l6 F k0 fu) i p out
def zi.j14 (F:Nat) (k0:(List Bool)->Int->Option R) (out:List Bool):Option R:=
 k0 out 0
def zi.sh (p:zO.T):Option zi.sg.R:=
 oB (zW.sh F p) fun c_1=>
 bif (c_1.1.2.1 != 0) then some (([],c_1.1.2.1,()),())
 else zi.l6 F (fun i4 t224 p4 out4=>zi.j14 F (fun r25 r35=>some ((r25,r35,()),())) out4) F 0 p ([])
def zi.sp:sP_ zi.sg:=fun x=>zi.sh F x.1
abbrev zy.sg:Sig:=⟨[.d (.b (.int .i64))],[.c (.int .i64)]⟩
abbrev zy.l2.K1 (R:Type):Type:=(List Int)->Int->Bool->Option R
abbrev zy.l2.T (R:Type):Type:=(List Int)->Int->Option R
def zy.l2.y (F:Nat) (k0:Int->Option R) (k1:zy.l2.K1 R) (rec:zy.l2.T R) (l:List Int) (i:Int):Option R:=
 bif decide (i<(l.length:Int)) then bif idx i l.length then bif idx 0 l.length then bif ((get (.int .i64) l i.toNat) != (get (.int .i64) l 0)) then k0 (-1)
 else rec l (i64.wrap (i+1))
 else none
 else none
 else k1 l i (decide (i<(l.length:Int)))
def zy.l2 {R:Type} (F:Nat) (k0:Int->Option R) (k1:zy.l2.K1 R):Nat->zy.l2.T R
 | 0,_,_=>none
 | fu+1,l,i=>zy.l2.y F k0 k1 (zy.l2 F k0 k1 fu) l i
def zy.sh (l:List Int):Option zy.sg.R:=
 zy.l2 F (fun r21=>some ((r21,()),())) (fun l2 i2 t72=>bif idx 0 l2.length then some ((get (.int .i64) l2 0,()),())
 else none) F l 1
def zy.sp:sP_ zy.sg:=fun x=>zy.sh F x.1
abbrev zA.sg:Sig:=⟨[.d (.c (.int .i64))],[.c .bool]⟩
def zA.sh (F:Nat) (t:Int):Option zA.sg.R:=
 some ((decide (t>=2),()),())
def zA.sp:sP_ zA.sg:=fun x=>zA.sh F x.1
abbrev y4.sg:Sig:=⟨[.d (.c (.int .i64)),.d (.c (.int .i64))],[.c (.int .i64)]⟩
def y4.sh (a:Int) (b:Int):Option y4.sg.R:=
 bif (a==0) then some ((b,()),())
 else bif (b==0) then some ((a,()),())
 else oB (zA.sh F a) fun c_1=>
 bif c_1.1.1 then bif (b==1) then some ((1,()),())
 else bif (a==1) then oB (zA.sh F b) fun c_2=>
 bif c_2.1.1 then some ((1,()),())
 else some (((-1),()),())
 else some (((-1),()),())
 else bif (a==1) then oB (zA.sh F b) fun c_3=>
 bif c_3.1.1 then some ((1,()),())
 else some (((-1),()),())
 else some (((-1),()),())
def y4.sp:sP_ y4.sg:=fun x=>y4.sh F x.1 x.2.1
abbrev yv.sg:Sig:=⟨[.d (.g za),.d (.b (.int .i64))],[.c (.int .i64)]⟩
def yv.sh (n:za.T) (l:List Int):Option yv.sg.R:=
 bif (n.1==1) then some ((0,()),())
 else bif (n.1==2) then some ((1,()),())
 else bif (n.1==3) then some ((i64.wrap (2+(i64.wrap (2*n.2.1))),()),())
 else bif (n.1==4) then some ((i64.wrap (3+(i64.wrap (2*n.2.1))),()),())
 else bif (n.1==5) then bif (n.1==5) then oB (zy.sh F l) fun c_1=>
 some ((c_1.1.1,()),())
 else bif (n.1==8) then bif idx 0 l.length then bif idx 1 l.length then oB (y4.sh F (get (.int .i64) l 0) (get (.int .i64) l 1)) fun c_2=>
 some ((c_2.1.1,()),())
 else none
 else none
 else bif (n.1==11) then bif (n.1==11) then bif idx 0 l.length then oB (zA.sh F (get (.int .i64) l 0)) fun c_3=>
 bif c_3.1.1 then bif idx 0 l.length then some ((get (.int .i64) l 0,()),())
 else none
 else some (((-1),()),())
 else none
 else bif (n.1==13) then bif (n.1==13) then bif idx 0 l.length then oB (zA.sh F (get (.int .i64) l 0)) fun c_4=>
 bif c_4.1.1 then some ((1,()),())
 else some (((-1),()),())
 else none
 else bif (n.1==15) then bif idx 0 l.length then bif ((get (.int .i64) l 0)==1) then bif idx 0 l.length then some ((get (.int .i64) l 0,()),())
 else none
 else some (((-1),()),())
 else none
 else bif (n.1==16) then bif idx 0 l.length then oB (zA.sh F (get (.int .i64) l 0)) fun c_5=>
 bif c_5.1.1 then bif (zJ l.length (some 1) none).1 then oB (zy.sh F ((l.take (zJ l.length (some 1) none).2.2).drop (zJ l.length (some 1) none).2.1)) fun c_6=>
 some ((c_6.1.1,()),())
 else none
 else some (((-1),()),())
 else none
 else some (((-1),()),())
 else bif (n.1==14) then bif idx 0 l.length then oB (zA.sh F (get (.int .i64) l 0)) fun c_7=>
 bif c_7.1.1 then some ((1,()),())
 else some (((-1),()),())
 else none
 else bif (n.1==15) then bif idx 0 l.length then bif ((get (.int .i64) l 0)==1) then bif idx 0 l.length then some ((get (.int .i64) l 0,()),())
 else none
 else some (((-1),()),())
 else none
 else bif (n.1==16) then bif idx 0 l.length then oB (zA.sh F (get (.int .i64) l 0)) fun c_8=>
 bif c_8.1.1 then bif (zJ l.length (some 1) none).1 then oB (zy.sh F ((l.take (zJ l.length (some 1) none).2.2).drop (zJ l.length (some 1) none).2.1)) fun c_9=>
 some ((c_9.1.1,()),())
 else none
 else some (((-1),()),())
 else none
 else some (((-1),()),())
 else bif (n.1==12) then bif idx 0 l.length then oB (zA.sh F (get (.int .i64) l 0)) fun c_10=>
 bif c_10.1.1 then bif idx 0 l.length then some ((get (.int .i64) l 0,()),())
 else none
 else some (((-1),()),())
 else none
 else bif (n.1==13) then bif (n.1==13) then bif idx 0 l.length then oB (zA.sh F (get (.int .i64) l 0)) fun c_11=>
 bif c_11.1.1 then some ((1,()),())
 else some (((-1),()),())
 else none
 else bif (n.1==15) then bif idx 0 l.length then bif ((get (.int .i64) l 0)==1) then bif idx 0 l.length then some ((get (.int .i64) l 0,()),())
 else none
 else some (((-1),()),())
 else none
 else bif (n.1==16) then bif idx 0 l.length then oB (zA.sh F (get (.int .i64) l 0)) fun c_12=>
 bif c_12.1.1 then bif (zJ l.length (some 1) none).1 then oB (zy.sh F ((l.take (zJ l.length (some 1) none).2.2).drop (zJ l.length (some 1) none).2.1)) fun c_13=>
 some ((c_13.1.1,()),())
 else none
 else some (((-1),()),())
 else none
 else some (((-1),()),())
 else bif (n.1==14) then bif idx 0 l.length then oB (zA.sh F (get (.int .i64) l 0)) fun c_14=>
 bif c_14.1.1 then some ((1,()),())
 else some (((-1),()),())
 else none
 else bif (n.1==15) then bif idx 0 l.length then bif ((get (.int .i64) l 0)==1) then bif idx 0 l.length then some ((get (.int .i64) l 0,()),())
 else none
 else some (((-1),()),())
 else none
 else bif (n.1==16) then bif idx 0 l.length then oB (zA.sh F (get (.int .i64) l 0)) fun c_15=>
 bif c_15.1.1 then bif (zJ l.length (some 1) none).1 then oB (zy.sh F ((l.take (zJ l.length (some 1) none).2.2).drop (zJ l.length (some 1) none).2.1)) fun c_16=>
 some ((c_16.1.1,()),())
 else none
 else some (((-1),()),())
 else none
 else some (((-1),()),())
 else bif (n.1==6) then bif (n.1==6) then oB (zy.sh F l) fun c_17=>
 some ((c_17.1.1,()),())
 else bif (n.1==8) then bif idx 0 l.length then bif idx 1 l.length then oB (y4.sh F (get (.int .i64) l 0) (get (.int .i64) l 1)) fun c_18=>
 some ((c_18.1.1,()),())
 else none
 else none
 else bif (n.1==11) then bif (n.1==11) then bif idx 0 l.length then oB (zA.sh F (get (.int .i64) l 0)) fun c_19=>
 bif c_19.1.1 then bif idx 0 l.length then some ((get (.int .i64) l 0,()),())
 else none
 else some (((-1),()),())
 else none
 else bif (n.1==13) then bif (n.1==13) then bif idx 0 l.length then oB (zA.sh F (get (.int .i64) l 0)) fun c_20=>
 bif c_20.1.1 then some ((1,()),())
 else some (((-1),()),())
 else none
 else bif (n.1==15) then bif idx 0 l.length then bif ((get (.int .i64) l 0)==1) then bif idx 0 l.length then some ((get (.int .i64) l 0,()),())
 else none
 else some (((-1),()),())
 else none
 else bif (n.1==16) then bif idx 0 l.length then oB (zA.sh F (get (.int .i64) l 0)) fun c_21=>
 bif c_21.1.1 then bif (zJ l.length (some 1) none).1 then oB (zy.sh F ((l.take (zJ l.length (some 1) none).2.2).drop (zJ l.length (some 1) none).2.1)) fun c_22=>
 some ((c_22.1.1,()),())
 else none
 else some (((-1),()),())
 else none
 else some (((-1),()),())
 else bif (n.1==14) then bif idx 0 l.length then oB (zA.sh F (get (.int .i64) l 0)) fun c_23=>
 bif c_23.1.1 then some ((1,()),())
 else some (((-1),()),())
 else none
 else bif (n.1==15) then bif idx 0 l.length then bif ((get (.int .i64) l 0)==1) then bif idx 0 l.length then some ((get (.int .i64) l 0,()),())
 else none
 else some (((-1),()),())
 else none
 else bif (n.1==16) then bif idx 0 l.length then oB (zA.sh F (get (.int .i64) l 0)) fun c_24=>
 bif c_24.1.1 then bif (zJ l.length (some 1) none).1 then oB (zy.sh F ((l.take (zJ l.length (some 1) none).2.2).drop (zJ l.length (some 1) none).2.1)) fun c_25=>
 some ((c_25.1.1,()),())
 else none
 else some (((-1),()),())
 else none
 else some (((-1),()),())
 else bif (n.1==12) then bif idx 0 l.length then oB (zA.sh F (get (.int .i64) l 0)) fun c_26=>
 bif c_26.1.1 then bif idx 0 l.length then some ((get (.int .i64) l 0,()),())
 else none
 else some (((-1),()),())
 else none
 else bif (n.1==13) then bif (n.1==13) then bif idx 0 l.length then oB (zA.sh F (get (.int .i64) l 0)) fun c_27=>
 bif c_27.1.1 then some ((1,()),())
 else some (((-1),()),())
 else none
 else bif (n.1==15) then bif idx 0 l.length then bif ((get (.int .i64) l 0)==1) then bif idx 0 l.length then some ((get (.int .i64) l 0,()),())
 else none
 else some (((-1),()),())
 else none
 else bif (n.1==16) then bif idx 0 l.length then oB (zA.sh F (get (.int .i64) l 0)) fun c_28=>
 bif c_28.1.1 then bif (zJ l.length (some 1) none).1 then oB (zy.sh F ((l.take (zJ l.length (some 1) none).2.2).drop (zJ l.length (some 1) none).2.1)) fun c_29=>
 some ((c_29.1.1,()),())
 else none
 else some (((-1),()),())
 else none
 else some (((-1),()),())
 else bif (n.1==14) then bif idx 0 l.length then oB (zA.sh F (get (.int .i64) l 0)) fun c_30=>
 bif c_30.1.1 then some ((1,()),())
 else some (((-1),()),())
 else none
 else bif (n.1==15) then bif idx 0 l.length then bif ((get (.int .i64) l 0)==1) then bif idx 0 l.length then some ((get (.int .i64) l 0,()),())
 else none
 else some (((-1),()),())
 else none
 else bif (n.1==16) then bif idx 0 l.length then oB (zA.sh F (get (.int .i64) l 0)) fun c_31=>
 bif c_31.1.1 then bif (zJ l.length (some 1) none).1 then oB (zy.sh F ((l.take (zJ l.length (some 1) none).2.2).drop (zJ l.length (some 1) none).2.1)) fun c_32=>
 some ((c_32.1.1,()),())
 else none
 else some (((-1),()),())
 else none
 else some (((-1),()),())
 else bif (n.1==7) then bif (n.1==7) then oB (zy.sh F l) fun c_33=>
 some ((c_33.1.1,()),())
 else bif (n.1==8) then bif idx 0 l.length then bif idx 1 l.length then oB (y4.sh F (get (.int .i64) l 0) (get (.int .i64) l 1)) fun c_34=>
 some ((c_34.1.1,()),())
 else none
 else none
 else bif (n.1==11) then bif (n.1==11) then bif idx 0 l.length then oB (zA.sh F (get (.int .i64) l 0)) fun c_35=>
 bif c_35.1.1 then bif idx 0 l.length then some ((get (.int .i64) l 0,()),())
 else none
 else some (((-1),()),())
 else none
 else bif (n.1==13) then bif (n.1==13) then bif idx 0 l.length then oB (zA.sh F (get (.int .i64) l 0)) fun c_36=>
 bif c_36.1.1 then some ((1,()),())
 else some (((-1),()),())
 else none
 else bif (n.1==15) then bif idx 0 l.length then bif ((get (.int .i64) l 0)==1) then bif idx 0 l.length then some ((get (.int .i64) l 0,()),())
 else none
 else some (((-1),()),())
 else none
 else bif (n.1==16) then bif idx 0 l.length then oB (zA.sh F (get (.int .i64) l 0)) fun c_37=>
 bif c_37.1.1 then bif (zJ l.length (some 1) none).1 then oB (zy.sh F ((l.take (zJ l.length (some 1) none).2.2).drop (zJ l.length (some 1) none).2.1)) fun c_38=>
 some ((c_38.1.1,()),())
 else none
 else some (((-1),()),())
 else none
 else some (((-1),()),())
 else bif (n.1==14) then bif idx 0 l.length then oB (zA.sh F (get (.int .i64) l 0)) fun c_39=>
 bif c_39.1.1 then some ((1,()),())
 else some (((-1),()),())
 else none
 else bif (n.1==15) then bif idx 0 l.length then bif ((get (.int .i64) l 0)==1) then bif idx 0 l.length then some ((get (.int .i64) l 0,()),())
 else none
 else some (((-1),()),())
 else none
 else bif (n.1==16) then bif idx 0 l.length then oB (zA.sh F (get (.int .i64) l 0)) fun c_40=>
 bif c_40.1.1 then bif (zJ l.length (some 1) none).1 then oB (zy.sh F ((l.take (zJ l.length (some 1) none).2.2).drop (zJ l.length (some 1) none).2.1)) fun c_41=>
 some ((c_41.1.1,()),())
 else none
 else some (((-1),()),())
 else none
 else some (((-1),()),())
 else bif (n.1==12) then bif idx 0 l.length then oB (zA.sh F (get (.int .i64) l 0)) fun c_42=>
 bif c_42.1.1 then bif idx 0 l.length then some ((get (.int .i64) l 0,()),())
 else none
 else some (((-1),()),())
 else none
 else bif (n.1==13) then bif (n.1==13) then bif idx 0 l.length then oB (zA.sh F (get (.int .i64) l 0)) fun c_43=>
 bif c_43.1.1 then some ((1,()),())
 else some (((-1),()),())
 else none
 else bif (n.1==15) then bif idx 0 l.length then bif ((get (.int .i64) l 0)==1) then bif idx 0 l.length then some ((get (.int .i64) l 0,()),())
 else none
 else some (((-1),()),())
 else none
 else bif (n.1==16) then bif idx 0 l.length then oB (zA.sh F (get (.int .i64) l 0)) fun c_44=>
 bif c_44.1.1 then bif (zJ l.length (some 1) none).1 then oB (zy.sh F ((l.take (zJ l.length (some 1) none).2.2).drop (zJ l.length (some 1) none).2.1)) fun c_45=>
 some ((c_45.1.1,()),())
 else none
 else some (((-1),()),())
 else none
 else some (((-1),()),())
 else bif (n.1==14) then bif idx 0 l.length then oB (zA.sh F (get (.int .i64) l 0)) fun c_46=>
 bif c_46.1.1 then some ((1,()),())
 else some (((-1),()),())
 else none
 else bif (n.1==15) then bif idx 0 l.length then bif ((get (.int .i64) l 0)==1) then bif idx 0 l.length then some ((get (.int .i64) l 0,()),())
 else none
 else some (((-1),()),())
 else none
 else bif (n.1==16) then bif idx 0 l.length then oB (zA.sh F (get (.int .i64) l 0)) fun c_47=>
 bif c_47.1.1 then bif (zJ l.length (some 1) none).1 then oB (zy.sh F ((l.take (zJ l.length (some 1) none).2.2).drop (zJ l.length (some 1) none).2.1)) fun c_48=>
 some ((c_48.1.1,()),())
 else none
 else some (((-1),()),())
 else none
 else some (((-1),()),())
 else bif (n.1==9) then bif (n.1==9) then oB (zy.sh F l) fun c_49=>
 some ((c_49.1.1,()),())
 else bif (n.1==8) then bif idx 0 l.length then bif idx 1 l.length then oB (y4.sh F (get (.int .i64) l 0) (get (.int .i64) l 1)) fun c_50=>
 some ((c_50.1.1,()),())
 else none
 else none
 else bif (n.1==11) then bif (n.1==11) then bif idx 0 l.length then oB (zA.sh F (get (.int .i64) l 0)) fun c_51=>
 bif c_51.1.1 then bif idx 0 l.length then some ((get (.int .i64) l 0,()),())
 else none
 else some (((-1),()),())
 else none
 else bif (n.1==13) then bif (n.1==13) then bif idx 0 l.length then oB (zA.sh F (get (.int .i64) l 0)) fun c_52=>
 bif c_52.1.1 then some ((1,()),())
 else some (((-1),()),())
 else none
 else bif (n.1==15) then bif idx 0 l.length then bif ((get (.int .i64) l 0)==1) then bif idx 0 l.length then some ((get (.int .i64) l 0,()),())
 else none
 else some (((-1),()),())
 else none
 else bif (n.1==16) then bif idx 0 l.length then oB (zA.sh F (get (.int .i64) l 0)) fun c_53=>
 bif c_53.1.1 then bif (zJ l.length (some 1) none).1 then oB (zy.sh F ((l.take (zJ l.length (some 1) none).2.2).drop (zJ l.length (some 1) none).2.1)) fun c_54=>
 some ((c_54.1.1,()),())
 else none
 else some (((-1),()),())
 else none
 else some (((-1),()),())
 else bif (n.1==14) then bif idx 0 l.length then oB (zA.sh F (get (.int .i64) l 0)) fun c_55=>
 bif c_55.1.1 then some ((1,()),())
 else some (((-1),()),())
 else none
 else bif (n.1==15) then bif idx 0 l.length then bif ((get (.int .i64) l 0)==1) then bif idx 0 l.length then some ((get (.int .i64) l 0,()),())
 else none
 else some (((-1),()),())
 else none
 else bif (n.1==16) then bif idx 0 l.length then oB (zA.sh F (get (.int .i64) l 0)) fun c_56=>
 bif c_56.1.1 then bif (zJ l.length (some 1) none).1 then oB (zy.sh F ((l.take (zJ l.length (some 1) none).2.2).drop (zJ l.length (some 1) none).2.1)) fun c_57=>
 some ((c_57.1.1,()),())
 else none
 else some (((-1),()),())
 else none
 else some (((-1),()),())
 else bif (n.1==12) then bif idx 0 l.length then oB (zA.sh F (get (.int .i64) l 0)) fun c_58=>
 bif c_58.1.1 then bif idx 0 l.length then some ((get (.int .i64) l 0,()),())
 else none
 else some (((-1),()),())
 else none
 else bif (n.1==13) then bif (n.1==13) then bif idx 0 l.length then oB (zA.sh F (get (.int .i64) l 0)) fun c_59=>
 bif c_59.1.1 then some ((1,()),())
 else some (((-1),()),())
 else none
 else bif (n.1==15) then bif idx 0 l.length then bif ((get (.int .i64) l 0)==1) then bif idx 0 l.length then some ((get (.int .i64) l 0,()),())
 else none
 else some (((-1),()),())
 else none
 else bif (n.1==16) then bif idx 0 l.length then oB (zA.sh F (get (.int .i64) l 0)) fun c_60=>
 bif c_60.1.1 then bif (zJ l.length (some 1) none).1 then oB (zy.sh F ((l.take (zJ l.length (some 1) none).2.2).drop (zJ l.length (some 1) none).2.1)) fun c_61=>
 some ((c_61.1.1,()),())
 else none
 else some (((-1),()),())
 else none
 else some (((-1),()),())
 else bif (n.1==14) then bif idx 0 l.length then oB (zA.sh F (get (.int .i64) l 0)) fun c_62=>
 bif c_62.1.1 then some ((1,()),())
 else some (((-1),()),())
 else none
 else bif (n.1==15) then bif idx 0 l.length then bif ((get (.int .i64) l 0)==1) then bif idx 0 l.length then some ((get (.int .i64) l 0,()),())
 else none
 else some (((-1),()),())
 else none
 else bif (n.1==16) then bif idx 0 l.length then oB (zA.sh F (get (.int .i64) l 0)) fun c_63=>
 bif c_63.1.1 then bif (zJ l.length (some 1) none).1 then oB (zy.sh F ((l.take (zJ l.length (some 1) none).2.2).drop (zJ l.length (some 1) none).2.1)) fun c_64=>
 some ((c_64.1.1,()),())
 else none
 else some (((-1),()),())
 else none
 else some (((-1),()),())
 else bif (n.1==10) then oB (zy.sh F l) fun c_65=>
 some ((c_65.1.1,()),())
 else bif (n.1==8) then bif idx 0 l.length then bif idx 1 l.length then oB (y4.sh F (get (.int .i64) l 0) (get (.int .i64) l 1)) fun c_66=>
 some ((c_66.1.1,()),())
 else none
 else none
 else bif (n.1==11) then bif (n.1==11) then bif idx 0 l.length then oB (zA.sh F (get (.int .i64) l 0)) fun c_67=>
 bif c_67.1.1 then bif idx 0 l.length then some ((get (.int .i64) l 0,()),())
 else none
 else some (((-1),()),())
 else none
 else bif (n.1==13) then bif (n.1==13) then bif idx 0 l.length then oB (zA.sh F (get (.int .i64) l 0)) fun c_68=>
 bif c_68.1.1 then some ((1,()),())
 else some (((-1),()),())
 else none
 else bif (n.1==15) then bif idx 0 l.length then bif ((get (.int .i64) l 0)==1) then bif idx 0 l.length then some ((get (.int .i64) l 0,()),())
 else none
 else some (((-1),()),())
 else none
 else bif (n.1==16) then bif idx 0 l.length then oB (zA.sh F (get (.int .i64) l 0)) fun c_69=>
 bif c_69.1.1 then bif (zJ l.length (some 1) none).1 then oB (zy.sh F ((l.take (zJ l.length (some 1) none).2.2).drop (zJ l.length (some 1) none).2.1)) fun c_70=>
 some ((c_70.1.1,()),())
 else none
 else some (((-1),()),())
 else none
 else some (((-1),()),())
 else bif (n.1==14) then bif idx 0 l.length then oB (zA.sh F (get (.int .i64) l 0)) fun c_71=>
 bif c_71.1.1 then some ((1,()),())
 else some (((-1),()),())
 else none
 else bif (n.1==15) then bif idx 0 l.length then bif ((get (.int .i64) l 0)==1) then bif idx 0 l.length then some ((get (.int .i64) l 0,()),())
 else none
 else some (((-1),()),())
 else none
 else bif (n.1==16) then bif idx 0 l.length then oB (zA.sh F (get (.int .i64) l 0)) fun c_72=>
 bif c_72.1.1 then bif (zJ l.length (some 1) none).1 then oB (zy.sh F ((l.take (zJ l.length (some 1) none).2.2).drop (zJ l.length (some 1) none).2.1)) fun c_73=>
 some ((c_73.1.1,()),())
 else none
 else some (((-1),()),())
 else none
 else some (((-1),()),())
 else bif (n.1==12) then bif idx 0 l.length then oB (zA.sh F (get (.int .i64) l 0)) fun c_74=>
 bif c_74.1.1 then bif idx 0 l.length then some ((get (.int .i64) l 0,()),())
 else none
 else some (((-1),()),())
 else none
 else bif (n.1==13) then bif (n.1==13) then bif idx 0 l.length then oB (zA.sh F (get (.int .i64) l 0)) fun c_75=>
 bif c_75.1.1 then some ((1,()),())
 else some (((-1),()),())
 else none
 else bif (n.1==15) then bif idx 0 l.length then bif ((get (.int .i64) l 0)==1) then bif idx 0 l.length then some ((get (.int .i64) l 0,()),())
 else none
 else some (((-1),()),())
 else none
 else bif (n.1==16) then bif idx 0 l.length then oB (zA.sh F (get (.int .i64) l 0)) fun c_76=>
 bif c_76.1.1 then bif (zJ l.length (some 1) none).1 then oB (zy.sh F ((l.take (zJ l.length (some 1) none).2.2).drop (zJ l.length (some 1) none).2.1)) fun c_77=>
 some ((c_77.1.1,()),())
 else none
 else some (((-1),()),())
 else none
 else some (((-1),()),())
 else bif (n.1==14) then bif idx 0 l.length then oB (zA.sh F (get (.int .i64) l 0)) fun c_78=>
 bif c_78.1.1 then some ((1,()),())
 else some (((-1),()),())
 else none
 else bif (n.1==15) then bif idx 0 l.length then bif ((get (.int .i64) l 0)==1) then bif idx 0 l.length then some ((get (.int .i64) l 0,()),())
 else none
 else some (((-1),()),())
 else none
 else bif (n.1==16) then bif idx 0 l.length then oB (zA.sh F (get (.int .i64) l 0)) fun c_79=>
 bif c_79.1.1 then bif (zJ l.length (some 1) none).1 then oB (zy.sh F ((l.take (zJ l.length (some 1) none).2.2).drop (zJ l.length (some 1) none).2.1)) fun c_80=>
 some ((c_80.1.1,()),())
 else none
 else some (((-1),()),())
 else none
 else some (((-1),()),())
def yv.sp:sP_ yv.sg:=fun x=>yv.sh F x.1 x.2.1
abbrev zk.sg:Sig:=⟨[.d (.g zO)],[.c (.sl (.int .i64)),.c (.int .i64),.c (.int .i64)]⟩
abbrev zk.l13.K0 (R:Type):Type:=(List Bool)->Int->(List Int)->Int->Int->Bool->zO.T->(List Int)->(List Int)->Option R
abbrev zk.l13.T (R:Type):Type:=(List Bool)->Int->(List Int)->Int->Int->zO.T->(List Int)->(List Int)->Option R
def zk.l13.y (k0:zk.l13.K0 R) (rec:zk.l13.T R) (fix:List Bool) (i:Int) (kids:List Int) (place:Int) (k:Int) (p:zO.T) (out:List Int) (where_:List Int):Option R:=
 bif decide (k>0) then bif idx place out.length then bif Nat.ble (([get (.int .i64) out place.toNat]:List Int).length+kids.length) wF then bif Nat.ble (where_.length+([place]:List Int).length) wF then oB (zI.sh F p place) fun c_4=>
 rec fix i (([get (.int .i64) out place.toNat]:List Int)++kids) (i64.wrap (c_4.1.1-1)) (i64.wrap (k-1)) p out (where_++([place]:List Int))
 else none
 else none
 else none
 else k0 fix i kids place k (decide (k>0)) p out where_
def zk.l13 {R:Type} (F:Nat) (k0:zk.l13.K0 R):Nat->zk.l13.T R
 | 0,_,_,_,_,_,_,_,_=>none
 | fu+1,fix,i,kids,place,k,p,out,where_=>zk.l13.y F k0 (zk.l13 F k0 fu) fix i kids place k p out where_
abbrev zk.l7.K0 (R:Type):Type:=(List Int)->Int->Int->Option R
abbrev zk.l7.K1 (R:Type):Type:=(List Int)->Int->Int->Option R
abbrev zk.l7.K2 (R:Type):Type:=(List Bool)->Int->Bool->zO.T->(List Int)->Option R
abbrev zk.l7.T (R:Type):Type:=(List Bool)->Int->zO.T->(List Int)->Option R
def zk.l7.y (k0:zk.l7.K0 R) (k1:zk.l7.K1 R) (k2:zk.l7.K2 R) (rec:zk.l7.T R) (fix:List Bool) (i:Int) (p:zO.T) (out:List Int):Option R:=
 bif decide (i<(p.2.2.2.length:Int)) then bif idx i p.2.2.2.length then oB (zq.sh F (get za p.2.2.2 i.toNat)) fun c_3=>
 zk.l13 F (fun fix5 i5 kids5 place5 k5 t465 p5 out5 where_5=>bif idx i5 p5.2.2.2.length then oB (yv.sh F (get za p5.2.2.2 i5.toNat) kids5) fun c_6=>
 bif (c_6.1.1==(-1)) then k0 ([]) i5 80
 else bif idx i5 p5.2.2.2.length then bif ((get za p5.2.2.2 i5.toNat).1==8) then bif idx 0 where_5.length then bif idx (get (.int .i64) where_5 0) fix5.length then bif !(get .bool fix5 ((get (.int .i64) where_5 0).toNat)) then bif idx 1 where_5.length then bif idx (get (.int .i64) where_5 1) fix5.length then bif !(get .bool fix5 ((get (.int .i64) where_5 1).toNat)) then k1 ([]) i5 81
 else bif Nat.ble (out5.length+([c_6.1.1]:List Int).length) wF then rec fix5 (i64.wrap (i5+1)) p5 (out5++([c_6.1.1]:List Int))
 else none
 else none
 else none
 else bif Nat.ble (out5.length+([c_6.1.1]:List Int).length) wF then rec fix5 (i64.wrap (i5+1)) p5 (out5++([c_6.1.1]:List Int))
 else none
 else none
 else none
 else bif Nat.ble (out5.length+([c_6.1.1]:List Int).length) wF then rec fix5 (i64.wrap (i5+1)) p5 (out5++([c_6.1.1]:List Int))
 else none
 else none
 else none) F fix i ([]) (i64.wrap (i-1)) c_3.1.1 p out ([])
 else none
 else k2 fix i (decide (i<(p.2.2.2.length:Int))) p out
def zk.l7 {R:Type} (F:Nat) (k0:zk.l7.K0 R) (k1:zk.l7.K1 R) (k2:zk.l7.K2 R):Nat->zk.l7.T R
 | 0,_,_,_,_=>none
 | fu+1,fix,i,p,out=>zk.l7.y F k0 k1 k2 (zk.l7 F k0 k1 k2 fu) fix i p out
def zk.j24 (F:Nat) (k0:(List Int)->Int->Int->Option R) (k1:(List Int)->Int->Int->Option R) (out:List Int):Option R:=
 bif idx (i64.wrap ((out.length:Int)-1)) out.length then bif ((get (.int .i64) out ((i64.wrap ((out.length:Int)-1)).toNat)) != 1) then k0 ([]) (i64.wrap ((out.length:Int)-1)) 80
 else k1 out 0 0
 else none
def zk.sh (p:zO.T):Option zk.sg.R:=
 oB (zW.sh F p) fun c_1=>
 bif (c_1.1.2.1 != 0) then some (([],c_1.1.1,c_1.1.2.1,()),())
 else oB (zi.sh F p) fun c_2=>
 zk.l7 F (fun r27 r37 r47=>some ((r27,r37,r47,()),())) (fun r28 r38 r48=>some ((r28,r38,r48,()),())) (fun fix9 i9 t349 p9 out9=>zk.j24 F (fun r210 r310 r410=>some ((r210,r310,r410,()),())) (fun r211 r311 r411=>some ((r211,r311,r411,()),())) out9) F c_2.1.1 0 p ([])
def zk.sp:sP_ zk.sg:=fun x=>zk.sh F x.1
abbrev zm.sg:Sig:=⟨[.d (.g zO)],[.c (.int .i64),.c (.int .i64)]⟩
abbrev zm.l6.K0 (R:Type):Type:=Int->Bool->zO.T->(List Int)->Option R
abbrev zm.l6.T (R:Type):Type:=Int->zO.T->(List Int)->Option R
def zm.l6.y (F:Nat) (k0:zm.l6.K0 R) (rec:zm.l6.T R) (i:Int) (p:zO.T) (deep:List Int):Option R:=
 bif decide (i<(p.2.2.2.length:Int)) then bif Nat.ble (deep.length+([0]:List Int).length) wF then rec (i64.wrap (i+1)) p (deep++([0]:List Int))
 else none
 else k0 i (decide (i<(p.2.2.2.length:Int))) p deep
def zm.l6 {R:Type} (F:Nat) (k0:zm.l6.K0 R):Nat->zm.l6.T R
 | 0,_,_,_=>none
 | fu+1,i,p,deep=>zm.l6.y F k0 (zm.l6 F k0 fu) i p deep
abbrev zm.l15.K0 (R:Type):Type:=Int->Int->Int->Bool->zO.T->(List Int)->Option R
abbrev zm.l15.T (R:Type):Type:=Int->Int->Int->zO.T->(List Int)->Option R
def zm.l15.y (F:Nat) (k0:zm.l15.K0 R) (rec:zm.l15.T R) (most:Int) (i:Int) (k:Int) (p:zO.T) (deep:List Int):Option R:=
 bif decide (k<=i) then bif idx k deep.length then bif idx k deep.length then bif idx k ((deep.set k.toNat (i64.wrap ((get (.int .i64) deep k.toNat)+1))).length) then bif decide ((get (.int .i64) (deep.set k.toNat (i64.wrap ((get (.int .i64) deep k.toNat)+1))) k.toNat)>most) then bif idx k ((deep.set k.toNat (i64.wrap ((get (.int .i64) deep k.toNat)+1))).length) then rec (get (.int .i64) (deep.set k.toNat (i64.wrap ((get (.int .i64) deep k.toNat)+1))) k.toNat) i (i64.wrap (k+1)) p (deep.set k.toNat (i64.wrap ((get (.int .i64) deep k.toNat)+1)))
 else none
 else rec most i (i64.wrap (k+1)) p (deep.set k.toNat (i64.wrap ((get (.int .i64) deep k.toNat)+1)))
 else none
 else none
 else none
 else k0 most i k (decide (k<=i)) p deep
def zm.l15 {R:Type} (F:Nat) (k0:zm.l15.K0 R):Nat->zm.l15.T R
 | 0,_,_,_,_,_=>none
 | fu+1,most,i,k,p,deep=>zm.l15.y F k0 (zm.l15 F k0 fu) most i k p deep
abbrev zm.l11.K0 (R:Type):Type:=Int->Int->Bool->zO.T->(List Int)->Option R
abbrev zm.l11.T (R:Type):Type:=Int->Int->zO.T->(List Int)->Option R
def zm.l11.y (k0:zm.l11.K0 R) (rec:zm.l11.T R) (most:Int) (i:Int) (p:zO.T) (deep:List Int):Option R:=
 bif decide (i<(p.2.2.2.length:Int)) then bif idx i p.2.2.2.length then bif ((get za p.2.2.2 i.toNat).1 != 15) then rec most (i64.wrap (i+1)) p deep
 else oB (zI.sh F p i) fun c_3=>
 zm.l15 F (fun most4 i4 k4 t484 p4 deep4=>rec most4 (i64.wrap (i4+1)) p4 deep4) F most i c_3.1.1 p deep
 else none
 else k0 most i (decide (i<(p.2.2.2.length:Int))) p deep
def zm.l11 {R:Type} (F:Nat) (k0:zm.l11.K0 R):Nat->zm.l11.T R
 | 0,_,_,_,_=>none
 | fu+1,most,i,p,deep=>zm.l11.y F k0 (zm.l11 F k0 fu) most i p deep
def zm.sh (p:zO.T):Option zm.sg.R:=
 oB (zW.sh F p) fun c_1=>
 bif (c_1.1.2.1 != 0) then some ((0,c_1.1.2.1,()),())
 else zm.l6 F (fun i2 t232 p2 deep2=>zm.l11 F (fun most5 i5 t335 p5 deep5=>some ((most5,0,()),())) F 0 0 p2 deep2) F 0 p ([])
def zm.sp:sP_ zm.sg:=fun x=>zm.sh F x.1
abbrev yf.sg:Sig:=⟨[.d (.c (.int .i64))],[.g zd]⟩
def yf.sh (F:Nat) (v:Int):Option yf.sg.R:=
 bif decide (v<0) then some ((((-1),u64.wrap v),()),())
 else some (((0,u64.wrap v),()),())
def yf.sp:sP_ yf.sg:=fun x=>yf.sh F x.1
abbrev zD.sg:Sig:=⟨[.d (.g zd)],[.a .u64]⟩
abbrev zD.l3.K0 (R:Type):Type:=Int->Bool->zd.T->(List Int)->(List Int)->Option R
abbrev zD.l3.T (R:Type):Type:=Int->zd.T->(List Int)->(List Int)->Option R
def zD.l3.y (F:Nat) (k0:zD.l3.K0 R) (rec:zD.l3.T R) (i:Int) (w:zd.T) (r2:List Int) (l:List Int):Option R:=
 bif decide (i<4) then bif decide (0<=(u64.wrap (i64.wrap (16*i)))) then bif (idx i 12&&Nat.beq 12 l.length) then bif decide (0<=(u64.wrap (i64.wrap (16*i)))) then bif (idx (i64.wrap (i+4)) 12&&Nat.beq 12 (l.set i.toNat ((w.2.fdiv (2^(min (u64.wrap (i64.wrap (16*i))).toNat IntKind.u64.bits))).tmod 65536)).length) then rec (i64.wrap (i+1)) w r2 ((l.set i.toNat ((w.2.fdiv (2^(min (u64.wrap (i64.wrap (16*i))).toNat IntKind.u64.bits))).tmod 65536)).set ((i64.wrap (i+4)).toNat) (((u64.wrap w.1).fdiv (2^(min (u64.wrap (i64.wrap (16*i))).toNat IntKind.u64.bits))).tmod 65536))
 else none
 else none
 else none
 else none
 else k0 i (decide (i<4)) w r2 l
def zD.l3 {R:Type} (F:Nat) (k0:zD.l3.K0 R):Nat->zD.l3.T R
 | 0,_,_,_,_=>none
 | fu+1,i,w,r2,l=>zD.l3.y F k0 (zD.l3 F k0 fu) i w r2 l
abbrev zD.l9.K0 (R:Type):Type:=Int->Bool->(List Int)->(List Int)->Option R
abbrev zD.l9.T (R:Type):Type:=Int->(List Int)->(List Int)->Option R
def zD.l9.y (F:Nat) (k0:zD.l9.K0 R) (rec:zD.l9.T R) (i:Int) (r2:List Int) (l:List Int):Option R:=
 bif decide (i<12) then bif (idx i 12&&Nat.beq 12 l.length) then rec (i64.wrap (i+1)) r2 (l.set i.toNat 65535)
 else none
 else k0 i (decide (i<12)) r2 l
def zD.l9 {R:Type} (F:Nat) (k0:zD.l9.K0 R):Nat->zD.l9.T R
 | 0,_,_,_=>none
 | fu+1,i,r2,l=>zD.l9.y F k0 (zD.l9 F k0 fu) i r2 l
def zD.sh (w:zd.T):Option zD.sg.R:=
 zD.l3 F (fun i1 t71 w1 r21 l1=>bif decide (w1.1<0) then zD.l9 F (fun i2 t342 r22 l2=>bif Nat.beq 12 l2.length then bif (Nat.beq l2.length r22.length&&Nat.beq 12 r22.length) then bif (Nat.beq 12 l2.length&&true) then some ((l2,()),())
 else none
 else none
 else none) F 8 r21 l1
 else bif Nat.beq 12 l1.length then bif (Nat.beq l1.length r21.length&&Nat.beq 12 r21.length) then bif (Nat.beq 12 l1.length&&true) then some ((l1,()),())
 else none
 else none
 else none) F 0 w (List.replicate 12 0) (List.replicate 12 0)
def zD.sp:sP_ zD.sg:=fun x=>zD.sh F x.1
abbrev xl.sg:Sig:=⟨[.d (.a .u64)],[.c .bool]⟩
def xl.sh (F:Nat) (a:List Int):Option xl.sg.R:=
 bif (idx 11 12&&Nat.beq 12 a.length) then some ((decide ((a.getD 11 0)>=32768),()),())
 else none
def xl.sp:sP_ xl.sg:=fun x=>xl.sh F x.1
abbrev z6.sg:Sig:=⟨[.d (.a .u64),.d (.a .u64)],[.a .u64]⟩
abbrev z6.l3.K0 (R:Type):Type:=Int->Int->Bool->(List Int)->(List Int)->(List Int)->Option R
abbrev z6.l3.T (R:Type):Type:=Int->Int->(List Int)->(List Int)->(List Int)->Option R
def z6.l3.y (F:Nat) (k0:z6.l3.K0 R) (rec:z6.l3.T R) (c:Int) (i:Int) (a:List Int) (b:List Int) (r4:List Int):Option R:=
 bif decide (i<12) then bif (idx i 12&&Nat.beq 12 a.length) then bif (idx i 12&&Nat.beq 12 b.length) then bif (idx i 12&&Nat.beq 12 a.length) then rec (u64.wrap ((u64.wrap ((u64.wrap (c+(a.getD i.toNat 0)))+(b.getD i.toNat 0))).tdiv 65536)) (i64.wrap (i+1)) (a.set i.toNat ((u64.wrap ((u64.wrap (c+(a.getD i.toNat 0)))+(b.getD i.toNat 0))).tmod 65536)) b r4
 else none
 else none
 else none
 else k0 c i (decide (i<12)) a b r4
def z6.l3 {R:Type} (F:Nat) (k0:z6.l3.K0 R):Nat->z6.l3.T R
 | 0,_,_,_,_,_=>none
 | fu+1,c,i,a,b,r4=>z6.l3.y F k0 (z6.l3 F k0 fu) c i a b r4
def z6.sh (a:List Int) (b:List Int):Option z6.sg.R:=
 z6.l3 F (fun c1 i1 t81 a1 b1 r41=>bif Nat.beq 12 a1.length then bif (Nat.beq a1.length r41.length&&Nat.beq 12 r41.length) then bif (Nat.beq 12 a1.length&&true) then some ((a1,()),())
 else none
 else none
 else none) F 0 0 a b (List.replicate 12 0)
def z6.sp:sP_ z6.sg:=fun x=>z6.sh F x.1 x.2.1
abbrev zR.sg:Sig:=⟨[.d (.a .u64)],[.a .u64]⟩
abbrev zR.l2.K0 (R:Type):Type:=Int->Bool->(List Int)->(List Int)->Option R
abbrev zR.l2.T (R:Type):Type:=Int->(List Int)->(List Int)->Option R
def zR.l2.y (F:Nat) (k0:zR.l2.K0 R) (rec:zR.l2.T R) (i:Int) (a:List Int) (r2:List Int):Option R:=
 bif decide (i<12) then bif (idx i 12&&Nat.beq 12 a.length) then bif (idx i 12&&Nat.beq 12 a.length) then rec (i64.wrap (i+1)) (a.set i.toNat (u64.wrap (65535-(a.getD i.toNat 0)))) r2
 else none
 else none
 else k0 i (decide (i<12)) a r2
def zR.l2 {R:Type} (F:Nat) (k0:zR.l2.K0 R):Nat->zR.l2.T R
 | 0,_,_,_=>none
 | fu+1,i,a,r2=>zR.l2.y F k0 (zR.l2 F k0 fu) i a r2
def zR.sh (a:List Int):Option zR.sg.R:=
 zR.l2 F (fun i1 t51 a1 r21=>bif Nat.beq 12 a1.length then oB (z6.sh F a1 ((List.replicate 12 0).set 0 1)) fun c_2=>
 bif (Nat.beq c_2.1.1.length r21.length&&Nat.beq 12 r21.length) then bif (Nat.beq 12 c_2.1.1.length&&true) then some ((c_2.1.1,()),())
 else none
 else none
 else none) F 0 a (List.replicate 12 0)
def zR.sp:sP_ zR.sg:=fun x=>zR.sh F x.1
abbrev zV.sg:Sig:=⟨[.d (.g zd)],[.c (.int .u64),.c (.int .u64)]⟩
abbrev zV.l7.K0 (R:Type):Type:=Int->Int->Int->Bool->(List Int)->Option R
abbrev zV.l7.T (R:Type):Type:=Int->Int->Int->(List Int)->Option R
def zV.l7.y (F:Nat) (k0:zV.l7.K0 R) (rec:zV.l7.T R) (hi:Int) (lo:Int) (i:Int) (l:List Int):Option R:=
 bif decide (i>=0) then bif (idx i 12&&Nat.beq 12 l.length) then bif (idx (i64.wrap (i+4)) 12&&Nat.beq 12 l.length) then rec (u64.wrap ((u64.wrap (hi*65536))+(l.getD ((i64.wrap (i+4)).toNat) 0))) (u64.wrap ((u64.wrap (lo*65536))+(l.getD i.toNat 0))) (i64.wrap (i-1)) l
 else none
 else none
 else k0 hi lo i (decide (i>=0)) l
def zV.l7 {R:Type} (F:Nat) (k0:zV.l7.K0 R):Nat->zV.l7.T R
 | 0,_,_,_,_=>none
 | fu+1,hi,lo,i,l=>zV.l7.y F k0 (zV.l7 F k0 fu) hi lo i l
def zV.j4 (k0:Int->Int->Option R) (l:List Int):Option R:=
 zV.l7 F (fun hi4 lo4 i4 t154 l4=>k0 hi4 lo4) F 0 0 3 l
def zV.sh (w:zd.T):Option zV.sg.R:=
 oB (zD.sh F w) fun c_1=>
 bif (Nat.beq c_1.1.1.length (List.replicate 12 0).length&&Nat.beq 12 (List.replicate 12 0).length) then bif Nat.beq 12 c_1.1.1.length then oB (xl.sh F c_1.1.1) fun c_2=>
 bif c_2.1.1 then bif Nat.beq 12 c_1.1.1.length then oB (zR.sh F c_1.1.1) fun c_3=>
 bif (Nat.beq c_3.1.1.length c_1.1.1.length&&Nat.beq 12 c_1.1.1.length) then zV.j4 F (fun r25 r35=>some ((r25,r35,()),())) c_3.1.1
 else none
 else none
 else zV.j4 F (fun r26 r36=>some ((r26,r36,()),())) c_1.1.1
 else none
 else none
def zV.sp:sP_ zV.sg:=fun x=>zV.sh F x.1
abbrev yn.sg:Sig:=⟨[.d (.c (.int .u64)),.d (.c (.int .u64))],[.a .u64]⟩
abbrev yn.l3.K0 (R:Type):Type:=Int->Int->Int->Bool->(List Int)->(List Int)->Option R
abbrev yn.l3.T (R:Type):Type:=Int->Int->Int->(List Int)->(List Int)->Option R
def yn.l3.y (F:Nat) (k0:yn.l3.K0 R) (rec:yn.l3.T R) (hi:Int) (lo:Int) (i:Int) (r4:List Int) (d:List Int):Option R:=
 bif decide (i<4) then bif decide (0<=(u64.wrap (i64.wrap (16*i)))) then bif (idx i 8&&Nat.beq 8 d.length) then bif decide (0<=(u64.wrap (i64.wrap (16*i)))) then bif (idx (i64.wrap (i+4)) 8&&Nat.beq 8 (d.set i.toNat ((lo.fdiv (2^(min (u64.wrap (i64.wrap (16*i))).toNat IntKind.u64.bits))).tmod 65536)).length) then rec hi lo (i64.wrap (i+1)) r4 ((d.set i.toNat ((lo.fdiv (2^(min (u64.wrap (i64.wrap (16*i))).toNat IntKind.u64.bits))).tmod 65536)).set ((i64.wrap (i+4)).toNat) ((hi.fdiv (2^(min (u64.wrap (i64.wrap (16*i))).toNat IntKind.u64.bits))).tmod 65536))
 else none
 else none
 else none
 else none
 else k0 hi lo i (decide (i<4)) r4 d
def yn.l3 {R:Type} (F:Nat) (k0:yn.l3.K0 R):Nat->yn.l3.T R
 | 0,_,_,_,_,_=>none
 | fu+1,hi,lo,i,r4,d=>yn.l3.y F k0 (yn.l3 F k0 fu) hi lo i r4 d
def yn.sh (hi:Int) (lo:Int):Option yn.sg.R:=
 yn.l3 F (fun hi1 lo1 i1 t81 r41 d1=>bif Nat.beq 8 d1.length then bif (Nat.beq d1.length r41.length&&Nat.beq 8 r41.length) then bif (Nat.beq 8 d1.length&&true) then some ((d1,()),())
 else none
 else none
 else none) F hi lo 0 (List.replicate 8 0) (List.replicate 8 0)
def yn.sp:sP_ yn.sg:=fun x=>yn.sh F x.1 x.2.1
abbrev zH.sg:Sig:=⟨[.d (.a .u64)],[.g zd,.c .bool]⟩
abbrev zH.l5.K0 (R:Type):Type:=Bool->zd.T->Option R
abbrev zH.l5.K1 (R:Type):Type:=Int->Int->Bool->(List Int)->zd.T->Option R
abbrev zH.l5.T (R:Type):Type:=Int->Int->(List Int)->zd.T->Option R
def zH.l5.y (F:Nat) (k0:zH.l5.K0 R) (k1:zH.l5.K1 R) (rec:zH.l5.T R) (top:Int) (i:Int) (l:List Int) (r2:zd.T):Option R:=
 bif decide (i<12) then bif (idx i 12&&Nat.beq 12 l.length) then bif ((l.getD i.toNat 0) != top) then k0 false (0,0)
 else rec top (i64.wrap (i+1)) l r2
 else none
 else k1 top i (decide (i<12)) l r2
def zH.l5 {R:Type} (F:Nat) (k0:zH.l5.K0 R) (k1:zH.l5.K1 R):Nat->zH.l5.T R
 | 0,_,_,_,_=>none
 | fu+1,top,i,l,r2=>zH.l5.y F k0 k1 (zH.l5 F k0 k1 fu) top i l r2
abbrev zH.l12.K0 (R:Type):Type:=Int->Int->Int->Bool->(List Int)->zd.T->Option R
abbrev zH.l12.T (R:Type):Type:=Int->Int->Int->(List Int)->zd.T->Option R
def zH.l12.y (F:Nat) (k0:zH.l12.K0 R) (rec:zH.l12.T R) (lo:Int) (hi:Int) (i:Int) (l:List Int) (r2:zd.T):Option R:=
 bif decide (i>=0) then bif (idx i 12&&Nat.beq 12 l.length) then bif (idx (i64.wrap (i+4)) 12&&Nat.beq 12 l.length) then rec (u64.wrap ((u64.wrap (lo*65536))+(l.getD i.toNat 0))) (u64.wrap ((u64.wrap (hi*65536))+(l.getD ((i64.wrap (i+4)).toNat) 0))) (i64.wrap (i-1)) l r2
 else none
 else none
 else k0 lo hi i (decide (i>=0)) l r2
def zH.l12 {R:Type} (F:Nat) (k0:zH.l12.K0 R):Nat->zH.l12.T R
 | 0,_,_,_,_,_=>none
 | fu+1,lo,hi,i,l,r2=>zH.l12.y F k0 (zH.l12 F k0 fu) lo hi i l r2
def zH.j4 (k0:Bool->zd.T->Option R) (k1:Bool->zd.T->Option R) (top:Int) (l:List Int) (r2:zd.T):Option R:=
 zH.l5 F (fun r31 r21=>k0 r31 r21) (fun top2 i2 t132 l2 r22=>zH.l12 F (fun lo3 hi3 i3 t233 l3 r23=>k1 true (i64.wrap hi3,lo3)) F 0 0 3 l2 r22) F top 8 l r2
def zH.sh (l:List Int):Option zH.sg.R:=
 bif (idx 7 12&&Nat.beq 12 l.length) then bif decide ((l.getD 7 0)>=32768) then zH.j4 F (fun r34 r24=>some ((r24,r34,()),())) (fun r35 r25=>some ((r25,r35,()),())) 65535 l (0,0)
 else zH.j4 F (fun r36 r26=>some ((r26,r36,()),())) (fun r37 r27=>some ((r27,r37,()),())) 0 l (0,0)
 else none
def zH.sp:sP_ zH.sg:=fun x=>zH.sh F x.1
abbrev yM.sg:Sig:=⟨[.d (.a .u64)],[.g zd,.c (.int .i64)]⟩
def yM.sh (l:List Int):Option yM.sg.R:=
 bif Nat.beq 12 l.length then oB (zH.sh F l) fun c_1=>
 bif !c_1.1.2.1 then some (((0,0),10,()),())
 else some ((c_1.1.1,0,()),())
 else none
def yM.sp:sP_ yM.sg:=fun x=>yM.sh F x.1
abbrev yg.sg:Sig:=⟨[.d (.c .bool),.d (.c (.int .u64)),.d (.c (.int .u64))],[.g zd,.c (.int .i64)]⟩
abbrev yg.l3.K0 (R:Type):Type:=Bool->Int->Int->Int->Bool->zd.T->(List Int)->Option R
abbrev yg.l3.T (R:Type):Type:=Bool->Int->Int->Int->zd.T->(List Int)->Option R
def yg.l3.y (F:Nat) (k0:yg.l3.K0 R) (rec:yg.l3.T R) (below:Bool) (hi:Int) (lo:Int) (i:Int) (r6:zd.T) (l:List Int):Option R:=
 bif decide (i<4) then bif decide (0<=(u64.wrap (i64.wrap (16*i)))) then bif (idx i 12&&Nat.beq 12 l.length) then bif decide (0<=(u64.wrap (i64.wrap (16*i)))) then bif (idx (i64.wrap (i+4)) 12&&Nat.beq 12 (l.set i.toNat ((lo.fdiv (2^(min (u64.wrap (i64.wrap (16*i))).toNat IntKind.u64.bits))).tmod 65536)).length) then rec below hi lo (i64.wrap (i+1)) r6 ((l.set i.toNat ((lo.fdiv (2^(min (u64.wrap (i64.wrap (16*i))).toNat IntKind.u64.bits))).tmod 65536)).set ((i64.wrap (i+4)).toNat) ((hi.fdiv (2^(min (u64.wrap (i64.wrap (16*i))).toNat IntKind.u64.bits))).tmod 65536))
 else none
 else none
 else none
 else none
 else k0 below hi lo i (decide (i<4)) r6 l
def yg.l3 {R:Type} (F:Nat) (k0:yg.l3.K0 R):Nat->yg.l3.T R
 | 0,_,_,_,_,_,_=>none
 | fu+1,below,hi,lo,i,r6,l=>yg.l3.y F k0 (yg.l3 F k0 fu) below hi lo i r6 l
def yg.sh (below:Bool) (hi:Int) (lo:Int):Option yg.sg.R:=
 yg.l3 F (fun below1 hi1 lo1 i1 t111 r61 l1=>bif below1 then bif Nat.beq 12 l1.length then oB (zR.sh F l1) fun c_2=>
 bif (Nat.beq c_2.1.1.length l1.length&&Nat.beq 12 l1.length) then bif Nat.beq 12 c_2.1.1.length then oB (yM.sh F c_2.1.1) fun c_3=>
 some ((c_3.1.1,c_3.1.2.1,()),())
 else none
 else none
 else none
 else bif Nat.beq 12 l1.length then oB (yM.sh F l1) fun c_4=>
 some ((c_4.1.1,c_4.1.2.1,()),())
 else none) F below hi lo 0 (0,0) (List.replicate 12 0)
def yg.sp:sP_ yg.sg:=fun x=>yg.sh F x.1 x.2.1 x.2.2.1
end Go.VS
