import Derived.Test.YtiliboioeieeoaaGreatDoorQP1
set_option linter.all false
set_option maxRecDepth 100000
namespace Go.VS
open Go IntKind
variable {R:Type} (F:Nat)
abbrev zl.sg:Sig:=⟨[.d (.g zd),.d (.g zd)],[.g zd,.c (.int .i64)]⟩
abbrev zl.l9.K0 (R:Type):Type:=Int->Int->Int->Bool->zd.T->zd.T->zd.T->(List Int)->(List Int)->(List Int)->Option R
abbrev zl.l9.T (R:Type):Type:=Int->Int->Int->zd.T->zd.T->zd.T->(List Int)->(List Int)->(List Int)->Option R
def zl.l9.y (F:Nat) (k0:zl.l9.K0 R) (rec:zl.l9.T R) (i:Int) (c:Int) (j:Int) (a:zd.T) (b:zd.T) (r4:zd.T) (x:List Int) (y:List Int) (p:List Int):Option R:=
 bif decide (j<8) then bif (idx (i64.wrap (i+j)) 17&&Nat.beq 17 p.length) then bif (idx i 8&&Nat.beq 8 x.length) then bif (idx j 8&&Nat.beq 8 y.length) then bif (idx (i64.wrap (i+j)) 17&&Nat.beq 17 p.length) then rec i (u64.wrap ((u64.wrap ((u64.wrap (c+(p.getD ((i64.wrap (i+j)).toNat) 0)))+(u64.wrap ((x.getD i.toNat 0)*(y.getD j.toNat 0))))).tdiv 65536)) (i64.wrap (j+1)) a b r4 x y (p.set ((i64.wrap (i+j)).toNat) ((u64.wrap ((u64.wrap (c+(p.getD ((i64.wrap (i+j)).toNat) 0)))+(u64.wrap ((x.getD i.toNat 0)*(y.getD j.toNat 0))))).tmod 65536))
 else none
 else none
 else none
 else none
 else k0 i c j (decide (j<8)) a b r4 x y p
def zl.l9 {R:Type} (F:Nat) (k0:zl.l9.K0 R):Nat->zl.l9.T R
 | 0,_,_,_,_,_,_,_,_,_=>none
 | fu+1,i,c,j,a,b,r4,x,y,p=>zl.l9.y F k0 (zl.l9 F k0 fu) i c j a b r4 x y p
abbrev zl.l5.K0 (R:Type):Type:=Int->Bool->zd.T->zd.T->zd.T->(List Int)->(List Int)->(List Int)->Option R
abbrev zl.l5.T (R:Type):Type:=Int->zd.T->zd.T->zd.T->(List Int)->(List Int)->(List Int)->Option R
def zl.l5.y (k0:zl.l5.K0 R) (rec:zl.l5.T R) (i:Int) (a:zd.T) (b:zd.T) (r4:zd.T) (x:List Int) (y:List Int) (p:List Int):Option R:=
 bif decide (i<8) then zl.l9 F (fun i5 c5 j5 t315 a5 b5 r45 x5 y5 p5=>bif (idx (i64.wrap (i5+8)) 17&&Nat.beq 17 p5.length) then rec (i64.wrap (i5+1)) a5 b5 r45 x5 y5 (p5.set ((i64.wrap (i5+8)).toNat) c5)
 else none) F i 0 0 a b r4 x y p
 else k0 i (decide (i<8)) a b r4 x y p
def zl.l5 {R:Type} (F:Nat) (k0:zl.l5.K0 R):Nat->zl.l5.T R
 | 0,_,_,_,_,_,_,_=>none
 | fu+1,i,a,b,r4,x,y,p=>zl.l5.y F k0 (zl.l5 F k0 fu) i a b r4 x y p
abbrev zl.l16.K1 (R:Type):Type:=Int->Bool->zd.T->zd.T->zd.T->(List Int)->Option R
abbrev zl.l16.T (R:Type):Type:=Int->zd.T->zd.T->zd.T->(List Int)->Option R
def zl.l16.y (F:Nat) (k0:Int->zd.T->Option R) (k1:zl.l16.K1 R) (rec:zl.l16.T R) (i:Int) (a:zd.T) (b:zd.T) (r4:zd.T) (p:List Int):Option R:=
 bif decide (i<17) then bif (idx i 17&&Nat.beq 17 p.length) then bif ((p.getD i.toNat 0) != 0) then k0 10 (0,0)
 else rec (i64.wrap (i+1)) a b r4 p
 else none
 else k1 i (decide (i<17)) a b r4 p
def zl.l16 {R:Type} (F:Nat) (k0:Int->zd.T->Option R) (k1:zl.l16.K1 R):Nat->zl.l16.T R
 | 0,_,_,_,_,_=>none
 | fu+1,i,a,b,r4,p=>zl.l16.y F k0 k1 (zl.l16 F k0 k1 fu) i a b r4 p
abbrev zl.l23.K0 (R:Type):Type:=Int->Int->Int->Bool->zd.T->zd.T->zd.T->(List Int)->Option R
abbrev zl.l23.T (R:Type):Type:=Int->Int->Int->zd.T->zd.T->zd.T->(List Int)->Option R
def zl.l23.y (F:Nat) (k0:zl.l23.K0 R) (rec:zl.l23.T R) (hi:Int) (lo:Int) (i:Int) (a:zd.T) (b:zd.T) (r4:zd.T) (p:List Int):Option R:=
 bif decide (i>=0) then bif (idx i 17&&Nat.beq 17 p.length) then bif (idx (i64.wrap (i+4)) 17&&Nat.beq 17 p.length) then rec (u64.wrap ((u64.wrap (hi*65536))+(p.getD ((i64.wrap (i+4)).toNat) 0))) (u64.wrap ((u64.wrap (lo*65536))+(p.getD i.toNat 0))) (i64.wrap (i-1)) a b r4 p
 else none
 else none
 else k0 hi lo i (decide (i>=0)) a b r4 p
def zl.l23 {R:Type} (F:Nat) (k0:zl.l23.K0 R):Nat->zl.l23.T R
 | 0,_,_,_,_,_,_,_=>none
 | fu+1,hi,lo,i,a,b,r4,p=>zl.l23.y F k0 (zl.l23 F k0 fu) hi lo i a b r4 p
def zl.sh (a:zd.T) (b:zd.T):Option zl.sg.R:=
 oB (zV.sh F a) fun c_1=>
 oB (yn.sh F c_1.1.1 c_1.1.2.1) fun c_2=>
 bif (Nat.beq c_2.1.1.length (List.replicate 8 0).length&&Nat.beq 8 (List.replicate 8 0).length) then oB (zV.sh F b) fun c_3=>
 oB (yn.sh F c_3.1.1 c_3.1.2.1) fun c_4=>
 bif (Nat.beq c_4.1.1.length (List.replicate 8 0).length&&Nat.beq 8 (List.replicate 8 0).length) then zl.l5 F (fun i6 t276 a6 b6 r46 x6 y6 p6=>zl.l16 F (fun r57 r47=>some ((r47,r57,()),())) (fun i8 t628 a8 b8 r48 p8=>zl.l23 F (fun hi9 lo9 i9 t719 a9 b9 r49 p9=>oB (yg.sh F (!(decide (a9.1<0)==decide (b9.1<0))) hi9 lo9) fun c_10=>
 some ((c_10.1.1,c_10.1.2.1,()),())) F 0 0 3 a8 b8 r48 p8) F 8 a6 b6 r46 p6) F 0 a b (0,0) c_2.1.1 c_4.1.1 (List.replicate 17 0)
 else none
 else none
def zl.sp:sP_ zl.sg:=fun x=>zl.sh F x.1 x.2.1
abbrev yd.sg:Sig:=⟨[.d (.c (.int .i64))],[.g zd,.c (.int .i64)]⟩
abbrev yd.l7.K0 (R:Type):Type:=Int->Int->Bool->zd.T->zd.T->Option R
abbrev yd.l7.T (R:Type):Type:=Int->Int->zd.T->zd.T->Option R
def yd.l7.y (k0:yd.l7.K0 R) (rec:yd.l7.T R) (k:Int) (i:Int) (r2:zd.T) (p:zd.T):Option R:=
 bif decide (i<k) then oB (yf.sh F 10000) fun c_2=>
 oB (zl.sh F p c_2.1.1) fun c_3=>
 rec k (i64.wrap (i+1)) r2 c_3.1.1
 else k0 k i (decide (i<k)) r2 p
def yd.l7 {R:Type} (F:Nat) (k0:yd.l7.K0 R):Nat->yd.l7.T R
 | 0,_,_,_,_=>none
 | fu+1,k,i,r2,p=>yd.l7.y F k0 (yd.l7 F k0 fu) k i r2 p
def yd.sh (k:Int):Option yd.sg.R:=
 bif decide (k<0) then some (((0,0),1,()),())
 else bif decide (k>9) then some (((0,0),10,()),())
 else oB (yf.sh F 1) fun c_1=>
 yd.l7 F (fun k4 i4 t154 r24 p4=>some ((p4,0,()),())) F k 0 (0,0) c_1.1.1
def yd.sp:sP_ yd.sg:=fun x=>yd.sh F x.1
abbrev yr.sg:Sig:=⟨[.d (.c (.int .i64))],[.g zg]⟩
def yr.sh (v:Int):Option yr.sg.R:=
 oB (yf.sh F v) fun c_1=>
 some (((c_1.1.1,false),()),())
def yr.sp:sP_ yr.sg:=fun x=>yr.sh F x.1
abbrev yQ.sg:Sig:=⟨[.d (.g zg),.d (.g zg)],[.g zg]⟩
def yQ.sh (a:zg.T) (b:zg.T):Option yQ.sg.R:=
 oB (zl.sh F a.1 b.1) fun c_1=>
 bif a.2 then some (((c_1.1.1,true),()),())
 else bif b.2 then some (((c_1.1.1,true),()),())
 else some (((c_1.1.1,(c_1.1.2.1 != 0)),()),())
def yQ.sp:sP_ yQ.sg:=fun x=>yQ.sh F x.1 x.2.1
abbrev y9.sg:Sig:=⟨[.d (.c (.int .i64)),.d (.c (.int .i64))],[.c (.int .i64)]⟩
def y9.sh (F:Nat) (q:Int) (size:Int):Option y9.sg.R:=
 bif (size != 0) then bif (size != 0) then bif ((q.tmod size) != 0) then some ((i64.wrap ((i64.wrap (q.tdiv size))+1),()),())
 else some ((i64.wrap (q.tdiv size),()),())
 else none
 else none
def y9.sp:sP_ y9.sg:=fun x=>y9.sh F x.1 x.2.1
abbrev xx.sg:Sig:=⟨[.d (.c (.int .i64))],[.c (.int .i64)]⟩
def xx.sh (F:Nat) (v:Int):Option xx.sg.R:=
 bif decide (v<0) then some ((i64.wrap (0-v),()),())
 else some ((v,()),())
def xx.sp:sP_ xx.sg:=fun x=>xx.sh F x.1
abbrev xy.sg:Sig:=⟨[.d (.g zd),.d (.g zd)],[.g zd,.c (.int .i64)]⟩
def xy.sh (a:zd.T) (b:zd.T):Option xy.sg.R:=
 oB (zD.sh F a) fun c_1=>
 oB (zD.sh F b) fun c_2=>
 oB (z6.sh F c_1.1.1 c_2.1.1) fun c_3=>
 oB (yM.sh F c_3.1.1) fun c_4=>
 some ((c_4.1.1,c_4.1.2.1,()),())
def xy.sp:sP_ xy.sg:=fun x=>xy.sh F x.1 x.2.1
abbrev yC.sg:Sig:=⟨[.d (.g zg),.d (.g zg)],[.g zg]⟩
def yC.sh (a:zg.T) (b:zg.T):Option yC.sg.R:=
 oB (xy.sh F a.1 b.1) fun c_1=>
 bif a.2 then some (((c_1.1.1,true),()),())
 else bif b.2 then some (((c_1.1.1,true),()),())
 else some (((c_1.1.1,(c_1.1.2.1 != 0)),()),())
def yC.sp:sP_ yC.sg:=fun x=>yC.sh F x.1 x.2.1
abbrev zE.sg:Sig:=⟨[.d (.g zg),.d (.g zg),.d (.b yp)],[.g zg]⟩
abbrev zE.l4.K0 (R:Type):Type:=(List yp.T)->Int->Int->Bool->zg.T->zg.T->zg.T->zg.T->Option R
abbrev zE.l4.T (R:Type):Type:=(List yp.T)->Int->Int->zg.T->zg.T->zg.T->zg.T->Option R
def zE.l4.y (k0:zE.l4.K0 R) (rec:zE.l4.T R) (l:List yp.T) (r:Int) (i:Int) (unit:zg.T) (x:zg.T) (r6:zg.T) (w:zg.T):Option R:=
 bif decide (i<(l.length:Int)) then bif idx i l.length then oB (xx.sh F (get yp l i.toNat).2) fun c_2=>
 bif decide (c_2.1.1>r) then bif idx i l.length then oB (xx.sh F (get yp l i.toNat).2) fun c_3=>
 bif decide (i<(i64.wrap ((l.length:Int)-1))) then bif idx i l.length then oB (xx.sh F (get yp l i.toNat).2) fun c_4=>
 oB (yr.sh F c_4.1.1) fun c_5=>
 bif idx (i64.wrap (i+1)) l.length then bif idx i l.length then oB (yr.sh F (i64.wrap ((get yp l ((i64.wrap (i+1)).toNat)).1-(get yp l i.toNat).1))) fun c_6=>
 oB (yQ.sh F c_5.1.1 c_6.1.1) fun c_7=>
 oB (yC.sh F w c_7.1.1) fun c_8=>
 rec l c_3.1.1 (i64.wrap (i+1)) unit x r6 c_8.1.1
 else none
 else none
 else none
 else rec l c_3.1.1 (i64.wrap (i+1)) unit x r6 w
 else none
 else bif decide (i<(i64.wrap ((l.length:Int)-1))) then bif idx i l.length then oB (xx.sh F (get yp l i.toNat).2) fun c_9=>
 oB (yr.sh F c_9.1.1) fun c_10=>
 bif idx (i64.wrap (i+1)) l.length then bif idx i l.length then oB (yr.sh F (i64.wrap ((get yp l ((i64.wrap (i+1)).toNat)).1-(get yp l i.toNat).1))) fun c_11=>
 oB (yQ.sh F c_10.1.1 c_11.1.1) fun c_12=>
 oB (yC.sh F w c_12.1.1) fun c_13=>
 rec l r (i64.wrap (i+1)) unit x r6 c_13.1.1
 else none
 else none
 else none
 else rec l r (i64.wrap (i+1)) unit x r6 w
 else none
 else k0 l r i (decide (i<(l.length:Int))) unit x r6 w
def zE.l4 {R:Type} (F:Nat) (k0:zE.l4.K0 R):Nat->zE.l4.T R
 | 0,_,_,_,_,_,_,_=>none
 | fu+1,l,r,i,unit,x,r6,w=>zE.l4.y F k0 (zE.l4 F k0 fu) l r i unit x r6 w
def zE.sh (unit:zg.T) (x:zg.T) (l:List yp.T):Option zE.sg.R:=
 oB (yr.sh F 0) fun c_1=>
 zE.l4 F (fun l14 r14 i14 t1414 unit14 x14 r614 w14=>oB (yr.sh F r14) fun c_15=>
 bif idx (i64.wrap ((l14.length:Int)-1)) l14.length then oB (yr.sh F (get yp l14 ((i64.wrap ((l14.length:Int)-1)).toNat)).1) fun c_16=>
 oB (yC.sh F x14 c_16.1.1) fun c_17=>
 oB (yQ.sh F c_15.1.1 c_17.1.1) fun c_18=>
 oB (yC.sh F c_18.1.1 w14) fun c_19=>
 oB (yQ.sh F unit14 c_19.1.1) fun c_20=>
 some ((c_20.1.1,()),())
 else none) F l 0 0 unit x ((0,0),false) c_1.1.1
def zE.sp:sP_ zE.sg:=fun x=>zE.sh F x.1 x.2.1 x.2.2.1
abbrev zz.sg:Sig:=⟨[.d (.g zO),.d (.g za),.d (.g zg),.d (.b zg)],[.g zg]⟩
abbrev zz.l20.K0 (R:Type):Type:=(List zg.T)->Int->Bool->za.T->zg.T->zg.T->Option R
abbrev zz.l20.T (R:Type):Type:=(List zg.T)->Int->za.T->zg.T->zg.T->Option R
def zz.l20.y (k0:zz.l20.K0 R) (rec:zz.l20.T R) (l:List zg.T) (i:Int) (n:za.T) (r8:zg.T) (s:zg.T):Option R:=
 bif decide (i<(l.length:Int)) then bif idx i l.length then oB (yC.sh F s (get zg l i.toNat)) fun c_10=>
 rec l (i64.wrap (i+1)) n r8 c_10.1.1
 else none
 else k0 l i (decide (i<(l.length:Int))) n r8 s
def zz.l20 {R:Type} (F:Nat) (k0:zz.l20.K0 R):Nat->zz.l20.T R
 | 0,_,_,_,_,_=>none
 | fu+1,l,i,n,r8,s=>zz.l20.y F k0 (zz.l20 F k0 fu) l i n r8 s
def zz.j18 (k0:zg.T->Option R) (l:List zg.T) (n:za.T) (r8:zg.T):Option R:=
 oB (yr.sh F 0) fun c_9=>
 zz.l20 F (fun l11 i11 t6811 n11 r811 s11=>bif (n11.1==11) then oB (yr.sh F n11.2.1) fun c_12=>
 oB (yC.sh F s11 c_12.1.1) fun c_13=>
 k0 c_13.1.1
 else bif (n11.1==12) then oB (yr.sh F n11.2.1) fun c_14=>
 oB (yC.sh F s11 c_14.1.1) fun c_15=>
 k0 c_15.1.1
 else bif (n11.1==16) then oB (yr.sh F n11.2.1) fun c_16=>
 oB (yC.sh F s11 c_16.1.1) fun c_17=>
 k0 c_17.1.1
 else k0 s11) F l 0 n r8 c_9.1.1
def zz.sh (p:zO.T) (n:za.T) (unit:zg.T) (l:List zg.T):Option zz.sg.R:=
 bif (n.1==1) then oB (yr.sh F n.2.1) fun c_1=>
 some ((c_1.1.1,()),())
 else bif (n.1==2) then oB (yr.sh F n.2.1) fun c_2=>
 oB (yQ.sh F c_2.1.1 unit) fun c_3=>
 some ((c_3.1.1,()),())
 else bif (n.1==3) then oB (yr.sh F 1099511627776) fun c_4=>
 some ((c_4.1.1,()),())
 else bif (n.1==4) then bif idx n.2.1 p.2.1.length then oB (y9.sh F 1099511627776 (get xB p.2.1 n.2.1.toNat).2) fun c_5=>
 oB (yr.sh F c_5.1.1) fun c_6=>
 some ((c_6.1.1,()),())
 else none
 else bif (n.1==5) then bif (n.1==5) then bif idx 0 l.length then some (((get zg l 0),()),())
 else none
 else bif (n.1==8) then bif idx 0 l.length then bif idx 1 l.length then oB (yQ.sh F (get zg l 0) (get zg l 1)) fun c_7=>
 some ((c_7.1.1,()),())
 else none
 else none
 else bif (n.1==13) then bif (n.1==13) then bif idx 0 l.length then oB (zE.sh F unit (get zg l 0) n.2.2.2.2.1) fun c_8=>
 some ((c_8.1.1,()),())
 else none
 else zz.j18 F (fun r818=>some ((r818,()),())) l n ((0,0),false)
 else bif (n.1==14) then bif idx 0 l.length then oB (zE.sh F unit (get zg l 0) n.2.2.2.2.1) fun c_19=>
 some ((c_19.1.1,()),())
 else none
 else zz.j18 F (fun r820=>some ((r820,()),())) l n ((0,0),false)
 else bif (n.1==15) then bif idx 0 l.length then some (((get zg l 0),()),())
 else none
 else bif (n.1==8) then bif idx 0 l.length then bif idx 1 l.length then oB (yQ.sh F (get zg l 0) (get zg l 1)) fun c_21=>
 some ((c_21.1.1,()),())
 else none
 else none
 else bif (n.1==13) then bif (n.1==13) then bif idx 0 l.length then oB (zE.sh F unit (get zg l 0) n.2.2.2.2.1) fun c_22=>
 some ((c_22.1.1,()),())
 else none
 else zz.j18 F (fun r823=>some ((r823,()),())) l n ((0,0),false)
 else bif (n.1==14) then bif idx 0 l.length then oB (zE.sh F unit (get zg l 0) n.2.2.2.2.1) fun c_24=>
 some ((c_24.1.1,()),())
 else none
 else zz.j18 F (fun r825=>some ((r825,()),())) l n ((0,0),false)
def zz.sp:sP_ zz.sg:=fun x=>zz.sh F x.1 x.2.1 x.2.2.1 x.2.2.2.1
abbrev xM.sg:Sig:=⟨[],[.g zd]⟩
def xM.sh (F:Nat):Option xM.sg.R:=
 some (((72057594037927936,0),()),())
def xM.sp:sP_ xM.sg:=fun x=>xM.sh F
abbrev yO.sg:Sig:=⟨[.d (.g zd),.d (.g zd)],[.c (.int .i64)]⟩
def yO.sh (a:zd.T) (b:zd.T):Option yO.sg.R:=
 oB (zD.sh F a) fun c_1=>
 oB (zD.sh F b) fun c_2=>
 oB (zR.sh F c_2.1.1) fun c_3=>
 oB (z6.sh F c_1.1.1 c_3.1.1) fun c_4=>
 bif (Nat.beq c_4.1.1.length (List.replicate 12 0).length&&Nat.beq 12 (List.replicate 12 0).length) then bif Nat.beq 12 c_4.1.1.length then oB (xl.sh F c_4.1.1) fun c_5=>
 bif c_5.1.1 then some (((-1),()),())
 else bif Nat.beq 12 c_4.1.1.length then bif (Nat.beq c_4.1.1.length (List.replicate 12 0).length&&Nat.beq c_4.1.1.length 12) then bif (c_4.1.1==List.replicate 12 0) then some ((0,()),())
 else some ((1,()),())
 else none
 else none
 else none
 else none
def yO.sp:sP_ yO.sg:=fun x=>yO.sh F x.1 x.2.1
abbrev zN.sg:Sig:=⟨[.d (.g zO)],[.c (.sl zd),.c (.int .i64),.c (.int .i64)]⟩
abbrev zN.l11.K0 (R:Type):Type:=(List zd.T)->Int->Int->Option R
abbrev zN.l11.K1 (R:Type):Type:=Int->Bool->zO.T->zd.T->(List zd.T)->(List zg.T)->Option R
abbrev zN.l11.T (R:Type):Type:=Int->zO.T->zd.T->(List zd.T)->(List zg.T)->Option R
def zN.l11.y (k0:zN.l11.K0 R) (k1:zN.l11.K1 R) (rec:zN.l11.T R) (i:Int) (p:zO.T) (s:zd.T) (out:List zd.T) (pile:List zg.T):Option R:=
 bif decide (i<(p.2.2.2.length:Int)) then bif idx i p.2.2.2.length then oB (zq.sh F (get za p.2.2.2 i.toNat)) fun c_4=>
 bif idx i p.2.2.2.length then bif (zJ pile.length (some (i64.wrap ((pile.length:Int)-c_4.1.1))) none).1 then oB (zz.sh F p (get za p.2.2.2 i.toNat) (s,false) ((List.take (zJ pile.length (some (i64.wrap ((pile.length:Int)-c_4.1.1))) none).2.2 pile).drop (zJ pile.length (some (i64.wrap ((pile.length:Int)-c_4.1.1))) none).2.1)) fun c_5=>
 bif idx i p.2.2.2.length then bif ((get za p.2.2.2 i.toNat).1==15) then oB (yr.sh F 10000) fun c_6=>
 oB (yQ.sh F c_5.1.1 c_6.1.1) fun c_7=>
 bif c_7.1.1.2 then k0 ([]) i 90
 else oB (xM.sh F) fun c_8=>
 oB (yO.sh F c_7.1.1.1 c_8.1.1) fun c_9=>
 bif decide (c_9.1.1>0) then k0 ([]) i 90
 else bif Nat.ble (out.length+([c_5.1.1.1]:List zd.T).length) wF then bif (zJ pile.length none (some (i64.wrap ((pile.length:Int)-c_4.1.1)))).1 then bif Nat.ble ((zJ pile.length none (some (i64.wrap ((pile.length:Int)-c_4.1.1)))).2.2+([c_5.1.1]:List zg.T).length) wF then rec (i64.wrap (i+1)) p s (out++([c_5.1.1.1]:List zd.T)) (pile.take (zJ pile.length none (some (i64.wrap ((pile.length:Int)-c_4.1.1)))).2.2++([c_5.1.1]:List zg.T))
 else none
 else none
 else none
 else bif c_5.1.1.2 then k0 ([]) i 90
 else oB (xM.sh F) fun c_10=>
 oB (yO.sh F c_5.1.1.1 c_10.1.1) fun c_11=>
 bif decide (c_11.1.1>0) then k0 ([]) i 90
 else bif Nat.ble (out.length+([c_5.1.1.1]:List zd.T).length) wF then bif (zJ pile.length none (some (i64.wrap ((pile.length:Int)-c_4.1.1)))).1 then bif Nat.ble ((zJ pile.length none (some (i64.wrap ((pile.length:Int)-c_4.1.1)))).2.2+([c_5.1.1]:List zg.T).length) wF then rec (i64.wrap (i+1)) p s (out++([c_5.1.1.1]:List zd.T)) (pile.take (zJ pile.length none (some (i64.wrap ((pile.length:Int)-c_4.1.1)))).2.2++([c_5.1.1]:List zg.T))
 else none
 else none
 else none
 else none
 else none
 else none
 else none
 else k1 i (decide (i<(p.2.2.2.length:Int))) p s out pile
def zN.l11 {R:Type} (F:Nat) (k0:zN.l11.K0 R) (k1:zN.l11.K1 R):Nat->zN.l11.T R
 | 0,_,_,_,_,_=>none
 | fu+1,i,p,s,out,pile=>zN.l11.y F k0 k1 (zN.l11 F k0 k1 fu) i p s out pile
def zN.j22 (F:Nat) (k0:(List zd.T)->Int->Int->Option R) (out:List zd.T):Option R:=
 k0 out 0 0
def zN.sh (p:zO.T):Option zN.sg.R:=
 oB (zk.sh F p) fun c_1=>
 bif (c_1.1.2.2.1 != 0) then some (([],c_1.1.2.1,c_1.1.2.2.1,()),())
 else oB (zm.sh F p) fun c_2=>
 bif decide (c_2.1.1>6) then some (([],i64.wrap ((p.2.2.2.length:Int)-1),90,()),())
 else oB (yd.sh F c_2.1.1) fun c_3=>
 zN.l11 F (fun r212 r312 r412=>some ((r212,r312,r412,()),())) (fun i13 t4813 p13 s13 out13 pile13=>zN.j22 F (fun r214 r314 r414=>some ((r214,r314,r414,()),())) out13) F 0 p c_3.1.1 ([]) ([])
def zN.sp:sP_ zN.sg:=fun x=>zN.sh F x.1
abbrev xg.sg:Sig:=⟨[.d (.g zO)],[.g zd,.c (.int .i64),.c (.int .i64)]⟩
def xg.sh (p:zO.T):Option xg.sg.R:=
 oB (zN.sh F p) fun c_1=>
 bif (c_1.1.2.2.1 != 0) then some (((0,0),c_1.1.2.1,c_1.1.2.2.1,()),())
 else oB (zm.sh F p) fun c_2=>
 oB (yd.sh F c_2.1.1) fun c_3=>
 some ((c_3.1.1,0,0,()),())
def xg.sp:sP_ xg.sg:=fun x=>xg.sh F x.1
abbrev xf.sg:Sig:=⟨[.d (.g zd),.d (.g zd)],[.g zd]⟩
def xf.sh (a:zd.T) (b:zd.T):Option xf.sg.R:=
 oB (zl.sh F a b) fun c_1=>
 some ((c_1.1.1,()),())
def xf.sp:sP_ xf.sg:=fun x=>xf.sh F x.1 x.2.1
abbrev xE.sg:Sig:=⟨[.d (.g zO),.d (.g za),.d (.g zd),.d (.b (.int .i64))],[.g zd]⟩
def xE.sh (p:zO.T) (n:za.T) (unit:zd.T) (q:List Int):Option xE.sg.R:=
 bif (n.1==1) then oB (yf.sh F n.2.1) fun c_1=>
 some ((c_1.1.1,()),())
 else bif (n.1==2) then oB (yf.sh F n.2.1) fun c_2=>
 oB (xf.sh F c_2.1.1 unit) fun c_3=>
 some ((c_3.1.1,()),())
 else bif (n.1==3) then bif idx n.2.1 q.length then oB (yf.sh F (get (.int .i64) q n.2.1.toNat)) fun c_4=>
 some ((c_4.1.1,()),())
 else none
 else bif idx n.2.1 q.length then bif idx n.2.1 p.2.1.length then oB (y9.sh F (get (.int .i64) q n.2.1.toNat) (get xB p.2.1 n.2.1.toNat).2) fun c_5=>
 oB (yf.sh F c_5.1.1) fun c_6=>
 some ((c_6.1.1,()),())
 else none
 else none
def xE.sp:sP_ xE.sg:=fun x=>xE.sh F x.1 x.2.1 x.2.2.1 x.2.2.2.1
abbrev xO.sg:Sig:=⟨[.d (.g zd),.d (.g zd)],[.g zd,.c (.int .i64)]⟩
def xO.sh (a:zd.T) (b:zd.T):Option xO.sg.R:=
 oB (zD.sh F a) fun c_1=>
 oB (zD.sh F b) fun c_2=>
 oB (zR.sh F c_2.1.1) fun c_3=>
 oB (z6.sh F c_1.1.1 c_3.1.1) fun c_4=>
 oB (yM.sh F c_4.1.1) fun c_5=>
 some ((c_5.1.1,c_5.1.2.1,()),())
def xO.sp:sP_ xO.sg:=fun x=>xO.sh F x.1 x.2.1
abbrev xk.sg:Sig:=⟨[.d (.g zd),.d (.g zd)],[.g zd]⟩
def xk.sh (a:zd.T) (b:zd.T):Option xk.sg.R:=
 oB (xO.sh F a b) fun c_1=>
 some ((c_1.1.1,()),())
def xk.sp:sP_ xk.sg:=fun x=>xk.sh F x.1 x.2.1
abbrev xF.sg:Sig:=⟨[.d (.g zd),.d (.g zd)],[.g zd]⟩
def xF.sh (a:zd.T) (b:zd.T):Option xF.sg.R:=
 oB (xy.sh F a b) fun c_1=>
 some ((c_1.1.1,()),())
def xF.sp:sP_ xF.sg:=fun x=>xF.sh F x.1 x.2.1
abbrev zL.sg:Sig:=⟨[.d (.b zd),.d (.c (.int .i64))],[.g zd]⟩
abbrev zL.l3.K0 (R:Type):Type:=(List zd.T)->Int->Int->Bool->zd.T->zd.T->Option R
abbrev zL.l3.T (R:Type):Type:=(List zd.T)->Int->Int->zd.T->zd.T->Option R
def zL.l3.y (k0:zL.l3.K0 R) (rec:zL.l3.T R) (l:List zd.T) (sign:Int) (i:Int) (r4:zd.T) (b:zd.T):Option R:=
 bif decide (i<(l.length:Int)) then bif idx i l.length then oB (yO.sh F (get zd l i.toNat) b) fun c_1=>
 bif (c_1.1.1==sign) then bif idx i l.length then rec l sign (i64.wrap (i+1)) r4 (get zd l i.toNat)
 else none
 else rec l sign (i64.wrap (i+1)) r4 b
 else none
 else k0 l sign i (decide (i<(l.length:Int))) r4 b
def zL.l3 {R:Type} (F:Nat) (k0:zL.l3.K0 R):Nat->zL.l3.T R
 | 0,_,_,_,_,_=>none
 | fu+1,l,sign,i,r4,b=>zL.l3.y F k0 (zL.l3 F k0 fu) l sign i r4 b
def zL.sh (l:List zd.T) (sign:Int):Option zL.sg.R:=
 bif idx 0 l.length then zL.l3 F (fun l2 sign2 i2 t132 r42 b2=>some ((b2,()),())) F l sign 1 (0,0) (get zd l 0)
 else none
def zL.sp:sP_ zL.sg:=fun x=>zL.sh F x.1 x.2.1
abbrev zU.sg:Sig:=⟨[.d (.b yp),.d (.g zd)],[.c (.int .i64)]⟩
abbrev zU.l3.K0 (R:Type):Type:=(List yp.T)->Int->Int->Bool->zd.T->Option R
abbrev zU.l3.T (R:Type):Type:=(List yp.T)->Int->Int->zd.T->Option R
def zU.l3.y (k0:zU.l3.K0 R) (rec:zU.l3.T R) (l:List yp.T) (k:Int) (i:Int) (x:zd.T):Option R:=
 bif decide (i<(l.length:Int)) then bif idx i l.length then oB (yf.sh F (get yp l i.toNat).1) fun c_1=>
 oB (yO.sh F c_1.1.1 x) fun c_2=>
 bif decide (c_2.1.1<0) then rec l i (i64.wrap (i+1)) x
 else rec l k (i64.wrap (i+1)) x
 else none
 else k0 l k i (decide (i<(l.length:Int))) x
def zU.l3 {R:Type} (F:Nat) (k0:zU.l3.K0 R):Nat->zU.l3.T R
 | 0,_,_,_,_=>none
 | fu+1,l,k,i,x=>zU.l3.y F k0 (zU.l3 F k0 fu) l k i x
def zU.sh (l:List yp.T) (x:zd.T):Option zU.sg.R:=
 zU.l3 F (fun l3 k3 i3 t103 x3=>some ((k3,()),())) F l (-1) 0 x
def zU.sp:sP_ zU.sg:=fun x=>zU.sh F x.1 x.2.1
abbrev zY.sg:Sig:=⟨[.d (.c (.int .i64)),.d (.b yp),.d (.g zd)],[.g zd]⟩
abbrev zY.l8.K0 (R:Type):Type:=(List yp.T)->Int->Int->Bool->zd.T->zd.T->Option R
abbrev zY.l8.T (R:Type):Type:=(List yp.T)->Int->Int->zd.T->zd.T->Option R
def zY.l8.y (k0:zY.l8.K0 R) (rec:zY.l8.T R) (l:List yp.T) (k:Int) (i:Int) (r6:zd.T) (s:zd.T):Option R:=
 bif decide (i<k) then bif idx i l.length then oB (yf.sh F (get yp l i.toNat).2) fun c_9=>
 bif idx (i64.wrap (i+1)) l.length then bif idx i l.length then oB (yf.sh F (i64.wrap ((get yp l ((i64.wrap (i+1)).toNat)).1-(get yp l i.toNat).1))) fun c_10=>
 oB (xf.sh F c_9.1.1 c_10.1.1) fun c_11=>
 oB (xF.sh F s c_11.1.1) fun c_12=>
 rec l k (i64.wrap (i+1)) r6 c_12.1.1
 else none
 else none
 else none
 else k0 l k i (decide (i<k)) r6 s
def zY.l8 {R:Type} (F:Nat) (k0:zY.l8.K0 R):Nat->zY.l8.T R
 | 0,_,_,_,_,_=>none
 | fu+1,l,k,i,r6,s=>zY.l8.y F k0 (zY.l8 F k0 fu) l k i r6 s
def zY.sh (kind:Int) (l:List yp.T) (x:zd.T):Option zY.sg.R:=
 oB (zU.sh F l x) fun c_1=>
 bif decide (c_1.1.1<0) then oB (yf.sh F 0) fun c_2=>
 some ((c_2.1.1,()),())
 else bif (kind==14) then bif idx c_1.1.1 l.length then oB (yf.sh F (get yp l c_1.1.1.toNat).2) fun c_3=>
 oB (xf.sh F x c_3.1.1) fun c_4=>
 some ((c_4.1.1,()),())
 else none
 else bif idx c_1.1.1 l.length then oB (yf.sh F (get yp l c_1.1.1.toNat).2) fun c_5=>
 bif idx c_1.1.1 l.length then oB (yf.sh F (get yp l c_1.1.1.toNat).1) fun c_6=>
 oB (xk.sh F x c_6.1.1) fun c_7=>
 oB (xf.sh F c_5.1.1 c_7.1.1) fun c_8=>
 zY.l8 F (fun l13 k13 i13 t4313 r613 s13=>some ((s13,()),())) F l c_1.1.1 0 (0,0) c_8.1.1
 else none
 else none
def zY.sp:sP_ zY.sg:=fun x=>zY.sh F x.1 x.2.1 x.2.2.1
abbrev yN.sg:Sig:=⟨[.d (.c (.int .u64)),.d (.c (.int .u64)),.d (.c (.int .u64))],[.c (.int .u64),.c (.int .u64)]⟩
def yN.sh (F:Nat) (hi:Int) (lo:Int) (bit:Int):Option yN.sg.R:=
 some ((u64.wrap ((u64.wrap (hi*2))+(lo.fdiv (2^(min (63:Int).toNat IntKind.u64.bits)))),u64.wrap ((u64.wrap (lo*2))+bit),()),())
def yN.sp:sP_ yN.sg:=fun x=>yN.sh F x.1 x.2.1 x.2.2.1
abbrev yP.sg:Sig:=⟨[.d (.c (.int .u64)),.d (.c (.int .u64)),.d (.c (.int .u64)),.d (.c (.int .u64))],[.c .bool]⟩
def yP.sh (F:Nat) (ah:Int) (al:Int) (bh:Int) (bl:Int):Option yP.sg.R:=
 bif decide (ah>bh) then some ((true,()),())
 else bif (ah==bh) then some ((decide (al>=bl),()),())
 else some ((false,()),())
def yP.sp:sP_ yP.sg:=fun x=>yP.sh F x.1 x.2.1 x.2.2.1 x.2.2.2.1
abbrev xt.sg:Sig:=⟨[.d (.c (.int .u64)),.d (.c (.int .u64)),.d (.c (.int .u64)),.d (.c (.int .u64))],[.c (.int .u64),.c (.int .u64)]⟩
def xt.sh (F:Nat) (ah:Int) (al:Int) (bh:Int) (bl:Int):Option xt.sg.R:=
 bif decide (al<bl) then some ((u64.wrap ((u64.wrap (ah-bh))-1),u64.wrap (al-bl),()),())
 else some ((u64.wrap (ah-bh),u64.wrap (al-bl),()),())
def xt.sp:sP_ xt.sg:=fun x=>xt.sh F x.1 x.2.1 x.2.2.1 x.2.2.2.1
abbrev zC.sg:Sig:=⟨[.d (.g zd),.d (.g zd)],[.g zd,.g zd,.c (.int .i64)]⟩
abbrev zC.l10.K0 (R:Type):Type:=Int->Int->Int->Int->Int->Int->Int->Int->Int->Bool->zd.T->zd.T->zd.T->zd.T->Option R
abbrev zC.l10.T (R:Type):Type:=Int->Int->Int->Int->Int->Int->Int->Int->Int->zd.T->zd.T->zd.T->zd.T->Option R
def zC.l10.y (k0:zC.l10.K0 R) (rec:zC.l10.T R) (ah:Int) (al:Int) (bh:Int) (bl:Int) (qh:Int) (ql:Int) (rh:Int) (rl:Int) (i:Int) (a:zd.T) (b:zd.T) (r4:zd.T) (r5:zd.T):Option R:=
 bif decide (i>=0) then bif decide (0<=(u64.wrap (i.tmod 64))) then bif decide (i>=64) then bif decide (0<=(u64.wrap (i.tmod 64))) then oB (yN.sh F rh rl ((ah.fdiv (2^(min (u64.wrap (i.tmod 64)).toNat IntKind.u64.bits))).tmod 2)) fun c_3=>
 oB (yP.sh F c_3.1.1 c_3.1.2.1 bh bl) fun c_4=>
 bif c_4.1.1 then oB (xt.sh F c_3.1.1 c_3.1.2.1 bh bl) fun c_5=>
 oB (yN.sh F qh ql 1) fun c_6=>
 rec ah al bh bl c_6.1.1 c_6.1.2.1 c_5.1.1 c_5.1.2.1 (i64.wrap (i-1)) a b r4 r5
 else oB (yN.sh F qh ql 0) fun c_7=>
 rec ah al bh bl c_7.1.1 c_7.1.2.1 c_3.1.1 c_3.1.2.1 (i64.wrap (i-1)) a b r4 r5
 else none
 else oB (yN.sh F rh rl ((al.fdiv (2^(min (u64.wrap (i.tmod 64)).toNat IntKind.u64.bits))).tmod 2)) fun c_8=>
 oB (yP.sh F c_8.1.1 c_8.1.2.1 bh bl) fun c_9=>
 bif c_9.1.1 then oB (xt.sh F c_8.1.1 c_8.1.2.1 bh bl) fun c_10=>
 oB (yN.sh F qh ql 1) fun c_11=>
 rec ah al bh bl c_11.1.1 c_11.1.2.1 c_10.1.1 c_10.1.2.1 (i64.wrap (i-1)) a b r4 r5
 else oB (yN.sh F qh ql 0) fun c_12=>
 rec ah al bh bl c_12.1.1 c_12.1.2.1 c_8.1.1 c_8.1.2.1 (i64.wrap (i-1)) a b r4 r5
 else none
 else k0 ah al bh bl qh ql rh rl i (decide (i>=0)) a b r4 r5
def zC.l10 {R:Type} (F:Nat) (k0:zC.l10.K0 R):Nat->zC.l10.T R
 | 0,_,_,_,_,_,_,_,_,_,_,_,_,_=>none
 | fu+1,ah,al,bh,bl,qh,ql,rh,rl,i,a,b,r4,r5=>zC.l10.y F k0 (zC.l10 F k0 fu) ah al bh bl qh ql rh rl i a b r4 r5
def zC.j3 (k0:Int->zd.T->zd.T->Option R) (k1:Int->zd.T->zd.T->Option R) (a:zd.T) (b:zd.T) (r4:zd.T) (r5:zd.T):Option R:=
 oB (zV.sh F a) fun c_1=>
 oB (zV.sh F b) fun c_2=>
 zC.l10 F (fun ah13 al13 bh13 bl13 qh13 ql13 rh13 rl13 i13 t4213 a13 b13 r413 r513=>oB (yg.sh F (!(decide (a13.1<0)==decide (b13.1<0))) qh13 ql13) fun c_14=>
 bif (c_14.1.2.1 != 0) then k0 c_14.1.2.1 (0,0) (0,0)
 else oB (yg.sh F (decide (a13.1<0)) rh13 rl13) fun c_15=>
 k1 0 c_14.1.1 c_15.1.1) F c_1.1.1 c_1.1.2.1 c_2.1.1 c_2.1.2.1 0 0 0 0 127 a b r4 r5
def zC.sh (a:zd.T) (b:zd.T):Option zC.sg.R:=
 bif (b.1==0) then bif (b.2==0) then some (((0,0),(0,0),20,()),())
 else zC.j3 F (fun r616 r416 r516=>some ((r416,r516,r616,()),())) (fun r617 r417 r517=>some ((r417,r517,r617,()),())) a b (0,0) (0,0)
 else zC.j3 F (fun r618 r418 r518=>some ((r418,r518,r618,()),())) (fun r619 r419 r519=>some ((r419,r519,r619,()),())) a b (0,0) (0,0)
def zC.sp:sP_ zC.sg:=fun x=>zC.sh F x.1 x.2.1
abbrev xp.sg:Sig:=⟨[.d (.g zd),.d (.g zd),.d (.g zd),.d (.c (.int .i64))],[.c .bool]⟩
def xp.sh (q:zd.T) (r:zd.T) (b:zd.T) (mode:Int):Option xp.sg.R:=
 oB (zV.sh F r) fun c_1=>
 oB (zV.sh F b) fun c_2=>
 oB (xt.sh F c_2.1.1 c_2.1.2.1 c_1.1.1 c_1.1.2.1) fun c_3=>
 bif (c_1.1.1==c_3.1.1) then bif (c_1.1.2.1==c_3.1.2.1) then bif (mode==3) then some ((true,()),())
 else some ((((q.2.tmod 2)==1),()),())
 else oB (yP.sh F c_1.1.1 c_1.1.2.1 c_3.1.1 c_3.1.2.1) fun c_4=>
 some ((c_4.1.1,()),())
 else oB (yP.sh F c_1.1.1 c_1.1.2.1 c_3.1.1 c_3.1.2.1) fun c_5=>
 some ((c_5.1.1,()),())
def xp.sp:sP_ xp.sg:=fun x=>xp.sh F x.1 x.2.1 x.2.2.1 x.2.2.2.1
abbrev yk.sg:Sig:=⟨[.d (.g zd),.d (.g zd),.d (.c (.int .i64))],[.g zd,.c (.int .i64)]⟩
def yk.j18 (k0:Int->zd.T->Option R) (k1:Int->zd.T->Option R) (k2:Int->zd.T->Option R) (below:Bool) (further:Bool) (r6:zd.T) (q:zd.T):Option R:=
 bif !further then k0 0 q
 else bif below then oB (yf.sh F 1) fun c_2=>
 oB (xO.sh F q c_2.1.1) fun c_3=>
 k1 c_3.1.2.1 c_3.1.1
 else oB (yf.sh F 1) fun c_4=>
 oB (xy.sh F q c_4.1.1) fun c_5=>
 k2 c_5.1.2.1 c_5.1.1
def yk.j8 (k0:Int->zd.T->Option R) (k1:Int->zd.T->Option R) (k2:Int->zd.T->Option R) (mode:Int) (a:zd.T) (b:zd.T) (r6:zd.T) (q:zd.T) (r:zd.T):Option R:=
 bif (mode==0) then yk.j18 F (fun r76 r66=>k0 r76 r66) (fun r77 r67=>k1 r77 r67) (fun r78 r68=>k2 r78 r68) (!(decide (a.1<0)==decide (b.1<0))) (!(decide (a.1<0)==decide (b.1<0))) r6 q
 else bif (mode==1) then yk.j18 F (fun r79 r69=>k0 r79 r69) (fun r710 r610=>k1 r710 r610) (fun r711 r611=>k2 r711 r611) (!(decide (a.1<0)==decide (b.1<0))) (!(!(decide (a.1<0)==decide (b.1<0)))) r6 q
 else bif (mode==3) then bif (mode==3) then oB (xp.sh F q r b mode) fun c_12=>
 yk.j18 F (fun r713 r613=>k0 r713 r613) (fun r714 r614=>k1 r714 r614) (fun r715 r615=>k2 r715 r615) (!(decide (a.1<0)==decide (b.1<0))) c_12.1.1 r6 q
 else yk.j18 F (fun r716 r616=>k0 r716 r616) (fun r717 r617=>k1 r717 r617) (fun r718 r618=>k2 r718 r618) (!(decide (a.1<0)==decide (b.1<0))) false r6 q
 else bif (mode==4) then oB (xp.sh F q r b mode) fun c_19=>
 yk.j18 F (fun r720 r620=>k0 r720 r620) (fun r721 r621=>k1 r721 r621) (fun r722 r622=>k2 r722 r622) (!(decide (a.1<0)==decide (b.1<0))) c_19.1.1 r6 q
 else yk.j18 F (fun r723 r623=>k0 r723 r623) (fun r724 r624=>k1 r724 r624) (fun r725 r625=>k2 r725 r625) (!(decide (a.1<0)==decide (b.1<0))) false r6 q
def yk.sh (a:zd.T) (b:zd.T) (mode:Int):Option yk.sg.R:=
 bif decide (mode<0) then some (((0,0),1,()),())
 else bif decide (mode>4) then some (((0,0),1,()),())
 else oB (zC.sh F a b) fun c_1=>
 bif (c_1.1.2.2.1 != 0) then some (((0,0),c_1.1.2.2.1,()),())
 else bif (c_1.1.2.1.1==0) then bif (c_1.1.2.1.2==0) then some ((c_1.1.1,0,()),())
 else yk.j8 F (fun r726 r626=>some ((r626,r726,()),())) (fun r727 r627=>some ((r627,r727,()),())) (fun r728 r628=>some ((r628,r728,()),())) mode a b (0,0) c_1.1.1 c_1.1.2.1
 else yk.j8 F (fun r729 r629=>some ((r629,r729,()),())) (fun r730 r630=>some ((r630,r730,()),())) (fun r731 r631=>some ((r631,r731,()),())) mode a b (0,0) c_1.1.1 c_1.1.2.1
def yk.sp:sP_ yk.sg:=fun x=>yk.sh F x.1 x.2.1 x.2.2.1
abbrev xL.sg:Sig:=⟨[.d (.g zd),.d (.c (.int .i64)),.d (.c (.int .i64))],[.c .bool]⟩
def xL.sh (x:zd.T) (n:Int) (op:Int):Option xL.sg.R:=
 oB (yf.sh F n) fun c_1=>
 oB (yO.sh F x c_1.1.1) fun c_2=>
 bif (op==1) then some ((decide (c_2.1.1<0),()),())
 else bif (op==2) then some ((decide (c_2.1.1<=0),()),())
 else bif (op==3) then some ((decide (c_2.1.1>0),()),())
 else bif (op==4) then some ((decide (c_2.1.1>=0),()),())
 else bif (op==5) then some (((c_2.1.1==0),()),())
 else some (((c_2.1.1 != 0),()),())
def xL.sp:sP_ xL.sg:=fun x=>xL.sh F x.1 x.2.1 x.2.2.1
abbrev yo.sg:Sig:=⟨[.d (.g za),.d (.g zd),.d (.b zd)],[.g zd]⟩
def yo.j26 (k0:zd.T->Option R) (k1:zd.T->Option R) (k:List zd.T) (n:za.T) (r6:zd.T):Option R:=
 bif idx 0 k.length then oB (xL.sh F (get zd k 0) n.2.1 n.2.2.1) fun c_18=>
 bif c_18.1.1 then bif idx 1 k.length then k0 (get zd k 1)
 else none
 else bif idx 2 k.length then k1 (get zd k 2)
 else none
 else none
def yo.sh (n:za.T) (unit:zd.T) (k:List zd.T):Option yo.sg.R:=
 oB (yf.sh F 0) fun c_1=>
 oB (yf.sh F n.2.1) fun c_2=>
 bif (n.1==5) then bif idx 0 k.length then oB (xk.sh F c_1.1.1 (get zd k 0)) fun c_3=>
 some ((c_3.1.1,()),())
 else none
 else bif (n.1==6) then bif idx 0 k.length then bif idx 1 k.length then oB (xF.sh F (get zd k 0) (get zd k 1)) fun c_4=>
 some ((c_4.1.1,()),())
 else none
 else none
 else bif (n.1==7) then bif idx 0 k.length then bif idx 1 k.length then oB (xk.sh F (get zd k 0) (get zd k 1)) fun c_5=>
 some ((c_5.1.1,()),())
 else none
 else none
 else bif (n.1==8) then bif idx 0 k.length then bif idx 1 k.length then oB (xf.sh F (get zd k 0) (get zd k 1)) fun c_6=>
 some ((c_6.1.1,()),())
 else none
 else none
 else bif (n.1==9) then oB (zL.sh F k (-1)) fun c_7=>
 some ((c_7.1.1,()),())
 else bif (n.1==10) then oB (zL.sh F k 1) fun c_8=>
 some ((c_8.1.1,()),())
 else bif (n.1==11) then bif idx 0 k.length then oB (xk.sh F (get zd k 0) c_2.1.1) fun c_9=>
 oB (zL.sh F ([c_9.1.1,c_1.1.1]:List zd.T) 1) fun c_10=>
 some ((c_10.1.1,()),())
 else none
 else bif (n.1==12) then bif idx 0 k.length then oB (zL.sh F ([(get zd k 0),c_2.1.1]:List zd.T) (-1)) fun c_11=>
 some ((c_11.1.1,()),())
 else none
 else bif (n.1==13) then bif (n.1==13) then bif idx 0 k.length then oB (zY.sh F n.1 n.2.2.2.2.1 (get zd k 0)) fun c_12=>
 oB (xf.sh F unit c_12.1.1) fun c_13=>
 some ((c_13.1.1,()),())
 else none
 else bif (n.1==15) then bif idx 0 k.length then oB (yf.sh F (i64.wrap (10000-n.2.1))) fun c_14=>
 oB (xf.sh F (get zd k 0) c_14.1.1) fun c_15=>
 oB (yf.sh F 10000) fun c_16=>
 oB (yk.sh F c_15.1.1 c_16.1.1 0) fun c_17=>
 some ((c_17.1.1,()),())
 else none
 else yo.j26 F (fun r619=>some ((r619,()),())) (fun r620=>some ((r620,()),())) k n (0,0)
 else bif (n.1==14) then bif idx 0 k.length then oB (zY.sh F n.1 n.2.2.2.2.1 (get zd k 0)) fun c_21=>
 oB (xf.sh F unit c_21.1.1) fun c_22=>
 some ((c_22.1.1,()),())
 else none
 else bif (n.1==15) then bif idx 0 k.length then oB (yf.sh F (i64.wrap (10000-n.2.1))) fun c_23=>
 oB (xf.sh F (get zd k 0) c_23.1.1) fun c_24=>
 oB (yf.sh F 10000) fun c_25=>
 oB (yk.sh F c_24.1.1 c_25.1.1 0) fun c_26=>
 some ((c_26.1.1,()),())
 else none
 else yo.j26 F (fun r627=>some ((r627,()),())) (fun r628=>some ((r628,()),())) k n (0,0)
def yo.sp:sP_ yo.sg:=fun x=>yo.sh F x.1 x.2.1 x.2.2.1
abbrev zf.sg:Sig:=⟨[.d (.g zO),.d (.b (.int .i64))],[.c (.sl zd),.c (.int .i64)]⟩
abbrev zf.l7.K0 (R:Type):Type:=(List zd.T)->Int->Option R
abbrev zf.l7.K1 (R:Type):Type:=(List Int)->Int->Bool->zO.T->zd.T->Option R
abbrev zf.l7.T (R:Type):Type:=(List Int)->Int->zO.T->zd.T->Option R
def zf.l7.y (F:Nat) (k0:zf.l7.K0 R) (k1:zf.l7.K1 R) (rec:zf.l7.T R) (q:List Int) (i:Int) (p:zO.T) (unit:zd.T):Option R:=
 bif decide (i<(q.length:Int)) then bif idx i q.length then bif decide ((get (.int .i64) q i.toNat)<0) then k0 ([]) 101
 else bif idx i q.length then bif decide ((get (.int .i64) q i.toNat)>1099511627776) then k0 ([]) 101
 else rec q (i64.wrap (i+1)) p unit
 else none
 else none
 else k1 q i (decide (i<(q.length:Int))) p unit
def zf.l7 {R:Type} (F:Nat) (k0:zf.l7.K0 R) (k1:zf.l7.K1 R):Nat->zf.l7.T R
 | 0,_,_,_,_=>none
 | fu+1,q,i,p,unit=>zf.l7.y F k0 k1 (zf.l7 F k0 k1 fu) q i p unit
abbrev zf.l14.K0 (R:Type):Type:=(List Int)->Int->Bool->zO.T->zd.T->(List zd.T)->(List zd.T)->Option R
abbrev zf.l14.T (R:Type):Type:=(List Int)->Int->zO.T->zd.T->(List zd.T)->(List zd.T)->Option R
def zf.l14.y (k0:zf.l14.K0 R) (rec:zf.l14.T R) (q:List Int) (i:Int) (p:zO.T) (unit:zd.T) (out:List zd.T) (pile:List zd.T):Option R:=
 bif decide (i<(p.2.2.2.length:Int)) then bif idx i p.2.2.2.length then oB (zq.sh F (get za p.2.2.2 i.toNat)) fun c_4=>
 bif ((i64.wrap ((pile.length:Int)-c_4.1.1))==(pile.length:Int)) then oB (xE.sh F p (get za p.2.2.2 i.toNat) unit q) fun c_5=>
 bif Nat.ble (out.length+([c_5.1.1]:List zd.T).length) wF then bif (zJ pile.length none (some (i64.wrap ((pile.length:Int)-c_4.1.1)))).1 then bif Nat.ble ((zJ pile.length none (some (i64.wrap ((pile.length:Int)-c_4.1.1)))).2.2+([c_5.1.1]:List zd.T).length) wF then rec q (i64.wrap (i+1)) p unit (out++([c_5.1.1]:List zd.T)) (pile.take (zJ pile.length none (some (i64.wrap ((pile.length:Int)-c_4.1.1)))).2.2++([c_5.1.1]:List zd.T))
 else none
 else none
 else none
 else bif (zJ pile.length (some (i64.wrap ((pile.length:Int)-c_4.1.1))) none).1 then oB (yo.sh F (get za p.2.2.2 i.toNat) unit ((List.take (zJ pile.length (some (i64.wrap ((pile.length:Int)-c_4.1.1))) none).2.2 pile).drop (zJ pile.length (some (i64.wrap ((pile.length:Int)-c_4.1.1))) none).2.1)) fun c_6=>
 bif Nat.ble (out.length+([c_6.1.1]:List zd.T).length) wF then bif (zJ pile.length none (some (i64.wrap ((pile.length:Int)-c_4.1.1)))).1 then bif Nat.ble ((zJ pile.length none (some (i64.wrap ((pile.length:Int)-c_4.1.1)))).2.2+([c_6.1.1]:List zd.T).length) wF then rec q (i64.wrap (i+1)) p unit (out++([c_6.1.1]:List zd.T)) (pile.take (zJ pile.length none (some (i64.wrap ((pile.length:Int)-c_4.1.1)))).2.2++([c_6.1.1]:List zd.T))
 else none
 else none
 else none
 else none
 else none
 else k0 q i (decide (i<(p.2.2.2.length:Int))) p unit out pile
def zf.l14 {R:Type} (F:Nat) (k0:zf.l14.K0 R):Nat->zf.l14.T R
 | 0,_,_,_,_,_,_=>none
 | fu+1,q,i,p,unit,out,pile=>zf.l14.y F k0 (zf.l14 F k0 fu) q i p unit out pile
def zf.j24 (F:Nat) (k0:(List zd.T)->Int->Option R) (out:List zd.T):Option R:=
 k0 out 0
def zf.sh (p:zO.T) (q:List Int):Option zf.sg.R:=
 oB (xg.sh F p) fun c_1=>
 bif (c_1.1.2.2.1 != 0) then some (([],c_1.1.2.2.1,()),())
 else bif ((q.length:Int) != (p.2.1.length:Int)) then some (([],100,()),())
 else zf.l7 F (fun r42 r52=>some ((r42,r52,()),())) (fun q3 i3 t343 p3 unit3=>zf.l14 F (fun q7 i7 t537 p7 unit7 out7 pile7=>zf.j24 F (fun r48 r58=>some ((r48,r58,()),())) out7) F q3 0 p3 unit3 ([]) ([])) F q 0 p c_1.1.1
def zf.sp:sP_ zf.sg:=fun x=>zf.sh F x.1 x.2.1
abbrev yt.sg:Sig:=⟨[.d (.g zO),.d (.c (.int .i64))],[.c (.sl (.int .i64))]⟩
abbrev yt.l4.K0 (R:Type):Type:=(List Int)->Int->Int->Bool->zO.T->Option R
abbrev yt.l4.T (R:Type):Type:=(List Int)->Int->Int->zO.T->Option R
def yt.l4.y (k0:yt.l4.K0 R) (rec:yt.l4.T R) (l:List Int) (at_:Int) (k:Int) (p:zO.T):Option R:=
 bif decide (k>0) then bif Nat.ble (([at_]:List Int).length+l.length) wF then oB (zI.sh F p at_) fun c_2=>
 rec (([at_]:List Int)++l) (i64.wrap (c_2.1.1-1)) (i64.wrap (k-1)) p
 else none
 else k0 l at_ k (decide (k>0)) p
def yt.l4 {R:Type} (F:Nat) (k0:yt.l4.K0 R):Nat->yt.l4.T R
 | 0,_,_,_,_=>none
 | fu+1,l,at_,k,p=>yt.l4.y F k0 (yt.l4 F k0 fu) l at_ k p
def yt.sh (p:zO.T) (node:Int):Option yt.sg.R:=
 bif idx node p.2.2.2.length then oB (zq.sh F (get za p.2.2.2 node.toNat)) fun c_1=>
 yt.l4 F (fun l3 at_3 k3 t173 p3=>some ((l3,()),())) F ([]) (i64.wrap (node-1)) c_1.1.1 p
 else none
def yt.sp:sP_ yt.sg:=fun x=>yt.sh F x.1 x.2.1
abbrev ya.sg:Sig:=⟨[.d (.g zO),.d (.c (.int .i64)),.d (.c (.int .i64))],[.c .bool]⟩
abbrev ya.l5.K1 (R:Type):Type:=Int->Int->Int->Bool->zO.T->Option R
abbrev ya.l5.T (R:Type):Type:=Int->Int->Int->zO.T->Option R
def ya.l5.y (k0:Bool->Option R) (k1:ya.l5.K1 R) (rec:ya.l5.T R) (a:Int) (i:Int) (k:Int) (p:zO.T):Option R:=
 bif decide (i<=a) then bif idx i p.2.2.2.length then bif idx k p.2.2.2.length then oB (yh.sh F (get za p.2.2.2 i.toNat) (get za p.2.2.2 k.toNat)) fun c_3=>
 bif !c_3.1.1 then k0 false
 else rec a (i64.wrap (i+1)) (i64.wrap (k+1)) p
 else none
 else none
 else k1 a i k (decide (i<=a)) p
def ya.l5 {R:Type} (F:Nat) (k0:Bool->Option R) (k1:ya.l5.K1 R):Nat->ya.l5.T R
 | 0,_,_,_,_=>none
 | fu+1,a,i,k,p=>ya.l5.y F k0 k1 (ya.l5 F k0 k1 fu) a i k p
def ya.sh (p:zO.T) (a:Int) (b:Int):Option ya.sg.R:=
 oB (zI.sh F p a) fun c_1=>
 oB (zI.sh F p b) fun c_2=>
 bif ((i64.wrap (a-c_1.1.1)) != (i64.wrap (b-c_2.1.1))) then some ((false,()),())
 else ya.l5 F (fun r64=>some ((r64,()),())) (fun a5 i5 k5 t245 p5=>some ((true,()),())) F a c_1.1.1 c_2.1.1 p
def ya.sp:sP_ ya.sg:=fun x=>ya.sh F x.1 x.2.1 x.2.2.1
abbrev zG.sg:Sig:=⟨[.d (.g zO),.d (.b (.int .i64))],[.c .bool]⟩
abbrev zG.l5.K1 (R:Type):Type:=(List Int)->Int->Int->Bool->zO.T->Option R
abbrev zG.l5.T (R:Type):Type:=(List Int)->Int->Int->zO.T->Option R
def zG.l5.y (k0:Bool->Option R) (k1:zG.l5.K1 R) (rec:zG.l5.T R) (l:List Int) (i:Int) (k:Int) (p:zO.T):Option R:=
 bif decide (k<i) then bif idx i l.length then bif idx k l.length then oB (ya.sh F p (get (.int .i64) l i.toNat) (get (.int .i64) l k.toNat)) fun c_1=>
 bif c_1.1.1 then k0 true
 else rec l i (i64.wrap (k+1)) p
 else none
 else none
 else k1 l i k (decide (k<i)) p
def zG.l5 {R:Type} (F:Nat) (k0:Bool->Option R) (k1:zG.l5.K1 R):Nat->zG.l5.T R
 | 0,_,_,_,_=>none
 | fu+1,l,i,k,p=>zG.l5.y F k0 k1 (zG.l5 F k0 k1 fu) l i k p
abbrev zG.l2.K1 (R:Type):Type:=(List Int)->Int->Bool->zO.T->Option R
abbrev zG.l2.T (R:Type):Type:=(List Int)->Int->zO.T->Option R
def zG.l2.y (k0:Bool->Option R) (k1:zG.l2.K1 R) (rec:zG.l2.T R) (l:List Int) (i:Int) (p:zO.T):Option R:=
 bif decide (i<(l.length:Int)) then zG.l5 F (fun r42=>k0 r42) (fun l3 i3 k3 t153 p3=>rec l3 (i64.wrap (i3+1)) p3) F l i 0 p
 else k1 l i (decide (i<(l.length:Int))) p
def zG.l2 {R:Type} (F:Nat) (k0:Bool->Option R) (k1:zG.l2.K1 R):Nat->zG.l2.T R
 | 0,_,_,_=>none
 | fu+1,l,i,p=>zG.l2.y F k0 k1 (zG.l2 F k0 k1 fu) l i p
def zG.sh (p:zO.T) (l:List Int):Option zG.sg.R:=
 zG.l2 F (fun r44=>some ((r44,()),())) (fun l5 i5 t105 p5=>some ((false,()),())) F l 0 p
def zG.sp:sP_ zG.sg:=fun x=>zG.sh F x.1 x.2.1
abbrev yK.sg:Sig:=⟨[.d (.g za)],[.c .bool]⟩
def yK.sh (F:Nat) (n:za.T):Option yK.sg.R:=
 bif (n.1==1) then some ((true,()),())
 else some (((n.1==2),()),())
def yK.sp:sP_ yK.sg:=fun x=>yK.sh F x.1
abbrev ye.sg:Sig:=⟨[.d (.g zO),.d (.c (.int .i64))],[.c .bool]⟩
def ye.j15 (k0:Bool->Option R) (k1:Bool->Option R) (k2:(List Int)->Bool->zO.T->Option R) (l:List Int) (t20:Int) (t53:Bool) (p:zO.T) (n:za.T):Option R:=
 bif t53 then bif idx 0 l.length then bif idx (get (.int .i64) l 0) p.2.2.2.length then bif idx 1 l.length then bif idx (get (.int .i64) l 1) p.2.2.2.length then oB (yK.sh F (get za p.2.2.2 ((get (.int .i64) l 1).toNat))) fun c_4=>
 bif c_4.1.1 then bif ((get za p.2.2.2 ((get (.int .i64) l 1).toNat)).2.1==0) then k0 true
 else bif (n.1==6) then oB (yK.sh F (get za p.2.2.2 ((get (.int .i64) l 0).toNat))) fun c_5=>
 bif c_5.1.1 then k0 ((get za p.2.2.2 ((get (.int .i64) l 0).toNat)).2.1==0)
 else k0 false
 else k0 false
 else bif (n.1==6) then oB (yK.sh F (get za p.2.2.2 ((get (.int .i64) l 0).toNat))) fun c_6=>
 bif c_6.1.1 then k0 ((get za p.2.2.2 ((get (.int .i64) l 0).toNat)).2.1==0)
 else k0 false
 else k0 false
 else none
 else none
 else none
 else none
 else bif (t20==8) then bif idx 0 l.length then bif idx (get (.int .i64) l 0) p.2.2.2.length then bif idx 1 l.length then bif idx (get (.int .i64) l 1) p.2.2.2.length then bif ((get za p.2.2.2 ((get (.int .i64) l 0).toNat)).1==1) then bif ((get za p.2.2.2 ((get (.int .i64) l 0).toNat)).2.1==1) then k1 true
 else bif ((get za p.2.2.2 ((get (.int .i64) l 1).toNat)).1==1) then k1 ((get za p.2.2.2 ((get (.int .i64) l 1).toNat)).2.1==1)
 else k1 false
 else bif ((get za p.2.2.2 ((get (.int .i64) l 1).toNat)).1==1) then k1 ((get za p.2.2.2 ((get (.int .i64) l 1).toNat)).2.1==1)
 else k1 false
 else none
 else none
 else none
 else none
 else k2 l (t20==8) p
def ye.j12 (k0:Bool->Option R) (k1:Bool->Option R) (k2:Bool->Option R) (k3:(List Int)->Bool->zO.T->Option R) (l:List Int) (t20:Int) (t47:Bool) (p:zO.T) (n:za.T):Option R:=
 bif t47 then oB (zG.sh F p l) fun c_3=>
 k0 c_3.1.1
 else bif (t20==6) then ye.j15 F (fun r47=>k1 r47) (fun r48=>k2 r48) (fun l9 t919 p9=>k3 l9 t919 p9) l t20 (t20==6) p n
 else ye.j15 F (fun r410=>k1 r410) (fun r411=>k2 r411) (fun l12 t9112 p12=>k3 l12 t9112 p12) l t20 (t20==7) p n
def ye.sh (p:zO.T) (node:Int):Option ye.sg.R:=
 bif idx node p.2.2.2.length then oB (yt.sh F p node) fun c_1=>
 bif ((get za p.2.2.2 node.toNat).1==5) then bif idx 0 c_1.1.1.length then bif idx (get (.int .i64) c_1.1.1 0) p.2.2.2.length then some ((((get za p.2.2.2 ((get (.int .i64) c_1.1.1 0).toNat)).1==5),()),())
 else none
 else none
 else bif ((get za p.2.2.2 node.toNat).1==15) then some ((((get za p.2.2.2 node.toNat).2.1==0),()),())
 else bif ((get za p.2.2.2 node.toNat).1==16) then bif idx 1 c_1.1.1.length then bif idx 2 c_1.1.1.length then oB (ya.sh F p (get (.int .i64) c_1.1.1 1) (get (.int .i64) c_1.1.1 2)) fun c_2=>
 some ((c_2.1.1,()),())
 else none
 else none
 else bif ((get za p.2.2.2 node.toNat).1==9) then ye.j12 F (fun r413=>some ((r413,()),())) (fun r414=>some ((r414,()),())) (fun r415=>some ((r415,()),())) (fun l16 t9116 p16=>some ((false,()),())) c_1.1.1 (get za p.2.2.2 node.toNat).1 ((get za p.2.2.2 node.toNat).1==9) p (get za p.2.2.2 node.toNat)
 else ye.j12 F (fun r417=>some ((r417,()),())) (fun r418=>some ((r418,()),())) (fun r419=>some ((r419,()),())) (fun l20 t9120 p20=>some ((false,()),())) c_1.1.1 (get za p.2.2.2 node.toNat).1 ((get za p.2.2.2 node.toNat).1==10) p (get za p.2.2.2 node.toNat)
 else none
def ye.sp:sP_ ye.sg:=fun x=>ye.sh F x.1 x.2.1
abbrev xH.sg:Sig:=⟨[.d (.g zO),.d (.c (.int .i64))],[.c .bool]⟩
def xH.sh (p:zO.T) (node:Int):Option xH.sg.R:=
 bif idx node p.2.2.2.length then oB (yK.sh F (get za p.2.2.2 node.toNat)) fun c_1=>
 bif c_1.1.1 then some ((true,()),())
 else bif idx node p.2.2.2.length then bif ((get za p.2.2.2 node.toNat).1==5) then bif idx (i64.wrap (node-1)) p.2.2.2.length then oB (yK.sh F (get za p.2.2.2 ((i64.wrap (node-1)).toNat))) fun c_2=>
 bif c_2.1.1 then bif idx (i64.wrap (node-1)) p.2.2.2.length then some ((((get za p.2.2.2 ((i64.wrap (node-1)).toNat)).2.1 != 0),()),())
 else none
 else some ((false,()),())
 else none
 else some ((false,()),())
 else none
 else none
def xH.sp:sP_ xH.sg:=fun x=>xH.sh F x.1 x.2.1
abbrev x8.sg:Sig:=⟨[.d (.g zd)],[.c (.int .i64),.c .bool]⟩
def x8.sh (w:zd.T):Option x8.sg.R:=
 oB (yf.sh F (i64.wrap w.2)) fun c_1=>
 bif !((c_1.1.1.1==w.1)&&((c_1.1.1.2==w.2)&&true)) then some ((0,false,()),())
 else some ((i64.wrap w.2,true,()),())
def x8.sp:sP_ x8.sg:=fun x=>x8.sh F x.1
abbrev yD.sg:Sig:=⟨[.d (.g zd),.d (.c .bool),.d (.g zd)],[.c .bool]⟩
def yD.j6 (k0:Bool->Option R) (v:zd.T):Option R:=
 oB (x8.sh F v) fun c_2=>
 bif c_2.1.2.1 then bif decide (c_2.1.1>=(-1000000000000)) then k0 (decide (c_2.1.1<=1000000000000))
 else k0 false
 else k0 false
def yD.sh (v:zd.T) (money:Bool) (unit:zd.T):Option yD.sg.R:=
 bif money then oB (zC.sh F v unit) fun c_1=>
 bif (c_1.1.2.1.1 != 0) then some ((false,()),())
 else bif (c_1.1.2.1.2 != 0) then some ((false,()),())
 else yD.j6 F (fun r63=>some ((r63,()),())) c_1.1.1
 else yD.j6 F (fun r64=>some ((r64,()),())) v
def yD.sp:sP_ yD.sg:=fun x=>yD.sh F x.1 x.2.1 x.2.2.1
abbrev zo.sg:Sig:=⟨[.d (.g zO)],[.c .bool]⟩
abbrev zo.l6.K0 (R:Type):Type:=(List Int)->Int->Int->(List Bool)->Int->Int->Bool->zO.T->zd.T->(List Int)->Option R
abbrev zo.l6.T (R:Type):Type:=(List Int)->Int->Int->(List Bool)->Int->Int->zO.T->zd.T->(List Int)->Option R
def zo.l6.y (F:Nat) (k0:zo.l6.K0 R) (rec:zo.l6.T R) (types:List Int) (e:Int) (f:Int) (fix:List Bool) (g:Int) (i:Int) (p:zO.T) (unit:zd.T) (zero:List Int):Option R:=
 bif decide (i<(p.2.1.length:Int)) then bif Nat.ble (zero.length+([0]:List Int).length) wF then rec types e f fix g (i64.wrap (i+1)) p unit (zero++([0]:List Int))
 else none
 else k0 types e f fix g i (decide (i<(p.2.1.length:Int))) p unit zero
def zo.l6 {R:Type} (F:Nat) (k0:zo.l6.K0 R):Nat->zo.l6.T R
 | 0,_,_,_,_,_,_,_,_,_=>none
 | fu+1,types,e,f,fix,g,i,p,unit,zero=>zo.l6.y F k0 (zo.l6 F k0 fu) types e f fix g i p unit zero
abbrev zo.l13.K1 (R:Type):Type:=(List Int)->(List Bool)->(List zd.T)->Int->Bool->zO.T->zd.T->Option R
abbrev zo.l13.T (R:Type):Type:=(List Int)->(List Bool)->(List zd.T)->Int->zO.T->zd.T->Option R
def zo.l13.y (k0:Bool->Option R) (k1:zo.l13.K1 R) (rec:zo.l13.T R) (types:List Int) (fix:List Bool) (v:List zd.T) (i:Int) (p:zO.T) (unit:zd.T):Option R:=
 bif decide (i<(p.2.2.2.length:Int)) then oB (ye.sh F p i) fun c_6=>
 bif c_6.1.1 then k0 false
 else bif idx i fix.length then bif get .bool fix i.toNat then oB (xH.sh F p i) fun c_7=>
 bif !c_7.1.1 then bif idx i v.length then bif idx i types.length then oB (yD.sh F (get zd v i.toNat) ((get (.int .i64) types i.toNat)==1) unit) fun c_8=>
 bif c_8.1.1 then k0 false
 else rec types fix v (i64.wrap (i+1)) p unit
 else none
 else none
 else rec types fix v (i64.wrap (i+1)) p unit
 else rec types fix v (i64.wrap (i+1)) p unit
 else none
 else k1 types fix v i (decide (i<(p.2.2.2.length:Int))) p unit
def zo.l13 {R:Type} (F:Nat) (k0:Bool->Option R) (k1:zo.l13.K1 R):Nat->zo.l13.T R
 | 0,_,_,_,_,_,_=>none
 | fu+1,types,fix,v,i,p,unit=>zo.l13.y F k0 k1 (zo.l13 F k0 k1 fu) types fix v i p unit
def zo.j9 (k0:Bool->Option R) (k1:Bool->Option R) (k2:Bool->Option R) (types:List Int) (e:Int) (f:Int) (fix:List Bool) (g:Int) (zero:List Int) (p:zO.T) (unit:zd.T):Option R:=
 oB (zf.sh F p zero) fun c_5=>
 bif (e != 0) then k0 false
 else bif (f != 0) then k0 false
 else bif (g != 0) then k0 false
 else bif (c_5.1.2.1 != 0) then k0 false
 else zo.l13 F (fun r29=>k1 r29) (fun types10 fix10 v10 i10 t6710 p10 unit10=>k2 true) F types fix c_5.1.1 0 p unit
def zo.sh (p:zO.T):Option zo.sg.R:=
 oB (zk.sh F p) fun c_1=>
 oB (xg.sh F p) fun c_2=>
 oB (zi.sh F p) fun c_3=>
 zo.l6 F (fun types4 e4 f4 fix4 g4 i4 t374 p4 unit4 zero4=>zo.j9 F (fun r211=>some ((r211,()),())) (fun r212=>some ((r212,()),())) (fun r213=>some ((r213,()),())) types4 e4 f4 fix4 g4 zero4 p4 unit4) F c_1.1.1 c_1.1.2.2.1 c_2.1.2.2.1 c_3.1.1 c_3.1.2.1 0 p c_2.1.1 ([])
def zo.sp:sP_ zo.sg:=fun x=>zo.sh F x.1
abbrev yG.sg:Sig:=⟨[.d (.g zO)],[.c .bool]⟩
def yG.sh (p:zO.T):Option yG.sg.R:=
 oB (xN.sh F) fun c_1=>
 bif !c_1.1.1 then some ((false,()),())
 else oB (wI.sh F p) fun c_2=>
 bif (c_2.1.2.1 != 0) then bif ((c_2.1.1.2.2.2.length:Int)==0) then some ((true,()),())
 else bif (c_2.1.2.1==0) then oB (zo.sh F c_2.1.1) fun c_3=>
 some ((c_3.1.1,()),())
 else some ((false,()),())
 else bif (c_2.1.2.1==0) then oB (zo.sh F c_2.1.1) fun c_4=>
 some ((c_4.1.1,()),())
 else some ((false,()),())
def yG.sp:sP_ yG.sg:=fun x=>yG.sh F x.1
abbrev VN.sg:Sig:=⟨[.d (.b xB),.d (.b xB)],[.c .bool]⟩
abbrev Qa.sg:Sig:=⟨[.d (.g za),.d (.g za)],[.c .bool]⟩
abbrev Xr.sg:Sig:=⟨[.d (.b za),.d (.b za),.d (.c .fn)],[.c .bool]⟩
abbrev zdx.sg:Sig:=⟨[.d (.g zO),.d (.g zO)],[.c .bool]⟩
abbrev Xt.sg:Sig:=⟨[.d (.g zO)],[.c .bool]⟩
abbrev zcw.sg:Sig:=⟨[.d (.g zO)],[.c (.sl zd),.c (.int .i64),.c (.int .i64)]⟩
abbrev YD.sg:Sig:=⟨[.d (.g zO)],[.c .bool]⟩
abbrev zeh.sg:Sig:=⟨[.d (.g za)],[.c (.int .i64)]⟩
abbrev zg0.sg:Sig:=⟨[.d (.g zd),.d (.g zd)],[.g zd]⟩
abbrev zg2.sg:Sig:=⟨[.d (.g zd),.d (.g zd)],[.g zd]⟩
abbrev zg1.sg:Sig:=⟨[.d (.g zd),.d (.g zd)],[.g zd]⟩
abbrev zef.sg:Sig:=⟨[.d (.g zd),.d (.b yp)],[.c (.int .i64)]⟩
abbrev Sj.sg:Sig:=⟨[.d (.g zd),.d (.b yp)],[.g zd]⟩
abbrev zaX.sg:Sig:=⟨[.d (.g zd),.d (.b yp)],[.g zd]⟩
abbrev qY.sg:Sig:=⟨[.d (.g zd),.d (.g zd),.d (.c (.int .i64))],[.c .bool]⟩
def qY.sh (x:zd.T) (n:zd.T) (op:Int):Option qY.sg.R:=
 oB (wV.sh F x n) fun c_1=>
 bif (op==1) then some ((decide (c_1.1.1<0),()),())
 else bif (op==2) then some ((decide (c_1.1.1<=0),()),())
 else bif (op==3) then some ((decide (c_1.1.1>0),()),())
 else bif (op==4) then some ((decide (c_1.1.1>=0),()),())
 else bif (op==5) then some (((c_1.1.1==0),()),())
 else some (((c_1.1.1 != 0),()),())
abbrev zca.sg:Sig:=⟨[.d (.g za),.d (.g zd),.d (.b zd)],[.g zd]⟩
abbrev zeg.sg:Sig:=⟨[.d (.g zO),.d (.g za),.d (.g zd),.d (.b (.int .i64))],[.g zd]⟩
abbrev zaY.sg:Sig:=⟨[.d (.g zO),.d (.b (.int .i64))],[.c (.sl zd),.c (.int .i64)]⟩
abbrev zcc.sg:Sig:=⟨[.d (.g zO),.d (.b (.int .i64))],[.g zd,.c (.int .i64)]⟩
abbrev zcb.sg:Sig:=⟨[.d (.g zO),.d (.b (.int .i64))],[.c (.int .i64),.c (.int .i64)]⟩
abbrev Xs.sg:Sig:=⟨[.d (.g zO),.d (.b (.sl (.int .i64)))],[.c .bool]⟩
end Go.VS
