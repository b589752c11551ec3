import Derived.Test.YtiliboioeieeoaaGreatDoorQT
set_option linter.all false
set_option maxRecDepth 100000
namespace Go.VS
open Go Go.Proofs
variable (m:Int) (F:Nat)
abbrev X_:=FX TI (G m) Sg
def wv.te:TEs:=[(0,.c (.int .u8)),(2,kB)]
def wv.h:SH:=shN wv.te [] [] [(0,1,0,0),(1,2,0,0)]
def wv.X (F:Nat):X_ m:={hn:={na:=1},N:=9,H:=wv.h}
theorem wv.ok:OKP m 172 wv.sg (wv.sp F):=okp (wv.X m F) Tryz.func172 trivial trivial 0 0 zu zu
def vb.te:TEs:=[(0,.c (.int .u8)),(2,kB)]
def vb.h:SH:=shN vb.te [] [] [(0,1,0,0),(1,2,0,0)]
def vb.X (F:Nat):X_ m:={hn:={na:=1},N:=9,H:=vb.h}
theorem vb.ok:OKP m 187 vb.sg (vb.sp F):=okp (vb.X m F) Tryz.func187 trivial trivial 0 0 zu zu
def wW.te:TEs:=[(0,.c (.int .u8)),(2,kB)]
def wW.h:SH:=shN wW.te [] [] [(0,1,0,0),(1,2,0,0)]
def wW.X:X_ m:={hn:={na:=1},lv:=[⟨172,wv.sp F⟩,⟨187,vb.sp F⟩],N:=13,H:=wW.h}
theorem wW.ok:OKP m 174 wW.sg (wW.sp F):=okp (wW.X m F) Tryz.func174 ⟨wv.ok m F,vb.ok m F,trivial⟩ trivial 0 0 zu zu
def xm.te:TEs:=[(0,.c .str),(1,.c .fn),(4,kI),(5,kI),(16,kB)]
def xm.h:SH:=shN xm.te [] [] [(0,3,0,0),(1,11,0,0),(2,27,0,0),(3,11,0,0),(4,4,0,0)]
def xm.hl:SH:=shN xm.te [] [] [(2,11,0,0)]
def xm.L2 (R:Type) (K:KK R) (n:Nat) (x:(ByteArray×Nat×Int×Unit)×Unit×Unit):Option R:=xm.l2 F (fun s of n t16=>K (.exit 0) (yS (xm.h 2) ((s,of,n,t16,()),(),()))) n x.1.1 x.1.2.1 x.1.2.2.1
def xm.X:X_ m:={hn:={DS:=fun d=>lk none d [(15,some xm.ds15)],na:=2},ld:=[⟨15,xm.d15 F⟩],N:=20,H:=xm.h,HL:=xm.hl,L:=mkL xm.hl [⟨2,fun x R K=>xm.L2 F R K F x⟩]}
theorem xm.ok:OKP m 173 xm.sg (xm.sp F):=okp (xm.X m F) Tryz.func173 trivial ⟨Y1 ⟨⟨174,by kernel_rfl,wW.ok m F⟩,⟨172,by kernel_rfl,wv.ok m F⟩,trivial⟩,trivial⟩ 1 0 (yx (FX.loopk 2 F (xm.L2 F)) zu) zu
theorem wj.ok:OK Tryz.prog (G m) 188 wj.sg (wj.sp F):=wj.ok' F Tryz.func188 (by kernel_rfl) (g:=3) (by kernel_rfl) (fun s sub w h1 h2=>Tryz.strings_Contains s sub m w h1 h2)
def vB.te:TEs:=[(0,.c .str),(2,kB)]
def vB.h:SH:=shN vB.te [] [] [(0,1,0,0),(1,2,0,0)]
def vB.X:X_ m:={hn:={na:=1},lv:=[⟨173,xm.sp F⟩,⟨188,wj.sp F⟩],N:=18,H:=vB.h}
theorem vB.ok:OKP m 175 vB.sg (vB.sp F):=okp (vB.X m F) Tryz.func175 ⟨xm.ok m F,wj.ok m F,trivial⟩ trivial 0 0 zu zu
def vj.te:TEs:=[(0,.c .str),(2,kB)]
def vj.h:SH:=shN vj.te [] [] [(0,1,0,0),(1,2,0,0)]
def vj.X:X_ m:={hn:={na:=1},lv:=[⟨172,wv.sp F⟩,⟨173,xm.sp F⟩,⟨175,vB.sp F⟩],N:=27,H:=vj.h}
theorem vj.ok:OKP m 130 vj.sg (vj.sp F):=okp (vj.X m F) Tryz.func130 ⟨wv.ok m F,xm.ok m F,vB.ok m F,trivial⟩ trivial 0 0 zu zu
def wJ.te:TEs:=[(1,.p xB),kL 2,(3,kB)]
def wJ.tb:TEs:=[(2,.g xB)]
def wJ.h:SH:=shN wJ.te wJ.tb [] [(0,3,1,0),(1,4,0,0)]
def wJ.X (F:Nat):X_ m:={hn:={na:=2},N:=9,H:=wJ.h}
theorem wJ.ok:OKP m 131 wJ.sg (wJ.sp F):=okp (wJ.X m F) Tryz.func131 trivial trivial 0 0 zu zu
def zr.te:TEs:=[(0,.b xB),(1,.cl xB),(4,kI),(5,kI),(7,kI),(8,kI),(9,kB),(16,kB)]
def zr.h:SH:=shN zr.te [] [] [(0,3,0,0),(1,51,0,0),(2,115,0,0),(3,59,0,0),(4,187,0,0),(5,4,0,0),(6,51,0,0),(7,4,0,0)]
def zr.hl:SH:=shN zr.te [] [] [(2,51,0,0)]
def zr.L2 (R:Type) (K:KK R) (n:Nat) (x:((List xB.T)×(Nat×xB.T)×Int×Int×Unit)×Unit×Unit):Option R:=zr.l2 F (fun r4=>K .ret (yS (zr.h 5) ((r4,()),(),()))) (fun s f t7 t8 t9=>K (.exit 0) (yS (zr.h 2) ((s,f,t7,t8,t9,()),(),()))) n x.1.1 x.1.2.1 x.1.2.2.1 x.1.2.2.2.1
def zr.X:X_ m:={hn:={DS:=fun d=>lk none d [(16,some zr.ds16)],na:=2},ld:=[⟨16,zr.d16 F⟩],N:=19,H:=zr.h,HL:=zr.hl,L:=mkL zr.hl [⟨2,fun x R K=>zr.L2 F R K F x⟩]}
theorem zr.ok:OKP m 176 zr.sg (zr.sp F):=okp (zr.X m F) Tryz.func176 trivial ⟨Y1 ⟨⟨131,by kernel_rfl,wJ.ok m F⟩,trivial⟩,trivial⟩ 1 0 (yx (FX.loopk 2 F (zr.L2 F)) zu) zu
def yW.te:TEs:=[(0,.b xB),(1,.cl xB),(4,kB)]
def yW.h:SH:=shN yW.te [] [] [(0,3,0,0),(1,4,0,0)]
def yW.X:X_ m:={hn:={na:=2},lv:=[⟨176,zr.sp F⟩],N:=9,H:=yW.h}
theorem yW.ok:OKP m 132 yW.sg (yW.sp F):=okp (yW.X m F) Tryz.func132 ⟨zr.ok m F,trivial⟩ trivial 0 0 zu zu
def yZ.te:TEs:=[kL 1,(2,kI),(3,kI),kL 4,(4,.p xB),(5,.cl xB),(9,kB),(19,kB),(21,.c (.sl xB)),(22,kI),(23,kI),(24,kB),(40,kB),(48,kB),(57,kB)]
def yZ.tb:TEs:=[(1,.g zO),(4,.g xB)]
def yZ.h:SH:=shN yZ.te yZ.tb [] [(0,1,1,0),(1,65,1,0),(2,2,0,0),(3,129,1,0),(4,2,0,0),(5,1793,1,0),(6,3841,1,0),(7,1805,3,0),(8,1845,1,0),(9,5905,1,0),(10,2,0,0),(11,9985,1,0),(12,2,0,0),(13,1793,1,0),(14,16384,0,0),(15,2,0,0),(16,2,0,0)]
def yZ.hl:SH:=shN yZ.te yZ.tb [] [(6,1793,1,0)]
def yZ.L6 (R:Type) (K:KK R) (n:Nat) (x:(Unit×(List xB.T)×Int×Int×Unit)×(zO.T×Unit)×Unit):Option R:=yZ.l6 F (fun r2=>K .ret (yS (yZ.h 10) ((r2,()),(),()))) (fun r2=>K .ret (yS (yZ.h 12) ((r2,()),(),()))) (fun t21 t22 t23 t24 p=>K (.exit 0) (yS (yZ.h 6) (((),t21,t22,t23,t24,()),(p,()),()))) n x.1.2.1 x.1.2.2.1 x.1.2.2.2.1 x.2.1.1
def yZ.X:X_ m:={hn:={CT:=fun d=>lk .unit d [(28,xB)],na:=1},lv:=[⟨130,vj.sp F⟩,⟨132,yW.sp F⟩],N:=58,H:=yZ.h,HL:=yZ.hl,L:=mkL yZ.hl [⟨6,fun x R K=>yZ.L6 F R K F x⟩]}
theorem yZ.ok:OKP m 77 yZ.sg (yZ.sp F):=okp (yZ.X m F) Tryz.func77 ⟨vj.ok m F,yW.ok m F,trivial⟩ trivial 1 0 (yx (FX.loopk 6 F (yZ.L6 F)) zu) zu
def wi.te:TEs:=[kL 1,(2,kI),(3,kI),(10,kB)]
def wi.tb:TEs:=[(1,.g za)]
def wi.h:SH:=shN wi.te wi.tb [] [(0,1,1,0),(1,5,1,0),(2,13,1,0),(3,2,0,0),(4,2,0,0)]
def wi.X (F:Nat):X_ m:={hn:={na:=1},N:=14,H:=wi.h}
theorem wi.ok:OKP m 36 wi.sg (wi.sp F):=okp (wi.X m F) Tryz.func36 trivial trivial 0 0 zu zu
def yy.te:TEs:=[(0,.b yp),(2,kB),(3,kI),kL 4,(19,kB),(20,.b yp),(21,kI),(22,kI),(23,kB),(54,kB)]
def yy.tb:TEs:=[(4,.g yp)]
def yy.h:SH:=shN yy.te yy.tb [] [(0,1,0,0),(1,17,0,0),(2,2,0,0),(3,225,0,0),(4,481,0,0),(5,237,1,0),(6,737,0,0),(7,2,0,0),(8,225,0,0),(9,2,0,0)]
def yy.hl:SH:=shN yy.te yy.tb [] [(4,225,0,0)]
def yy.L4 (R:Type) (K:KK R) (n:Nat) (x:((List yp.T)×(List yp.T)×Int×Int×Unit)×Unit×Unit):Option R:=yy.l4 F (fun r2=>K .ret (yS (yy.h 7) ((r2,()),(),()))) (fun tiers t20 t21 t22 t23=>K (.exit 0) (yS (yy.h 4) ((tiers,t20,t21,t22,t23,()),(),()))) n x.1.1 x.1.2.1 x.1.2.2.1 x.1.2.2.2.1
def yy.X:X_ m:={hn:={na:=1},N:=56,H:=yy.h,HL:=yy.hl,L:=mkL yy.hl [⟨4,fun x R K=>yy.L4 F R K F x⟩]}
theorem yy.ok:OKP m 133 yy.sg (yy.sp F):=okp (yy.X m F) Tryz.func133 trivial trivial 1 0 (yx (FX.loopk 4 F (yy.L4 F)) zu) zu
def yV.te:TEs:=[(1,kI),(2,kI),kL 3,(6,kI),kL 7,(8,kI),(9,kB),(10,kB),(18,kB),(26,kB),(34,kB),(47,kB),(89,kB),(97,kB)]
def yV.tb:TEs:=[(3,.g za),(7,.g wt)]
def yV.h:SH:=shN yV.te yV.tb [] [(0,7,1,0),(1,263,1,0),(2,8,0,0),(3,23,3,0),(4,55,3,0),(5,567,3,0),(6,54,3,0),(7,118,3,0),(8,1142,3,0),(9,118,3,0),(10,246,3,0),(11,2294,3,0),(12,246,3,0),(13,4116,3,0),(14,8,0,0),(15,8192,0,0),(16,8,0,0),(17,8,0,0)]
def yV.hj:Nat->Option Shape:=shO yV.te yV.tb [] [(7,54,3,0),(10,118,3,0),(13,246,3,0)]
def yV.J13 (x:(Int×Unit×Unit×Int×Bool×Bool×Unit)×(za.T×wt.T×Unit)×Unit) (R:Type) (K:KK R):Option R:=yV.j13 F (fun r6=>K .ret (yS (yV.h 14) ((r6,()),(),()))) (fun r6=>K .ret (yS (yV.h 16) ((r6,()),(),()))) (fun r6=>K .ret (yS (yV.h 17) ((r6,()),(),()))) x.1.1 x.1.2.2.2.1 x.1.2.2.2.2.1 x.1.2.2.2.2.2.1 x.2.1.1 x.2.1.2.1
def yV.J10 (x:(Int×Unit×Unit×Int×Bool×Unit)×(za.T×wt.T×Unit)×Unit) (R:Type) (K:KK R):Option R:=yV.j10 F (fun r6=>K .ret (yS (yV.h 14) ((r6,()),(),()))) (fun r6=>K .ret (yS (yV.h 16) ((r6,()),(),()))) (fun r6=>K .ret (yS (yV.h 17) ((r6,()),(),()))) x.1.1 x.1.2.2.2.1 x.1.2.2.2.2.1 x.2.1.1 x.2.1.2.1
def yV.J7 (x:(Int×Unit×Unit×Int×Unit)×(za.T×wt.T×Unit)×Unit) (R:Type) (K:KK R):Option R:=yV.j7 F (fun r6=>K .ret (yS (yV.h 14) ((r6,()),(),()))) (fun r6=>K .ret (yS (yV.h 16) ((r6,()),(),()))) (fun r6=>K .ret (yS (yV.h 17) ((r6,()),(),()))) x.1.1 x.1.2.2.2.1 x.2.1.1 x.2.1.2.1
def yV.X:X_ m:={hn:={na:=3},lv:=[⟨36,wi.sp F⟩,⟨133,yy.sp F⟩],N:=98,H:=yV.h,HJ:=yV.hj,J:=mkJ yV.hj [⟨13,yV.J13 F⟩,⟨10,yV.J10 F⟩,⟨7,yV.J7 F⟩]}
theorem yV.ok:OKP m 78 yV.sg (yV.sp F):=okp (yV.X m F) Tryz.func78 ⟨wi.ok m F,yy.ok m F,trivial⟩ trivial 0 3 zu (yx (FX.cutk 13) (yx (FX.cutk 10) (yx (FX.cutk 7) zu)))
def yE.te:TEs:=[kL 1,(2,kI),(3,kI),(4,kI),(5,kI),(6,kI),kL 7,(8,kI),(12,kB),(17,kB),(19,.c (.sl za)),(20,kI),(21,kI),(22,kB),(33,kB),(43,kB)]
def yE.tb:TEs:=[(1,.g zO),(7,.g za)]
def yE.h:SH:=shN yE.te yE.tb [] [(0,1,1,0),(1,9,1,0),(2,265,1,0),(3,6,0,0),(4,513,1,0),(5,6,0,0),(6,17,1,0),(7,7185,1,0),(8,15377,1,0),(9,7281,3,0),(10,7409,3,0),(11,23793,3,0),(12,6,0,0),(13,7185,1,0),(14,7185,1,0),(15,32769,1,0),(16,6,0,0),(17,6,0,0)]
def yE.hl:SH:=shN yE.te yE.tb [] [(8,7185,1,0)]
def yE.L8 (R:Type) (K:KK R) (n:Nat) (x:(Unit×Int×(List za.T)×Int×Int×Unit)×(zO.T×Unit)×Unit):Option R:=yE.l8 F (fun r2 r3=>K .ret (yS (yE.h 12) ((r2,r3,()),(),()))) (fun pile t19 t20 t21 t22 p=>K (.exit 0) (yS (yE.h 8) (((),pile,t19,t20,t21,t22,()),(p,()),()))) n x.1.2.1 x.1.2.2.1 x.1.2.2.2.1 x.1.2.2.2.2.1 x.2.1.1
def yE.X:X_ m:={hn:={na:=1},lv:=[⟨77,yZ.sp F⟩,⟨78,yV.sp F⟩,⟨36,wi.sp F⟩],N:=47,H:=yE.h,HL:=yE.hl,L:=mkL yE.hl [⟨8,fun x R K=>yE.L8 F R K F x⟩]}
theorem yE.ok:OKP m 35 yE.sg (yE.sp F):=okp (yE.X m F) Tryz.func35 ⟨yZ.ok m F,yV.ok m F,wi.ok m F,trivial⟩ trivial 1 0 (yx (FX.loopk 8 F (yE.L8 F)) zu) zu
def yi.te:TEs:=[kL 1,(2,.c (.sl (.int .i64))),(3,.c (.sl (.int .i64))),(3,.ow 3),(4,.ow 4),(5,kI),kL 6,(7,kI),(8,kI),(10,.c (.sl za)),(11,kI),(12,kI),(13,kB),(21,kB)]
def yi.tb:TEs:=[(1,.g zO),(6,.g za)]
def yi.tp:List tH:=[⟨3,.env 3,(.int .i64)⟩,⟨4,.env 4,(.int .i64)⟩]
def yi.h:SH:=shN yi.te yi.tb yi.tp [(0,1,1,0),(1,25,1,3),(2,3608,0,3),(3,7704,0,3),(4,3704,2,3),(5,3800,2,3),(6,3992,0,3),(7,12184,0,3),(8,3992,0,3),(9,3736,0,3),(10,3736,0,3),(11,3608,0,3),(12,3608,0,3),(13,2,0,0)]
def yi.hl:SH:=shN yi.te yi.tb yi.tp [(3,3608,0,3)]
def yi.hj:Nat->Option Shape:=shO yi.te yi.tb yi.tp [(13,4,0,0)]
def yi.L3 (R:Type) (K:KK R) (n:Nat) (x:(Unit×Unit×(List za.T)×Int×Int×Unit)×Unit×((List Int)×(List Int)×Unit)):Option R:=yi.l3 F (fun t10 t11 t12 t13 list pile=>K (.exit 0) (yS (yi.h 3) (((),(),t10,t11,t12,t13,()),(),(list,pile,())))) n x.1.2.2.1 x.1.2.2.2.1 x.1.2.2.2.2.1 x.2.2.1 x.2.2.2.1
def yi.J13 (x:((List Int)×Unit)×Unit×Unit) (R:Type) (K:KK R):Option R:=yi.j13 F (fun r2=>K .ret (yS (yi.h 13) ((r2,()),(),()))) x.1.1
def yi.X:X_ m:={hn:={MU:=fun s=>lk false s [(38,true),(42,true)],na:=1,fzJ:=fun r=>lk [] r [(13,[3])]},lv:=[⟨36,wi.sp F⟩],N:=45,H:=yi.h,HL:=yi.hl,HJ:=yi.hj,L:=mkL yi.hl [⟨3,fun x R K=>yi.L3 F R K F x⟩],J:=mkJ yi.hj [⟨13,yi.J13 F⟩]}
theorem yi.ok:OKP m 179 yi.sg (yi.sp F):=okp (yi.X m F) Tryz.func179 ⟨wi.ok m F,trivial⟩ trivial 1 1 (yx (FX.loopk 3 F (yi.L3 F)) zu) (yx (FX.cutk 13) zu)
def wL.te:TEs:=[kL 1,(2,.c (.sl (.int .i64))),(3,kI),(5,kI),(12,kB)]
def wL.tb:TEs:=[(1,.g zO)]
def wL.h:SH:=shN wL.te wL.tb [] [(0,1,1,0),(1,9,1,0),(2,25,1,0),(3,6,0,0),(4,6,0,0)]
def wL.X:X_ m:={hn:={na:=1},lv:=[⟨35,yE.sp F⟩,⟨179,yi.sp F⟩],N:=16,H:=wL.h}
theorem wL.ok:OKP m 143 wL.sg (wL.sp F):=okp (wL.X m F) Tryz.func143 ⟨yE.ok m F,yi.ok m F,trivial⟩ trivial 0 0 zu zu
def zT.te:TEs:=[kL 1,(2,.c (.sl .bool)),(3,kI),(4,.c (.sl (.int .i64))),(5,kI),(6,kI),(7,.c (.sl .bool)),(7,.ow 7),(8,kI),kL 9,(16,kB),(22,.c (.sl za)),(23,kI),(24,kI),(25,kB),(36,kB)]
def zT.tb:TEs:=[(1,.g zO),(9,.g za)]
def zT.tp:List tH:=[⟨7,.env 7,.bool⟩]
def zT.h:SH:=shN zT.te zT.tb zT.tp [(0,1,1,0),(1,25,1,0),(2,1049,1,0),(3,6,0,0),(4,41,1,0),(5,169,1,1),(6,14504,0,1),(7,30888,0,1),(8,15272,2,1),(9,47528,0,1),(10,14760,0,1),(11,14504,0,1),(12,14504,0,1),(13,6,0,0)]
def zT.hl:SH:=shN zT.te zT.tb zT.tp [(7,14504,0,1)]
def zT.hj:Nat->Option Shape:=shO zT.te zT.tb zT.tp [(13,64,0,0)]
def zT.L7 (R:Type) (K:KK R) (n:Nat) (x:((List Int)×Int×Unit×(List za.T)×Int×Int×Unit)×Unit×((List Bool)×Unit)):Option R:=zT.l7 F (fun list last t22 t23 t24 t25 out=>K (.exit 0) (yS (zT.h 7) ((list,last,(),t22,t23,t24,t25,()),(),(out,())))) n x.1.1 x.1.2.1 x.1.2.2.2.1 x.1.2.2.2.2.1 x.1.2.2.2.2.2.1 x.2.2.1
def zT.J13 (x:((List Bool)×Unit)×Unit×Unit) (R:Type) (K:KK R):Option R:=zT.j13 F (fun r2 r3=>K .ret (yS (zT.h 13) ((r2,r3,()),(),()))) x.1.1
def zT.X:X_ m:={hn:={MU:=fun s=>lk false s [(20,true)],na:=1,fzJ:=fun r=>lk [] r [(13,[7])]},lv:=[⟨143,wL.sp F⟩],N:=49,H:=zT.h,HL:=zT.hl,HJ:=zT.hj,L:=mkL zT.hl [⟨7,fun x R K=>zT.L7 F R K F x⟩],J:=mkJ zT.hj [⟨13,zT.J13 F⟩]}
theorem zT.ok:OKP m 88 zT.sg (zT.sp F):=okp (zT.X m F) Tryz.func88 ⟨wL.ok m F,trivial⟩ trivial 1 1 (yx (FX.loopk 7 F (zT.L7 F)) zu) (yx (FX.cutk 13) zu)
def wT.te:TEs:=[(0,kI),(2,.c .fn),(3,kI),(4,.c (.sl (.pair .fn (.int .i64))))]
def wT.h:SH:=shN wT.te [] [] [(0,1,0,0),(1,9,0,0),(2,6,0,0)]
def wT.X (F:Nat):X_ m:={hn:={na:=1},N:=32,H:=wT.h}
theorem wT.ok:OKP m 89 wT.sg (wT.sp F):=okp (wT.X m F) Tryz.func89 trivial trivial 0 0 zu zu
def yb.te:TEs:=[(1,kI),kL 2,(4,kI),(6,kI),(10,.b (.int .i64)),(11,kI),(12,kI),(13,kB),(22,kB)]
def yb.tb:TEs:=[(2,.g xD)]
def yb.h:SH:=shN yb.te yb.tb [] [(0,3,1,0),(1,115,1,0),(2,243,1,0),(3,123,1,0),(4,371,1,0),(5,4,0,0),(6,115,1,0),(7,4,0,0)]
def yb.hl:SH:=shN yb.te yb.tb [] [(2,115,1,0)]
def yb.L2 (R:Type) (K:KK R) (n:Nat) (x:(Int×Unit×(List Int)×Int×Int×Unit)×(xD.T×Unit)×Unit):Option R:=yb.l2 F (fun r4=>K .ret (yS (yb.h 5) ((r4,()),(),()))) (fun from_ t10 t11 t12 t13 n=>K (.exit 0) (yS (yb.h 2) ((from_,(),t10,t11,t12,t13,()),(n,()),()))) n x.1.1 x.1.2.2.1 x.1.2.2.2.1 x.1.2.2.2.2.1 x.2.1.1
def yb.X:X_ m:={hn:={na:=2},N:=29,H:=yb.h,HL:=yb.hl,L:=mkL yb.hl [⟨2,fun x R K=>yb.L2 F R K F x⟩]}
theorem yb.ok:OKP m 180 yb.sg (yb.sp F):=okp (yb.X m F) Tryz.func180 trivial trivial 1 0 (yx (FX.loopk 2 F (yb.L2 F)) zu) zu
def xq.te:TEs:=[kL 1,(2,kI)]
def xq.tb:TEs:=[(1,.g xD)]
def xq.h:SH:=shN xq.te xq.tb [] [(0,1,1,0),(1,2,0,0)]
def xq.X:X_ m:={hn:={na:=1},lv:=[⟨180,yb.sp F⟩],N:=5,H:=xq.h}
theorem xq.ok:OKP m 148 xq.sg (xq.sp F):=okp (xq.X m F) Tryz.func148 ⟨yb.ok m F,trivial⟩ trivial 0 0 zu zu
def xQ.te:TEs:=[kL 1,(2,kI)]
def xQ.tb:TEs:=[(1,.g xD)]
def xQ.h:SH:=shN xQ.te xQ.tb [] [(0,1,1,0),(1,2,0,0)]
def xQ.X (F:Nat):X_ m:={hn:={na:=1},N:=8,H:=xQ.h}
theorem xQ.ok:OKP m 147 xQ.sg (xQ.sp F):=okp (xQ.X m F) Tryz.func147 trivial trivial 0 0 zu zu
def xX.te:TEs:=[(0,kI),(2,kB)]
def xX.h:SH:=shN xX.te [] [] [(0,1,0,0),(1,2,0,0)]
def xX.X (F:Nat):X_ m:={hn:={na:=1},N:=5,H:=xX.h}
theorem xX.ok:OKP m 181 xX.sg (xX.sp F):=okp (xX.X m F) Tryz.func181 trivial trivial 0 0 zu zu
def xn.te:TEs:=[kL 1,(2,kI),(7,kB)]
def xn.tb:TEs:=[(1,.g xD)]
def xn.h:SH:=shN xn.te xn.tb [] [(0,1,1,0),(1,5,1,0),(2,2,0,0),(3,2,0,0)]
def xn.X:X_ m:={hn:={na:=1},lv:=[⟨181,xX.sp F⟩],N:=12,H:=xn.h}
theorem xn.ok:OKP m 150 xn.sg (xn.sp F):=okp (xn.X m F) Tryz.func150 ⟨xX.ok m F,trivial⟩ trivial 0 0 zu zu
def wx.te:TEs:=[(2,kI)]
def wx.h:SH:=shN wx.te [] [] [(1,1,0,0)]
def wx.X (F:Nat):X_ m:={hn:={na:=1},N:=3,H:=wx.h}
theorem wx.ok:OKP m 145 wx.sg (wx.sp F):=okp (wx.X m F) Tryz.func145 trivial trivial 0 0 zu zu
def wo.te:TEs:=[(2,kI)]
def wo.h:SH:=shN wo.te [] [] [(1,1,0,0)]
def wo.X (F:Nat):X_ m:={hn:={na:=1},N:=3,H:=wo.h}
theorem wo.ok:OKP m 144 wo.sg (wo.sp F):=okp (wo.X m F) Tryz.func144 trivial trivial 0 0 zu zu
def wm.te:TEs:=[kL 1,(2,kI),(7,kB)]
def wm.tb:TEs:=[(1,.g xD)]
def wm.h:SH:=shN wm.te wm.tb [] [(0,1,1,0),(1,4,0,0),(2,2,0,0),(3,2,0,0)]
def wm.X (F:Nat):X_ m:={hn:={na:=1},N:=8,H:=wm.h}
theorem wm.ok:OKP m 152 wm.sg (wm.sp F):=okp (wm.X m F) Tryz.func152 trivial trivial 0 0 zu zu
def xG.te:TEs:=[kL 1,(2,kI),(7,kB)]
def xG.tb:TEs:=[(1,.g xD)]
def xG.h:SH:=shN xG.te xG.tb [] [(0,1,1,0),(1,4,0,0),(2,2,0,0),(3,2,0,0)]
def xG.X:X_ m:={hn:={na:=1},lv:=[⟨181,xX.sp F⟩],N:=8,H:=xG.h}
theorem xG.ok:OKP m 151 xG.sg (xG.sp F):=okp (xG.X m F) Tryz.func151 ⟨xX.ok m F,trivial⟩ trivial 0 0 zu zu
def xA.te:TEs:=[kL 1,(2,kI),(3,kI),(4,kI),(13,kB),(17,kB),(21,kB)]
def xA.tb:TEs:=[(1,.g xD)]
def xA.h:SH:=shN xA.te xA.tb [] [(0,1,1,0),(1,12,0,0),(2,28,0,0),(3,2,0,0),(4,44,0,0),(5,2,0,0),(6,76,0,0),(7,64,0,0),(8,2,0,0),(9,2,0,0)]
def xA.X:X_ m:={hn:={na:=1},lv:=[⟨181,xX.sp F⟩],N:=34,H:=xA.h}
theorem xA.ok:OKP m 149 xA.sg (xA.sp F):=okp (xA.X m F) Tryz.func149 ⟨xX.ok m F,trivial⟩ trivial 0 0 zu zu
def xu.te:TEs:=[kL 1,(2,kI)]
def xu.tb:TEs:=[(1,.g xD)]
def xu.h:SH:=shN xu.te xu.tb [] [(0,1,1,0),(1,2,0,0)]
def xu.X (F:Nat):X_ m:={hn:={na:=1},N:=8,H:=xu.h}
theorem xu.ok:OKP m 146 xu.sg (xu.sp F):=okp (xu.X m F) Tryz.func146 trivial trivial 0 0 zu zu
def xZ.te:TEs:=[kL 1,(2,kI),(7,kB)]
def xZ.tb:TEs:=[(1,.g xD)]
def xZ.h:SH:=shN xZ.te xZ.tb [] [(0,1,1,0),(1,5,1,0),(2,2,0,0),(3,2,0,0)]
def xZ.X:X_ m:={hn:={na:=1},lv:=[⟨181,xX.sp F⟩,⟨180,yb.sp F⟩],N:=10,H:=xZ.h}
theorem xZ.ok:OKP m 153 xZ.sg (xZ.sp F):=okp (xZ.X m F) Tryz.func153 ⟨xX.ok m F,yb.ok m F,trivial⟩ trivial 0 0 zu zu
def zF.te:TEs:=[kL 1,(2,.c (.sl (.int .i64))),(3,kI),(4,kI),(5,kI),(6,kI),(7,.c (.sl .bool)),(9,.c (.sl (.int .i64))),(9,.ow 9),(10,.c (.sl (.int .i64))),(10,.ow 10),(11,.ow 11),(12,kI),kL 13,(14,.c .fn),(15,kI),(16,kI),(17,kI),(24,kB),(33,.c (.sl za)),(34,kI),(35,kI),(36,kB),(47,kB),(65,kB),(84,kB),(109,kB)]
def zF.tb:TEs:=[(1,.g zO),(13,.g za)]
def zF.tp:List tH:=[⟨9,.env 9,(.int .i64)⟩,⟨10,.env 10,(.int .i64)⟩,⟨11,.env 11,.bool⟩]
def zF.h:SH:=shN zF.te zF.tb zF.tp [(0,1,1,0),(1,49,1,0),(2,262193,1,0),(3,14,0,0),(4,65,1,0),(5,1345,1,3),(6,3393,1,7),(7,3673408,0,7),(8,7867712,0,7),(9,3685696,2,7),(10,3734848,2,7),(11,12123456,2,7),(12,3734848,2,7),(13,3767616,2,7),(14,3882304,2,7),(15,20659520,2,7),(16,14,0,0),(17,37428544,0,7),(18,14,0,0),(19,3874112,0,7),(20,3743040,0,7),(21,3673408,0,7),(22,3673408,0,7),(23,67108992,0,0),(24,14,0,0),(25,14,0,0)]
def zF.hl:SH:=shN zF.te zF.tb zF.tp [(8,3673408,0,7)]
def zF.hj:Nat->Option Shape:=shO zF.te zF.tb zF.tp [(23,640,0,0)]
def zF.L8 (R:Type) (K:KK R) (n:Nat) (x:((List Bool)×Unit×Unit×Unit×(List za.T)×Int×Int×Unit)×Unit×((List Int)×(List Int)×(List Bool)×Unit)):Option R:=zF.l8 F (fun r2 r3 r4=>K .ret (yS (zF.h 16) ((r2,r3,r4,()),(),()))) (fun r2 r3 r4=>K .ret (yS (zF.h 18) ((r2,r3,r4,()),(),()))) (fun fixed t33 t34 t35 t36 types pile fix=>K (.exit 0) (yS (zF.h 8) ((fixed,(),(),(),t33,t34,t35,t36,()),(),(types,pile,fix,())))) n x.1.1 x.1.2.2.2.2.1 x.1.2.2.2.2.2.1 x.1.2.2.2.2.2.2.1 x.2.2.1 x.2.2.2.1 x.2.2.2.2.1
def zF.J23 (x:((List Int)×(List Int)×Unit)×Unit×Unit) (R:Type) (K:KK R):Option R:=zF.j23 F (fun r2 r3 r4=>K .ret (yS (zF.h 24) ((r2,r3,r4,()),(),()))) (fun r2 r3 r4=>K .ret (yS (zF.h 25) ((r2,r3,r4,()),(),()))) x.1.1 x.1.2.1
def zF.X:X_ m:={hn:={MU:=fun s=>lk false s [(89,true),(95,true),(104,true)],DS:=fun d=>lk none d [(63,some zF.ds63)],na:=1,fzJ:=fun r=>lk [] r [(23,[9,10])]},lv:=[⟨35,yE.sp F⟩,⟨88,zT.sp F⟩,⟨89,wT.sp F⟩],ld:=[⟨63,zF.d63 F⟩],N:=114,H:=zF.h,HL:=zF.hl,HJ:=zF.hj,L:=mkL zF.hl [⟨8,fun x R K=>zF.L8 F R K F x⟩],J:=mkJ zF.hj [⟨23,zF.J23 F⟩]}
theorem zF.ok:OKP m 48 zF.sg (zF.sp F):=okp (zF.X m F) Tryz.func48 ⟨yE.ok m F,zT.ok m F,wT.ok m F,trivial⟩ ⟨Y1 ⟨⟨148,by kernel_rfl,xq.ok m F⟩,⟨147,by kernel_rfl,xQ.ok m F⟩,⟨150,by kernel_rfl,xn.ok m F⟩,⟨145,by kernel_rfl,wx.ok m F⟩,⟨144,by kernel_rfl,wo.ok m F⟩,⟨152,by kernel_rfl,wm.ok m F⟩,⟨151,by kernel_rfl,xG.ok m F⟩,⟨149,by kernel_rfl,xA.ok m F⟩,⟨146,by kernel_rfl,xu.ok m F⟩,⟨153,by kernel_rfl,xZ.ok m F⟩,trivial⟩,trivial⟩ 1 1 (yx (FX.loopk 8 F (zF.L8 F)) zu) (yx (FX.cutk 23) zu)
def ym.te:TEs:=[(0,.b (.int .i64)),(2,kI),(3,kI),(4,kI),(7,kB),(15,kB)]
def ym.h:SH:=shN ym.te [] [] [(0,1,0,0),(1,17,0,0),(3,5,0,0),(4,13,0,0),(5,45,0,0),(6,13,0,0),(7,13,0,0),(8,2,0,0)]
def ym.hl:SH:=shN ym.te [] [] [(5,13,0,0)]
def ym.L5 (R:Type) (K:KK R) (n:Nat) (x:((List Int)×Int×Int×Unit)×Unit×Unit):Option R:=ym.l5 F (fun x m i t15=>K (.exit 0) (yS (ym.h 5) ((x,m,i,t15,()),(),()))) n x.1.1 x.1.2.1 x.1.2.2.1
def ym.X:X_ m:={hn:={na:=1},N:=25,H:=ym.h,HL:=ym.hl,L:=mkL ym.hl [⟨5,fun x R K=>ym.L5 F R K F x⟩]}
theorem ym.ok:OKP m 37 ym.sg (ym.sp F):=okp (ym.X m F) Tryz.func37 trivial trivial 1 0 (yx (FX.loopk 5 F (ym.L5 F)) zu) zu
def yu.te:TEs:=[kL 1,(2,kI),(3,kI),(5,kI),(6,.c (.sl (.int .i64))),(6,.ow 6),kL 8,(9,kI),(10,kI),(17,kB),(20,.c (.sl za)),(21,kI),(22,kI),(23,kB),(29,kB),(45,kB)]
def yu.tb:TEs:=[(1,.g zO),(8,.g za)]
def yu.tp:List tH:=[⟨6,.env 6,(.int .i64)⟩]
def yu.h:SH:=shN yu.te yu.tb yu.tp [(0,1,1,0),(1,9,1,0),(2,521,1,0),(3,6,0,0),(4,33,1,1),(5,7200,0,1),(6,15392,0,1),(7,7264,2,1),(8,7392,2,1),(9,7648,2,1),(10,24032,2,1),(11,7648,2,1),(12,7392,2,1),(13,40096,0,1),(14,7328,0,1),(15,7200,0,1),(16,7200,0,1),(17,6,0,0)]
def yu.hl:SH:=shN yu.te yu.tb yu.tp [(6,7200,0,1)]
def yu.hj:Nat->Option Shape:=shO yu.te yu.tb yu.tp [(17,16,0,0)]
def yu.L6 (R:Type) (K:KK R) (n:Nat) (x:(Unit×(List za.T)×Int×Int×Unit)×Unit×((List Int)×Unit)):Option R:=yu.l6 F (fun t20 t21 t22 t23 pile=>K (.exit 0) (yS (yu.h 6) (((),t20,t21,t22,t23,()),(),(pile,())))) n x.1.2.1 x.1.2.2.1 x.1.2.2.2.1 x.2.2.1
def yu.J17 (x:((List Int)×Unit)×Unit×Unit) (R:Type) (K:KK R):Option R:=yu.j17 F (fun r2 r3=>K .ret (yS (yu.h 17) ((r2,r3,()),(),()))) x.1.1
def yu.X:X_ m:={hn:={MU:=fun s=>lk false s [(51,true)],na:=1,fzJ:=fun r=>lk [] r [(17,[6])]},lv:=[⟨35,yE.sp F⟩,⟨36,wi.sp F⟩,⟨37,ym.sp F⟩],N:=56,H:=yu.h,HL:=yu.hl,HJ:=yu.hj,L:=mkL yu.hl [⟨6,fun x R K=>yu.L6 F R K F x⟩],J:=mkJ yu.hj [⟨17,yu.J17 F⟩]}
theorem yu.ok:OKP m 12 yu.sg (yu.sp F):=okp (yu.X m F) Tryz.func12 ⟨yE.ok m F,wi.ok m F,ym.ok m F,trivial⟩ trivial 1 1 (yx (FX.loopk 6 F (yu.L6 F)) zu) (yx (FX.cutk 17) zu)
def xV.te:TEs:=[(0,kI),kL 2]
def xV.tb:TEs:=[(2,.g zd)]
def xV.h:SH:=shN xV.te xV.tb [] [(0,3,1,0),(1,2,1,0)]
def xV.X (F:Nat):X_ m:={hn:={na:=1},N:=8,H:=xV.h}
theorem xV.ok:OKP m 38 xV.sg (xV.sp F):=okp (xV.X m F) Tryz.func38 trivial trivial 0 0 zu zu
theorem yY.ok:OK Tryz.prog (G m) 86 yY.sg (yY.sp F):=yY.ok' F Tryz.func86 (by kernel_rfl) (by kernel_rfl) (by kernel_rfl)
def wS.te:TEs:=[kL 1,(2,.c (.int .u64)),(3,.c (.int .u64)),(4,.c (.int .u64)),(5,.c (.int .u64)),(6,.c (.int .u64)),(10,kB)]
def wS.tb:TEs:=[(1,.g zd)]
def wS.h:SH:=shN wS.te wS.tb [] [(0,1,1,0),(1,65,1,0),(2,6,0,0),(3,25,1,0),(4,40,0,0),(5,6,0,0)]
def wS.X:X_ m:={hn:={na:=1},lv:=[⟨86,yY.sp F⟩],N:=32,H:=wS.h}
theorem wS.ok:OKP m 42 wS.sg (wS.sp F):=okp (wS.X m F) Tryz.func42 ⟨yY.ok m F,trivial⟩ trivial 0 0 zu zu
def x9.te:TEs:=[(0,.c (.int .u64)),(1,.c (.int .u64)),(4,.c (.int .u64)),(5,.c (.int .u64)),(6,.c (.int .u64)),(7,.c (.int .u64)),(8,.c (.int .u64)),(9,.c (.int .u64)),(10,.c (.int .u64)),(11,.c (.int .u64)),(12,.c (.int .u64)),(13,.c (.int .u64))]
def x9.h:SH:=shN x9.te [] [] [(0,3,0,0),(1,19,0,0),(2,51,0,0),(3,115,0,0),(4,243,0,0),(5,499,0,0),(6,691,0,0),(7,1715,0,0),(8,3251,0,0),(9,3235,0,0),(10,7,0,0),(11,12,0,0)]
def x9.X (F:Nat):X_ m:={hn:={na:=2},N:=51,H:=x9.h}
theorem x9.ok:OKP m 43 x9.sg (x9.sp F):=okp (x9.X m F) Tryz.func43 trivial trivial 0 0 zu zu
def va.te:TEs:=[(0,kB),(1,.c (.int .u64)),(2,.c (.int .u64)),(6,.c (.int .u64)),(7,kB)]
def va.h:SH:=shN va.te [] [] [(0,7,0,0),(1,22,0,0),(2,8,0,0),(3,8,0,0)]
def va.X (F:Nat):X_ m:={hn:={na:=3},N:=10,H:=va.h}
theorem va.ok:OKP m 44 va.sg (va.sp F):=okp (va.X m F) Tryz.func44 trivial trivial 0 0 zu zu
theorem xi.ok:OK Tryz.prog (G m) 45 xi.sg (xi.sp F):=xi.ok' F Tryz.func45 (by kernel_rfl) (by kernel_rfl) (by kernel_rfl)
def wY.te:TEs:=[kL 2,kL 3,kL 4,(5,kI),(6,.c (.int .u64)),(7,.c (.int .u64)),(8,.c (.int .u64)),kL 10,(49,kB)]
def wY.tb:TEs:=[(2,.g zd),(3,.g zd),(4,.g zd),(10,.g zd)]
def wY.h:SH:=shN wY.te wY.tb [] [(0,7,7,0),(1,55,7,0),(2,87,7,0),(3,135,15,0),(4,388,12,0),(5,12,4,0),(6,12,4,0)]
def wY.X:X_ m:={hn:={na:=2},lv:=[⟨86,yY.sp F⟩],N:=52,H:=wY.h}
theorem wY.ok:OKP m 81 wY.sg (wY.sp F):=okp (wY.X m F) Tryz.func81 ⟨yY.ok m F,trivial⟩ trivial 0 0 zu zu
def vi.te:TEs:=[kL 1,kL 2,(3,kI)]
def vi.tb:TEs:=[(1,.g zd),(2,.g zd)]
def vi.h:SH:=shN vi.te vi.tb [] [(0,3,3,0),(1,6,2,0)]
def vi.X:X_ m:={hn:={na:=1},lv:=[⟨81,wY.sp F⟩],N:=9,H:=vi.h}
theorem vi.ok:OKP m 87 vi.sg (vi.sp F):=okp (vi.X m F) Tryz.func87 ⟨wY.ok m F,trivial⟩ trivial 0 0 zu zu
def wU.te:TEs:=[(0,kB),(1,.c (.int .u64)),(2,.c (.int .u64)),kL 6,(7,kI),kL 8,(11,kB),(16,kB),(30,kB)]
def wU.tb:TEs:=[(6,.g zd),(8,.g zd)]
def wU.h:SH:=shN wU.te wU.tb [] [(0,15,1,0),(1,79,1,0),(2,41,3,0),(3,168,3,0),(4,24,1,0),(5,24,1,0),(6,264,1,0),(7,24,1,0),(8,24,1,0)]
def wU.X:X_ m:={hn:={na:=3},lv:=[⟨87,vi.sp F⟩],N:=33,H:=wU.h}
theorem wU.ok:OKP m 46 wU.sg (wU.sp F):=okp (wU.X m F) Tryz.func46 ⟨vi.ok m F,trivial⟩ trivial 0 0 zu zu
def xC.te:TEs:=[kL 2,kL 3,kL 4,(5,kI),(6,.c (.int .u64)),(7,.c (.int .u64)),(8,.c (.int .u64)),(9,.c (.int .u64)),(10,.c (.int .u64)),(11,.c (.int .u64)),(12,.c (.int .u64)),(13,.c (.int .u64)),(14,.c (.int .u64)),(30,kB),(61,kB)]
def xC.tb:TEs:=[(2,.g zd),(3,.g zd),(4,.g zd)]
def xC.h:SH:=shN xC.te xC.tb [] [(0,7,7,0),(1,55,7,0),(2,247,7,0),(3,8439,7,0),(4,12,4,0),(5,1015,7,0),(6,3847,7,0),(7,5895,7,0),(8,17159,7,0),(9,12,4,0),(10,12,4,0)]
def xC.hj:Nat->Option Shape:=shO xC.te xC.tb [] [(5,247,7,0)]
def xC.J5 (x:(Unit×Unit×Unit×Int×Int×Int×Int×Unit)×(zd.T×zd.T×zd.T×Unit)×Unit) (R:Type) (K:KK R):Option R:=xC.j5 F (fun r5 r4=>K .ret (yS (xC.h 9) (((),r5,()),(r4,()),()))) (fun r5 r4=>K .ret (yS (xC.h 10) (((),r5,()),(r4,()),()))) x.1.2.2.2.1 x.1.2.2.2.2.1 x.1.2.2.2.2.2.1 x.1.2.2.2.2.2.2.1 x.2.1.1 x.2.1.2.1 x.2.1.2.2.1
def xC.X:X_ m:={hn:={na:=2},lv:=[⟨42,wS.sp F⟩,⟨43,x9.sp F⟩,⟨44,va.sp F⟩,⟨45,xi.sp F⟩,⟨46,wU.sp F⟩],N:=75,H:=xC.h,HJ:=xC.hj,J:=mkJ xC.hj [⟨5,xC.J5 F⟩]}
theorem xC.ok:OKP m 16 xC.sg (xC.sp F):=okp (xC.X m F) Tryz.func16 ⟨wS.ok m F,x9.ok m F,va.ok m F,xi.ok m F,wU.ok m F,trivial⟩ trivial 0 1 zu (yx (FX.cutk 5) zu)
def yR.te:TEs:=[(0,kI),kL 2,(3,kI),kL 4,(6,kB),(9,kB),(12,kI),(13,kI),(14,kB)]
def yR.tb:TEs:=[(2,.g zd),(4,.g zd)]
def yR.h:SH:=shN yR.te yR.tb [] [(0,3,1,0),(1,19,1,0),(2,6,1,0),(3,35,1,0),(4,6,1,0),(5,11,3,0),(6,202,3,0),(7,458,3,0),(8,202,3,0),(9,202,3,0),(10,6,1,0)]
def yR.hl:SH:=shN yR.te yR.tb [] [(7,202,3,0)]
def yR.L7 (R:Type) (K:KK R) (n:Nat) (x:(Unit×Unit×Int×Int×Unit)×(zd.T×zd.T×Unit)×Unit):Option R:=yR.l7 F (fun t12 t13 t14 r2 p=>K (.exit 0) (yS (yR.h 7) (((),(),t12,t13,t14,()),(r2,p,()),()))) n x.1.2.2.1 x.1.2.2.2.1 x.2.1.1 x.2.1.2.1
def yR.X:X_ m:={hn:={na:=1},lv:=[⟨38,xV.sp F⟩,⟨16,xC.sp F⟩],N:=23,H:=yR.h,HL:=yR.hl,L:=mkL yR.hl [⟨7,fun x R K=>yR.L7 F R K F x⟩]}
theorem yR.ok:OKP m 13 yR.sg (yR.sp F):=okp (yR.X m F) Tryz.func13 ⟨xV.ok m F,xC.ok m F,trivial⟩ trivial 1 0 (yx (FX.loopk 7 F (yR.L7 F)) zu) zu
def yT.te:TEs:=[kL 1,(2,kI),(4,kI),(5,kB),(10,kB),(14,kB),(19,kB)]
def yT.tb:TEs:=[(1,.g za)]
def yT.h:SH:=shN yT.te yT.tb [] [(0,1,1,0),(1,5,1,0),(2,13,1,0),(3,13,1,0),(4,13,1,0),(5,13,1,0),(6,2,0,0),(7,21,1,0),(8,21,1,0),(9,21,1,0),(10,2,0,0),(11,37,1,0),(12,37,1,0),(13,2,0,0),(14,64,0,0),(15,2,0,0),(16,2,0,0)]
def yT.hj:Nat->Option Shape:=shO yT.te yT.tb [] [(6,13,1,0),(10,21,1,0)]
def yT.J10 (x:(Unit×Int×Bool×Unit)×(za.T×Unit)×Unit) (R:Type) (K:KK R):Option R:=yT.j10 F (fun r2=>K .ret (yS (yT.h 10) ((r2,()),(),()))) (fun r2=>K .ret (yS (yT.h 13) ((r2,()),(),()))) (fun r2=>K .ret (yS (yT.h 15) ((r2,()),(),()))) (fun t19=>K .normal (yS (yT.h 14) ((t19,()),(),()))) x.1.2.1 x.1.2.2.1 x.2.1.1
def yT.J6 (x:(Unit×Int×Bool×Unit)×(za.T×Unit)×Unit) (R:Type) (K:KK R):Option R:=yT.j6 F (fun r2=>K .ret (yS (yT.h 6) ((r2,()),(),()))) (fun r2=>K .ret (yS (yT.h 10) ((r2,()),(),()))) (fun r2=>K .ret (yS (yT.h 13) ((r2,()),(),()))) (fun r2=>K .ret (yS (yT.h 15) ((r2,()),(),()))) (fun t19=>K .normal (yS (yT.h 14) ((t19,()),(),()))) x.1.2.1 x.1.2.2.1 x.2.1.1
def yT.X:X_ m:={hn:={na:=1},N:=21,H:=yT.h,HJ:=yT.hj,J:=mkJ yT.hj [⟨10,yT.J10 F⟩,⟨6,yT.J6 F⟩]}
theorem yT.ok:OKP m 74 yT.sg (yT.sp F):=okp (yT.X m F) Tryz.func74 trivial trivial 0 2 zu (yx (FX.cutk 10) (yx (FX.cutk 6) zu))
def xc.te:TEs:=[kL 0,(2,kI),kL 4,kL 6]
def xc.tb:TEs:=[(0,.g zg),(4,.g zd),(6,.g zd)]
def xc.h:SH:=shN xc.te xc.tb [] [(0,15,7,0),(1,12,7,0),(2,8,5,0)]
def xc.X (F:Nat):X_ m:={hn:={na:=3},N:=19,H:=xc.h}
theorem xc.ok:OKP m 125 xc.sg (xc.sp F):=okp (xc.X m F) Tryz.func125 trivial trivial 0 0 zu zu
def y7.te:TEs:=[kL 0,kL 4,kL 5,kL 6]
def y7.tb:TEs:=[(0,.g zg),(4,.g zd),(5,.g zd),(6,.g zd)]
def y7.h:SH:=shN y7.te y7.tb [] [(0,15,15,0),(1,8,9,0)]
def y7.X:X_ m:={hn:={na:=3},lv:=[⟨16,xC.sp F⟩,⟨125,xc.sp F⟩],N:=14,H:=y7.h}
theorem y7.ok:OKP m 124 y7.sg (y7.sp F):=okp (y7.X m F) Tryz.func124 ⟨xC.ok m F,xc.ok m F,trivial⟩ trivial 0 0 zu zu
def yA.te:TEs:=[(0,.c (.int .u64)),(2,kI),(4,kB),(8,kB),(14,kB)]
def yA.h:SH:=shN yA.te [] [] [(0,3,0,0),(1,7,0,0),(2,1,0,0),(3,3,0,0),(4,11,0,0),(5,3,0,0),(6,3,0,0),(7,19,0,0),(8,3,0,0),(9,3,0,0),(10,2,0,0)]
def yA.hj:Nat->Option Shape:=shO yA.te [] [] [(4,3,0,0),(7,3,0,0)]
def yA.J7 (x:(Int×Int×Unit)×Unit×Unit) (R:Type) (K:KK R):Option R:=yA.j7 F (fun n=>K .ret (yS (yA.h 10) ((n,()),(),()))) x.1.1 x.1.2.1
def yA.J4 (x:(Int×Int×Unit)×Unit×Unit) (R:Type) (K:KK R):Option R:=yA.j4 F (fun n=>K .ret (yS (yA.h 10) ((n,()),(),()))) x.1.1 x.1.2.1
def yA.X:X_ m:={hn:={na:=1},N:=25,H:=yA.h,HJ:=yA.hj,J:=mkJ yA.hj [⟨7,yA.J7 F⟩,⟨4,yA.J4 F⟩]}
theorem yA.ok:OKP m 192 yA.sg (yA.sp F):=okp (yA.X m F) Tryz.func192 trivial trivial 0 2 zu (yx (FX.cutk 7) (yx (FX.cutk 4) zu))
def yU.te:TEs:=[(0,.c (.int .u64)),(2,kI)]
def yU.h:SH:=shN yU.te [] [] [(0,1,0,0),(1,2,0,0)]
def yU.X:X_ m:={hn:={na:=1},lv:=[⟨192,yA.sp F⟩],N:=6,H:=yU.h}
theorem yU.ok:OKP m 189 yU.sg (yU.sp F):=okp (yU.X m F) Tryz.func189 ⟨yA.ok m F,trivial⟩ trivial 0 0 zu zu
def zt.te:TEs:=[(0,.c (.int .u64)),(1,.c (.int .u64)),(2,.c (.int .u64)),(6,.c (.int .u64)),(7,.c (.int .u64)),(8,.c (.int .u64)),(9,.c (.int .u64)),(10,.c (.int .u64)),(11,.c (.int .u64)),(12,.c (.int .u64)),(13,.c (.int .u64)),(14,.c (.int .u64)),(15,.c (.int .u64)),(16,.c (.int .u64)),(17,.c (.int .u64)),(18,.c (.int .u64)),(20,kB),(24,kB),(27,kB),(78,kB),(85,kB),(113,kB),(120,kB)]
def zt.h:SH:=shN zt.te [] [] [(0,7,0,0),(1,65543,0,0),(3,131079,0,0),(5,262151,0,0),(6,24,0,0),(7,39,0,0),(8,39,0,0),(9,103,0,0),(10,231,0,0),(11,486,0,0),(12,996,0,0),(13,2020,0,0),(14,3556,0,0),(15,7652,0,0),(16,15844,0,0),(17,540132,0,0),(18,15844,0,0),(19,15844,0,0),(20,1064420,0,0),(21,22756,0,0),(22,55524,0,0),(23,63716,0,0),(24,2160868,0,0),(25,63716,0,0),(26,63716,0,0),(27,4258020,0,0),(28,24,0,0)]
def zt.hl:SH:=shN zt.te [] [] [(17,15844,0,0),(24,63716,0,0)]
def zt.hj:Nat->Option Shape:=shO zt.te [] [] [(21,7652,0,0),(28,55332,0,0)]
def zt.L17 (R:Type) (K:KK R) (n:Nat) (x:(Int×Int×Int×Int×Int×Int×Int×Int×Int×Unit)×Unit×Unit):Option R:=zt.l17 F (fun y s yn1 yn0 un32 un1 un0 q1 rhat t85=>K (.exit 0) (yS (zt.h 20) ((y,s,yn1,yn0,un32,un1,un0,q1,rhat,t85,()),(),()))) (fun y s yn1 yn0 un32 un1 un0 q1 rhat t78=>K (.exit 0) (yS (zt.h 17) ((y,s,yn1,yn0,un32,un1,un0,q1,rhat,t78,()),(),()))) n x.1.1 x.1.2.1 x.1.2.2.1 x.1.2.2.2.1 x.1.2.2.2.2.1 x.1.2.2.2.2.2.1 x.1.2.2.2.2.2.2.1 x.1.2.2.2.2.2.2.2.1 x.1.2.2.2.2.2.2.2.2.1
def zt.L24 (R:Type) (K:KK R) (n:Nat) (x:(Int×Int×Int×Int×Int×Int×Int×Int×Int×Unit)×Unit×Unit):Option R:=zt.l24 F (fun y s yn1 yn0 un0 q1 rhat un21 q0 t120=>K (.exit 2) (yS (zt.h 27) ((y,s,yn1,yn0,un0,q1,rhat,un21,q0,t120,()),(),()))) (fun y s yn1 yn0 un0 q1 rhat un21 q0 t113=>K (.exit 2) (yS (zt.h 24) ((y,s,yn1,yn0,un0,q1,rhat,un21,q0,t113,()),(),()))) n x.1.1 x.1.2.1 x.1.2.2.1 x.1.2.2.2.1 x.1.2.2.2.2.1 x.1.2.2.2.2.2.1 x.1.2.2.2.2.2.2.1 x.1.2.2.2.2.2.2.2.1 x.1.2.2.2.2.2.2.2.2.1
def zt.J28 (x:(Int×Int×Int×Int×Int×Int×Unit)×Unit×Unit) (R:Type) (K:KK R):Option R:=zt.j28 F (fun quo rem=>K .ret (yS (zt.h 28) ((quo,rem,()),(),()))) x.1.1 x.1.2.1 x.1.2.2.1 x.1.2.2.2.1 x.1.2.2.2.2.1 x.1.2.2.2.2.2.1
def zt.J21 (x:(Int×Int×Int×Int×Int×Int×Int×Int×Unit)×Unit×Unit) (R:Type) (K:KK R):Option R:=zt.j21 F (fun quo rem=>K .ret (yS (zt.h 28) ((quo,rem,()),(),()))) x.1.1 x.1.2.1 x.1.2.2.1 x.1.2.2.2.1 x.1.2.2.2.2.1 x.1.2.2.2.2.2.1 x.1.2.2.2.2.2.2.1 x.1.2.2.2.2.2.2.2.1
def zt.X:X_ m:={hn:={na:=3},lv:=[⟨189,yU.sp F⟩],N:=135,H:=zt.h,HL:=zt.hl,HJ:=zt.hj,L:=mkL zt.hl [⟨17,fun x R K=>zt.L17 F R K F x⟩,⟨24,fun x R K=>zt.L24 F R K F x⟩],J:=mkJ zt.hj [⟨28,zt.J28 F⟩,⟨21,zt.J21 F⟩]}
theorem zt.ok:OKP m 177 zt.sg (zt.sp F):=okp (zt.X m F) Tryz.func177 ⟨yU.ok m F,trivial⟩ trivial 2 2 (yx (FX.loopk 24 F (zt.L24 F)) (yx (FX.loopk 17 F (zt.L17 F)) zu)) (yx (FX.cutk 28) (yx (FX.cutk 21) zu))
def yJ.te:TEs:=[(0,.c (.int .u64)),(1,.c (.int .u64)),(2,.c (.int .u64)),(3,.c (.int .u64)),(8,.c (.int .u64)),(9,.c (.int .u64)),(10,.c (.int .u64)),(11,.c (.int .u64)),(12,kI),(13,.c (.int .u64)),(15,kB),(34,kB),(61,kB)]
def yJ.h:SH:=shN yJ.te [] [] [(0,47,0,0),(1,1071,0,0),(2,154,0,0),(3,176,0,0),(4,240,0,0),(5,238,0,0),(6,494,0,0),(7,2542,0,0),(8,494,0,0),(9,494,0,0),(10,494,0,0),(11,4590,0,0),(12,494,0,0),(13,1006,0,0),(14,494,0,0),(15,494,0,0),(16,240,0,0)]
def yJ.hl:SH:=shN yJ.te [] [] [(7,494,0,0)]
def yJ.L7 (R:Type) (K:KK R) (n:Nat) (x:(Int×Int×Int×Int×Int×Int×Int×Unit)×Unit×Unit):Option R:=yJ.l7 F (fun al bh bl ql rh rl i t34=>K (.exit 0) (yS (yJ.h 7) ((al,bh,bl,ql,rh,rl,i,t34,()),(),()))) n x.1.1 x.1.2.1 x.1.2.2.1 x.1.2.2.2.1 x.1.2.2.2.2.1 x.1.2.2.2.2.2.1 x.1.2.2.2.2.2.2.1
def yJ.X:X_ m:={hn:={na:=4},lv:=[⟨177,zt.sp F⟩,⟨86,yY.sp F⟩],N:=82,H:=yJ.h,HL:=yJ.hl,L:=mkL yJ.hl [⟨7,fun x R K=>yJ.L7 F R K F x⟩]}
theorem yJ.ok:OKP m 134 yJ.sg (yJ.sp F):=okp (yJ.X m F) Tryz.func134 ⟨zt.ok m F,yY.ok m F,trivial⟩ trivial 1 0 (yx (FX.loopk 7 F (yJ.L7 F)) zu) zu
def wk.te:TEs:=[kL 2,kL 3,kL 4,kL 5,(6,kI),(7,.c (.int .u64)),(8,.c (.int .u64)),(9,.c (.int .u64)),(10,.c (.int .u64)),(11,.c (.int .u64)),(12,.c (.int .u64)),(13,.c (.int .u64)),(14,.c (.int .u64)),kL 15,(16,kI),kL 17,(20,kB),(57,kB)]
def wk.tb:TEs:=[(2,.g zd),(3,.g zd),(4,.g zd),(5,.g zd),(15,.g zd),(17,.g zd)]
def wk.h:SH:=shN wk.te wk.tb [] [(0,15,15,0),(1,65551,15,0),(2,28,12,0),(3,111,15,0),(4,495,15,0),(5,7695,15,0),(6,30733,29,0),(7,161805,29,0),(8,28,12,0),(9,57356,60,0),(10,28,12,0)]
def wk.X:X_ m:={hn:={na:=2},lv:=[⟨42,wS.sp F⟩,⟨134,yJ.sp F⟩,⟨46,wU.sp F⟩],N:=73,H:=wk.h}
theorem wk.ok:OKP m 79 wk.sg (wk.sp F):=okp (wk.X m F) Tryz.func79 ⟨wS.ok m F,yJ.ok m F,wU.ok m F,trivial⟩ trivial 0 0 zu zu
def wO.te:TEs:=[(3,kI),kL 4,kL 5,kL 6,(8,kB),(9,kB),(10,.c (.int .u64)),(11,.c (.int .u64)),(12,.c (.int .u64)),(13,.c (.int .u64)),(14,.c (.int .u64)),(15,.c (.int .u64)),(16,.c (.int .u64)),(25,kI),(26,kB),(29,kB),(33,kB),(58,kB),(72,kB)]
def wO.tb:TEs:=[(4,.g zd),(5,.g zd),(6,.g zd)]
def wO.h:SH:=shN wO.te wO.tb [] [(0,15,7,0),(1,47,7,0),(2,8239,7,0),(3,24623,7,0),(4,16,0,0),(5,41007,7,0),(6,16,0,0),(7,65551,7,0),(8,16,0,0),(9,203,5,0),(10,963,1,0),(11,3523,1,0),(12,5315,1,0),(13,136387,1,0),(14,16,0,0),(15,262147,1,0),(16,16,0,0),(17,16,0,0)]
def wO.X:X_ m:={hn:={na:=4},lv:=[⟨42,wS.sp F⟩,⟨86,yY.sp F⟩],N:=89,H:=wO.h}
theorem wO.ok:OKP m 80 wO.sg (wO.sp F):=okp (wO.X m F) Tryz.func80 ⟨wS.ok m F,yY.ok m F,trivial⟩ trivial 0 0 zu zu
def wZ.te:TEs:=[kL 2,kL 3,kL 4,(5,kI),(6,.c (.int .u64)),(7,.c (.int .u64)),(8,.c (.int .u64)),kL 10,(49,kB)]
def wZ.tb:TEs:=[(2,.g zd),(3,.g zd),(4,.g zd),(10,.g zd)]
def wZ.h:SH:=shN wZ.te wZ.tb [] [(0,7,7,0),(1,55,7,0),(2,87,7,0),(3,135,15,0),(4,388,12,0),(5,12,4,0),(6,12,4,0)]
def wZ.X:X_ m:={hn:={na:=2},lv:=[⟨45,xi.sp F⟩],N:=52,H:=wZ.h}
theorem wZ.ok:OKP m 82 wZ.sg (wZ.sp F):=okp (wZ.X m F) Tryz.func82 ⟨xi.ok m F,trivial⟩ trivial 0 0 zu zu
def wN.te:TEs:=[(2,kI),kL 3,kL 4,kL 6,(7,kI),kL 8,kL 9,(10,kI),(16,kB),(39,kB),(48,kB)]
def wN.tb:TEs:=[(3,.g zd),(4,.g zd),(6,.g zd),(8,.g zd),(9,.g zd)]
def wN.h:SH:=shN wN.te wN.tb [] [(0,15,7,0),(1,271,7,0),(2,24,4,0),(3,239,31,0),(4,686,15,0),(5,24,4,0),(6,1064,12,0),(7,24,4,0),(8,24,4,0)]
def wN.X:X_ m:={hn:={na:=3},lv:=[⟨79,wk.sp F⟩,⟨80,wO.sp F⟩,⟨38,xV.sp F⟩,⟨81,wY.sp F⟩,⟨82,wZ.sp F⟩],N:=59,H:=wN.h}
theorem wN.ok:OKP m 39 wN.sg (wN.sp F):=okp (wN.X m F) Tryz.func39 ⟨wk.ok m F,wO.ok m F,xV.ok m F,wY.ok m F,wZ.ok m F,trivial⟩ trivial 0 0 zu zu
def vf.te:TEs:=[(0,kI),(2,kI)]
def vf.h:SH:=shN vf.te [] [] [(0,1,0,0),(1,2,0,0)]
def vf.X (F:Nat):X_ m:={hn:={na:=1},N:=7,H:=vf.h}
theorem vf.ok:OKP m 171 vf.sg (vf.sp F):=okp (vf.X m F) Tryz.func171 trivial trivial 0 0 zu zu
def xd.te:TEs:=[kL 0,kL 4,kL 5,kL 6]
def xd.tb:TEs:=[(0,.g zg),(4,.g zd),(5,.g zd),(6,.g zd)]
def xd.h:SH:=shN xd.te xd.tb [] [(0,15,15,0),(1,8,9,0)]
def xd.X:X_ m:={hn:={na:=3},lv:=[⟨82,wZ.sp F⟩,⟨125,xc.sp F⟩],N:=14,H:=xd.h}
theorem xd.ok:OKP m 128 xd.sg (xd.sp F):=okp (xd.X m F) Tryz.func128 ⟨wZ.ok m F,xc.ok m F,trivial⟩ trivial 0 0 zu zu
def zP.te:TEs:=[kL 0,(2,.b yp),kL 4,kL 6,(7,kI),kL 8,(9,kI),kL 10,kL 11,(13,.b yp),(14,kI),(15,kI),(16,kB),(29,kB)]
def zP.tb:TEs:=[(0,.g zg),(4,.g zd),(6,.g zd),(8,.g zd),(10,.g yp),(11,.g zd)]
def zP.h:SH:=shN zP.te zP.tb [] [(0,15,7,0),(1,63,15,0),(2,3647,15,0),(3,7743,15,0),(4,3839,31,0),(5,3839,31,0),(6,12031,31,0),(7,3647,15,0),(8,3647,15,0),(9,313,45,0),(10,8,5,0)]
def zP.hl:SH:=shN zP.te zP.tb [] [(3,3647,15,0)]
def zP.L3 (R:Type) (K:KK R) (n:Nat) (x:(Unit×(List yp.T)×Unit×Unit×Int×Unit×(List yp.T)×Int×Int×Unit)×(zg.T×zd.T×zd.T×zd.T×Unit)×Unit):Option R:=zP.l3 F (fun tiers rate t13 t14 t15 t16 m x r6 ways=>K (.exit 0) (yS (zP.h 3) (((),tiers,(),(),rate,(),t13,t14,t15,t16,()),(m,x,r6,ways,()),()))) n x.1.2.1 x.1.2.2.2.2.1 x.1.2.2.2.2.2.2.1 x.1.2.2.2.2.2.2.2.1 x.1.2.2.2.2.2.2.2.2.1 x.2.1.1 x.2.1.2.1 x.2.1.2.2.1 x.2.1.2.2.2.1
def zP.X:X_ m:={hn:={na:=3,sp:=fun s=>lk 0 s [(0,2)]},lv:=[⟨171,vf.sp F⟩,⟨38,xV.sp F⟩,⟨124,y7.sp F⟩,⟨128,xd.sp F⟩],N:=75,H:=zP.h,HL:=zP.hl,L:=mkL zP.hl [⟨3,fun x R K=>zP.L3 F R K F x⟩]}
theorem zP.ok:OKP m 126 zP.sg (zP.sp F):=okp (zP.X m F) Tryz.func126 ⟨vf.ok m F,xV.ok m F,y7.ok m F,xd.ok m F,trivial⟩ trivial 1 0 (yx (FX.loopk 3 F (zP.L3 F)) zu) zu
def xw.te:TEs:=[(0,.b zd),kL 2,(3,kI),(4,.c (.int .u64)),(5,.c (.int .u64)),(6,kI),kL 8,(9,.c (.int .u64)),kL 10,(11,.b zd),(12,kI),(13,kI),(14,kB),(50,kB)]
def xw.tb:TEs:=[(2,.g zd),(8,.g zd),(10,.g zd)]
def xw.h:SH:=shN xw.te xw.tb [] [(0,3,1,0),(1,27,1,0),(2,59,1,0),(3,3642,1,0),(4,7738,1,0),(5,3706,3,0),(6,3706,3,0),(7,3834,3,0),(8,3834,3,0),(9,3642,1,0),(10,3642,1,0),(11,290,5,0),(12,8450,5,0),(13,6,1,0),(14,6,1,0)]
def xw.hl:SH:=shN xw.te xw.tb [] [(4,3642,1,0)]
def xw.L4 (R:Type) (K:KK R) (n:Nat) (x:(Unit×Int×Int×Int×(List zd.T)×Int×Int×Unit)×(zd.T×Unit)×Unit):Option R:=xw.l4 F (fun lo hi top t11 t12 t13 t14 r2=>K (.exit 0) (yS (xw.h 4) (((),lo,hi,top,t11,t12,t13,t14,()),(r2,()),()))) n x.1.2.1 x.1.2.2.1 x.1.2.2.2.1 x.1.2.2.2.2.1 x.1.2.2.2.2.2.1 x.1.2.2.2.2.2.2.1 x.2.1.1
def xw.X:X_ m:={hn:={na:=1},lv:=[⟨45,xi.sp F⟩],N:=53,H:=xw.h,HL:=xw.hl,L:=mkL xw.hl [⟨4,fun x R K=>xw.L4 F R K F x⟩]}
theorem xw.ok:OKP m 127 xw.sg (xw.sp F):=okp (xw.X m F) Tryz.func127 ⟨xi.ok m F,trivial⟩ trivial 1 0 (yx (FX.loopk 4 F (xw.L4 F)) zu) zu
def z8.te:TEs:=[kL 0,(3,.b zd),kL 5,kL 6,kL 8,kL 9,(11,kI),(12,kB),(17,kB),(28,kB),(31,kB),(47,kB),(57,kB),(67,kB),(96,kB)]
def z8.tb:TEs:=[(0,.g zg),(5,.g zO),(6,.g za),(8,.g zd),(9,.g zd)]
def z8.h:SH:=shN z8.te z8.tb [] [(0,31,15,0),(1,95,15,0),(2,223,15,0),(3,16,9,0),(4,351,15,0),(5,16,9,0),(6,607,15,0),(7,16,9,0),(8,1119,15,0),(9,16,9,0),(10,2139,13,0),(11,16,9,0),(12,4187,13,0),(13,4187,13,0),(14,16,9,0),(15,8219,13,0),(16,18,9,0),(17,16,9,0),(18,57,29,0),(19,16441,29,0),(20,48,25,0),(21,16,9,0)]
def z8.hj:Nat->Option Shape:=shO z8.te z8.tb [] [(18,27,13,0)]
def z8.J18 (x:(Unit×(List zd.T)×Unit×Unit×Unit)×(zg.T×za.T×zd.T×Unit)×Unit) (R:Type) (K:KK R):Option R:=z8.j18 F (fun m r8=>K .ret (yS (z8.h 21) (((),()),(m,r8,()),()))) x.1.2.1 x.2.1.1 x.2.1.2.1 x.2.1.2.2.1
def z8.X:X_ m:={hn:={na:=4},lv:=[⟨38,xV.sp F⟩,⟨124,y7.sp F⟩,⟨39,wN.sp F⟩,⟨125,xc.sp F⟩,⟨126,zP.sp F⟩,⟨127,xw.sp F⟩,⟨128,xd.sp F⟩],N:=104,H:=z8.h,HJ:=z8.hj,J:=mkJ z8.hj [⟨18,z8.J18 F⟩]}
theorem z8.ok:OKP m 75 z8.sg (z8.sp F):=okp (z8.X m F) Tryz.func75 ⟨xV.ok m F,y7.ok m F,wN.ok m F,xc.ok m F,zP.ok m F,xw.ok m F,xd.ok m F,trivial⟩ trivial 0 1 zu (yx (FX.cutk 18) zu)
def wV.te:TEs:=[kL 2,kL 3,(4,kI),(5,kB),(9,kB)]
def wV.tb:TEs:=[(2,.g zd),(3,.g zd)]
def wV.h:SH:=shN wV.te wV.tb [] [(0,3,3,0),(1,11,3,0),(2,4,0,0),(3,19,3,0),(4,16,0,0),(5,4,0,0),(6,4,0,0)]
def wV.X (F:Nat):X_ m:={hn:={na:=2},N:=27,H:=wV.h}
theorem wV.ok:OKP m 129 wV.sg (wV.sp F):=okp (wV.X m F) Tryz.func129 trivial trivial 0 0 zu zu
def wK.te:TEs:=[kL 2,kL 3,(4,kB),kL 5,(9,kB)]
def wK.tb:TEs:=[(2,.g za),(3,.g zd),(5,.g zd)]
def wK.h:SH:=shN wK.te wK.tb [] [(0,3,3,0),(1,11,7,0),(2,26,6,0),(3,10,6,0),(4,4,0,0)]
def wK.X:X_ m:={hn:={na:=2},lv:=[⟨38,xV.sp F⟩,⟨16,xC.sp F⟩,⟨129,wV.sp F⟩],N:=20,H:=wK.h}
theorem wK.ok:OKP m 76 wK.sg (wK.sp F):=okp (wK.X m F) Tryz.func76 ⟨xV.ok m F,xC.ok m F,wV.ok m F,trivial⟩ trivial 0 0 zu zu
def zK.te:TEs:=[kL 2,kL 3,(4,.c (.sl zd)),(5,kI),(6,.c (.sl zd)),(6,.ow 6),(7,.ow 7),(8,.loc 15),(9,kI),kL 10,(11,kI),kL 12,(17,.c (.sl za)),(18,kI),(19,kI),(20,kB),(44,kB)]
def zK.tb:TEs:=[(2,.g zO),(3,.g zd),(10,.g za),(12,.g zd),(15,.g zg)]
def zK.tp:List tH:=[⟨6,.env 6,zd⟩,⟨7,.env 7,zd⟩]
def zK.h:SH:=shN zK.te zK.tb zK.tp [(0,3,3,0),(1,99,3,3),(2,225,17,3),(3,28897,17,3),(4,61665,17,3),(5,29665,21,3),(6,30689,21,3),(7,32737,29,3),(8,97761,25,3),(9,12,0,0),(10,31969,25,3),(11,28897,17,3),(12,28897,17,3),(13,12,0,0)]
def zK.hl:SH:=shN zK.te zK.tb zK.tp [(4,28897,17,3)]
def zK.hj:Nat->Option Shape:=shO zK.te zK.tb zK.tp [(13,16,0,0)]
def zK.L4 (R:Type) (K:KK R) (n:Nat) (x:(Unit×Unit×Unit×Unit×(List za.T)×Int×Int×Unit)×(zO.T×zg.T×Unit)×((List zd.T)×(List zd.T)×Unit)):Option R:=zK.l4 F (fun r4 r5=>K .ret (yS (zK.h 9) ((r4,r5,()),(),()))) (fun t17 t18 t19 t20 p m mags pile=>K (.exit 0) (yS (zK.h 4) (((),(),(),(),t17,t18,t19,t20,()),(p,m,()),(mags,pile,())))) n x.1.2.2.2.2.1 x.1.2.2.2.2.2.1 x.1.2.2.2.2.2.2.1 x.2.1.1 x.2.1.2.1 x.2.2.1 x.2.2.2.1
def zK.J13 (x:((List zd.T)×Unit)×Unit×Unit) (R:Type) (K:KK R):Option R:=zK.j13 F (fun r4 r5=>K .ret (yS (zK.h 13) ((r4,r5,()),(),()))) x.1.1
def zK.X:X_ m:={hn:={MU:=fun s=>lk false s [(49,true),(55,true)],na:=2,fzJ:=fun r=>lk [] r [(13,[6])]},lv:=[⟨74,yT.sp F⟩,⟨75,z8.sp F⟩,⟨76,wK.sp F⟩],N:=58,H:=zK.h,HL:=zK.hl,HJ:=zK.hj,L:=mkL zK.hl [⟨4,fun x R K=>zK.L4 F R K F x⟩],J:=mkJ zK.hj [⟨13,zK.J13 F⟩]}
theorem zK.ok:OKP m 34 zK.sg (zK.sp F):=okp (zK.X m F) Tryz.func34 ⟨yT.ok m F,z8.ok m F,wK.ok m F,trivial⟩ trivial 1 1 (yx (FX.loopk 4 F (zK.L4 F)) zu) (yx (FX.cutk 13) zu)
def wM.te:TEs:=[kL 1,kL 2,(3,kI),(4,kI),(6,kI),(7,kI),(8,kI),kL 10,(11,kI),(13,kI),(21,kB),(31,kB),(49,kB)]
def wM.tb:TEs:=[(1,.g zO),(2,.g zd),(10,.g zd)]
def wM.h:SH:=shN wM.te wM.tb [] [(0,3,3,0),(1,51,3,0),(2,1075,3,0),(3,14,2,0),(4,67,3,0),(5,2115,3,0),(6,14,2,0),(7,387,7,0),(8,898,6,0),(9,4994,6,0),(10,14,2,0),(11,14,2,0)]
def wM.X:X_ m:={hn:={na:=1},lv:=[⟨48,zF.sp F⟩,⟨12,yu.sp F⟩,⟨13,yR.sp F⟩,⟨34,zK.sp F⟩],N:=54,H:=wM.h}
theorem wM.ok:OKP m 18 wM.sg (wM.sp F):=okp (wM.X m F) Tryz.func18 ⟨zF.ok m F,yu.ok m F,yR.ok m F,zK.ok m F,trivial⟩ trivial 0 0 zu zu
def xa.te:TEs:=[kL 1,(2,kI),(4,kI),(5,kB),(10,kB),(14,kB),(19,kB)]
def xa.tb:TEs:=[(1,.g za)]
def xa.h:SH:=shN xa.te xa.tb [] [(0,1,1,0),(1,5,1,0),(2,13,1,0),(3,13,1,0),(4,13,1,0),(5,13,1,0),(6,2,0,0),(7,21,1,0),(8,21,1,0),(9,21,1,0),(10,2,0,0),(11,37,1,0),(12,37,1,0),(13,2,0,0),(14,64,0,0),(15,2,0,0),(16,2,0,0)]
def xa.hj:Nat->Option Shape:=shO xa.te xa.tb [] [(6,13,1,0),(10,21,1,0)]
def xa.J10 (x:(Unit×Int×Bool×Unit)×(za.T×Unit)×Unit) (R:Type) (K:KK R):Option R:=xa.j10 F (fun r2=>K .ret (yS (xa.h 10) ((r2,()),(),()))) (fun r2=>K .ret (yS (xa.h 13) ((r2,()),(),()))) (fun r2=>K .ret (yS (xa.h 15) ((r2,()),(),()))) (fun t19=>K .normal (yS (xa.h 14) ((t19,()),(),()))) x.1.2.1 x.1.2.2.1 x.2.1.1
def xa.J6 (x:(Unit×Int×Bool×Unit)×(za.T×Unit)×Unit) (R:Type) (K:KK R):Option R:=xa.j6 F (fun r2=>K .ret (yS (xa.h 6) ((r2,()),(),()))) (fun r2=>K .ret (yS (xa.h 10) ((r2,()),(),()))) (fun r2=>K .ret (yS (xa.h 13) ((r2,()),(),()))) (fun r2=>K .ret (yS (xa.h 15) ((r2,()),(),()))) (fun t19=>K .normal (yS (xa.h 14) ((t19,()),(),()))) x.1.2.1 x.1.2.2.1 x.2.1.1
def xa.X:X_ m:={hn:={na:=1},N:=21,H:=xa.h,HJ:=xa.hj,J:=mkJ xa.hj [⟨10,xa.J10 F⟩,⟨6,xa.J6 F⟩]}
theorem xa.ok:OKP m 56 xa.sg (xa.sp F):=okp (xa.X m F) Tryz.func56 trivial trivial 0 2 zu (yx (FX.cutk 10) (yx (FX.cutk 6) zu))
theorem wq.lay:Go.Proofs.SlLaysE0.n41 Tryz.prog ⟨fun | 41=>57 | n=>n,fun | 22=>93 | 23=>56 | 4=>4 | n=>n,fun n=>n⟩:={mixed:=mixed,f41:=⟨Tryz.f57.name,by decide,Tryz.func57.trans (congrArg some (by kernel_rfl))⟩,t4:=Tryz.underlying4,a4:=Tryz.isAgg4,z4:=Tryz.sizeOf4,v4:=Tryz.zeroValue4,t22:=Tryz.underlying93,a22:=Tryz.isAgg93,z22:=Tryz.sizeOf93,v22:=Tryz.zeroValue93}
theorem wq.ok:OK Tryz.prog (G m) 57 wq.sg (wq.sp F):=WW rfl Tryz.func57 (by kernel_rfl) (tsOK 93) (by kernel_rfl) wq.lay rfl rfl
def yw.te:TEs:=[(0,.b za),(2,.c (.tr za)),(3,.c (.sl (.tr za))),(3,.ow 3),kL 5,(6,kI),(7,.b za),(8,kI),(9,kI),(10,kB)]
def yw.tb:TEs:=[(5,.g za)]
def yw.tp:List tH:=[⟨3,.env 3,(.tr za)⟩]
def yw.h:SH:=shN yw.te yw.tb yw.tp [(0,1,0,0),(1,9,0,1),(2,456,0,1),(3,968,0,1),(4,472,1,1),(5,504,1,1),(6,456,0,1),(7,456,0,1),(8,2,0,0)]
def yw.hl:SH:=shN yw.te yw.tb yw.tp [(3,456,0,1)]
def yw.hj:Nat->Option Shape:=shO yw.te yw.tb yw.tp [(8,4,0,0)]
def yw.L3 (R:Type) (K:KK R) (n:Nat) (x:(Unit×(List za.T)×Int×Int×Unit)×Unit×((List (LTr za.T))×Unit)):Option R:=yw.l3 F (fun t7 t8 t9 t10 pile=>K (.exit 0) (yS (yw.h 3) (((),t7,t8,t9,t10,()),(),(pile,())))) n x.1.2.1 x.1.2.2.1 x.1.2.2.2.1 x.2.2.1
def yw.J8 (x:((List (LTr za.T))×Unit)×Unit×Unit) (R:Type) (K:KK R):Option R:=yw.j8 F (fun r2=>K .ret (yS (yw.h 8) ((r2,()),(),()))) x.1.1
def yw.X:X_ m:={hn:={MU:=fun s=>lk false s [(29,true)],na:=1,fzJ:=fun r=>lk [] r [(8,[3])],BT:=fun s=>lk none s [(27,some za)]},lv:=[⟨56,xa.sp F⟩,⟨57,wq.sp F⟩],N:=34,H:=yw.h,HL:=yw.hl,HJ:=yw.hj,L:=mkL yw.hl [⟨3,fun x R K=>yw.L3 F R K F x⟩],J:=mkJ yw.hj [⟨8,yw.J8 F⟩]}
theorem yw.ok:OKP m 20 yw.sg (yw.sp F):=okp (yw.X m F) Tryz.func20 ⟨xa.ok m F,wq.ok m F,trivial⟩ trivial 1 1 (yx (FX.loopk 3 F (yw.L3 F)) zu) (yx (FX.cutk 8) zu)
def yl.te:TEs:=[(0,.b yp),(1,.b yp),(4,kB),(5,kI),(10,kB),(12,kI),(13,kI),(14,kB),(24,kB)]
def yl.h:SH:=shN yl.te [] [] [(0,3,0,0),(1,19,0,0),(2,4,0,0),(3,99,0,0),(4,227,0,0),(5,107,0,0),(6,355,0,0),(7,4,0,0),(8,99,0,0),(9,4,0,0)]
def yl.hl:SH:=shN yl.te [] [] [(4,99,0,0)]
def yl.L4 (R:Type) (K:KK R) (n:Nat) (x:((List yp.T)×(List yp.T)×Int×Int×Unit)×Unit×Unit):Option R:=yl.l4 F (fun r4=>K .ret (yS (yl.h 7) ((r4,()),(),()))) (fun s1 s2 t12 t13 t14=>K (.exit 0) (yS (yl.h 4) ((s1,s2,t12,t13,t14,()),(),()))) n x.1.1 x.1.2.1 x.1.2.2.1 x.1.2.2.2.1
def yl.X:X_ m:={hn:={na:=2},N:=26,H:=yl.h,HL:=yl.hl,L:=mkL yl.hl [⟨4,fun x R K=>yl.L4 F R K F x⟩]}
theorem yl.ok:OKP m 31 yl.sg (yl.sp F):=okp (yl.X m F) Tryz.func31 trivial trivial 1 0 (yx (FX.loopk 4 F (yl.L4 F)) zu) zu
def zp.te:TEs:=[(0,.b (.tr za)),(1,.b (.tr za)),(2,.c .fn),(6,kB),(7,kI),(8,.c (.tr za)),(9,.c (.tr za)),(14,kB),(15,.b (.tr za)),(16,kI),(17,kI),(18,kB),(30,kB)]
def zp.h:SH:=shN zp.te [] [] [(0,7,0,0),(1,135,0,0),(2,8,0,0),(3,1798,0,0),(4,3846,0,0),(5,1846,0,0),(6,1894,0,0),(7,5894,0,0),(8,8,0,0),(9,1798,0,0),(10,8,0,0)]
def zp.hl:SH:=shN zp.te [] [] [(4,1798,0,0)]
def zp.L4 (mz:Nat) (F:Nat) (R:Type) (K:KK R) (n:Nat) (x:((List (LTr za.T))×Nat×(List (LTr za.T))×Int×Int×Unit)×Unit×Unit):Option R:=zp.l4 (yX.it F mz) F (fun r6=>K .ret (yS (zp.h 8) ((r6,()),(),()))) (fun s2 eq t15 t16 t17 t18=>K (.exit 0) (yS (zp.h 4) ((s2,eq,t15,t16,t17,t18,()),(),()))) n x.1.1 x.1.2.1 x.1.2.2.1 x.1.2.2.2.1 x.1.2.2.2.2.1
def zp.X (mz:Nat) (F:Nat):X_ m:={hn:={DS:=fun d=>lk none d [(29,some zp.ds29)],na:=3},ld:=[⟨29,zp.d29 (yX.it F mz) F⟩],N:=32,H:=zp.h,HL:=zp.hl,L:=mkL zp.hl [⟨4,fun x R K=>zp.L4 mz F R K F x⟩]}
theorem zp.ok (F mz:Nat) (hme:OKP m 93 yX.sg (yX.itp F mz)):OKP m 155 zp.sg (zp.sp (yX.it F mz) F):=okp (zp.X m mz F) Tryz.func155 trivial ⟨Y1 ⟨⟨93,by kernel_rfl,hme⟩,trivial⟩,trivial⟩ 1 0 (yx (FX.loopk 4 F (zp.L4 mz F)) zu) zu
def yX.te:TEs:=[(0,.c (.tr za)),(1,.c (.tr za)),(4,kB),kL 5,kL 6]
def yX.tb:TEs:=[(5,.g za),(6,.g za)]
def yX.h:SH:=shN yX.te yX.tb [] [(0,3,0,0),(1,27,3,0),(2,4,0,0)]
def yX.X (mz:Nat) (F:Nat):X_ m:={hn:={na:=2},lv:=[⟨31,yl.sp F⟩,⟨155,zp.sp (yX.it F mz) F⟩],N:=59,H:=yX.h}
theorem yX.ok1 (F mz:Nat) (hme:OKP m 93 yX.sg (yX.itp F mz)):OKP m 93 yX.sg (yX.itp F (mz+1)):=okp (yX.X m mz F) Tryz.func93 ⟨yl.ok m F,(zp.ok m F mz hme),trivial⟩ trivial 0 0 zu zu
theorem yX.ok:OKP m 93 yX.sg (yX.sp F):=VZ (it:=yX.itp F) (fun _=>rfl) (fun n h=>yX.ok1 m F n h) F
def xj.te:TEs:=[(1,.c (.tr za)),(4,.c (.tr za)),(25,kB)]
def xj.h:SH:=shN xj.te [] [] [(0,1,0,0),(1,5,0,0),(2,2,0,0),(3,2,0,0)]
def xj.X:X_ m:={hn:={na:=2},lv:=[⟨93,yX.sp F⟩],N:=32,H:=xj.h}
theorem xj.ok:OKP m 52 xj.sg (xj.sp F):=okp (xj.X m F) Tryz.func52 ⟨yX.ok m F,trivial⟩ trivial 0 0 zu zu
def zx.te:TEs:=[(0,.c (.tr za)),(2,kB),(3,kB),(5,.c (.tr za)),(6,kB),(7,kB),(21,kB),(31,.c (.sl (.tr za))),(32,kI),(33,kI),(34,kB)]
def zx.h:SH:=shN zx.te [] [] [(0,1,0,0),(1,65,0,0),(2,6,0,0),(3,7,0,0),(4,902,0,0),(5,1926,0,0),(6,910,0,0),(7,950,0,0),(8,902,0,0),(9,902,0,0),(10,6,0,0)]
def zx.hl:SH:=shN zx.te [] [] [(5,902,0,0)]
def zx.L5 (mz:Nat) (F:Nat) (R:Type) (K:KK R) (n:Nat) (x:(Bool×Bool×(List (LTr za.T))×Int×Int×Unit)×Unit×Unit):Option R:=zx.l5 (zx.it F mz) F (fun is money t31 t32 t33 t34=>K (.exit 0) (yS (zx.h 5) ((is,money,t31,t32,t33,t34,()),(),()))) n x.1.1 x.1.2.1 x.1.2.2.1 x.1.2.2.2.1 x.1.2.2.2.2.1
def zx.X (mz:Nat) (F:Nat):X_ m:={hn:={na:=1},lv:=[⟨90,zx.itp F mz⟩],N:=53,H:=zx.h,HL:=zx.hl,L:=mkL zx.hl [⟨5,fun x R K=>zx.L5 mz F R K F x⟩]}
theorem zx.ok1 (F mz:Nat) (hme:OKP m 90 zx.sg (zx.itp F mz)):OKP m 90 zx.sg (zx.itp F (mz+1)):=okp (zx.X m mz F) Tryz.func90 ⟨hme,trivial⟩ trivial 1 0 (yx (FX.loopk 5 F (zx.L5 mz F)) zu) zu
theorem zx.ok:OKP m 90 zx.sg (zx.sp F):=VZ (it:=zx.itp F) (fun _=>rfl) (fun n h=>zx.ok1 m F n h) F
def xz.te:TEs:=[(0,.c (.tr za)),(2,kB)]
def xz.h:SH:=shN xz.te [] [] [(0,1,0,0),(1,2,0,0)]
def xz.X (F:Nat):X_ m:={hn:={na:=1},N:=17,H:=xz.h}
theorem xz.ok:OKP m 154 xz.sg (xz.sp F):=okp (xz.X m F) Tryz.func154 trivial trivial 0 0 zu zu
def wn.te:TEs:=[(0,.c (.tr za)),(2,kB)]
def wn.h:SH:=shN wn.te [] [] [(0,1,0,0),(1,2,0,0)]
def wn.X:X_ m:={hn:={na:=1},lv:=[⟨154,xz.sp F⟩],N:=35,H:=wn.h}
theorem wn.ok:OKP m 91 wn.sg (wn.sp F):=okp (wn.X m F) Tryz.func91 ⟨xz.ok m F,trivial⟩ trivial 0 0 zu zu
def zv.te:TEs:=[(0,.b zd),(1,.c .fn),kL 4,kL 5,(6,kI),(9,kB),(17,kB),(27,kB)]
def zv.tb:TEs:=[(4,.g zd),(5,.g zd)]
def zv.h:SH:=shN zv.te zv.tb [] [(0,7,1,0),(1,39,1,0),(3,15,3,0),(4,31,3,0),(5,95,3,0),(6,31,3,0),(7,159,3,0),(8,31,3,0),(9,4,1,0)]
def zv.hl:SH:=shN zv.te zv.tb [] [(5,31,3,0)]
def zv.L5 (R:Type) (K:KK R) (n:Nat) (x:((List zd.T)×Nat×Unit×Unit×Int×Unit)×(zd.T×zd.T×Unit)×Unit):Option R:=zv.l5 F (fun x cmp i t17 r4 m=>K (.exit 0) (yS (zv.h 5) ((x,cmp,(),(),i,t17,()),(r4,m,()),()))) n x.1.1 x.1.2.1 x.1.2.2.2.2.1 x.2.1.1 x.2.1.2.1
def zv.X:X_ m:={hn:={DS:=fun d=>lk none d [(26,some zv.ds26)],na:=2},ld:=[⟨26,zv.d26 F⟩],N:=33,H:=zv.h,HL:=zv.hl,L:=mkL zv.hl [⟨5,fun x R K=>zv.L5 F R K F x⟩]}
theorem zv.ok:OKP m 138 zv.sg (zv.sp F):=okp (zv.X m F) Tryz.func138 trivial ⟨Y1 ⟨⟨129,by kernel_rfl,wV.ok m F⟩,trivial⟩,trivial⟩ 1 0 (yx (FX.loopk 5 F (zv.L5 F)) zu) zu
def zw.te:TEs:=[(0,.b zd),(1,.c .fn),kL 4,kL 5,(6,kI),(9,kB),(17,kB),(27,kB)]
def zw.tb:TEs:=[(4,.g zd),(5,.g zd)]
def zw.h:SH:=shN zw.te zw.tb [] [(0,7,1,0),(1,39,1,0),(3,15,3,0),(4,31,3,0),(5,95,3,0),(6,31,3,0),(7,159,3,0),(8,31,3,0),(9,4,1,0)]
def zw.hl:SH:=shN zw.te zw.tb [] [(5,31,3,0)]
def zw.L5 (R:Type) (K:KK R) (n:Nat) (x:((List zd.T)×Nat×Unit×Unit×Int×Unit)×(zd.T×zd.T×Unit)×Unit):Option R:=zw.l5 F (fun x cmp i t17 r4 m=>K (.exit 0) (yS (zw.h 5) ((x,cmp,(),(),i,t17,()),(r4,m,()),()))) n x.1.1 x.1.2.1 x.1.2.2.2.2.1 x.2.1.1 x.2.1.2.1
def zw.X:X_ m:={hn:={DS:=fun d=>lk none d [(26,some zw.ds26)],na:=2},ld:=[⟨26,zw.d26 F⟩],N:=33,H:=zw.h,HL:=zw.hl,L:=mkL zw.hl [⟨5,fun x R K=>zw.L5 F R K F x⟩]}
theorem zw.ok:OKP m 139 zw.sg (zw.sp F):=okp (zw.X m F) Tryz.func139 trivial ⟨Y1 ⟨⟨129,by kernel_rfl,wV.ok m F⟩,trivial⟩,trivial⟩ 1 0 (yx (FX.loopk 5 F (zw.L5 F)) zu) zu
def ze.te:TEs:=[(1,.c (.tr za)),kL 2,kL 4,(5,.c (.sl zd)),(5,.ow 5),(7,.c (.tr za)),kL 8,(12,.c (.sl (.tr za))),(13,kI),(14,kI),(15,kB),(30,kI),(31,kB),(39,kB),(53,kB),(62,kB),(74,kB),(86,kB),(98,kB),(102,kB),(106,kB)]
def ze.tb:TEs:=[(2,.g zd),(4,.g zd),(8,.g zd)]
def ze.tp:List tH:=[⟨5,.env 5,zd⟩]
def ze.h:SH:=shN ze.te ze.tb ze.tp [(0,7,3,0),(1,23,3,1),(2,919,3,1),(3,1943,3,1),(4,951,3,1),(5,919,3,1),(6,919,3,1),(7,79,7,0),(8,2127,7,0),(9,6223,7,0),(10,68,6,0),(11,10319,7,0),(12,68,6,0),(13,18509,6,0),(14,68,6,0),(15,34893,6,0),(16,68,6,0),(17,67661,6,0),(18,68,6,0),(19,133197,6,0),(20,68,6,0),(21,264269,6,0),(22,68,6,0),(23,526413,6,0),(24,68,6,0),(25,1048653,6,0),(26,68,6,0),(27,68,6,0),(28,4,2,0)]
def ze.hl:SH:=shN ze.te ze.tb ze.tp [(3,919,3,1)]
def ze.hj:Nat->Option Shape:=shO ze.te ze.tb ze.tp [(7,15,3,0)]
def ze.L3 (mz:Nat) (F:Nat) (R:Type) (K:KK R) (n:Nat) (x:((LTr za.T)×Unit×Unit×Unit×(List (LTr za.T))×Int×Int×Unit)×(zd.T×zd.T×Unit)×((List zd.T)×Unit)):Option R:=ze.l3 (ze.it F mz) F (fun x t12 t13 t14 t15 f r4 k=>K (.exit 0) (yS (ze.h 3) ((x,(),(),(),t12,t13,t14,t15,()),(f,r4,()),(k,())))) n x.1.1 x.1.2.2.2.2.1 x.1.2.2.2.2.2.1 x.1.2.2.2.2.2.2.1 x.2.1.1 x.2.1.2.1 x.2.2.1
def ze.J7 (mz:Nat) (F:Nat) (x:((LTr za.T)×Unit×Unit×(List zd.T)×Unit)×(zd.T×zd.T×Unit)×Unit) (R:Type) (K:KK R):Option R:=ze.j7 (ze.it F mz) F (fun r4=>K .ret (yS (ze.h 28) (((),()),(r4,()),()))) x.1.1 x.1.2.2.2.1 x.2.1.1 x.2.1.2.1
def ze.X (mz:Nat) (F:Nat):X_ m:={hn:={MU:=fun s=>lk false s [(23,true)],na:=2,fzJ:=fun r=>lk [] r [(7,[5])]},lv:=[⟨92,ze.itp F mz⟩,⟨38,xV.sp F⟩,⟨16,xC.sp F⟩,⟨87,vi.sp F⟩,⟨82,wZ.sp F⟩,⟨81,wY.sp F⟩,⟨138,zv.sp F⟩,⟨139,zw.sp F⟩,⟨39,wN.sp F⟩],N:=129,H:=ze.h,HL:=ze.hl,HJ:=ze.hj,L:=mkL ze.hl [⟨3,fun x R K=>ze.L3 mz F R K F x⟩],J:=mkJ ze.hj [⟨7,ze.J7 mz F⟩]}
theorem ze.ok1 (F mz:Nat) (hme:OKP m 92 ze.sg (ze.itp F mz)):OKP m 92 ze.sg (ze.itp F (mz+1)):=okp (ze.X m mz F) Tryz.func92 ⟨hme,xV.ok m F,xC.ok m F,vi.ok m F,wZ.ok m F,wY.ok m F,zv.ok m F,zw.ok m F,wN.ok m F,trivial⟩ trivial 1 1 (yx (FX.loopk 3 F (ze.L3 mz F)) zu) (yx (FX.cutk 7) zu)
theorem ze.ok:OKP m 92 ze.sg (ze.sp F):=VZ (it:=ze.itp F) (fun _=>rfl) (fun n h=>ze.ok1 m F n h) F
def vK.te:TEs:=[kL 1,(2,kI),(3,kB),(4,kI),(12,kB)]
def vK.tb:TEs:=[(1,.g zd)]
def vK.h:SH:=shN vK.te vK.tb [] [(0,1,1,0),(1,9,1,0),(2,24,0,0),(3,6,0,0),(4,6,0,0)]
def vK.X (F:Nat):X_ m:={hn:={na:=1},N:=14,H:=vK.h}
theorem vK.ok:OKP m 40 vK.sg (vK.sp F):=okp (vK.X m F) Tryz.func40 trivial trivial 0 0 zu zu
def yj.te:TEs:=[(1,.c (.tr za)),kL 2,(4,.c (.tr za)),(5,kB),(6,kB),kL 7,(8,kI),kL 9,kL 10,(12,kI),(13,kB),(14,.c (.tr za)),(25,kB),(29,kB),(40,kB),(56,kB),(71,kB)]
def yj.tb:TEs:=[(2,.g zd),(7,.g zd),(9,.g zd),(10,.g zd)]
def yj.h:SH:=shN yj.te yj.tb [] [(0,3,1,0),(1,27,1,0),(2,4115,1,0),(3,4,0,0),(4,115,3,0),(5,8291,3,0),(6,417,14,0),(7,16545,6,0),(8,4,0,0),(9,97,2,0),(10,1601,0,0),(11,33345,0,0),(12,4,0,0),(13,2561,0,0),(14,67585,0,0),(15,4,0,0),(16,4,0,0)]
def yj.hj:Nat->Option Shape:=shO yj.te yj.tb [] [(10,97,2,0)]
def yj.J10 (x:((LTr za.T)×Unit×Int×Unit)×(zd.T×Unit)×Unit) (R:Type) (K:KK R):Option R:=yj.j10 F (fun r4=>K .ret (yS (yj.h 12) ((r4,()),(),()))) (fun r4=>K .ret (yS (yj.h 15) ((r4,()),(),()))) (fun r4=>K .ret (yS (yj.h 16) ((r4,()),(),()))) x.1.1 x.1.2.2.1 x.2.1.1
def yj.X:X_ m:={hn:={na:=2,BT:=fun s=>lk none s [(69,some za),(81,some za)]},lv:=[⟨90,zx.sp F⟩,⟨91,wn.sp F⟩,⟨92,ze.sp F⟩,⟨79,wk.sp F⟩,⟨40,vK.sp F⟩],N:=83,H:=yj.h,HJ:=yj.hj,J:=mkJ yj.hj [⟨10,yj.J10 F⟩]}
theorem yj.ok:OKP m 49 yj.sg (yj.sp F):=okp (yj.X m F) Tryz.func49 ⟨zx.ok m F,wn.ok m F,ze.ok m F,wk.ok m F,vK.ok m F,trivial⟩ trivial 0 1 zu (yx (FX.cutk 10) zu)
def wg.te:TEs:=[(1,.c (.tr za)),(4,.c (.tr za)),(23,kB)]
def wg.h:SH:=shN wg.te [] [] [(0,1,0,0),(1,5,0,0),(2,2,0,0),(3,2,0,0)]
def wg.X (F:Nat):X_ m:={hn:={na:=2},N:=35,H:=wg.h}
theorem wg.ok:OKP m 50 wg.sg (wg.sp F):=okp (wg.X m F) Tryz.func50 trivial trivial 0 0 zu zu
def wa.te:TEs:=[(0,.c (.tr za)),(2,kB)]
def wa.h:SH:=shN wa.te [] [] [(0,1,0,0),(1,2,0,0)]
def wa.X:X_ m:={hn:={na:=1},lv:=[⟨154,xz.sp F⟩],N:=13,H:=wa.h}
theorem wa.ok:OKP m 96 wa.sg (wa.sp F):=okp (wa.X m F) Tryz.func96 ⟨xz.ok m F,trivial⟩ trivial 0 0 zu zu
def xv.te:TEs:=[(1,.c (.tr za)),(4,.c (.tr za)),(5,kB),(27,kB)]
def xv.h:SH:=shN xv.te [] [] [(0,1,0,0),(1,5,0,0),(2,2,0,0),(3,9,0,0),(4,2,0,0),(5,2,0,0)]
def xv.X:X_ m:={hn:={na:=2},lv:=[⟨96,wa.sp F⟩],N:=57,H:=xv.h}
theorem xv.ok:OKP m 54 xv.sg (xv.sp F):=okp (xv.X m F) Tryz.func54 ⟨wa.ok m F,trivial⟩ trivial 0 0 zu zu
def we.te:TEs:=[(1,.c (.tr za)),(4,.c (.tr za)),(18,kB)]
def we.h:SH:=shN we.te [] [] [(0,1,0,0),(1,5,0,0),(2,2,0,0),(3,2,0,0)]
def we.X (F:Nat):X_ m:={hn:={na:=2},N:=25,H:=we.h}
theorem we.ok:OKP m 51 we.sg (we.sp F):=okp (we.X m F) Tryz.func51 trivial trivial 0 0 zu zu
def wA.te:TEs:=[(0,.c (.tr za)),(2,kB)]
def wA.h:SH:=shN wA.te [] [] [(0,1,0,0),(1,2,0,0)]
def wA.X (F:Nat):X_ m:={hn:={na:=1},N:=17,H:=wA.h}
theorem wA.ok:OKP m 97 wA.sg (wA.sp F):=okp (wA.X m F) Tryz.func97 trivial trivial 0 0 zu zu
def xU.te:TEs:=[(1,.c (.tr za)),(4,.c (.tr za)),(5,kB),(27,kB)]
def xU.h:SH:=shN xU.te [] [] [(0,1,0,0),(1,5,0,0),(2,2,0,0),(3,9,0,0),(4,2,0,0),(5,2,0,0)]
def xU.X:X_ m:={hn:={na:=2},lv:=[⟨97,wA.sp F⟩],N:=49,H:=xU.h}
theorem xU.ok:OKP m 55 xU.sg (xU.sp F):=okp (xU.X m F) Tryz.func55 ⟨wA.ok m F,trivial⟩ trivial 0 0 zu zu
def xh.te:TEs:=[(0,.c (.tr za)),(1,.p (.tr za)),(3,kB)]
def xh.h:SH:=shN xh.te [] [] [(0,3,0,0),(1,4,0,0)]
def xh.X:X_ m:={hn:={na:=2},lv:=[⟨93,yX.sp F⟩],N:=7,H:=xh.h}
theorem xh.ok:OKP m 95 xh.sg (xh.sp F):=okp (xh.X m F) Tryz.func95 ⟨yX.ok m F,trivial⟩ trivial 0 0 zu zu
def zn.te:TEs:=[(0,.b (.tr za)),(1,.cl (.tr za)),(4,kI),(5,kI),(7,kI),(8,kI),(9,kB),(16,kB)]
def zn.h:SH:=shN zn.te [] [] [(0,3,0,0),(1,51,0,0),(2,115,0,0),(3,59,0,0),(4,187,0,0),(5,4,0,0),(6,51,0,0),(7,4,0,0)]
def zn.hl:SH:=shN zn.te [] [] [(2,51,0,0)]
def zn.L2 (R:Type) (K:KK R) (n:Nat) (x:((List (LTr za.T))×(Nat×(LTr za.T))×Int×Int×Unit)×Unit×Unit):Option R:=zn.l2 F (fun r4=>K .ret (yS (zn.h 5) ((r4,()),(),()))) (fun s f t7 t8 t9=>K (.exit 0) (yS (zn.h 2) ((s,f,t7,t8,t9,()),(),()))) n x.1.1 x.1.2.1 x.1.2.2.1 x.1.2.2.2.1
def zn.X:X_ m:={hn:={DS:=fun d=>lk none d [(16,some zn.ds16)],na:=2},ld:=[⟨16,zn.d16 F⟩],N:=19,H:=zn.h,HL:=zn.hl,L:=mkL zn.hl [⟨2,fun x R K=>zn.L2 F R K F x⟩]}
theorem zn.ok:OKP m 156 zn.sg (zn.sp F):=okp (zn.X m F) Tryz.func156 trivial ⟨Y1 ⟨⟨95,by kernel_rfl,xh.ok m F⟩,trivial⟩,trivial⟩ 1 0 (yx (FX.loopk 2 F (zn.L2 F)) zu) zu
def yL.te:TEs:=[(0,.b (.tr za)),(1,.cl (.tr za)),(4,kB)]
def yL.h:SH:=shN yL.te [] [] [(0,3,0,0),(1,4,0,0)]
def yL.X:X_ m:={hn:={na:=2},lv:=[⟨156,zn.sp F⟩],N:=9,H:=yL.h}
theorem yL.ok:OKP m 94 yL.sg (yL.sp F):=okp (yL.X m F) Tryz.func94 ⟨zn.ok m F,trivial⟩ trivial 0 0 zu zu
def zj.te:TEs:=[(1,.c (.tr za)),(4,.c (.tr za)),(5,.c (.sl (.tr za))),(5,.ow 5),kL 7,(7,.p (.tr za)),kL 8,(22,kB),(26,.c (.sl (.tr za))),(27,kI),(28,kI),(29,kB),(35,kB),(48,kB),(51,kB)]
def zj.tb:TEs:=[(7,.c (.tr za)),(8,.g za)]
def zj.tp:List tH:=[⟨5,.env 5,(.tr za)⟩]
def zj.h:SH:=shN zj.te zj.tb zj.tp [(0,1,0,0),(1,129,0,0),(2,2,0,0),(3,9,0,1),(4,1801,0,1),(5,3849,0,1),(6,1817,1,1),(7,5929,0,1),(8,1801,0,1),(9,1801,0,1),(10,8197,0,0),(11,2,0,0),(12,16389,0,0),(13,2,0,0),(14,68,2,0),(15,68,2,0),(16,2,0,0)]
def zj.hl:SH:=shN zj.te zj.tb zj.tp [(5,1801,0,1)]
def zj.hj:Nat->Option Shape:=shO zj.te zj.tb zj.tp [(3,1,0,0),(10,5,0,0)]
def zj.L5 (R:Type) (K:KK R) (n:Nat) (x:((LTr za.T)×Unit×(List (LTr za.T))×Int×Int×Unit)×Unit×((List (LTr za.T))×Unit)):Option R:=zj.l5 F (fun x t26 t27 t28 t29 kids=>K (.exit 0) (yS (zj.h 5) ((x,(),t26,t27,t28,t29,()),(),(kids,())))) n x.1.1 x.1.2.2.1 x.1.2.2.2.1 x.1.2.2.2.2.1 x.2.2.1
def zj.J10 (x:((LTr za.T)×(List (LTr za.T))×Unit)×Unit×Unit) (R:Type) (K:KK R):Option R:=zj.j10 F (fun r4=>K .ret (yS (zj.h 11) ((r4,()),(),()))) (fun r4=>K .ret (yS (zj.h 13) ((r4,()),(),()))) (fun r4=>K .ret (yS (zj.h 16) ((r4,()),(),()))) x.1.1 x.1.2.1
def zj.J3 (x:((LTr za.T)×Unit)×Unit×Unit) (R:Type) (K:KK R):Option R:=zj.j3 F (fun r4=>K .ret (yS (zj.h 11) ((r4,()),(),()))) (fun r4=>K .ret (yS (zj.h 13) ((r4,()),(),()))) (fun r4=>K .ret (yS (zj.h 16) ((r4,()),(),()))) x.1.1
def zj.X:X_ m:={hn:={MU:=fun s=>lk false s [(39,true)],CT:=fun d=>lk .unit d [(33,(.tr za))],na:=2,fzJ:=fun r=>lk [] r [(10,[5])],BT:=fun s=>lk none s [(65,some za)]},lv:=[⟨94,yL.sp F⟩],N:=66,H:=zj.h,HL:=zj.hl,HJ:=zj.hj,L:=mkL zj.hl [⟨5,fun x R K=>zj.L5 F R K F x⟩],J:=mkJ zj.hj [⟨10,zj.J10 F⟩,⟨3,zj.J3 F⟩]}
theorem zj.ok:OKP m 53 zj.sg (zj.sp F):=okp (zj.X m F) Tryz.func53 ⟨yL.ok m F,trivial⟩ trivial 1 2 (yx (FX.loopk 5 F (zj.L5 F)) zu) (yx (FX.cutk 10) (yx (FX.cutk 3) zu))
def zb.te:TEs:=[(1,.c (.tr za)),kL 2,(4,.c (.tr za)),(5,.c (.sl (.tr za))),(5,.ow 5),(6,kI),(7,.c (.tr za)),(9,.c (.bnd zd)),(10,.c (.tr za)),(20,.c (.sl (.tr za))),(21,kI),(22,kI),(23,kB),(55,.c (.sl (.bnd zd))),(56,kI),(57,kI),(58,kB),(65,kB)]
def zb.tb:TEs:=[(2,.g zd)]
def zb.tp:List tH:=[⟨5,.env 5,(.tr za)⟩]
def zb.h:SH:=shN zb.te zb.tb zb.tp [(0,3,1,0),(1,19,1,1),(2,3603,1,1),(3,7699,1,1),(4,3699,1,1),(5,3603,1,1),(6,3603,1,1),(7,3,1,0),(8,57347,1,0),(9,122883,1,0),(10,57475,1,0),(11,57603,1,0),(12,188675,1,0),(13,4,0,0),(14,57347,1,0),(15,4,0,0)]
def zb.hl:SH:=shN zb.te zb.tb zb.tp [(3,3603,1,1),(9,57347,1,0)]
def zb.hj:Nat->Option Shape:=shO zb.te zb.tb zb.tp [(7,11,1,0)]
def zb.L3 (mz:Nat) (F:Nat) (R:Type) (K:KK R) (n:Nat) (x:((LTr za.T)×Unit×Unit×(List (LTr za.T))×Int×Int×Unit)×(zd.T×Unit)×((List (LTr za.T))×Unit)):Option R:=zb.l3 (zb.it F mz) F (fun x t20 t21 t22 t23 f kids=>K (.exit 0) (yS (zb.h 3) ((x,(),(),t20,t21,t22,t23,()),(f,()),(kids,())))) n x.1.1 x.1.2.2.2.1 x.1.2.2.2.2.1 x.1.2.2.2.2.2.1 x.2.1.1 x.2.2.1
def zb.L9 (mz:Nat) (F:Nat) (R:Type) (K:KK R) (n:Nat) (x:((LTr za.T)×Unit×(List (Nat×zd.T))×Int×Int×Unit)×(zd.T×Unit)×Unit):Option R:=zb.l9 (zb.it F mz) F (fun r4=>K .ret (yS (zb.h 13) ((r4,()),(),()))) (fun x t55 t56 t57 t58 f=>K (.exit 2) (yS (zb.h 9) ((x,(),t55,t56,t57,t58,()),(f,()),()))) n x.1.1 x.1.2.2.1 x.1.2.2.2.1 x.1.2.2.2.2.1 x.2.1.1
def zb.J7 (mz:Nat) (F:Nat) (x:((LTr za.T)×Unit×(List (LTr za.T))×Unit)×(zd.T×Unit)×Unit) (R:Type) (K:KK R):Option R:=zb.j7 (zb.it F mz) F (fun r4=>K .ret (yS (zb.h 13) ((r4,()),(),()))) (fun r4=>K .ret (yS (zb.h 15) ((r4,()),(),()))) x.1.1 x.1.2.2.1 x.2.1.1
def zb.X (mz:Nat) (F:Nat):X_ m:={hn:={MU:=fun s=>lk false s [(16,true)],DS:=fun d=>lk none d [(63,some zb.ds63)],CT:=fun d=>lk .unit d [(42,zd),(44,zd),(46,zd),(48,zd),(50,zd),(52,zd),(54,zd)],na:=2,fzJ:=fun r=>lk [] r [(7,[5])],BT:=fun s=>lk none s [(40,some za)]},lv:=[⟨19,zb.itp F mz⟩],ld:=[⟨63,zb.d63 (zb.it F mz) F⟩],N:=71,H:=zb.h,HL:=zb.hl,HJ:=zb.hj,L:=mkL zb.hl [⟨3,fun x R K=>zb.L3 mz F R K F x⟩,⟨9,fun x R K=>zb.L9 mz F R K F x⟩],J:=mkJ zb.hj [⟨7,zb.J7 mz F⟩]}
theorem zb.ok1 (F mz:Nat) (hme:OKP m 19 zb.sg (zb.itp F mz)):OKP m 19 zb.sg (zb.itp F (mz+1)):=okp (zb.X m mz F) Tryz.func19 ⟨hme,trivial⟩ ⟨Y1 ⟨⟨52,by kernel_rfl,xj.ok m F⟩,⟨49,by kernel_rfl,yj.ok m F⟩,⟨50,by kernel_rfl,wg.ok m F⟩,⟨54,by kernel_rfl,xv.ok m F⟩,⟨51,by kernel_rfl,we.ok m F⟩,⟨55,by kernel_rfl,xU.ok m F⟩,⟨53,by kernel_rfl,zj.ok m F⟩,trivial⟩,trivial⟩ 2 1 (yx (FX.loopk 9 F (zb.L9 mz F)) (yx (FX.loopk 3 F (zb.L3 mz F)) zu)) (yx (FX.cutk 7) zu)
theorem zb.ok:OKP m 19 zb.sg (zb.sp F):=VZ (it:=zb.itp F) (fun _=>rfl) (fun n h=>zb.ok1 m F n h) F
theorem wC.lay:Go.Proofs.SlLaysE0.n41 Tryz.prog ⟨fun | 41=>21 | n=>n,fun | 22=>22 | 23=>38 | 4=>4 | n=>n,fun n=>n⟩:={mixed:=mixed,f41:=⟨Tryz.f21.name,by decide,Tryz.func21.trans (congrArg some (by kernel_rfl))⟩,t4:=Tryz.underlying4,a4:=Tryz.isAgg4,z4:=Tryz.sizeOf4,v4:=Tryz.zeroValue4,t22:=Tryz.underlying22,a22:=Tryz.isAgg22,z22:=Tryz.sizeOf22,v22:=Tryz.zeroValue22}
theorem wC.ok:OK Tryz.prog (G m) 21 wC.sg (wC.sp F):=WW rfl Tryz.func21 (by kernel_rfl) (tsOK 22) (by kernel_rfl) wC.lay rfl rfl
theorem wb.lay:Go.Proofs.SlLaysE0.n41 Tryz.prog ⟨fun | 41=>58 | n=>n,fun | 22=>51 | 23=>75 | 4=>4 | n=>n,fun n=>n⟩:={mixed:=mixed,f41:=⟨Tryz.f58.name,by decide,Tryz.func58.trans (congrArg some (by kernel_rfl))⟩,t4:=Tryz.underlying4,a4:=Tryz.isAgg4,z4:=Tryz.sizeOf4,v4:=Tryz.zeroValue4,t22:=Tryz.underlying51,a22:=Tryz.isAgg51,z22:=Tryz.sizeOf51,v22:=Tryz.zeroValue51}
theorem wb.ok:OK Tryz.prog (G m) 58 wb.sg (wb.sp F):=WW rfl Tryz.func58 (by kernel_rfl) (tsOK 51) (by kernel_rfl) wb.lay rfl rfl
def zB.te:TEs:=[(0,.c (.tr za)),(1,.ow 1),(4,.ow 4),(6,.c (.tr za)),kL 7,(11,.c (.sl (.tr za))),(12,kI),(13,kI),(14,kB)]
def zB.tb:TEs:=[(7,.g za)]
def zB.tp:List tH:=[⟨1,.env 1,za⟩,⟨4,.env 4,za⟩]
def zB.h:SH:=shN zB.te zB.tb zB.tp [(0,3,0,1),(1,227,0,1),(2,483,0,1),(3,235,0,1),(4,227,0,1),(5,227,0,1),(6,18,1,1),(7,18,1,1),(8,4,0,2)]
def zB.hl:SH:=shN zB.te zB.tb zB.tp [(2,227,0,1)]
def zB.L2 (mz:Nat) (F:Nat) (R:Type) (K:KK R) (n:Nat) (x:((LTr za.T)×Unit×(List (LTr za.T))×Int×Int×Unit)×Unit×((List za.T)×Unit)):Option R:=zB.l2 (zB.it F mz) F (fun x t11 t12 t13 t14 l=>K (.exit 0) (yS (zB.h 2) ((x,(),t11,t12,t13,t14,()),(),(l,())))) n x.1.1 x.1.2.2.1 x.1.2.2.2.1 x.1.2.2.2.2.1 x.2.2.1
def zB.X (mz:Nat) (F:Nat):X_ m:={hn:={MU:=fun s=>lk false s [(1,true),(19,true)],na:=2},lv:=[⟨22,zB.itp F mz⟩,⟨58,wb.sp F⟩],N:=33,H:=zB.h,HL:=zB.hl,L:=mkL zB.hl [⟨2,fun x R K=>zB.L2 mz F R K F x⟩]}
theorem zB.ok1 (F mz:Nat) (hme:OKP m 22 zB.sg (zB.itp F mz)):OKP m 22 zB.sg (zB.itp F (mz+1)):=okp (zB.X m mz F) Tryz.func22 ⟨hme,wb.ok m F,trivial⟩ trivial 1 0 (yx (FX.loopk 2 F (zB.L2 mz F)) zu) zu
theorem zB.ok:OKP m 22 zB.sg (zB.sp F):=VZ (it:=zB.itp F) (fun _=>rfl) (fun n h=>zB.ok1 m F n h) F
def wI.te:TEs:=[kL 1,kL 2,(3,kI),kL 4,(6,kI),(7,.c (.tr za)),(15,kB)]
def wI.tb:TEs:=[(1,.g zO),(2,.g zO),(4,.g zd)]
def wI.h:SH:=shN wI.te wI.tb [] [(0,3,3,0),(1,27,7,0),(2,91,7,0),(3,6,2,0),(4,35,3,0),(5,6,2,0)]
def wI.X:X_ m:={hn:={na:=1,fz:=fun r=>lk [] r [(5,[101280])]},lv:=[⟨18,wM.sp F⟩,⟨20,yw.sp F⟩,⟨19,zb.sp F⟩,⟨21,wC.sp F⟩,⟨22,zB.sp F⟩],N:=34,H:=wI.h}
theorem wI.ok:OKP m 8 wI.sg (wI.sp F):=okp (wI.X m F) Tryz.func8 ⟨wM.ok m F,yw.ok m F,zb.ok m F,wC.ok m F,zB.ok m F,trivial⟩ trivial 0 0 zu zu
def yh.te:TEs:=[kL 2,kL 3,(4,kB),(5,kI),(40,kB),(45,kB),(58,kB)]
def yh.tb:TEs:=[(2,.g za),(3,.g za)]
def yh.h:SH:=shN yh.te yh.tb [] [(0,3,3,0),(1,19,3,0),(2,4,0,0),(3,11,3,0),(4,43,3,0),(5,11,3,0),(6,75,3,0),(7,4,0,0),(8,4,0,0)]
def yh.hl:SH:=shN yh.te yh.tb [] [(4,11,3,0)]
def yh.L4 (R:Type) (K:KK R) (n:Nat) (x:(Unit×Unit×Int×Unit)×(za.T×za.T×Unit)×Unit):Option R:=yh.l4 F (fun r4=>K .ret (yS (yh.h 7) ((r4,()),(),()))) (fun i t45 a b=>K (.exit 0) (yS (yh.h 4) (((),(),i,t45,()),(a,b,()),()))) n x.1.2.2.1 x.2.1.1 x.2.1.2.1
def yh.X:X_ m:={hn:={na:=2},N:=59,H:=yh.h,HL:=yh.hl,L:=mkL yh.hl [⟨4,fun x R K=>yh.L4 F R K F x⟩]}
theorem yh.ok:OKP m 47 yh.sg (yh.sp F):=okp (yh.X m F) Tryz.func47 trivial trivial 1 0 (yx (FX.loopk 4 F (yh.L4 F)) zu) zu
def zZ.te:TEs:=[kL 2,kL 3,(4,kB),(5,kI),(6,kI),(36,kB),(41,kB),(54,kB),(59,kB),(73,kB)]
def zZ.tb:TEs:=[(2,.g zO),(3,.g zO)]
def zZ.h:SH:=shN zZ.te zZ.tb [] [(0,3,3,0),(1,35,3,0),(2,4,0,0),(3,11,3,0),(4,75,3,0),(5,11,3,0),(6,139,3,0),(7,4,0,0),(8,19,3,0),(9,275,3,0),(10,19,3,0),(11,531,3,0),(12,4,0,0),(13,4,0,0)]
def zZ.hl:SH:=shN zZ.te zZ.tb [] [(4,11,3,0),(9,19,3,0)]
def zZ.L4 (R:Type) (K:KK R) (n:Nat) (x:(Unit×Unit×Int×Unit)×(zO.T×zO.T×Unit)×Unit):Option R:=zZ.l4 F (fun r4=>K .ret (yS (zZ.h 7) ((r4,()),(),()))) (fun i t41 p q=>K (.exit 0) (yS (zZ.h 4) (((),(),i,t41,()),(p,q,()),()))) n x.1.2.2.1 x.2.1.1 x.2.1.2.1
def zZ.L9 (R:Type) (K:KK R) (n:Nat) (x:(Unit×Unit×Int×Unit)×(zO.T×zO.T×Unit)×Unit):Option R:=zZ.l9 F (fun r4=>K .ret (yS (zZ.h 12) ((r4,()),(),()))) (fun i t59 p q=>K (.exit 2) (yS (zZ.h 9) (((),(),i,t59,()),(p,q,()),()))) n x.1.2.2.1 x.2.1.1 x.2.1.2.1
def zZ.X:X_ m:={hn:={na:=2},lv:=[⟨47,yh.sp F⟩],N:=74,H:=zZ.h,HL:=zZ.hl,L:=mkL zZ.hl [⟨4,fun x R K=>zZ.L4 F R K F x⟩,⟨9,fun x R K=>zZ.L9 F R K F x⟩]}
theorem zZ.ok:OKP m 17 zZ.sg (zZ.sp F):=okp (zZ.X m F) Tryz.func17 ⟨yh.ok m F,trivial⟩ trivial 2 0 (yx (FX.loopk 9 F (zZ.L9 F)) (yx (FX.loopk 4 F (zZ.L4 F)) zu)) zu
def xN.te:TEs:=[(0,kB),kL 1,kL 2,(3,kI),(5,kI)]
def xN.tb:TEs:=[(1,.g zO),(2,.g zO)]
def xN.h:SH:=shN xN.te xN.tb [] [(1,2,1,0),(2,14,3,0),(3,14,3,0),(4,30,3,0),(5,1,0,0)]
def xN.X:X_ m:={hn:={na:=0},lv:=[⟨8,wI.sp F⟩,⟨17,zZ.sp F⟩],N:=38,H:=xN.h}
theorem xN.ok:OKP m 7 xN.sg (xN.sp F):=okp (xN.X m F) Tryz.func7 ⟨wI.ok m F,zZ.ok m F,trivial⟩ trivial 0 0 zu zu
def xI.te:TEs:=[(0,.c (.int .u8)),(2,kB)]
def xI.h:SH:=shN xI.te [] [] [(0,1,0,0),(1,2,0,0)]
def xI.X (F:Nat):X_ m:={hn:={na:=1},N:=9,H:=xI.h}
theorem xI.ok:OKP m 182 xI.sg (xI.sp F):=okp (xI.X m F) Tryz.func182 trivial trivial 0 0 zu zu
def xY.te:TEs:=[(0,.c (.sl .str))]
def xY.h:SH:=shN xY.te [] [] [(1,1,0,0)]
def xY.X (F:Nat):X_ m:={hn:={na:=0},N:=2,H:=xY.h}
theorem xY.ok:OKP m 190 xY.sg (xY.sp F):=okp (xY.X m F) Tryz.func190 trivial trivial 0 0 zu zu
def zX.te:TEs:=[(0,.c .str),(2,kB),(3,.c (.sl .str)),(4,kI),(9,kB),(17,kB)]
def zX.h:SH:=shN zX.te [] [] [(0,1,0,0),(1,5,0,0),(2,13,0,0),(3,29,0,0),(4,13,0,0),(5,45,0,0),(6,2,0,0),(7,2,0,0)]
def zX.hl:SH:=shN zX.te [] [] [(3,13,0,0)]
def zX.L3 (R:Type) (K:KK R) (n:Nat) (x:(ByteArray×(List ByteArray)×Int×Unit)×Unit×Unit):Option R:=zX.l3 F (fun r2=>K .ret (yS (zX.h 6) ((r2,()),(),()))) (fun s l i t9=>K (.exit 0) (yS (zX.h 3) ((s,l,i,t9,()),(),()))) n x.1.1 x.1.2.1 x.1.2.2.1
def zX.X:X_ m:={hn:={na:=1},lv:=[⟨190,xY.sp F⟩],N:=18,H:=zX.h,HL:=zX.hl,L:=mkL zX.hl [⟨3,fun x R K=>zX.L3 F R K F x⟩]}
theorem zX.ok:OKP m 183 zX.sg (zX.sp F):=okp (zX.X m F) Tryz.func183 ⟨xY.ok m F,trivial⟩ trivial 1 0 (yx (FX.loopk 3 F (zX.L3 F)) zu) zu
def xT.te:TEs:=[(0,.c (.int .u8)),(2,kB)]
def xT.h:SH:=shN xT.te [] [] [(0,1,0,0),(1,2,0,0)]
def xT.X (F:Nat):X_ m:={hn:={na:=1},N:=9,H:=xT.h}
theorem xT.ok:OKP m 184 xT.sg (xT.sp F):=okp (xT.X m F) Tryz.func184 trivial trivial 0 0 zu zu
def yq.te:TEs:=[(0,.c .str),(2,kB),(3,kI),(21,kB),(25,kB),(45,kB)]
def yq.h:SH:=shN yq.te [] [] [(0,1,0,0),(1,9,0,0),(2,2,0,0),(3,5,0,0),(4,21,0,0),(5,5,0,0),(6,37,0,0),(7,2,0,0),(8,2,0,0)]
def yq.hl:SH:=shN yq.te [] [] [(4,5,0,0)]
def yq.L4 (R:Type) (K:KK R) (n:Nat) (x:(ByteArray×Int×Unit)×Unit×Unit):Option R:=yq.l4 F (fun r2=>K .ret (yS (yq.h 7) ((r2,()),(),()))) (fun s i t25=>K (.exit 0) (yS (yq.h 4) ((s,i,t25,()),(),()))) n x.1.1 x.1.2.1
def yq.X:X_ m:={hn:={na:=1},lv:=[⟨182,xI.sp F⟩,⟨183,zX.sp F⟩,⟨184,xT.sp F⟩],N:=46,H:=yq.h,HL:=yq.hl,L:=mkL yq.hl [⟨4,fun x R K=>yq.L4 F R K F x⟩]}
theorem yq.ok:OKP m 157 yq.sg (yq.sp F):=okp (yq.X m F) Tryz.func157 ⟨xI.ok m F,zX.ok m F,xT.ok m F,trivial⟩ trivial 1 0 (yx (FX.loopk 4 F (yq.L4 F)) zu) zu
def zM.te:TEs:=[kL 1,(2,kI),(3,kI),(4,kI),(8,kB),(18,kB),(23,kB),(33,kB),(36,kB),(51,kB),(67,kB),(75,kB)]
def zM.tb:TEs:=[(1,.g zO)]
def zM.h:SH:=shN zM.te zM.tb [] [(0,1,1,0),(1,17,1,0),(2,2,0,0),(3,33,1,0),(4,2,0,0),(5,5,1,0),(6,69,1,0),(7,5,1,0),(8,133,1,0),(9,2,0,0),(10,13,1,0),(11,269,1,0),(12,13,1,0),(13,525,1,0),(14,2,0,0),(15,1029,1,0),(16,2,0,0),(17,2048,0,0),(18,2,0,0),(19,2,0,0)]
def zM.hl:SH:=shN zM.te zM.tb [] [(6,5,1,0),(11,13,1,0)]
def zM.L11 (R:Type) (K:KK R) (n:Nat) (x:(Unit×Int×Int×Unit)×(zO.T×Unit)×Unit):Option R:=zM.l11 F (fun r2=>K .ret (yS (zM.h 14) ((r2,()),(),()))) (fun i k t36 p=>K (.exit 2) (yS (zM.h 11) (((),i,k,t36,()),(p,()),()))) n x.1.2.1 x.1.2.2.1 x.2.1.1
def zM.L6 (R:Type) (K:KK R) (n:Nat) (x:(Unit×Int×Unit)×(zO.T×Unit)×Unit):Option R:=zM.l6 F (fun r2=>K .ret (yS (zM.h 9) ((r2,()),(),()))) (fun r2=>K .ret (yS (zM.h 14) ((r2,()),(),()))) (fun r2=>K .ret (yS (zM.h 16) ((r2,()),(),()))) (fun i t23 p=>K (.exit 0) (yS (zM.h 6) (((),i,t23,()),(p,()),()))) n x.1.2.1 x.2.1.1
def zM.X:X_ m:={hn:={na:=1},lv:=[⟨157,yq.sp F⟩],N:=76,H:=zM.h,HL:=zM.hl,L:=mkL zM.hl [⟨11,fun x R K=>zM.L11 F R K F x⟩,⟨6,fun x R K=>zM.L6 F R K F x⟩]}
theorem zM.ok:OKP m 98 zM.sg (zM.sp F):=okp (zM.X m F) Tryz.func98 ⟨yq.ok m F,trivial⟩ trivial 2 0 (yx (FX.loopk 11 F (zM.L11 F)) (yx (FX.loopk 6 F (zM.L6 F)) zu)) zu
def zq.te:TEs:=[kL 1,(2,kI),(4,kI),(5,kB),(10,kB),(17,kB),(21,kB),(26,kB)]
def zq.tb:TEs:=[(1,.g za)]
def zq.h:SH:=shN zq.te zq.tb [] [(0,1,1,0),(1,5,1,0),(2,13,1,0),(3,13,1,0),(4,13,1,0),(5,13,1,0),(6,2,0,0),(7,21,1,0),(8,21,1,0),(9,21,1,0),(10,21,1,0),(11,21,1,0),(12,21,1,0),(13,2,0,0),(14,37,1,0),(15,37,1,0),(16,37,1,0),(17,2,0,0),(18,69,1,0),(19,69,1,0),(20,2,0,0),(21,128,0,0),(22,2,0,0),(23,2,0,0)]
def zq.hj:Nat->Option Shape:=shO zq.te zq.tb [] [(6,13,1,0),(13,21,1,0),(17,37,1,0)]
def zq.J17 (x:(Unit×Int×Bool×Unit)×(za.T×Unit)×Unit) (R:Type) (K:KK R):Option R:=zq.j17 F (fun r2=>K .ret (yS (zq.h 17) ((r2,()),(),()))) (fun r2=>K .ret (yS (zq.h 20) ((r2,()),(),()))) (fun r2=>K .ret (yS (zq.h 22) ((r2,()),(),()))) (fun t26=>K .normal (yS (zq.h 21) ((t26,()),(),()))) x.1.2.1 x.1.2.2.1 x.2.1.1
def zq.J13 (x:(Unit×Int×Bool×Unit)×(za.T×Unit)×Unit) (R:Type) (K:KK R):Option R:=zq.j13 F (fun r2=>K .ret (yS (zq.h 13) ((r2,()),(),()))) (fun r2=>K .ret (yS (zq.h 17) ((r2,()),(),()))) (fun r2=>K .ret (yS (zq.h 20) ((r2,()),(),()))) (fun r2=>K .ret (yS (zq.h 22) ((r2,()),(),()))) (fun t26=>K .normal (yS (zq.h 21) ((t26,()),(),()))) x.1.2.1 x.1.2.2.1 x.2.1.1
def zq.J6 (x:(Unit×Int×Bool×Unit)×(za.T×Unit)×Unit) (R:Type) (K:KK R):Option R:=zq.j6 F (fun r2=>K .ret (yS (zq.h 6) ((r2,()),(),()))) (fun r2=>K .ret (yS (zq.h 13) ((r2,()),(),()))) (fun r2=>K .ret (yS (zq.h 17) ((r2,()),(),()))) (fun r2=>K .ret (yS (zq.h 20) ((r2,()),(),()))) (fun r2=>K .ret (yS (zq.h 22) ((r2,()),(),()))) (fun t26=>K .normal (yS (zq.h 21) ((t26,()),(),()))) x.1.2.1 x.1.2.2.1 x.2.1.1
def zq.X:X_ m:={hn:={na:=1},N:=28,H:=zq.h,HJ:=zq.hj,J:=mkJ zq.hj [⟨17,zq.J17 F⟩,⟨13,zq.J13 F⟩,⟨6,zq.J6 F⟩]}
theorem zq.ok:OKP m 60 zq.sg (zq.sp F):=okp (zq.X m F) Tryz.func60 trivial trivial 0 3 zu (yx (FX.cutk 17) (yx (FX.cutk 13) (yx (FX.cutk 6) zu)))
def yF.te:TEs:=[(0,kI),(1,kI),(4,kI),(5,kI),(6,kB),(12,kB),(17,kB)]
def yF.h:SH:=shN yF.te [] [] [(0,3,0,0),(1,10,0,0),(2,26,0,0),(3,26,0,0),(4,26,0,0),(5,26,0,0),(6,26,0,0),(7,4,0,0),(8,42,0,0),(9,42,0,0),(10,4,0,0),(11,64,0,0),(12,4,0,0),(13,4,0,0)]
def yF.hj:Nat->Option Shape:=shO yF.te [] [] [(7,26,0,0)]
def yF.J7 (x:(Int×Int×Bool×Unit)×Unit×Unit) (R:Type) (K:KK R):Option R:=yF.j7 F (fun r4=>K .ret (yS (yF.h 7) ((r4,()),(),()))) (fun r4=>K .ret (yS (yF.h 10) ((r4,()),(),()))) (fun r4=>K .ret (yS (yF.h 12) ((r4,()),(),()))) (fun t17=>K .normal (yS (yF.h 11) ((t17,()),(),()))) x.1.1 x.1.2.1 x.1.2.2.1
def yF.X:X_ m:={hn:={na:=2},N:=19,H:=yF.h,HJ:=yF.hj,J:=mkJ yF.hj [⟨7,yF.J7 F⟩]}
theorem yF.ok:OKP m 158 yF.sg (yF.sp F):=okp (yF.X m F) Tryz.func158 trivial trivial 0 1 zu (yx (FX.cutk 7) zu)
def z7.te:TEs:=[(1,kI),kL 2,(4,kB),(16,kB),(19,kB),(27,kB),(30,kB),(38,kB),(46,kB),(49,kB)]
def z7.tb:TEs:=[(2,.g za)]
def z7.h:SH:=shN z7.te z7.tb [] [(0,3,1,0),(1,10,1,0),(2,4,0,0),(3,18,1,0),(4,34,1,0),(5,4,0,0),(6,66,1,0),(7,4,0,0),(8,130,1,0),(9,258,1,0),(10,4,0,0),(11,514,1,0),(12,4,0,0),(13,4,0,0)]
def z7.hj:Nat->Option Shape:=shO z7.te z7.tb [] [(8,2,1,0),(13,2,1,0)]
def z7.J13 (x:(Unit×Unit)×(za.T×Unit)×Unit) (R:Type) (K:KK R):Option R:=z7.j13 F (fun r4=>K .ret (yS (z7.h 13) ((r4,()),(),()))) x.2.1.1
def z7.J8 (x:(Unit×Unit)×(za.T×Unit)×Unit) (R:Type) (K:KK R):Option R:=z7.j8 F (fun r4=>K .ret (yS (z7.h 10) ((r4,()),(),()))) (fun r4=>K .ret (yS (z7.h 13) ((r4,()),(),()))) (fun r4=>K .ret (yS (z7.h 12) ((r4,()),(),()))) x.2.1.1
def z7.X:X_ m:={hn:={na:=2},lv:=[⟨158,yF.sp F⟩],N:=64,H:=z7.h,HJ:=z7.hj,J:=mkJ z7.hj [⟨13,z7.J13 F⟩,⟨8,z7.J8 F⟩]}
theorem z7.ok:OKP m 99 z7.sg (z7.sp F):=okp (z7.X m F) Tryz.func99 ⟨yF.ok m F,trivial⟩ trivial 0 2 zu (yx (FX.cutk 13) (yx (FX.cutk 8) zu))
def zQ.te:TEs:=[(0,.b yp),(2,kB),(3,kI),(18,kB),(22,kB),(40,kB),(62,kB)]
def zQ.h:SH:=shN zQ.te [] [] [(0,1,0,0),(1,9,0,0),(2,2,0,0),(3,5,0,0),(4,21,0,0),(5,5,0,0),(6,37,0,0),(7,2,0,0),(8,69,0,0),(9,2,0,0),(10,2,0,0)]
def zQ.hl:SH:=shN zQ.te [] [] [(4,5,0,0)]
def zQ.hj:Nat->Option Shape:=shO zQ.te [] [] [(8,5,0,0)]
def zQ.J8 (x:((List yp.T)×Int×Unit)×Unit×Unit) (R:Type) (K:KK R):Option R:=zQ.j8 F (fun r2=>K .ret (yS (zQ.h 9) ((r2,()),(),()))) (fun l i t62=>K .normal (yS (zQ.h 8) ((l,i,t62,()),(),()))) x.1.1 x.1.2.1
def zQ.L4 (R:Type) (K:KK R) (n:Nat) (x:((List yp.T)×Int×Unit)×Unit×Unit):Option R:=zQ.l4 F (fun r2=>K .ret (yS (zQ.h 7) ((r2,()),(),()))) (fun r2=>K .ret (yS (zQ.h 9) ((r2,()),(),()))) (fun l i t22=>K (.exit 0) (yS (zQ.h 4) ((l,i,t22,()),(),()))) n x.1.1 x.1.2.1
def zQ.X:X_ m:={hn:={na:=1},N:=63,H:=zQ.h,HL:=zQ.hl,HJ:=zQ.hj,L:=mkL zQ.hl [⟨4,fun x R K=>zQ.L4 F R K F x⟩],J:=mkJ zQ.hj [⟨8,zQ.J8 F⟩]}
theorem zQ.ok:OKP m 100 zQ.sg (zQ.sp F):=okp (zQ.X m F) Tryz.func100 trivial trivial 1 1 (yx (FX.loopk 4 F (zQ.L4 F)) zu) (yx (FX.cutk 8) zu)
def zW.te:TEs:=[kL 1,(2,kI),(3,kI),(4,kI),(5,kI),(6,kI),kL 7,(8,kI),(12,kB),(17,kB),(22,kB),(46,kB),(61,kB),(68,kB)]
def zW.tb:TEs:=[(1,.g zO),(7,.g za)]
def zW.h:SH:=shN zW.te zW.tb [] [(0,1,1,0),(1,9,1,0),(2,265,1,0),(3,6,0,0),(4,513,1,0),(5,6,0,0),(6,17,1,0),(7,49,1,0),(8,1073,1,0),(9,49,1,0),(10,113,3,0),(11,241,3,0),(12,2289,3,0),(13,6,0,0),(14,4273,1,0),(15,6,0,0),(16,49,1,0),(17,8193,1,0),(18,6,0,0),(19,6,0,0)]
def zW.hl:SH:=shN zW.te zW.tb [] [(8,49,1,0)]
def zW.L8 (R:Type) (K:KK R) (n:Nat) (x:(Unit×Int×Int×Unit)×(zO.T×Unit)×Unit):Option R:=zW.l8 F (fun r2 r3=>K .ret (yS (zW.h 13) ((r2,r3,()),(),()))) (fun r2 r3=>K .ret (yS (zW.h 15) ((r2,r3,()),(),()))) (fun pile i t22 p=>K (.exit 0) (yS (zW.h 8) (((),pile,i,t22,()),(p,()),()))) n x.1.2.1 x.1.2.2.1 x.2.1.1
def zW.X:X_ m:={hn:={na:=1},lv:=[⟨98,zM.sp F⟩,⟨60,zq.sp F⟩,⟨99,z7.sp F⟩,⟨100,zQ.sp F⟩],N:=72,H:=zW.h,HL:=zW.hl,L:=mkL zW.hl [⟨8,fun x R K=>zW.L8 F R K F x⟩]}
theorem zW.ok:OKP m 59 zW.sg (zW.sp F):=okp (zW.X m F) Tryz.func59 ⟨zM.ok m F,zq.ok m F,z7.ok m F,zQ.ok m F,trivial⟩ trivial 1 0 (yx (FX.loopk 8 F (zW.L8 F)) zu) zu
def zI.te:TEs:=[(1,kI),kL 2,(4,kI),(5,kI),(6,kI),(18,kB)]
def zI.tb:TEs:=[(2,.g zO)]
def zI.h:SH:=shN zI.te zI.tb [] [(0,3,1,0),(1,11,1,0),(2,26,1,0),(3,26,1,0),(4,58,1,0),(5,4,0,0),(6,26,1,0)]
def zI.hl:SH:=shN zI.te zI.tb [] [(3,26,1,0)]
def zI.L3 (R:Type) (K:KK R) (n:Nat) (x:(Unit×Int×Int×Unit)×(zO.T×Unit)×Unit):Option R:=zI.l3 F (fun r4=>K .ret (yS (zI.h 5) ((r4,()),(),()))) n x.1.2.1 x.1.2.2.1 x.2.1.1
def zI.X:X_ m:={hn:={na:=2},lv:=[⟨60,zq.sp F⟩],N:=22,H:=zI.h,HL:=zI.hl,L:=mkL zI.hl [⟨3,fun x R K=>zI.L3 F R K F x⟩]}
theorem zI.ok:OKP m 61 zI.sg (zI.sp F):=okp (zI.X m F) Tryz.func61 ⟨zq.ok m F,trivial⟩ trivial 1 0 (yx (FX.loopk 3 F (zI.L3 F)) zu) zu
def zi.te:TEs:=[kL 1,(2,.c (.sl .bool)),(3,kI),(5,kI),(6,.c (.sl .bool)),(6,.ow 6),(7,kI),(8,kB),(9,kI),(16,kB),(22,kB),(30,kB)]
def zi.tb:TEs:=[(1,.g zO)]
def zi.tp:List tH:=[⟨6,.env 6,.bool⟩]
def zi.h:SH:=shN zi.te zi.tb zi.tp [(0,1,1,0),(1,9,1,0),(2,521,1,0),(3,6,0,0),(4,33,1,1),(5,97,1,1),(6,1121,1,1),(7,97,1,1),(8,225,1,1),(9,481,1,1),(10,2529,1,1),(11,481,1,1),(12,481,1,1),(13,97,1,1),(14,6,0,0)]
def zi.hl:SH:=shN zi.te zi.tb zi.tp [(6,97,1,1),(10,481,1,1)]
def zi.hj:Nat->Option Shape:=shO zi.te zi.tb zi.tp [(14,16,0,0)]
def zi.L10 (R:Type) (K:KK R) (n:Nat) (x:(Unit×Unit×Int×Bool×Int×Unit)×(zO.T×Unit)×((List Bool)×Unit)):Option R:=zi.l10 F (fun i is k t30 p out=>K (.exit 2) (yS (zi.h 10) (((),(),i,is,k,t30,()),(p,()),(out,())))) n x.1.2.2.1 x.1.2.2.2.1 x.1.2.2.2.2.1 x.2.1.1 x.2.2.1
def zi.L6 (R:Type) (K:KK R) (n:Nat) (x:(Unit×Unit×Int×Unit)×(zO.T×Unit)×((List Bool)×Unit)):Option R:=zi.l6 F (fun i t22 p out=>K (.exit 0) (yS (zi.h 6) (((),(),i,t22,()),(p,()),(out,())))) n x.1.2.2.1 x.2.1.1 x.2.2.1
def zi.J14 (x:((List Bool)×Unit)×Unit×Unit) (R:Type) (K:KK R):Option R:=zi.j14 F (fun r2 r3=>K .ret (yS (zi.h 14) ((r2,r3,()),(),()))) x.1.1
def zi.X:X_ m:={hn:={MU:=fun s=>lk false s [(55,true)],na:=1,fzJ:=fun r=>lk [] r [(14,[6])]},lv:=[⟨59,zW.sp F⟩,⟨61,zI.sp F⟩],N:=57,H:=zi.h,HL:=zi.hl,HJ:=zi.hj,L:=mkL zi.hl [⟨10,fun x R K=>zi.L10 F R K F x⟩,⟨6,fun x R K=>zi.L6 F R K F x⟩],J:=mkJ zi.hj [⟨14,zi.J14 F⟩]}
theorem zi.ok:OKP m 25 zi.sg (zi.sp F):=okp (zi.X m F) Tryz.func25 ⟨zW.ok m F,zI.ok m F,trivial⟩ trivial 2 1 (yx (FX.loopk 10 F (zi.L10 F)) (yx (FX.loopk 6 F (zi.L6 F)) zu)) (yx (FX.cutk 14) zu)
def zy.te:TEs:=[(0,.b (.int .i64)),(2,kI),(3,kI),(7,kB),(17,kB)]
def zy.h:SH:=shN zy.te [] [] [(0,1,0,0),(1,5,0,0),(2,13,0,0),(3,5,0,0),(4,21,0,0),(5,2,0,0),(6,2,0,0)]
def zy.hl:SH:=shN zy.te [] [] [(2,5,0,0)]
def zy.L2 (R:Type) (K:KK R) (n:Nat) (x:((List Int)×Int×Unit)×Unit×Unit):Option R:=zy.l2 F (fun r2=>K .ret (yS (zy.h 5) ((r2,()),(),()))) (fun l i t7=>K (.exit 0) (yS (zy.h 2) ((l,i,t7,()),(),()))) n x.1.1 x.1.2.1
def zy.X:X_ m:={hn:={na:=1},N:=21,H:=zy.h,HL:=zy.hl,L:=mkL zy.hl [⟨2,fun x R K=>zy.L2 F R K F x⟩]}
theorem zy.ok:OKP m 101 zy.sg (zy.sp F):=okp (zy.X m F) Tryz.func101 trivial trivial 1 0 (yx (FX.loopk 2 F (zy.L2 F)) zu) zu
def zA.te:TEs:=[(0,kI),(2,kB)]
def zA.h:SH:=shN zA.te [] [] [(0,1,0,0),(1,2,0,0)]
def zA.X (F:Nat):X_ m:={hn:={na:=1},N:=5,H:=zA.h}
theorem zA.ok:OKP m 103 zA.sg (zA.sp F):=okp (zA.X m F) Tryz.func103 trivial trivial 0 0 zu zu
def y4.te:TEs:=[(0,kI),(1,kI),(4,kI),(6,kB),(9,kB),(24,kB)]
def y4.h:SH:=shN y4.te [] [] [(0,3,0,0),(1,11,0,0),(2,4,0,0),(3,19,0,0),(4,4,0,0),(5,32,0,0),(6,4,0,0),(7,4,0,0)]
def y4.X:X_ m:={hn:={na:=2},lv:=[⟨103,zA.sp F⟩],N:=25,H:=y4.h}
theorem y4.ok:OKP m 102 y4.sg (y4.sp F):=okp (y4.X m F) Tryz.func102 ⟨zA.ok m F,trivial⟩ trivial 0 0 zu zu
def yv.te:TEs:=[(1,.b (.int .i64)),kL 2,(4,kI),(6,kI),(7,kB),(9,kB),(11,kB),(17,kB),(23,kB),(31,kB),(40,kB),(46,kB),(50,kB),(56,kB),(57,kB),(62,kB),(66,kB),(71,kB)]
def yv.tb:TEs:=[(2,.g za)]
def yv.h:SH:=shN yv.te yv.tb [] [(0,3,1,0),(1,11,1,0),(2,27,1,0),(3,4,0,0),(4,43,1,0),(5,4,0,0),(6,75,1,0),(7,4,0,0),(8,139,1,0),(9,4,0,0),(10,265,0,0),(11,265,0,0),(12,265,0,0),(13,265,0,0),(14,265,0,0),(15,4,0,0),(16,521,0,0),(17,4,0,0),(18,1033,0,0),(19,1033,0,0),(20,2049,0,0),(21,4,0,0),(22,4105,0,0),(23,4105,0,0),(24,8192,0,0),(25,4,0,0),(26,16393,0,0),(27,32769,0,0),(28,4,0,0),(29,65537,0,0),(30,131073,0,0),(31,4,0,0),(32,4,0,0)]
def yv.X:X_ m:={hn:={na:=2},lv:=[⟨101,zy.sp F⟩,⟨102,y4.sp F⟩,⟨103,zA.sp F⟩],N:=75,H:=yv.h}
theorem yv.ok:OKP m 62 yv.sg (yv.sp F):=okp (yv.X m F) Tryz.func62 ⟨zy.ok m F,y4.ok m F,zA.ok m F,trivial⟩ trivial 0 0 zu zu
def zk.te:TEs:=[kL 1,(2,.c (.sl (.int .i64))),(3,kI),(4,kI),(5,kI),(6,kI),(7,.c (.sl .bool)),(9,.c (.sl (.int .i64))),(9,.ow 9),(10,kI),(11,.c (.sl (.int .i64))),(12,.c (.sl (.int .i64))),(12,.ow 12),(13,kI),(14,kI),(15,kI),(22,kB),(34,kB),(46,kB),(72,kB),(98,kB),(110,kB)]
def zk.tb:TEs:=[(1,.g zO)]
def zk.tp:List tH:=[⟨9,.env 9,(.int .i64)⟩,⟨12,.env 12,(.int .i64)⟩]
def zk.h:SH:=shN zk.te zk.tb zk.tp [(0,1,1,0),(1,49,1,0),(2,65585,1,0),(3,14,0,0),(4,65,1,0),(5,321,1,1),(6,833,1,1),(7,131905,1,1),(8,833,1,1),(9,1857,1,1),(10,5953,1,3),(11,14145,1,3),(12,30529,1,3),(13,292673,1,3),(14,30529,1,3),(15,30529,1,3),(16,30529,1,3),(17,30529,1,3),(18,35649,1,1),(19,559937,1,1),(20,14,0,0),(21,1082177,1,1),(22,14,0,0),(23,833,1,1),(24,2097280,0,0),(25,14,0,0),(26,14,0,0)]
def zk.hl:SH:=shN zk.te zk.tb zk.tp [(7,833,1,1),(13,30529,1,3)]
def zk.hj:Nat->Option Shape:=shO zk.te zk.tb zk.tp [(24,128,0,0)]
def zk.L13 (R:Type) (K:KK R) (n:Nat) (x:(Unit×(List Bool)×Unit×Int×(List Int)×Unit×Int×Int×Unit)×(zO.T×Unit)×((List Int)×(List Int)×Unit)):Option R:=zk.l13 F (fun fix i kids place k t46 p out where_=>K (.exit 2) (yS (zk.h 13) (((),fix,(),i,kids,(),place,k,t46,()),(p,()),(out,where_,())))) n x.1.2.1 x.1.2.2.2.1 x.1.2.2.2.2.1 x.1.2.2.2.2.2.2.1 x.1.2.2.2.2.2.2.2.1 x.2.1.1 x.2.2.1 x.2.2.2.1
def zk.L7 (R:Type) (K:KK R) (n:Nat) (x:(Unit×(List Bool)×Unit×Int×Unit)×(zO.T×Unit)×((List Int)×Unit)):Option R:=zk.l7 F (fun r2 r3 r4=>K .ret (yS (zk.h 20) ((r2,r3,r4,()),(),()))) (fun r2 r3 r4=>K .ret (yS (zk.h 22) ((r2,r3,r4,()),(),()))) (fun fix i t34 p out=>K (.exit 0) (yS (zk.h 7) (((),fix,(),i,t34,()),(p,()),(out,())))) n x.1.2.1 x.1.2.2.2.1 x.2.1.1 x.2.2.1
def zk.J24 (x:((List Int)×Unit)×Unit×Unit) (R:Type) (K:KK R):Option R:=zk.j24 F (fun r2 r3 r4=>K .ret (yS (zk.h 25) ((r2,r3,r4,()),(),()))) (fun r2 r3 r4=>K .ret (yS (zk.h 26) ((r2,r3,r4,()),(),()))) x.1.1
def zk.X:X_ m:={hn:={MU:=fun s=>lk false s [(53,true),(59,true),(103,true)],na:=1,fz:=fun r=>lk [] r [(15,[55]),(18,[12])],fzJ:=fun r=>lk [] r [(24,[9])]},lv:=[⟨59,zW.sp F⟩,⟨25,zi.sp F⟩,⟨60,zq.sp F⟩,⟨61,zI.sp F⟩,⟨62,yv.sp F⟩],N:=115,H:=zk.h,HL:=zk.hl,HJ:=zk.hj,L:=mkL zk.hl [⟨13,fun x R K=>zk.L13 F R K F x⟩,⟨7,fun x R K=>zk.L7 F R K F x⟩],J:=mkJ zk.hj [⟨24,zk.J24 F⟩]}
theorem zk.ok:OKP m 23 zk.sg (zk.sp F):=okp (zk.X m F) Tryz.func23 ⟨zW.ok m F,zi.ok m F,zq.ok m F,zI.ok m F,yv.ok m F,trivial⟩ trivial 2 1 (yx (FX.loopk 13 F (zk.L13 F)) (yx (FX.loopk 7 F (zk.L7 F)) zu)) (yx (FX.cutk 24) zu)
def zm.te:TEs:=[kL 1,(2,kI),(3,kI),(5,kI),(6,.ow 6),(7,kI),(8,kI),(9,kI),(10,kI),(17,kB),(23,kB),(33,kB),(42,kB),(48,kB),(62,kB)]
def zm.tb:TEs:=[(1,.g zO)]
def zm.tp:List tH:=[⟨6,.env 6,(.int .i64)⟩]
def zm.h:SH:=shN zm.te zm.tb zm.tp [(0,1,1,0),(1,9,1,0),(2,521,1,0),(3,6,0,0),(4,17,1,1),(5,49,1,1),(6,1073,1,1),(7,49,1,1),(8,49,1,1),(9,81,1,1),(10,209,1,1),(11,2257,1,1),(12,209,1,1),(13,4305,1,1),(14,465,1,1),(15,8657,1,1),(16,465,1,1),(17,465,1,1),(18,16849,1,1),(19,465,1,1),(20,6,0,0)]
def zm.hl:SH:=shN zm.te zm.tb zm.tp [(6,49,1,1),(11,209,1,1),(15,465,1,1)]
def zm.L6 (R:Type) (K:KK R) (n:Nat) (x:(Unit×Unit×Int×Unit)×(zO.T×Unit)×((List Int)×Unit)):Option R:=zm.l6 F (fun i t23 p deep=>K (.exit 0) (yS (zm.h 6) (((),(),i,t23,()),(p,()),(deep,())))) n x.1.2.2.1 x.2.1.1 x.2.2.1
def zm.L15 (R:Type) (K:KK R) (n:Nat) (x:(Unit×Unit×Int×Int×Int×Unit)×(zO.T×Unit)×((List Int)×Unit)):Option R:=zm.l15 F (fun most i k t48 p deep=>K (.exit 4) (yS (zm.h 15) (((),(),most,i,k,t48,()),(p,()),(deep,())))) n x.1.2.2.1 x.1.2.2.2.1 x.1.2.2.2.2.1 x.2.1.1 x.2.2.1
def zm.L11 (R:Type) (K:KK R) (n:Nat) (x:(Unit×Unit×Int×Int×Unit)×(zO.T×Unit)×((List Int)×Unit)):Option R:=zm.l11 F (fun most i t33 p deep=>K (.exit 2) (yS (zm.h 11) (((),(),most,i,t33,()),(p,()),(deep,())))) n x.1.2.2.1 x.1.2.2.2.1 x.2.1.1 x.2.2.1
def zm.X:X_ m:={hn:={MU:=fun s=>lk false s [(28,true)],na:=1},lv:=[⟨59,zW.sp F⟩,⟨61,zI.sp F⟩],N:=68,H:=zm.h,HL:=zm.hl,L:=mkL zm.hl [⟨6,fun x R K=>zm.L6 F R K F x⟩,⟨15,fun x R K=>zm.L15 F R K F x⟩,⟨11,fun x R K=>zm.L11 F R K F x⟩]}
theorem zm.ok:OKP m 64 zm.sg (zm.sp F):=okp (zm.X m F) Tryz.func64 ⟨zW.ok m F,zI.ok m F,trivial⟩ trivial 3 0 (yx (FX.loopk 15 F (zm.L15 F)) (yx (FX.loopk 11 F (zm.L11 F)) (yx (FX.loopk 6 F (zm.L6 F)) zu))) zu
def yf.te:TEs:=[(0,kI),kL 2,kL 3,(8,kB)]
def yf.tb:TEs:=[(2,.g zd),(3,.g zd)]
def yf.h:SH:=shN yf.te yf.tb [] [(0,3,1,0),(1,7,3,0),(2,14,3,0),(3,6,3,0),(4,2,1,0)]
def yf.X (F:Nat):X_ m:={hn:={na:=1},N:=11,H:=yf.h}
theorem yf.ok:OKP m 109 yf.sg (yf.sp F):=okp (yf.X m F) Tryz.func109 trivial trivial 0 0 zu zu
def zD.te:TEs:=[kL 1,kL 2,kL 3,(4,kI),(5,kI),(7,kB),(32,kB),(34,kB)]
def zD.tb:TEs:=[(1,.g zd),(2,.a .u64),(3,.a .u64)]
def zD.h:SH:=shN zD.te zD.tb [] [(0,3,3,0),(1,7,7,0),(2,15,7,0),(3,47,7,0),(4,15,7,0),(5,15,7,0),(6,15,7,0),(7,70,6,0),(8,22,6,0),(9,150,6,0),(10,22,6,0),(11,22,6,0),(12,2,2,0)]
def zD.hl:SH:=shN zD.te zD.tb [] [(3,15,7,0),(9,22,6,0)]
def zD.L3 (R:Type) (K:KK R) (n:Nat) (x:(Unit×Unit×Unit×Int×Unit)×(zd.T×(List Int)×(List Int)×Unit)×Unit):Option R:=zD.l3 F (fun i t7 w r2 l=>K (.exit 0) (yS (zD.h 3) (((),(),(),i,t7,()),(w,r2,l,()),()))) n x.1.2.2.2.1 x.2.1.1 x.2.1.2.1 x.2.1.2.2.1
def zD.L9 (R:Type) (K:KK R) (n:Nat) (x:(Unit×Unit×Int×Unit)×((List Int)×(List Int)×Unit)×Unit):Option R:=zD.l9 F (fun i t34 r2 l=>K (.exit 2) (yS (zD.h 9) (((),(),i,t34,()),(r2,l,()),()))) n x.1.2.2.1 x.2.1.1 x.2.1.2.1
def zD.X:X_ m:={hn:={na:=1},N:=40,H:=zD.h,HL:=zD.hl,L:=mkL zD.hl [⟨3,fun x R K=>zD.L3 F R K F x⟩,⟨9,fun x R K=>zD.L9 F R K F x⟩]}
theorem zD.ok:OKP m 162 zD.sg (zD.sp F):=okp (zD.X m F) Tryz.func162 trivial trivial 2 0 (yx (FX.loopk 9 F (zD.L9 F)) (yx (FX.loopk 3 F (zD.L3 F)) zu)) zu
def xl.te:TEs:=[kL 1,(2,kB)]
def xl.tb:TEs:=[(1,.a .u64)]
def xl.h:SH:=shN xl.te xl.tb [] [(0,1,1,0),(1,2,0,0)]
def xl.X (F:Nat):X_ m:={hn:={na:=1},N:=6,H:=xl.h}
theorem xl.ok:OKP m 164 xl.sg (xl.sp F):=okp (xl.X m F) Tryz.func164 trivial trivial 0 0 zu zu
def z6.te:TEs:=[kL 2,kL 3,kL 4,(5,.c (.int .u64)),(6,kI),(8,kB)]
def z6.tb:TEs:=[(2,.a .u64),(3,.a .u64),(4,.a .u64)]
def z6.h:SH:=shN z6.te z6.tb [] [(0,7,7,0),(1,15,7,0),(2,31,7,0),(3,63,7,0),(4,31,7,0),(5,31,7,0),(6,31,7,0),(7,31,7,0),(8,4,4,0)]
def z6.hl:SH:=shN z6.te z6.tb [] [(3,31,7,0)]
def z6.L3 (R:Type) (K:KK R) (n:Nat) (x:(Unit×Unit×Unit×Int×Int×Unit)×((List Int)×(List Int)×(List Int)×Unit)×Unit):Option R:=z6.l3 F (fun c i t8 a b r4=>K (.exit 0) (yS (z6.h 3) (((),(),(),c,i,t8,()),(a,b,r4,()),()))) n x.1.2.2.2.1 x.1.2.2.2.2.1 x.2.1.1 x.2.1.2.1 x.2.1.2.2.1
def z6.X:X_ m:={hn:={na:=2},N:=27,H:=z6.h,HL:=z6.hl,L:=mkL z6.hl [⟨3,fun x R K=>z6.L3 F R K F x⟩]}
theorem z6.ok:OKP m 161 z6.sg (z6.sp F):=okp (z6.X m F) Tryz.func161 trivial trivial 1 0 (yx (FX.loopk 3 F (z6.L3 F)) zu) zu
def zR.te:TEs:=[kL 1,kL 2,(3,kI),(5,kB)]
def zR.tb:TEs:=[(1,.a .u64),(2,.a .u64)]
def zR.h:SH:=shN zR.te zR.tb [] [(0,3,3,0),(1,7,3,0),(2,15,3,0),(3,7,3,0),(4,7,3,0),(5,2,2,0)]
def zR.hl:SH:=shN zR.te zR.tb [] [(2,7,3,0)]
def zR.L2 (R:Type) (K:KK R) (n:Nat) (x:(Unit×Unit×Int×Unit)×((List Int)×(List Int)×Unit)×Unit):Option R:=zR.l2 F (fun i t5 a r2=>K (.exit 0) (yS (zR.h 2) (((),(),i,t5,()),(a,r2,()),()))) n x.1.2.2.1 x.2.1.1 x.2.1.2.1
def zR.X:X_ m:={hn:={na:=1},lv:=[⟨161,z6.sp F⟩],N:=17,H:=zR.h,HL:=zR.hl,L:=mkL zR.hl [⟨2,fun x R K=>zR.L2 F R K F x⟩]}
theorem zR.ok:OKP m 163 zR.sg (zR.sp F):=okp (zR.X m F) Tryz.func163 ⟨z6.ok m F,trivial⟩ trivial 1 0 (yx (FX.loopk 2 F (zR.L2 F)) zu) zu
def zV.te:TEs:=[kL 1,(2,.c (.int .u64)),(3,.c (.int .u64)),kL 4,(5,.c (.int .u64)),(6,.c (.int .u64)),(7,kI),(11,kB),(15,kB)]
def zV.tb:TEs:=[(1,.g zd),(4,.a .u64)]
def zV.h:SH:=shN zV.te zV.tb [] [(0,1,1,0),(1,8,2,0),(2,136,2,0),(3,8,2,0),(4,24,2,0),(5,56,2,0),(6,120,2,0),(7,376,2,0),(8,120,2,0),(9,120,2,0),(10,120,2,0),(11,6,0,0)]
def zV.hl:SH:=shN zV.te zV.tb [] [(7,120,2,0)]
def zV.hj:Nat->Option Shape:=shO zV.te zV.tb [] [(4,8,2,0)]
def zV.L7 (R:Type) (K:KK R) (n:Nat) (x:(Unit×Int×Int×Int×Unit)×((List Int)×Unit)×Unit):Option R:=zV.l7 F (fun hi lo i t15 l=>K (.exit 0) (yS (zV.h 7) (((),hi,lo,i,t15,()),(l,()),()))) n x.1.2.1 x.1.2.2.1 x.1.2.2.2.1 x.2.1.1
def zV.J4 (x:(Unit×Unit)×((List Int)×Unit)×Unit) (R:Type) (K:KK R):Option R:=zV.j4 F (fun r2 r3=>K .ret (yS (zV.h 11) ((r2,r3,()),(),()))) x.2.1.1
def zV.X:X_ m:={hn:={na:=1},lv:=[⟨162,zD.sp F⟩,⟨164,xl.sp F⟩,⟨163,zR.sp F⟩],N:=33,H:=zV.h,HL:=zV.hl,HJ:=zV.hj,L:=mkL zV.hl [⟨7,fun x R K=>zV.L7 F R K F x⟩],J:=mkJ zV.hj [⟨4,zV.J4 F⟩]}
theorem zV.ok:OKP m 119 zV.sg (zV.sp F):=okp (zV.X m F) Tryz.func119 ⟨zD.ok m F,xl.ok m F,zR.ok m F,trivial⟩ trivial 1 1 (yx (FX.loopk 7 F (zV.L7 F)) zu) (yx (FX.cutk 4) zu)
def yn.te:TEs:=[(0,.c (.int .u64)),(1,.c (.int .u64)),kL 4,kL 5,(6,kI),(8,kB)]
def yn.tb:TEs:=[(4,.a .u64),(5,.a .u64)]
def yn.h:SH:=shN yn.te yn.tb [] [(0,7,1,0),(1,15,3,0),(2,31,3,0),(3,63,3,0),(4,31,3,0),(5,31,3,0),(6,31,3,0),(7,4,1,0)]
def yn.hl:SH:=shN yn.te yn.tb [] [(3,31,3,0)]
def yn.L3 (R:Type) (K:KK R) (n:Nat) (x:(Int×Int×Unit×Unit×Int×Unit)×((List Int)×(List Int)×Unit)×Unit):Option R:=yn.l3 F (fun hi lo i t8 r4 d=>K (.exit 0) (yS (yn.h 3) ((hi,lo,(),(),i,t8,()),(r4,d,()),()))) n x.1.1 x.1.2.1 x.1.2.2.2.2.1 x.2.1.1 x.2.1.2.1
def yn.X:X_ m:={hn:={na:=2},N:=29,H:=yn.h,HL:=yn.hl,L:=mkL yn.hl [⟨3,fun x R K=>yn.L3 F R K F x⟩]}
theorem yn.ok:OKP m 165 yn.sg (yn.sp F):=okp (yn.X m F) Tryz.func165 trivial trivial 1 0 (yx (FX.loopk 3 F (yn.L3 F)) zu) zu
def zH.te:TEs:=[kL 1,kL 2,(3,kB),(4,.c (.int .u64)),(5,kI),(6,.c (.int .u64)),(7,.c (.int .u64)),(8,kI),(11,kB),(13,kB),(20,kB),(23,kB)]
def zH.tb:TEs:=[(1,.a .u64),(2,.g zd)]
def zH.h:SH:=shN zH.te zH.tb [] [(0,3,3,0),(1,11,3,0),(2,267,3,0),(3,11,3,0),(4,27,3,0),(5,539,3,0),(6,27,3,0),(7,1051,3,0),(8,6,2,0),(9,35,3,0),(10,99,3,0),(11,227,3,0),(12,2275,3,0),(13,227,3,0),(14,227,3,0),(15,227,3,0),(16,6,2,0)]
def zH.hl:SH:=shN zH.te zH.tb [] [(5,27,3,0),(12,227,3,0)]
def zH.hj:Nat->Option Shape:=shO zH.te zH.tb [] [(4,11,3,0)]
def zH.L5 (R:Type) (K:KK R) (n:Nat) (x:(Unit×Unit×Int×Int×Unit)×((List Int)×zd.T×Unit)×Unit):Option R:=zH.l5 F (fun r3 r2=>K .ret (yS (zH.h 8) (((),r3,()),(r2,()),()))) (fun top i t13 l r2=>K (.exit 0) (yS (zH.h 5) (((),(),top,i,t13,()),(l,r2,()),()))) n x.1.2.2.1 x.1.2.2.2.1 x.2.1.1 x.2.1.2.1
def zH.L12 (R:Type) (K:KK R) (n:Nat) (x:(Unit×Unit×Int×Int×Int×Unit)×((List Int)×zd.T×Unit)×Unit):Option R:=zH.l12 F (fun lo hi i t23 l r2=>K (.exit 2) (yS (zH.h 12) (((),(),lo,hi,i,t23,()),(l,r2,()),()))) n x.1.2.2.1 x.1.2.2.2.1 x.1.2.2.2.2.1 x.2.1.1 x.2.1.2.1
def zH.J4 (x:(Unit×Unit×Int×Unit)×((List Int)×zd.T×Unit)×Unit) (R:Type) (K:KK R):Option R:=zH.j4 F (fun r3 r2=>K .ret (yS (zH.h 8) (((),r3,()),(r2,()),()))) (fun r3 r2=>K .ret (yS (zH.h 16) (((),r3,()),(r2,()),()))) x.1.2.2.1 x.2.1.1 x.2.1.2.1
def zH.X:X_ m:={hn:={na:=1},N:=43,H:=zH.h,HL:=zH.hl,HJ:=zH.hj,L:=mkL zH.hl [⟨5,fun x R K=>zH.L5 F R K F x⟩,⟨12,fun x R K=>zH.L12 F R K F x⟩],J:=mkJ zH.hj [⟨4,zH.J4 F⟩]}
theorem zH.ok:OKP m 186 zH.sg (zH.sp F):=okp (zH.X m F) Tryz.func186 trivial trivial 2 1 (yx (FX.loopk 12 F (zH.L12 F)) (yx (FX.loopk 5 F (zH.L5 F)) zu)) (yx (FX.cutk 4) zu)
def yM.te:TEs:=[kL 1,kL 2,(3,kI),kL 4,(5,kB),(12,kB)]
def yM.tb:TEs:=[(1,.a .u64),(2,.g zd),(4,.g zd)]
def yM.h:SH:=shN yM.te yM.tb [] [(0,3,3,0),(1,26,6,0),(2,42,6,0),(3,6,2,0),(4,6,2,0)]
def yM.X:X_ m:={hn:={na:=1},lv:=[⟨186,zH.sp F⟩],N:=15,H:=yM.h}
theorem yM.ok:OKP m 170 yM.sg (yM.sp F):=okp (yM.X m F) Tryz.func170 ⟨zH.ok m F,trivial⟩ trivial 0 0 zu zu
def yg.te:TEs:=[(0,kB),(1,.c (.int .u64)),(2,.c (.int .u64)),kL 6,(7,kI),kL 8,(9,kI),(11,kB),(31,kB)]
def yg.tb:TEs:=[(6,.g zd),(8,.a .u64)]
def yg.h:SH:=shN yg.te yg.tb [] [(0,15,1,0),(1,47,3,0),(2,111,3,0),(3,239,3,0),(4,111,3,0),(5,111,3,0),(6,111,3,0),(7,296,3,0),(8,40,3,0),(9,24,1,0)]
def yg.hl:SH:=shN yg.te yg.tb [] [(3,111,3,0)]
def yg.L3 (R:Type) (K:KK R) (n:Nat) (x:(Bool×Int×Int×Unit×Unit×Int×Unit)×(zd.T×(List Int)×Unit)×Unit):Option R:=yg.l3 F (fun below hi lo i t11 r6 l=>K (.exit 0) (yS (yg.h 3) ((below,hi,lo,(),(),i,t11,()),(r6,l,()),()))) n x.1.1 x.1.2.1 x.1.2.2.1 x.1.2.2.2.2.2.1 x.2.1.1 x.2.1.2.1
def yg.X:X_ m:={hn:={na:=3},lv:=[⟨163,zR.sp F⟩,⟨170,yM.sp F⟩],N:=38,H:=yg.h,HL:=yg.hl,L:=mkL yg.hl [⟨3,fun x R K=>yg.L3 F R K F x⟩]}
theorem yg.ok:OKP m 123 yg.sg (yg.sp F):=okp (yg.X m F) Tryz.func123 ⟨zR.ok m F,yM.ok m F,trivial⟩ trivial 1 0 (yx (FX.loopk 3 F (yg.L3 F)) zu) zu
def zl.te:TEs:=[kL 2,kL 3,kL 4,(5,kI),kL 6,kL 7,kL 8,(9,kI),(10,.c (.int .u64)),(11,kI),(12,kI),(13,.c (.int .u64)),(14,.c (.int .u64)),(15,kI),(27,kB),(31,kB),(62,kB),(68,kB),(71,kB)]
def zl.tb:TEs:=[(2,.g zd),(3,.g zd),(4,.g zd),(6,.a .u64),(7,.a .u64),(8,.a .u64)]
def zl.h:SH:=shN zl.te zl.tb [] [(0,7,7,0),(1,23,15,0),(2,55,31,0),(3,119,63,0),(4,247,63,0),(5,16631,63,0),(6,247,63,0),(7,503,63,0),(8,1015,63,0),(9,33783,63,0),(10,1015,63,0),(11,1015,63,0),(12,1015,63,0),(13,1015,63,0),(14,247,63,0),(15,1095,39,0),(16,66631,39,0),(17,1095,39,0),(18,132167,39,0),(19,12,4,0),(20,2119,39,0),(21,6215,39,0),(22,14407,39,0),(23,276551,39,0),(24,14407,39,0),(25,14407,39,0),(26,14407,39,0),(27,12,4,0)]
def zl.hl:SH:=shN zl.te zl.tb [] [(5,247,63,0),(9,1015,63,0),(16,1095,39,0),(23,14407,39,0)]
def zl.L9 (R:Type) (K:KK R) (n:Nat) (x:(Unit×Unit×Unit×Unit×Unit×Unit×Int×Int×Int×Unit)×(zd.T×zd.T×zd.T×(List Int)×(List Int)×(List Int)×Unit)×Unit):Option R:=zl.l9 F (fun i c j t31 a b r4 x y p=>K (.exit 2) (yS (zl.h 9) (((),(),(),(),(),(),i,c,j,t31,()),(a,b,r4,x,y,p,()),()))) n x.1.2.2.2.2.2.2.1 x.1.2.2.2.2.2.2.2.1 x.1.2.2.2.2.2.2.2.2.1 x.2.1.1 x.2.1.2.1 x.2.1.2.2.1 x.2.1.2.2.2.1 x.2.1.2.2.2.2.1 x.2.1.2.2.2.2.2.1
def zl.L5 (R:Type) (K:KK R) (n:Nat) (x:(Unit×Unit×Unit×Unit×Unit×Unit×Int×Unit)×(zd.T×zd.T×zd.T×(List Int)×(List Int)×(List Int)×Unit)×Unit):Option R:=zl.l5 F (fun i t27 a b r4 x y p=>K (.exit 0) (yS (zl.h 5) (((),(),(),(),(),(),i,t27,()),(a,b,r4,x,y,p,()),()))) n x.1.2.2.2.2.2.2.1 x.2.1.1 x.2.1.2.1 x.2.1.2.2.1 x.2.1.2.2.2.1 x.2.1.2.2.2.2.1 x.2.1.2.2.2.2.2.1
def zl.L16 (R:Type) (K:KK R) (n:Nat) (x:(Unit×Unit×Unit×Unit×Int×Unit)×(zd.T×zd.T×zd.T×(List Int)×Unit)×Unit):Option R:=zl.l16 F (fun r5 r4=>K .ret (yS (zl.h 19) (((),r5,()),(r4,()),()))) (fun i t62 a b r4 p=>K (.exit 4) (yS (zl.h 16) (((),(),(),(),i,t62,()),(a,b,r4,p,()),()))) n x.1.2.2.2.2.1 x.2.1.1 x.2.1.2.1 x.2.1.2.2.1 x.2.1.2.2.2.1
def zl.L23 (R:Type) (K:KK R) (n:Nat) (x:(Unit×Unit×Unit×Unit×Int×Int×Int×Unit)×(zd.T×zd.T×zd.T×(List Int)×Unit)×Unit):Option R:=zl.l23 F (fun hi lo i t71 a b r4 p=>K (.exit 6) (yS (zl.h 23) (((),(),(),(),hi,lo,i,t71,()),(a,b,r4,p,()),()))) n x.1.2.2.2.2.1 x.1.2.2.2.2.2.1 x.1.2.2.2.2.2.2.1 x.2.1.1 x.2.1.2.1 x.2.1.2.2.1 x.2.1.2.2.2.1
def zl.X:X_ m:={hn:={na:=2},lv:=[⟨119,zV.sp F⟩,⟨165,yn.sp F⟩,⟨123,yg.sp F⟩],N:=99,H:=zl.h,HL:=zl.hl,L:=mkL zl.hl [⟨9,fun x R K=>zl.L9 F R K F x⟩,⟨5,fun x R K=>zl.L5 F R K F x⟩,⟨16,fun x R K=>zl.L16 F R K F x⟩,⟨23,fun x R K=>zl.L23 F R K F x⟩]}
theorem zl.ok:OKP m 110 zl.sg (zl.sp F):=okp (zl.X m F) Tryz.func110 ⟨zV.ok m F,yn.ok m F,yg.ok m F,trivial⟩ trivial 4 0 (yx (FX.loopk 23 F (zl.L23 F)) (yx (FX.loopk 16 F (zl.L16 F)) (yx (FX.loopk 9 F (zl.L9 F)) (yx (FX.loopk 5 F (zl.L5 F)) zu)))) zu
def yd.te:TEs:=[(0,kI),kL 2,(3,kI),kL 4,(5,kI),(7,kB),(10,kB),(15,kB)]
def yd.tb:TEs:=[(2,.g zd),(4,.g zd)]
def yd.h:SH:=shN yd.te yd.tb [] [(0,3,1,0),(1,35,1,0),(2,6,1,0),(3,67,1,0),(4,6,1,0),(5,11,3,0),(6,27,3,0),(7,155,3,0),(8,27,3,0),(9,27,3,0),(10,6,1,0)]
def yd.hl:SH:=shN yd.te yd.tb [] [(7,27,3,0)]
def yd.L7 (R:Type) (K:KK R) (n:Nat) (x:(Int×Unit×Unit×Int×Unit)×(zd.T×zd.T×Unit)×Unit):Option R:=yd.l7 F (fun k i t15 r2 p=>K (.exit 0) (yS (yd.h 7) ((k,(),(),i,t15,()),(r2,p,()),()))) n x.1.1 x.1.2.2.2.1 x.2.1.1 x.2.1.2.1
def yd.X:X_ m:={hn:={na:=1},lv:=[⟨109,yf.sp F⟩,⟨110,zl.sp F⟩],N:=25,H:=yd.h,HL:=yd.hl,L:=mkL yd.hl [⟨7,fun x R K=>yd.L7 F R K F x⟩]}
theorem yd.ok:OKP m 65 yd.sg (yd.sp F):=okp (yd.X m F) Tryz.func65 ⟨yf.ok m F,zl.ok m F,trivial⟩ trivial 1 0 (yx (FX.loopk 7 F (yd.L7 F)) zu) zu
def yr.te:TEs:=[(0,kI),kL 2]
def yr.tb:TEs:=[(2,.g zg)]
def yr.h:SH:=shN yr.te yr.tb [] [(0,3,1,0),(1,2,1,0)]
def yr.X:X_ m:={hn:={na:=1},lv:=[⟨109,yf.sp F⟩],N:=6,H:=yr.h}
theorem yr.ok:OKP m 106 yr.sg (yr.sp F):=okp (yr.X m F) Tryz.func106 ⟨yf.ok m F,trivial⟩ trivial 0 0 zu zu
def yQ.te:TEs:=[kL 2,kL 3,kL 4,kL 5,(6,kI)]
def yQ.tb:TEs:=[(2,.g zg),(3,.g zg),(4,.g zg),(5,.g zd)]
def yQ.h:SH:=shN yQ.te yQ.tb [] [(0,7,7,0),(1,31,15,0),(2,4,4,0)]
def yQ.X:X_ m:={hn:={na:=2},lv:=[⟨110,zl.sp F⟩],N:=27,H:=yQ.h}
theorem yQ.ok:OKP m 105 yQ.sg (yQ.sp F):=okp (yQ.X m F) Tryz.func105 ⟨zl.ok m F,trivial⟩ trivial 0 0 zu zu
def y9.te:TEs:=[(0,kI),(1,kI),(4,kI),(5,kI),(12,kB)]
def y9.h:SH:=shN y9.te [] [] [(0,3,0,0),(1,11,0,0),(2,24,0,0),(3,8,0,0),(4,4,0,0)]
def y9.X (F:Nat):X_ m:={hn:={na:=2},N:=16,H:=y9.h}
theorem y9.ok:OKP m 112 y9.sg (y9.sp F):=okp (y9.X m F) Tryz.func112 trivial trivial 0 0 zu zu
def xx.te:TEs:=[(0,kI),(2,kI),(4,kB)]
def xx.h:SH:=shN xx.te [] [] [(0,1,0,0),(1,5,0,0),(2,2,0,0),(3,2,0,0)]
def xx.X (F:Nat):X_ m:={hn:={na:=1},N:=8,H:=xx.h}
theorem xx.ok:OKP m 185 xx.sg (xx.sp F):=okp (xx.X m F) Tryz.func185 trivial trivial 0 0 zu zu
def xy.te:TEs:=[kL 2,kL 3,kL 4,(5,kI)]
def xy.tb:TEs:=[(2,.g zd),(3,.g zd),(4,.g zd)]
def xy.h:SH:=shN xy.te xy.tb [] [(0,7,7,0),(1,12,4,0)]
def xy.X:X_ m:={hn:={na:=2},lv:=[⟨162,zD.sp F⟩,⟨161,z6.sp F⟩,⟨170,yM.sp F⟩],N:=14,H:=xy.h}
theorem xy.ok:OKP m 167 xy.sg (xy.sp F):=okp (xy.X m F) Tryz.func167 ⟨zD.ok m F,z6.ok m F,yM.ok m F,trivial⟩ trivial 0 0 zu zu
def yC.te:TEs:=[kL 2,kL 3,kL 4,kL 5,(6,kI)]
def yC.tb:TEs:=[(2,.g zg),(3,.g zg),(4,.g zg),(5,.g zd)]
def yC.h:SH:=shN yC.te yC.tb [] [(0,7,7,0),(1,31,15,0),(2,4,4,0)]
def yC.X:X_ m:={hn:={na:=2},lv:=[⟨167,xy.sp F⟩],N:=27,H:=yC.h}
theorem yC.ok:OKP m 160 yC.sg (yC.sp F):=okp (yC.X m F) Tryz.func160 ⟨xy.ok m F,trivial⟩ trivial 0 0 zu zu
def zE.te:TEs:=[(2,.b yp),kL 3,kL 4,kL 6,(7,kI),kL 8,(9,kI),(14,kB),(24,kB),(35,kB)]
def zE.tb:TEs:=[(3,.g zg),(4,.g zg),(6,.g zg),(8,.g zg)]
def zE.h:SH:=shN zE.te zE.tb [] [(0,15,7,0),(1,31,7,0),(2,63,15,0),(3,127,15,0),(4,255,15,0),(5,127,15,0),(6,383,15,0),(7,127,15,0),(8,639,15,0),(9,127,15,0),(10,8,4,0)]
def zE.hl:SH:=shN zE.te zE.tb [] [(4,127,15,0)]
def zE.L4 (R:Type) (K:KK R) (n:Nat) (x:((List yp.T)×Unit×Unit×Unit×Int×Unit×Int×Unit)×(zg.T×zg.T×zg.T×zg.T×Unit)×Unit):Option R:=zE.l4 F (fun l r i t14 unit x r6 w=>K (.exit 0) (yS (zE.h 4) ((l,(),(),(),r,(),i,t14,()),(unit,x,r6,w,()),()))) n x.1.1 x.1.2.2.2.2.1 x.1.2.2.2.2.2.2.1 x.2.1.1 x.2.1.2.1 x.2.1.2.2.1 x.2.1.2.2.2.1
def zE.X:X_ m:={hn:={na:=3},lv:=[⟨106,yr.sp F⟩,⟨185,xx.sp F⟩,⟨105,yQ.sp F⟩,⟨160,yC.sp F⟩],N:=76,H:=zE.h,HL:=zE.hl,L:=mkL zE.hl [⟨4,fun x R K=>zE.L4 F R K F x⟩]}
theorem zE.ok:OKP m 159 zE.sg (zE.sp F):=okp (zE.X m F) Tryz.func159 ⟨yr.ok m F,xx.ok m F,yQ.ok m F,yC.ok m F,trivial⟩ trivial 1 0 (yx (FX.loopk 4 F (zE.L4 F)) zu) zu
def zz.te:TEs:=[(3,.b zg),kL 4,kL 5,kL 6,kL 8,kL 9,(10,kI),(12,kI),(13,kB),(18,kB),(25,kB),(28,kB),(39,kB),(45,kB),(54,kB),(68,kB),(89,kB)]
def zz.tb:TEs:=[(4,.g zO),(5,.g za),(6,.g zg),(8,.g zg),(9,.g zg)]
def zz.h:SH:=shN zz.te zz.tb [] [(0,31,15,0),(1,159,15,0),(2,415,15,0),(3,16,8,0),(4,671,15,0),(5,16,8,0),(6,1183,15,0),(7,16,8,0),(8,2207,15,0),(9,16,8,0),(10,4253,14,0),(11,4253,14,0),(12,16,8,0),(13,8349,14,0),(14,16,8,0),(15,16541,14,0),(16,16413,14,0),(17,16,8,0),(18,53,26,0),(19,117,26,0),(20,32885,26,0),(21,117,26,0),(22,117,26,0),(23,65588,26,0),(24,48,24,0),(25,16,8,0)]
def zz.hl:SH:=shN zz.te zz.tb [] [(20,117,26,0)]
def zz.hj:Nat->Option Shape:=shO zz.te zz.tb [] [(18,21,10,0)]
def zz.L20 (R:Type) (K:KK R) (n:Nat) (x:((List zg.T)×Unit×Unit×Unit×Int×Unit)×(za.T×zg.T×zg.T×Unit)×Unit):Option R:=zz.l20 F (fun l i t68 n r8 s=>K (.exit 1) (yS (zz.h 20) ((l,(),(),(),i,t68,()),(n,r8,s,()),()))) n x.1.1 x.1.2.2.2.2.1 x.2.1.1 x.2.1.2.1 x.2.1.2.2.1
def zz.J18 (x:((List zg.T)×Unit×Unit×Unit)×(za.T×zg.T×Unit)×Unit) (R:Type) (K:KK R):Option R:=zz.j18 F (fun r8=>K .ret (yS (zz.h 25) (((),()),(r8,()),()))) x.1.1 x.2.1.1 x.2.1.2.1
def zz.X:X_ m:={hn:={na:=4},lv:=[⟨106,yr.sp F⟩,⟨105,yQ.sp F⟩,⟨112,y9.sp F⟩,⟨159,zE.sp F⟩,⟨160,yC.sp F⟩],N:=96,H:=zz.h,HL:=zz.hl,HJ:=zz.hj,L:=mkL zz.hl [⟨20,fun x R K=>zz.L20 F R K F x⟩],J:=mkJ zz.hj [⟨18,zz.J18 F⟩]}
theorem zz.ok:OKP m 104 zz.sg (zz.sp F):=okp (zz.X m F) Tryz.func104 ⟨yr.ok m F,yQ.ok m F,y9.ok m F,zE.ok m F,yC.ok m F,trivial⟩ trivial 1 1 (yx (FX.loopk 20 F (zz.L20 F)) zu) (yx (FX.cutk 18) zu)
def xM.te:TEs:=[kL 0]
def xM.tb:TEs:=[(0,.g zd)]
def xM.h:SH:=shN xM.te xM.tb [] [(0,1,1,0),(1,1,1,0)]
def xM.X (F:Nat):X_ m:={hn:={na:=0},N:=2,H:=xM.h}
theorem xM.ok:OKP m 108 xM.sg (xM.sp F):=okp (xM.X m F) Tryz.func108 trivial trivial 0 0 zu zu
def yO.te:TEs:=[kL 2,kL 3,(4,kI),kL 5,(13,kB),(16,kB)]
def yO.tb:TEs:=[(2,.g zd),(3,.g zd),(5,.a .u64)]
def yO.h:SH:=shN yO.te yO.tb [] [(0,3,3,0),(1,8,4,0),(2,24,4,0),(3,4,0,0),(4,32,0,0),(5,4,0,0),(6,4,0,0)]
def yO.X:X_ m:={hn:={na:=2},lv:=[⟨162,zD.sp F⟩,⟨163,zR.sp F⟩,⟨161,z6.sp F⟩,⟨164,xl.sp F⟩],N:=17,H:=yO.h}
theorem yO.ok:OKP m 107 yO.sg (yO.sp F):=okp (yO.X m F) Tryz.func107 ⟨zD.ok m F,zR.ok m F,z6.ok m F,xl.ok m F,trivial⟩ trivial 0 0 zu zu
def zN.te:TEs:=[kL 1,(2,.c (.sl zd)),(3,kI),(4,kI),(6,kI),(7,kI),(8,kI),kL 10,(12,.c (.sl zd)),(12,.ow 12),(13,.ow 13),(14,kI),(15,kI),kL 16,kL 17,(25,kB),(34,kB),(48,kB),(79,kB),(91,kB)]
def zN.tb:TEs:=[(1,.g zO),(10,.g zd),(16,.g zg),(17,.g zg)]
def zN.tp:List tH:=[⟨12,.env 12,zd⟩,⟨13,.env 13,zg⟩]
def zN.h:SH:=shN zN.te zN.tb zN.tp [(0,1,1,0),(1,49,1,0),(2,32817,1,0),(3,14,0,0),(4,65,1,0),(5,65601,1,0),(6,14,0,0),(7,129,3,0),(8,641,3,1),(9,1665,3,3),(10,3713,3,3),(11,134785,3,3),(12,3713,3,3),(13,7809,3,3),(14,16001,7,3),(15,32385,15,3),(16,294529,15,3),(17,32385,15,3),(18,540289,7,3),(19,14,0,0),(20,16001,7,3),(21,3713,3,3),(22,14,0,0)]
def zN.hl:SH:=shN zN.te zN.tb zN.tp [(11,3713,3,3)]
def zN.hj:Nat->Option Shape:=shO zN.te zN.tb zN.tp [(22,256,0,0)]
def zN.L11 (R:Type) (K:KK R) (n:Nat) (x:(Unit×Unit×Unit×Unit×Int×Unit)×(zO.T×zd.T×Unit)×((List zd.T)×(List zg.T)×Unit)):Option R:=zN.l11 F (fun r2 r3 r4=>K .ret (yS (zN.h 19) ((r2,r3,r4,()),(),()))) (fun i t48 p s out pile=>K (.exit 0) (yS (zN.h 11) (((),(),(),(),i,t48,()),(p,s,()),(out,pile,())))) n x.1.2.2.2.2.1 x.2.1.1 x.2.1.2.1 x.2.2.1 x.2.2.2.1
def zN.J22 (x:((List zd.T)×Unit)×Unit×Unit) (R:Type) (K:KK R):Option R:=zN.j22 F (fun r2 r3 r4=>K .ret (yS (zN.h 22) ((r2,r3,r4,()),(),()))) x.1.1
def zN.X:X_ m:={hn:={MU:=fun s=>lk false s [(97,true),(103,true)],na:=1,fzJ:=fun r=>lk [] r [(22,[12])]},lv:=[⟨23,zk.sp F⟩,⟨64,zm.sp F⟩,⟨65,yd.sp F⟩,⟨60,zq.sp F⟩,⟨104,zz.sp F⟩,⟨106,yr.sp F⟩,⟨105,yQ.sp F⟩,⟨108,xM.sp F⟩,⟨107,yO.sp F⟩],N:=105,H:=zN.h,HL:=zN.hl,HJ:=zN.hj,L:=mkL zN.hl [⟨11,fun x R K=>zN.L11 F R K F x⟩],J:=mkJ zN.hj [⟨22,zN.J22 F⟩]}
theorem zN.ok:OKP m 63 zN.sg (zN.sp F):=okp (zN.X m F) Tryz.func63 ⟨zk.ok m F,zm.ok m F,yd.ok m F,zq.ok m F,zz.ok m F,yr.ok m F,yQ.ok m F,xM.ok m F,yO.ok m F,trivial⟩ trivial 1 1 (yx (FX.loopk 11 F (zN.L11 F)) zu) (yx (FX.cutk 22) zu)
def xg.te:TEs:=[kL 1,kL 2,(3,kI),(4,kI),(6,kI),(7,kI),(8,kI),kL 10,(19,kB)]
def xg.tb:TEs:=[(1,.g zO),(2,.g zd),(10,.g zd)]
def xg.h:SH:=shN xg.te xg.tb [] [(0,3,3,0),(1,51,3,0),(2,307,3,0),(3,14,2,0),(4,66,2,0),(5,130,6,0),(6,14,2,0)]
def xg.X:X_ m:={hn:={na:=1},lv:=[⟨63,zN.sp F⟩,⟨64,zm.sp F⟩,⟨65,yd.sp F⟩],N:=34,H:=xg.h}
theorem xg.ok:OKP m 24 xg.sg (xg.sp F):=okp (xg.X m F) Tryz.func24 ⟨zN.ok m F,zm.ok m F,yd.ok m F,trivial⟩ trivial 0 0 zu zu
def xf.te:TEs:=[kL 2,kL 3,kL 4,kL 5]
def xf.tb:TEs:=[(2,.g zd),(3,.g zd),(4,.g zd),(5,.g zd)]
def xf.h:SH:=shN xf.te xf.tb [] [(0,7,7,0),(1,12,12,0),(2,4,4,0)]
def xf.X:X_ m:={hn:={na:=2},lv:=[⟨110,zl.sp F⟩],N:=14,H:=xf.h}
theorem xf.ok:OKP m 111 xf.sg (xf.sp F):=okp (xf.X m F) Tryz.func111 ⟨zl.ok m F,trivial⟩ trivial 0 0 zu zu
def xE.te:TEs:=[(3,.b (.int .i64)),kL 4,kL 5,kL 6,kL 8,(10,kI),(11,kB),(16,kB),(23,kB)]
def xE.tb:TEs:=[(4,.g zO),(5,.g za),(6,.g zd),(8,.g zd)]
def xE.h:SH:=shN xE.te xE.tb [] [(0,31,15,0),(1,63,15,0),(2,127,15,0),(3,16,8,0),(4,191,15,0),(5,16,8,0),(6,279,11,0),(7,16,8,0),(8,16,8,0)]
def xE.X:X_ m:={hn:={na:=4},lv:=[⟨109,yf.sp F⟩,⟨111,xf.sp F⟩,⟨112,y9.sp F⟩],N:=45,H:=xE.h}
theorem xE.ok:OKP m 66 xE.sg (xE.sp F):=okp (xE.X m F) Tryz.func66 ⟨yf.ok m F,xf.ok m F,y9.ok m F,trivial⟩ trivial 0 0 zu zu
def xO.te:TEs:=[kL 2,kL 3,kL 4,(5,kI)]
def xO.tb:TEs:=[(2,.g zd),(3,.g zd),(4,.g zd)]
def xO.h:SH:=shN xO.te xO.tb [] [(0,7,7,0),(1,12,4,0)]
def xO.X:X_ m:={hn:={na:=2},lv:=[⟨162,zD.sp F⟩,⟨163,zR.sp F⟩,⟨161,z6.sp F⟩,⟨170,yM.sp F⟩],N:=15,H:=xO.h}
theorem xO.ok:OKP m 166 xO.sg (xO.sp F):=okp (xO.X m F) Tryz.func166 ⟨zD.ok m F,zR.ok m F,z6.ok m F,yM.ok m F,trivial⟩ trivial 0 0 zu zu
def xk.te:TEs:=[kL 2,kL 3,kL 4,kL 5]
def xk.tb:TEs:=[(2,.g zd),(3,.g zd),(4,.g zd),(5,.g zd)]
def xk.h:SH:=shN xk.te xk.tb [] [(0,7,7,0),(1,12,12,0),(2,4,4,0)]
def xk.X:X_ m:={hn:={na:=2},lv:=[⟨166,xO.sp F⟩],N:=14,H:=xk.h}
theorem xk.ok:OKP m 113 xk.sg (xk.sp F):=okp (xk.X m F) Tryz.func113 ⟨xO.ok m F,trivial⟩ trivial 0 0 zu zu
def xF.te:TEs:=[kL 2,kL 3,kL 4,kL 5]
def xF.tb:TEs:=[(2,.g zd),(3,.g zd),(4,.g zd),(5,.g zd)]
def xF.h:SH:=shN xF.te xF.tb [] [(0,7,7,0),(1,12,12,0),(2,4,4,0)]
def xF.X:X_ m:={hn:={na:=2},lv:=[⟨167,xy.sp F⟩],N:=14,H:=xF.h}
theorem xF.ok:OKP m 114 xF.sg (xF.sp F):=okp (xF.X m F) Tryz.func114 ⟨xy.ok m F,trivial⟩ trivial 0 0 zu zu
def zL.te:TEs:=[(0,.b zd),(1,kI),kL 4,kL 5,(6,kI),(13,kB),(23,kB)]
def zL.tb:TEs:=[(4,.g zd),(5,.g zd)]
def zL.h:SH:=shN zL.te zL.tb [] [(0,7,1,0),(1,15,3,0),(2,31,3,0),(3,63,3,0),(4,31,3,0),(5,95,3,0),(6,31,3,0),(7,4,1,0)]
def zL.hl:SH:=shN zL.te zL.tb [] [(3,31,3,0)]
def zL.L3 (R:Type) (K:KK R) (n:Nat) (x:((List zd.T)×Int×Unit×Unit×Int×Unit)×(zd.T×zd.T×Unit)×Unit):Option R:=zL.l3 F (fun l sign i t13 r4 b=>K (.exit 0) (yS (zL.h 3) ((l,sign,(),(),i,t13,()),(r4,b,()),()))) n x.1.1 x.1.2.1 x.1.2.2.2.2.1 x.2.1.1 x.2.1.2.1
def zL.X:X_ m:={hn:={na:=2},lv:=[⟨107,yO.sp F⟩],N:=29,H:=zL.h,HL:=zL.hl,L:=mkL zL.hl [⟨3,fun x R K=>zL.L3 F R K F x⟩]}
theorem zL.ok:OKP m 115 zL.sg (zL.sp F):=okp (zL.X m F) Tryz.func115 ⟨yO.ok m F,trivial⟩ trivial 1 0 (yx (FX.loopk 3 F (zL.L3 F)) zu) zu
def zU.te:TEs:=[(0,.b yp),kL 3,(4,kI),(5,kI),(6,kI),(10,kB),(21,kB)]
def zU.tb:TEs:=[(3,.g zd)]
def zU.h:SH:=shN zU.te zU.tb [] [(0,3,1,0),(1,11,1,0),(2,27,1,0),(3,59,1,0),(4,27,1,0),(5,91,1,0),(6,27,1,0),(7,4,0,0)]
def zU.hl:SH:=shN zU.te zU.tb [] [(3,27,1,0)]
def zU.L3 (R:Type) (K:KK R) (n:Nat) (x:((List yp.T)×Unit×Int×Int×Unit)×(zd.T×Unit)×Unit):Option R:=zU.l3 F (fun l k i t10 x=>K (.exit 0) (yS (zU.h 3) ((l,(),k,i,t10,()),(x,()),()))) n x.1.1 x.1.2.2.1 x.1.2.2.2.1 x.2.1.1
def zU.X:X_ m:={hn:={na:=2},lv:=[⟨109,yf.sp F⟩,⟨107,yO.sp F⟩],N:=24,H:=zU.h,HL:=zU.hl,L:=mkL zU.hl [⟨3,fun x R K=>zU.L3 F R K F x⟩]}
theorem zU.ok:OKP m 168 zU.sg (zU.sp F):=okp (zU.X m F) Tryz.func168 ⟨yf.ok m F,yO.ok m F,trivial⟩ trivial 1 0 (yx (FX.loopk 3 F (zU.L3 F)) zu) zu
def zY.te:TEs:=[(0,kI),(1,.b yp),kL 5,kL 6,(7,kI),kL 8,(9,kI),(14,kB),(17,kB),(43,kB)]
def zY.tb:TEs:=[(5,.g zd),(6,.g zd),(8,.g zd)]
def zY.h:SH:=shN zY.te zY.tb [] [(0,15,3,0),(1,31,3,0),(2,159,3,0),(3,8,2,0),(4,286,3,0),(5,8,2,0),(6,58,6,0),(7,122,6,0),(8,634,6,0),(9,122,6,0),(10,122,6,0),(11,8,2,0)]
def zY.hl:SH:=shN zY.te zY.tb [] [(8,122,6,0)]
def zY.L8 (R:Type) (K:KK R) (n:Nat) (x:((List yp.T)×Unit×Int×Unit×Int×Unit)×(zd.T×zd.T×Unit)×Unit):Option R:=zY.l8 F (fun l k i t43 r6 s=>K (.exit 0) (yS (zY.h 8) ((l,(),k,(),i,t43,()),(r6,s,()),()))) n x.1.1 x.1.2.2.1 x.1.2.2.2.2.1 x.2.1.1 x.2.1.2.1
def zY.X:X_ m:={hn:={na:=3},lv:=[⟨168,zU.sp F⟩,⟨109,yf.sp F⟩,⟨111,xf.sp F⟩,⟨113,xk.sp F⟩,⟨114,xF.sp F⟩],N:=69,H:=zY.h,HL:=zY.hl,L:=mkL zY.hl [⟨8,fun x R K=>zY.L8 F R K F x⟩]}
theorem zY.ok:OKP m 116 zY.sg (zY.sp F):=okp (zY.X m F) Tryz.func116 ⟨zU.ok m F,yf.ok m F,xf.ok m F,xk.ok m F,xF.ok m F,trivial⟩ trivial 1 0 (yx (FX.loopk 8 F (zY.L8 F)) zu) zu
def yN.te:TEs:=[(0,.c (.int .u64)),(1,.c (.int .u64)),(2,.c (.int .u64)),(6,.c (.int .u64)),(7,.c (.int .u64))]
def yN.h:SH:=shN yN.te [] [] [(0,7,0,0),(1,24,0,0)]
def yN.X (F:Nat):X_ m:={hn:={na:=3},N:=17,H:=yN.h}
theorem yN.ok:OKP m 120 yN.sg (yN.sp F):=okp (yN.X m F) Tryz.func120 trivial trivial 0 0 zu zu
def yP.te:TEs:=[(0,.c (.int .u64)),(1,.c (.int .u64)),(2,.c (.int .u64)),(3,.c (.int .u64)),(8,kB)]
def yP.h:SH:=shN yP.te [] [] [(0,15,0,0),(1,16,0,0)]
def yP.X (F:Nat):X_ m:={hn:={na:=4},N:=22,H:=yP.h}
theorem yP.ok:OKP m 121 yP.sg (yP.sp F):=okp (yP.X m F) Tryz.func121 trivial trivial 0 0 zu zu
def xt.te:TEs:=[(0,.c (.int .u64)),(1,.c (.int .u64)),(2,.c (.int .u64)),(3,.c (.int .u64)),(8,.c (.int .u64)),(9,.c (.int .u64)),(12,kB)]
def xt.h:SH:=shN xt.te [] [] [(0,15,0,0),(1,79,0,0),(2,48,0,0),(3,48,0,0)]
def xt.X (F:Nat):X_ m:={hn:={na:=4},N:=26,H:=xt.h}
theorem xt.ok:OKP m 122 xt.sg (xt.sp F):=okp (xt.X m F) Tryz.func122 trivial trivial 0 0 zu zu
def zC.te:TEs:=[kL 2,kL 3,kL 4,kL 5,(6,kI),(7,.c (.int .u64)),(8,.c (.int .u64)),(9,.c (.int .u64)),(10,.c (.int .u64)),(11,.c (.int .u64)),(12,.c (.int .u64)),(13,.c (.int .u64)),(14,.c (.int .u64)),(15,kI),(16,.c (.int .u64)),kL 17,(18,kI),kL 19,(28,kB),(42,kB),(52,kB),(70,kB),(100,kB)]
def zC.tb:TEs:=[(2,.g zd),(3,.g zd),(4,.g zd),(5,.g zd),(17,.g zd),(19,.g zd)]
def zC.h:SH:=shN zC.te zC.tb [] [(0,15,15,0),(1,262159,15,0),(2,28,12,0),(3,111,15,0),(4,495,15,0),(5,1007,15,0),(6,2031,15,0),(7,4079,15,0),(8,8175,15,0),(9,16367,15,0),(10,540655,15,0),(11,16367,15,0),(12,32751,15,0),(13,1081327,15,0),(14,32751,15,0),(15,16367,15,0),(16,32751,15,0),(17,2129903,15,0),(18,16367,15,0),(19,32751,15,0),(20,16367,15,0),(21,104461,29,0),(22,4298765,29,0),(23,28,12,0),(24,163852,60,0),(25,28,12,0)]
def zC.hl:SH:=shN zC.te zC.tb [] [(10,16367,15,0)]
def zC.hj:Nat->Option Shape:=shO zC.te zC.tb [] [(3,15,15,0)]
def zC.L10 (R:Type) (K:KK R) (n:Nat) (x:(Unit×Unit×Unit×Unit×Int×Int×Int×Int×Int×Int×Int×Int×Int×Unit)×(zd.T×zd.T×zd.T×zd.T×Unit)×Unit):Option R:=zC.l10 F (fun ah al bh bl qh ql rh rl i t42 a b r4 r5=>K (.exit 0) (yS (zC.h 10) (((),(),(),(),ah,al,bh,bl,qh,ql,rh,rl,i,t42,()),(a,b,r4,r5,()),()))) n x.1.2.2.2.2.1 x.1.2.2.2.2.2.1 x.1.2.2.2.2.2.2.1 x.1.2.2.2.2.2.2.2.1 x.1.2.2.2.2.2.2.2.2.1 x.1.2.2.2.2.2.2.2.2.2.1 x.1.2.2.2.2.2.2.2.2.2.2.1 x.1.2.2.2.2.2.2.2.2.2.2.2.1 x.1.2.2.2.2.2.2.2.2.2.2.2.2.1 x.2.1.1 x.2.1.2.1 x.2.1.2.2.1 x.2.1.2.2.2.1
def zC.J3 (x:(Unit×Unit×Unit×Unit×Unit)×(zd.T×zd.T×zd.T×zd.T×Unit)×Unit) (R:Type) (K:KK R):Option R:=zC.j3 F (fun r6 r4 r5=>K .ret (yS (zC.h 23) (((),(),r6,()),(r4,r5,()),()))) (fun r6 r4 r5=>K .ret (yS (zC.h 25) (((),(),r6,()),(r4,r5,()),()))) x.2.1.1 x.2.1.2.1 x.2.1.2.2.1 x.2.1.2.2.2.1
def zC.X:X_ m:={hn:={na:=2},lv:=[⟨119,zV.sp F⟩,⟨120,yN.sp F⟩,⟨121,yP.sp F⟩,⟨122,xt.sp F⟩,⟨123,yg.sp F⟩],N:=115,H:=zC.h,HL:=zC.hl,HJ:=zC.hj,L:=mkL zC.hl [⟨10,fun x R K=>zC.L10 F R K F x⟩],J:=mkJ zC.hj [⟨3,zC.J3 F⟩]}
theorem zC.ok:OKP m 72 zC.sg (zC.sp F):=okp (zC.X m F) Tryz.func72 ⟨zV.ok m F,yN.ok m F,yP.ok m F,xt.ok m F,yg.ok m F,trivial⟩ trivial 1 1 (yx (FX.loopk 10 F (zC.L10 F)) zu) (yx (FX.cutk 3) zu)
def xp.te:TEs:=[(3,kI),kL 4,kL 5,kL 6,(8,kB),(9,.c (.int .u64)),(10,.c (.int .u64)),(11,.c (.int .u64)),(12,.c (.int .u64)),(13,.c (.int .u64)),(14,.c (.int .u64)),(40,kB)]
def xp.tb:TEs:=[(4,.g zd),(5,.g zd),(6,.g zd)]
def xp.h:SH:=shN xp.te xp.tb [] [(0,15,7,0),(1,107,5,0),(2,483,1,0),(3,1635,1,0),(4,3683,1,0),(5,16,0,0),(6,16,0,0)]
def xp.X:X_ m:={hn:={na:=4},lv:=[⟨119,zV.sp F⟩,⟨122,xt.sp F⟩,⟨121,yP.sp F⟩],N:=54,H:=xp.h}
theorem xp.ok:OKP m 169 xp.sg (xp.sp F):=okp (xp.X m F) Tryz.func169 ⟨zV.ok m F,xt.ok m F,yP.ok m F,trivial⟩ trivial 0 0 zu zu
def yk.te:TEs:=[(2,kI),kL 3,kL 4,kL 6,(7,kI),kL 8,kL 9,(10,kI),(11,kB),(12,kB),(18,kB),(28,kB),(38,kB),(47,kI),(48,kB),(51,kB),(55,kB),(64,kB),(66,kB)]
def yk.tb:TEs:=[(3,.g zd),(4,.g zd),(6,.g zd),(8,.g zd),(9,.g zd)]
def yk.h:SH:=shN yk.te yk.tb [] [(0,15,7,0),(1,1039,7,0),(2,24,4,0),(3,239,31,0),(4,2287,31,0),(5,24,4,0),(6,4207,31,0),(7,24,4,0),(8,365,30,0),(9,877,30,0),(10,9069,30,0),(11,25453,30,0),(12,808,12,0),(13,41837,30,0),(14,808,12,0),(15,74605,30,0),(16,66413,30,0),(17,808,12,0),(18,131368,12,0),(19,24,4,0),(20,262184,12,0),(21,24,4,0),(22,24,4,0)]
def yk.hj:Nat->Option Shape:=shO yk.te yk.tb [] [(8,111,31,0),(18,808,12,0)]
def yk.J18 (x:(Unit×Unit×Bool×Bool×Unit)×(zd.T×zd.T×Unit)×Unit) (R:Type) (K:KK R):Option R:=yk.j18 F (fun r7 r6=>K .ret (yS (yk.h 19) (((),r7,()),(r6,()),()))) (fun r7 r6=>K .ret (yS (yk.h 21) (((),r7,()),(r6,()),()))) (fun r7 r6=>K .ret (yS (yk.h 22) (((),r7,()),(r6,()),()))) x.1.2.2.1 x.1.2.2.2.1 x.2.1.1 x.2.1.2.1
def yk.J8 (x:(Int×Unit×Unit×Unit×Unit×Unit×Unit)×(zd.T×zd.T×zd.T×zd.T×zd.T×Unit)×Unit) (R:Type) (K:KK R):Option R:=yk.j8 F (fun r7 r6=>K .ret (yS (yk.h 19) (((),r7,()),(r6,()),()))) (fun r7 r6=>K .ret (yS (yk.h 21) (((),r7,()),(r6,()),()))) (fun r7 r6=>K .ret (yS (yk.h 22) (((),r7,()),(r6,()),()))) x.1.1 x.2.1.1 x.2.1.2.1 x.2.1.2.2.1 x.2.1.2.2.2.1 x.2.1.2.2.2.2.1
def yk.X:X_ m:={hn:={na:=3},lv:=[⟨72,zC.sp F⟩,⟨109,yf.sp F⟩,⟨166,xO.sp F⟩,⟨167,xy.sp F⟩,⟨169,xp.sp F⟩],N:=77,H:=yk.h,HJ:=yk.hj,J:=mkJ yk.hj [⟨18,yk.J18 F⟩,⟨8,yk.J8 F⟩]}
theorem yk.ok:OKP m 117 yk.sg (yk.sp F):=okp (yk.X m F) Tryz.func117 ⟨zC.ok m F,yf.ok m F,xO.ok m F,xy.ok m F,xp.ok m F,trivial⟩ trivial 0 2 zu (yx (FX.cutk 18) (yx (FX.cutk 8) zu))
def xL.te:TEs:=[(1,kI),(2,kI),kL 3,(6,kB),(7,kI),(12,kI),(13,kB),(17,kB),(21,kB),(25,kB),(29,kB)]
def xL.tb:TEs:=[(3,.g zd)]
def xL.h:SH:=shN xL.te xL.tb [] [(0,7,1,0),(1,18,0,0),(2,48,0,0),(3,112,0,0),(4,8,0,0),(5,176,0,0),(6,8,0,0),(7,304,0,0),(8,8,0,0),(9,560,0,0),(10,8,0,0),(11,1040,0,0),(12,8,0,0),(13,8,0,0)]
def xL.X:X_ m:={hn:={na:=3},lv:=[⟨109,yf.sp F⟩,⟨107,yO.sp F⟩],N:=35,H:=xL.h}
theorem xL.ok:OKP m 118 xL.sg (xL.sp F):=okp (xL.X m F) Tryz.func118 ⟨yf.ok m F,yO.ok m F,trivial⟩ trivial 0 0 zu zu
def yo.te:TEs:=[(2,.b zd),kL 3,kL 4,kL 6,kL 7,kL 8,kL 9,(16,kI),(17,kB),(24,kB),(33,kB),(42,kB),(51,kB),(55,kB),(59,kB),(69,kB),(77,kB),(90,kB),(113,kB)]
def yo.tb:TEs:=[(3,.g za),(4,.g zd),(6,.g zd),(7,.g zd),(8,.g zd),(9,.g zd)]
def yo.h:SH:=shN yo.te yo.tb [] [(0,15,7,0),(1,31,15,0),(2,63,31,0),(3,191,31,0),(4,447,31,0),(5,8,4,0),(6,703,31,0),(7,8,4,0),(8,1215,31,0),(9,8,4,0),(10,2239,31,0),(11,8,4,0),(12,4287,31,0),(13,8,4,0),(14,8383,31,0),(15,8,4,0),(16,16575,31,0),(17,8,4,0),(18,32943,23,0),(19,8,4,0),(20,65679,7,0),(21,65679,7,0),(22,8,4,0),(23,131083,5,0),(24,72,36,0),(25,8,4,0),(26,262153,4,0),(27,8,4,0),(28,8,4,0)]
def yo.hj:Nat->Option Shape:=shO yo.te yo.tb [] [(26,11,5,0)]
def yo.J26 (x:((List zd.T)×Unit×Unit×Unit)×(za.T×zd.T×Unit)×Unit) (R:Type) (K:KK R):Option R:=yo.j26 F (fun r6=>K .ret (yS (yo.h 27) (((),()),(r6,()),()))) (fun r6=>K .ret (yS (yo.h 28) (((),()),(r6,()),()))) x.1.1 x.2.1.1 x.2.1.2.1
def yo.X:X_ m:={hn:={na:=3},lv:=[⟨109,yf.sp F⟩,⟨113,xk.sp F⟩,⟨114,xF.sp F⟩,⟨111,xf.sp F⟩,⟨115,zL.sp F⟩,⟨116,zY.sp F⟩,⟨117,yk.sp F⟩,⟨118,xL.sp F⟩],N:=120,H:=yo.h,HJ:=yo.hj,J:=mkJ yo.hj [⟨26,yo.J26 F⟩]}
theorem yo.ok:OKP m 67 yo.sg (yo.sp F):=okp (yo.X m F) Tryz.func67 ⟨yf.ok m F,xk.ok m F,xF.ok m F,xf.ok m F,zL.ok m F,zY.ok m F,yk.ok m F,xL.ok m F,trivial⟩ trivial 0 1 zu (yx (FX.cutk 26) zu)
def zf.te:TEs:=[(1,.b (.int .i64)),kL 2,(4,.c (.sl zd)),(5,kI),kL 6,(8,kI),(9,kI),(10,.c (.sl zd)),(10,.ow 10),(11,.ow 11),(12,kI),kL 13,(14,kI),kL 15,(23,kB),(30,kB),(34,kB),(48,kB),(53,kB),(70,kB)]
def zf.tb:TEs:=[(2,.g zO),(6,.g zd),(13,.g za),(15,.g zd)]
def zf.tp:List tH:=[⟨10,.env 10,zd⟩,⟨11,.env 11,zd⟩]
def zf.h:SH:=shN zf.te zf.tb zf.tp [(0,3,1,0),(1,51,3,0),(2,16435,3,0),(3,12,0,0),(4,32787,3,0),(5,12,0,0),(6,83,3,0),(7,65619,3,0),(8,83,3,0),(9,131155,3,0),(10,12,0,0),(11,275,3,1),(12,787,3,3),(13,1811,3,3),(14,263955,3,3),(15,1811,3,3),(16,3859,7,3),(17,7955,7,3),(18,16147,15,3),(19,540435,15,3),(20,14099,11,3),(21,14099,11,3),(22,14099,11,3),(23,1811,3,3),(24,12,0,0)]
def zf.hl:SH:=shN zf.te zf.tb zf.tp [(7,83,3,0),(14,1811,3,3)]
def zf.hj:Nat->Option Shape:=shO zf.te zf.tb zf.tp [(24,128,0,0)]
def zf.L7 (R:Type) (K:KK R) (n:Nat) (x:((List Int)×Unit×Unit×Int×Unit)×(zO.T×zd.T×Unit)×Unit):Option R:=zf.l7 F (fun r4 r5=>K .ret (yS (zf.h 10) ((r4,r5,()),(),()))) (fun q i t34 p unit=>K (.exit 0) (yS (zf.h 7) ((q,(),(),i,t34,()),(p,unit,()),()))) n x.1.1 x.1.2.2.2.1 x.2.1.1 x.2.1.2.1
def zf.L14 (R:Type) (K:KK R) (n:Nat) (x:((List Int)×Unit×Unit×Unit×Unit×Int×Unit)×(zO.T×zd.T×Unit)×((List zd.T)×(List zd.T)×Unit)):Option R:=zf.l14 F (fun q i t53 p unit out pile=>K (.exit 2) (yS (zf.h 14) ((q,(),(),(),(),i,t53,()),(p,unit,()),(out,pile,())))) n x.1.1 x.1.2.2.2.2.2.1 x.2.1.1 x.2.1.2.1 x.2.2.1 x.2.2.2.1
def zf.J24 (x:((List zd.T)×Unit)×Unit×Unit) (R:Type) (K:KK R):Option R:=zf.j24 F (fun r4 r5=>K .ret (yS (zf.h 24) ((r4,r5,()),(),()))) x.1.1
def zf.X:X_ m:={hn:={MU:=fun s=>lk false s [(85,true),(91,true)],na:=2,fzJ:=fun r=>lk [] r [(24,[10])]},lv:=[⟨24,xg.sp F⟩,⟨60,zq.sp F⟩,⟨66,xE.sp F⟩,⟨67,yo.sp F⟩],N:=93,H:=zf.h,HL:=zf.hl,HJ:=zf.hj,L:=mkL zf.hl [⟨7,fun x R K=>zf.L7 F R K F x⟩,⟨14,fun x R K=>zf.L14 F R K F x⟩],J:=mkJ zf.hj [⟨24,zf.J24 F⟩]}
theorem zf.ok:OKP m 26 zf.sg (zf.sp F):=okp (zf.X m F) Tryz.func26 ⟨xg.ok m F,zq.ok m F,xE.ok m F,yo.ok m F,trivial⟩ trivial 2 1 (yx (FX.loopk 14 F (zf.L14 F)) (yx (FX.loopk 7 F (zf.L7 F)) zu)) (yx (FX.cutk 24) zu)
def yt.te:TEs:=[(1,kI),kL 2,(4,.c (.sl (.int .i64))),(5,.c (.sl (.int .i64))),(6,kI),(7,kI),(17,kB)]
def yt.tb:TEs:=[(2,.g zO)]
def yt.h:SH:=shN yt.te yt.tb [] [(0,3,1,0),(1,11,1,0),(2,27,1,0),(3,58,1,0),(4,122,1,0),(5,58,1,0),(6,58,1,0),(7,58,1,0),(8,4,0,0)]
def yt.hl:SH:=shN yt.te yt.tb [] [(4,58,1,0)]
def yt.L4 (R:Type) (K:KK R) (n:Nat) (x:(Unit×(List Int)×Int×Int×Unit)×(zO.T×Unit)×Unit):Option R:=yt.l4 F (fun l at_ k t17 p=>K (.exit 0) (yS (yt.h 4) (((),l,at_,k,t17,()),(p,()),()))) n x.1.2.1 x.1.2.2.1 x.1.2.2.2.1 x.2.1.1
def yt.X:X_ m:={hn:={MU:=fun s=>lk false s [(21,true)],na:=2,fz:=fun r=>lk [] r [(6,[23])]},lv:=[⟨60,zq.sp F⟩,⟨61,zI.sp F⟩],N:=29,H:=yt.h,HL:=yt.hl,L:=mkL yt.hl [⟨4,fun x R K=>yt.L4 F R K F x⟩]}
theorem yt.ok:OKP m 68 yt.sg (yt.sp F):=okp (yt.X m F) Tryz.func68 ⟨zq.ok m F,zI.ok m F,trivial⟩ trivial 1 0 (yx (FX.loopk 4 F (yt.L4 F)) zu) zu
def ya.te:TEs:=[(1,kI),(2,kI),kL 3,(6,kB),(7,kI),(8,kI),(21,kB),(24,kB),(36,kB)]
def ya.tb:TEs:=[(3,.g zO)]
def ya.h:SH:=shN ya.te ya.tb [] [(0,7,1,0),(1,23,1,0),(2,55,1,0),(3,117,1,0),(4,8,0,0),(5,181,1,0),(6,309,1,0),(7,8,0,0),(8,53,1,0),(9,53,1,0),(10,8,0,0)]
def ya.hl:SH:=shN ya.te ya.tb [] [(5,53,1,0)]
def ya.L5 (R:Type) (K:KK R) (n:Nat) (x:(Int×Unit×Int×Int×Unit)×(zO.T×Unit)×Unit):Option R:=ya.l5 F (fun r6=>K .ret (yS (ya.h 7) ((r6,()),(),()))) (fun a i k t24 p=>K (.exit 0) (yS (ya.h 5) ((a,(),i,k,t24,()),(p,()),()))) n x.1.1 x.1.2.2.1 x.1.2.2.2.1 x.2.1.1
def ya.X:X_ m:={hn:={na:=3},lv:=[⟨61,zI.sp F⟩,⟨47,yh.sp F⟩],N:=41,H:=ya.h,HL:=ya.hl,L:=mkL ya.hl [⟨5,fun x R K=>ya.L5 F R K F x⟩]}
theorem ya.ok:OKP m 69 ya.sg (ya.sp F):=okp (ya.X m F) Tryz.func69 ⟨zI.ok m F,yh.ok m F,trivial⟩ trivial 1 0 (yx (FX.loopk 5 F (ya.L5 F)) zu) zu
def zG.te:TEs:=[(1,.b (.int .i64)),kL 2,(4,kB),(5,kI),(6,kI),(10,kB),(15,kB),(27,kB)]
def zG.tb:TEs:=[(2,.g zO)]
def zG.h:SH:=shN zG.te zG.tb [] [(0,3,1,0),(1,11,1,0),(2,43,1,0),(3,11,1,0),(4,27,1,0),(5,91,1,0),(6,27,1,0),(7,155,1,0),(8,4,0,0),(9,4,0,0)]
def zG.hl:SH:=shN zG.te zG.tb [] [(2,11,1,0),(5,27,1,0)]
def zG.L5 (R:Type) (K:KK R) (n:Nat) (x:((List Int)×Unit×Int×Int×Unit)×(zO.T×Unit)×Unit):Option R:=zG.l5 F (fun r4=>K .ret (yS (zG.h 8) ((r4,()),(),()))) (fun l i k t15 p=>K (.exit 2) (yS (zG.h 5) ((l,(),i,k,t15,()),(p,()),()))) n x.1.1 x.1.2.2.1 x.1.2.2.2.1 x.2.1.1
def zG.L2 (R:Type) (K:KK R) (n:Nat) (x:((List Int)×Unit×Int×Unit)×(zO.T×Unit)×Unit):Option R:=zG.l2 F (fun r4=>K .ret (yS (zG.h 8) ((r4,()),(),()))) (fun l i t10 p=>K (.exit 0) (yS (zG.h 2) ((l,(),i,t10,()),(p,()),()))) n x.1.1 x.1.2.2.1 x.2.1.1
def zG.X:X_ m:={hn:={na:=2},lv:=[⟨69,ya.sp F⟩],N:=28,H:=zG.h,HL:=zG.hl,L:=mkL zG.hl [⟨5,fun x R K=>zG.L5 F R K F x⟩,⟨2,fun x R K=>zG.L2 F R K F x⟩]}
theorem zG.ok:OKP m 70 zG.sg (zG.sp F):=okp (zG.X m F) Tryz.func70 ⟨ya.ok m F,trivial⟩ trivial 2 0 (yx (FX.loopk 5 F (zG.L5 F)) (yx (FX.loopk 2 F (zG.L2 F)) zu)) zu
def yK.te:TEs:=[kL 1,(2,kB)]
def yK.tb:TEs:=[(1,.g za)]
def yK.h:SH:=shN yK.te yK.tb [] [(0,1,1,0),(1,2,0,0)]
def yK.X (F:Nat):X_ m:={hn:={na:=1},N:=11,H:=yK.h}
theorem yK.ok:OKP m 71 yK.sg (yK.sp F):=okp (yK.X m F) Tryz.func71 trivial trivial 0 0 zu zu
def ye.te:TEs:=[(1,kI),kL 2,(4,kB),kL 5,(6,.c (.sl (.int .i64))),kL 7,kL 8,kL 9,kL 10,(20,kI),(21,kB),(32,kB),(37,kB),(47,kB),(53,kB),(91,kB)]
def ye.tb:TEs:=[(2,.g zO),(5,.g za),(7,.g za),(8,.g za),(9,.g za),(10,.g za)]
def ye.h:SH:=shN ye.te ye.tb [] [(0,3,1,0),(1,11,3,0),(2,26,3,0),(3,538,3,0),(4,1562,3,0),(5,4,0,0),(6,2586,3,0),(7,4,0,0),(8,4634,3,0),(9,4,0,0),(10,8730,3,0),(11,8730,3,0),(12,4,0,0),(13,16922,3,0),(14,16922,3,0),(15,58,7,0),(16,104,14,0),(17,4,0,0),(18,32786,1,0),(19,146,17,0),(20,384,48,0),(21,4,0,0),(22,4,0,0)]
def ye.hj:Nat->Option Shape:=shO ye.te ye.tb [] [(12,8730,3,0),(15,16922,3,0)]
def ye.J15 (x:(Unit×Unit×(List Int)×Int×Bool×Unit)×(zO.T×za.T×Unit)×Unit) (R:Type) (K:KK R):Option R:=ye.j15 F (fun r4=>K .ret (yS (ye.h 17) ((r4,()),(),()))) (fun r4=>K .ret (yS (ye.h 21) ((r4,()),(),()))) (fun l t91 p=>K .normal (yS (ye.h 18) (((),l,t91,()),(p,()),()))) x.1.2.2.1 x.1.2.2.2.1 x.1.2.2.2.2.1 x.2.1.1 x.2.1.2.1
def ye.J12 (x:(Unit×Unit×(List Int)×Int×Bool×Unit)×(zO.T×za.T×Unit)×Unit) (R:Type) (K:KK R):Option R:=ye.j12 F (fun r4=>K .ret (yS (ye.h 12) ((r4,()),(),()))) (fun r4=>K .ret (yS (ye.h 17) ((r4,()),(),()))) (fun r4=>K .ret (yS (ye.h 21) ((r4,()),(),()))) (fun l t91 p=>K .normal (yS (ye.h 18) (((),l,t91,()),(p,()),()))) x.1.2.2.1 x.1.2.2.2.1 x.1.2.2.2.2.1 x.2.1.1 x.2.1.2.1
def ye.X:X_ m:={hn:={na:=2},lv:=[⟨68,yt.sp F⟩,⟨69,ya.sp F⟩,⟨70,zG.sp F⟩,⟨71,yK.sp F⟩],N:=125,H:=ye.h,HJ:=ye.hj,J:=mkJ ye.hj [⟨15,ye.J15 F⟩,⟨12,ye.J12 F⟩]}
theorem ye.ok:OKP m 27 ye.sg (ye.sp F):=okp (ye.X m F) Tryz.func27 ⟨yt.ok m F,ya.ok m F,zG.ok m F,yK.ok m F,trivial⟩ trivial 0 2 zu (yx (FX.cutk 15) (yx (FX.cutk 12) zu))
def xH.te:TEs:=[(1,kI),kL 2,(4,kB),(10,kB)]
def xH.tb:TEs:=[(2,.g zO)]
def xH.h:SH:=shN xH.te xH.tb [] [(0,3,1,0),(1,11,1,0),(2,4,0,0),(3,4,0,0)]
def xH.X:X_ m:={hn:={na:=2},lv:=[⟨71,yK.sp F⟩],N:=37,H:=xH.h}
theorem xH.ok:OKP m 28 xH.sg (xH.sp F):=okp (xH.X m F) Tryz.func28 ⟨yK.ok m F,trivial⟩ trivial 0 0 zu zu
def x8.te:TEs:=[kL 1,(2,kI),(3,kB),(4,kI),(11,kB)]
def x8.tb:TEs:=[(1,.g zd)]
def x8.h:SH:=shN x8.te x8.tb [] [(0,1,1,0),(1,9,1,0),(2,24,0,0),(3,6,0,0),(4,6,0,0)]
def x8.X:X_ m:={hn:={na:=1},lv:=[⟨109,yf.sp F⟩],N:=13,H:=x8.h}
theorem x8.ok:OKP m 73 x8.sg (x8.sp F):=okp (x8.X m F) Tryz.func73 ⟨yf.ok m F,trivial⟩ trivial 0 0 zu zu
def yD.te:TEs:=[(1,kB),kL 3,kL 5,(6,kB),kL 7,kL 8,(10,kI),(11,kB),(12,kB),(27,kB)]
def yD.tb:TEs:=[(3,.g zd),(5,.g zd),(7,.g zd),(8,.g zd)]
def yD.h:SH:=shN yD.te yD.tb [] [(0,7,3,0),(1,262,3,0),(2,50,13,0),(3,530,5,0),(4,8,0,0),(5,2,1,0),(6,192,0,0),(7,8,0,0)]
def yD.hj:Nat->Option Shape:=shO yD.te yD.tb [] [(6,2,1,0)]
def yD.J6 (x:(Unit×Unit)×(zd.T×Unit)×Unit) (R:Type) (K:KK R):Option R:=yD.j6 F (fun r6=>K .ret (yS (yD.h 7) ((r6,()),(),()))) x.2.1.1
def yD.X:X_ m:={hn:={na:=3},lv:=[⟨72,zC.sp F⟩,⟨73,x8.sp F⟩],N:=43,H:=yD.h,HJ:=yD.hj,J:=mkJ yD.hj [⟨6,yD.J6 F⟩]}
theorem yD.ok:OKP m 29 yD.sg (yD.sp F):=okp (yD.X m F) Tryz.func29 ⟨zC.ok m F,x8.ok m F,trivial⟩ trivial 0 1 zu (yx (FX.cutk 6) zu)
def zo.te:TEs:=[kL 1,(2,kB),(3,.c (.sl (.int .i64))),(5,kI),kL 6,(8,kI),(9,.c (.sl .bool)),(10,kI),(11,.c (.sl (.int .i64))),(11,.ow 11),(12,kI),(13,.c (.sl zd)),(14,kI),(15,kI),(37,kB),(62,kB),(67,kB),(97,kB)]
def zo.tb:TEs:=[(1,.g zO),(6,.g zd)]
def zo.tp:List tH:=[⟨11,.env 11,(.int .i64)⟩]
def zo.h:SH:=shN zo.te zo.tb zo.tp [(0,1,1,0),(1,13,1,0),(2,61,3,0),(3,253,3,0),(4,765,3,1),(5,1789,3,1),(6,18173,3,1),(7,1789,3,1),(8,1789,3,1),(9,6397,3,0),(10,34901,3,0),(11,2,0,0),(12,10325,3,0),(13,75861,3,0),(14,10325,3,0),(15,141397,3,0),(16,2,0,0),(17,2,0,0)]
def zo.hl:SH:=shN zo.te zo.tb zo.tp [(6,1789,3,1),(13,10325,3,0)]
def zo.hj:Nat->Option Shape:=shO zo.te zo.tb zo.tp [(9,509,3,0)]
def zo.L6 (R:Type) (K:KK R) (n:Nat) (x:(Unit×(List Int)×Int×Unit×Int×(List Bool)×Int×Unit×Int×Unit)×(zO.T×zd.T×Unit)×((List Int)×Unit)):Option R:=zo.l6 F (fun types e f fix g i t37 p unit zero=>K (.exit 0) (yS (zo.h 6) (((),types,e,(),f,fix,g,(),i,t37,()),(p,unit,()),(zero,())))) n x.1.2.1 x.1.2.2.1 x.1.2.2.2.2.1 x.1.2.2.2.2.2.1 x.1.2.2.2.2.2.2.1 x.1.2.2.2.2.2.2.2.2.1 x.2.1.1 x.2.1.2.1 x.2.2.1
def zo.L13 (R:Type) (K:KK R) (n:Nat) (x:(Unit×(List Int)×Unit×(List Bool)×(List zd.T)×Int×Unit)×(zO.T×zd.T×Unit)×Unit):Option R:=zo.l13 F (fun r2=>K .ret (yS (zo.h 16) ((r2,()),(),()))) (fun types fix v i t67 p unit=>K (.exit 2) (yS (zo.h 13) (((),types,(),fix,v,i,t67,()),(p,unit,()),()))) n x.1.2.1 x.1.2.2.2.1 x.1.2.2.2.2.1 x.1.2.2.2.2.2.1 x.2.1.1 x.2.1.2.1
def zo.J9 (x:(Unit×(List Int)×Int×Unit×Int×(List Bool)×Int×(List Int)×Unit)×(zO.T×zd.T×Unit)×Unit) (R:Type) (K:KK R):Option R:=zo.j9 F (fun r2=>K .ret (yS (zo.h 11) ((r2,()),(),()))) (fun r2=>K .ret (yS (zo.h 16) ((r2,()),(),()))) (fun r2=>K .ret (yS (zo.h 17) ((r2,()),(),()))) x.1.2.1 x.1.2.2.1 x.1.2.2.2.2.1 x.1.2.2.2.2.2.1 x.1.2.2.2.2.2.2.1 x.1.2.2.2.2.2.2.2.1 x.2.1.1 x.2.1.2.1
def zo.X:X_ m:={hn:={MU:=fun s=>lk false s [(42,true)],na:=1,fzJ:=fun r=>lk [] r [(9,[11])]},lv:=[⟨23,zk.sp F⟩,⟨24,xg.sp F⟩,⟨25,zi.sp F⟩,⟨26,zf.sp F⟩,⟨27,ye.sp F⟩,⟨28,xH.sp F⟩,⟨29,yD.sp F⟩],N:=98,H:=zo.h,HL:=zo.hl,HJ:=zo.hj,L:=mkL zo.hl [⟨6,fun x R K=>zo.L6 F R K F x⟩,⟨13,fun x R K=>zo.L13 F R K F x⟩],J:=mkJ zo.hj [⟨9,zo.J9 F⟩]}
theorem zo.ok:OKP m 9 zo.sg (zo.sp F):=okp (zo.X m F) Tryz.func9 ⟨zk.ok m F,xg.ok m F,zi.ok m F,zf.ok m F,ye.ok m F,xH.ok m F,yD.ok m F,trivial⟩ trivial 2 1 (yx (FX.loopk 13 F (zo.L13 F)) (yx (FX.loopk 6 F (zo.L6 F)) zu)) (yx (FX.cutk 9) zu)
def yG.te:TEs:=[kL 1,(2,kB),kL 3,(4,kI),(6,kB)]
def yG.tb:TEs:=[(1,.g zO),(3,.g zO)]
def yG.h:SH:=shN yG.te yG.tb [] [(0,1,1,0),(1,17,1,0),(2,2,0,0),(3,12,2,0),(4,2,0,0)]
def yG.X:X_ m:={hn:={na:=1},lv:=[⟨7,xN.sp F⟩,⟨8,wI.sp F⟩,⟨9,zo.sp F⟩],N:=28,H:=yG.h}
theorem yG.ok:OKP m 3 yG.sg (yG.sp F):=okp (yG.X m F) Tryz.func3 ⟨xN.ok m F,wI.ok m F,zo.ok m F,trivial⟩ trivial 0 0 zu zu
end Go.VS
