import Derived.Test.YteppclpeidfhgaaGreatDoorQT
set_option linter.unusedVariables false
set_option linter.unusedSimpArgs false
set_option linter.unusedSectionVars false
set_option linter.unusedVariables false
set_option maxRecDepth 100000
namespace Go.VS
open Go
def xd.te:TEs:=[(0,.c (.sl zT)),kL 2]
def xd.tb:TEs:=[(2,.g xZ)]
def xd.h:SH:=shN xd.te xd.tb [] [(0,3,1,0),(1,2,1,0)]
def xd.X (m:Int) (F:Nat):FX TI (G m) Sg:={hn:={na:=1},N:=7,H:=xd.h}
theorem xd.ok (m:Int) (F:Nat):OKP m 10 xd.sg (xd.sp F) :=
 okp (xd.X m F) Go.Proofs.Tryz.func10 trivial trivial 0 0 zm zm
def xI.te:TEs:=[(0,.c (.int .u8)),(2,kB)]
def xI.h:SH:=shN xI.te [] [] [(0,1,0,0),(1,2,0,0)]
def xI.X (m:Int) (F:Nat):FX TI (G m) Sg:={hn:={na:=1},N:=9,H:=xI.h}
theorem xI.ok (m:Int) (F:Nat):OKP m 178 xI.sg (xI.sp F) :=
 okp (xI.X m F) Go.Proofs.Tryz.func178 trivial trivial 0 0 zm zm
def wo.te:TEs:=[(0,.c (.int .u8)),(2,kB)]
def wo.h:SH:=shN wo.te [] [] [(0,1,0,0),(1,2,0,0)]
def wo.X (m:Int) (F:Nat):FX TI (G m) Sg:={hn:={na:=1},N:=9,H:=wo.h}
theorem wo.ok (m:Int) (F:Nat):OKP m 192 wo.sg (wo.sp F) :=
 okp (wo.X m F) Go.Proofs.Tryz.func192 trivial trivial 0 0 zm zm
def wt.te:TEs:=[(0,.c (.int .u8)),(2,kB)]
def wt.h:SH:=shN wt.te [] [] [(0,1,0,0),(1,2,0,0)]
def wt.X (m:Int) (F:Nat):FX TI (G m) Sg:={hn:={na:=1},lv:=[⟨178,xI.sp F⟩,⟨192,wo.sp F⟩],N:=13,H:=wt.h}
theorem wt.ok (m:Int) (F:Nat):OKP m 180 wt.sg (wt.sp F) :=
 okp (wt.X m F) Go.Proofs.Tryz.func180 ⟨xI.ok m F,wo.ok m F,trivial⟩ trivial 0 0 zm zm
def y9.te:TEs:=[(0,.c .str),(1,.c .fn),(4,kI),(5,kI),(16,kB)]
def y9.h:SH:=shN y9.te [] [] [(0,3,0,0),(1,11,0,0),(2,27,0,0),(3,11,0,0),(4,4,0,0)]
def y9.hl:SH:=shN y9.te [] [] [(2,11,0,0)]
def y9.L2 (F:Nat) (R:Type) (K:KK R) (n:Nat) (x:(ByteArray×Nat×Int×Unit)×(Unit)×(Unit)):Option R :=
 y9.l2 F (fun s of n t16=>K (.exit 0) (xa (y9.h 2) ((s,of,n,t16,()),(),()))) n x.1.1 x.1.2.1 x.1.2.2.1
def y9.X (m:Int) (F:Nat):FX TI (G m) Sg:={hn:={DS:=fun d=>lk none d [(15,some y9.ds15)],na:=2},ld:=[⟨15,y9.d15 F⟩],N:=20,H:=y9.h,HL:=y9.hl,L:=mkL y9.hl [⟨2,fun x R K=>y9.L2 F R K F x⟩]}
theorem y9.ok (m:Int) (F:Nat):OKP m 179 y9.sg (y9.sp F) :=
 okp (y9.X m F) Go.Proofs.Tryz.func179 trivial ⟨ux ⟨⟨180,by kernel_rfl,wt.ok m F⟩,⟨178,by kernel_rfl,xI.ok m F⟩,trivial⟩,trivial⟩ 1 0 (yh (FX.loopk 2 F (y9.L2 F)) zm) zm
theorem xt.ok (m:Int) (F:Nat):OK Go.Proofs.Tryz.prog (G m) 193 xt.sg (xt.sp F):=xt.ok' F Go.Proofs.Tryz.func193 (by kernel_rfl) (g:=3) (by kernel_rfl) (fun s sub w h1 h2=>Go.Proofs.Tryz.strings_Contains s sub m w h1 h2)
def wy.te:TEs:=[(0,.c .str),(2,kB)]
def wy.h:SH:=shN wy.te [] [] [(0,1,0,0),(1,2,0,0)]
def wy.X (m:Int) (F:Nat):FX TI (G m) Sg:={hn:={na:=1},lv:=[⟨179,y9.sp F⟩,⟨193,xt.sp F⟩],N:=18,H:=wy.h}
theorem wy.ok (m:Int) (F:Nat):OKP m 181 wy.sg (wy.sp F) :=
 okp (wy.X m F) Go.Proofs.Tryz.func181 ⟨y9.ok m F,xt.ok m F,trivial⟩ trivial 0 0 zm zm
def wv.te:TEs:=[(0,.c .str),(2,kB)]
def wv.h:SH:=shN wv.te [] [] [(0,1,0,0),(1,2,0,0)]
def wv.X (m:Int) (F:Nat):FX TI (G m) Sg:={hn:={na:=1},lv:=[⟨178,xI.sp F⟩,⟨179,y9.sp F⟩,⟨181,wy.sp F⟩],N:=27,H:=wv.h}
theorem wv.ok (m:Int) (F:Nat):OKP m 147 wv.sg (wv.sp F) :=
 okp (wv.X m F) Go.Proofs.Tryz.func147 ⟨xI.ok m F,y9.ok m F,wy.ok m F,trivial⟩ trivial 0 0 zm zm
def xN.te:TEs:=[(1,.p wK),kL 2,(3,kB)]
def xN.tb:TEs:=[(2,.g wK)]
def xN.h:SH:=shN xN.te xN.tb [] [(0,3,1,0),(1,4,0,0)]
def xN.X (m:Int) (F:Nat):FX TI (G m) Sg:={hn:={na:=2},N:=9,H:=xN.h}
theorem xN.ok (m:Int) (F:Nat):OKP m 148 xN.sg (xN.sp F) :=
 okp (xN.X m F) Go.Proofs.Tryz.func148 trivial trivial 0 0 zm zm
def zr.te:TEs:=[(0,.b wK),(1,.cl wK),(4,kI),(5,kI),(7,kI),(8,kI),(9,kB),(16,kB)]
def zr.h:SH:=shN zr.te [] [] [(0,3,0,0),(1,51,0,0),(2,115,0,0),(3,59,0,0),(4,187,0,0),(5,4,0,0),(6,51,0,0),(7,4,0,0)]
def zr.hl:SH:=shN zr.te [] [] [(2,51,0,0)]
def zr.L2 (F:Nat) (R:Type) (K:KK R) (n:Nat) (x:((List wK.T)×(Nat×wK.T)×Int×Int×Unit)×(Unit)×(Unit)):Option R :=
 zr.l2 F (fun r4=>K .ret (xa (zr.h 5) ((r4,()),(),()))) (fun s f t7 t8 t9=>K (.exit 0) (xa (zr.h 2) ((s,f,t7,t8,t9,()),(),()))) n x.1.1 x.1.2.1 x.1.2.2.1 x.1.2.2.2.1
def zr.X (m:Int) (F:Nat):FX TI (G m) Sg:={hn:={DS:=fun d=>lk none d [(16,some zr.ds16)],na:=2},ld:=[⟨16,zr.d16 F⟩],N:=19,H:=zr.h,HL:=zr.hl,L:=mkL zr.hl [⟨2,fun x R K=>zr.L2 F R K F x⟩]}
theorem zr.ok (m:Int) (F:Nat):OKP m 182 zr.sg (zr.sp F) :=
 okp (zr.X m F) Go.Proofs.Tryz.func182 trivial ⟨ux ⟨⟨148,by kernel_rfl,xN.ok m F⟩,trivial⟩,trivial⟩ 1 0 (yh (FX.loopk 2 F (zr.L2 F)) zm) zm
def yf.te:TEs:=[(0,.b wK),(1,.cl wK),(4,kB)]
def yf.h:SH:=shN yf.te [] [] [(0,3,0,0),(1,4,0,0)]
def yf.X (m:Int) (F:Nat):FX TI (G m) Sg:={hn:={na:=2},lv:=[⟨182,zr.sp F⟩],N:=9,H:=yf.h}
theorem yf.ok (m:Int) (F:Nat):OKP m 149 yf.sg (yf.sp F) :=
 okp (yf.X m F) Go.Proofs.Tryz.func149 ⟨zr.ok m F,trivial⟩ trivial 0 0 zm zm
def yS.te:TEs:=[kL 1,(2,kI),(3,kI),kL 4,(4,.p wK),(5,.cl wK),(9,kB),(19,kB),(21,.c (.sl wK)),(22,kI),(23,kI),(24,kB),(40,kB),(48,kB),(57,kB)]
def yS.tb:TEs:=[(1,.g xZ),(4,.g wK)]
def yS.h:SH:=shN yS.te yS.tb [] [(0,1,1,0),(1,65,1,0),(2,2,0,0),(3,129,1,0),(4,2,0,0),(5,1793,1,0),(6,3841,1,0),(7,1805,3,0),(8,1845,1,0),(9,5905,1,0),(10,2,0,0),(11,9985,1,0),(12,2,0,0),(13,1793,1,0),(14,16384,0,0),(15,2,0,0),(16,2,0,0)]
def yS.hl:SH:=shN yS.te yS.tb [] [(6,1793,1,0)]
def yS.L6 (F:Nat) (R:Type) (K:KK R) (n:Nat) (x:(Unit×(List wK.T)×Int×Int×Unit)×(xZ.T×Unit)×(Unit)):Option R :=
 yS.l6 F (fun r2=>K .ret (xa (yS.h 10) ((r2,()),(),()))) (fun r2=>K .ret (xa (yS.h 12) ((r2,()),(),()))) (fun t21 t22 t23 t24 p=>K (.exit 0) (xa (yS.h 6) (((),t21,t22,t23,t24,()),(p,()),()))) n x.1.2.1 x.1.2.2.1 x.1.2.2.2.1 x.2.1.1
def yS.X (m:Int) (F:Nat):FX TI (G m) Sg:={hn:={CT:=fun d=>lk .unit d [(28,wK)],na:=1},lv:=[⟨147,wv.sp F⟩,⟨149,yf.sp F⟩],N:=58,H:=yS.h,HL:=yS.hl,L:=mkL yS.hl [⟨6,fun x R K=>yS.L6 F R K F x⟩]}
theorem yS.ok (m:Int) (F:Nat):OKP m 103 yS.sg (yS.sp F) :=
 okp (yS.X m F) Go.Proofs.Tryz.func103 ⟨wv.ok m F,yf.ok m F,trivial⟩ trivial 1 0 (yh (FX.loopk 6 F (yS.L6 F)) zm) zm
def xz.te:TEs:=[kL 1,(2,kI),(3,kI),(10,kB)]
def xz.tb:TEs:=[(1,.g zT)]
def xz.h:SH:=shN xz.te xz.tb [] [(0,1,1,0),(1,5,1,0),(2,13,1,0),(3,2,0,0),(4,2,0,0)]
def xz.X (m:Int) (F:Nat):FX TI (G m) Sg:={hn:={na:=1},N:=14,H:=xz.h}
theorem xz.ok (m:Int) (F:Nat):OKP m 66 xz.sg (xz.sp F) :=
 okp (xz.X m F) Go.Proofs.Tryz.func66 trivial trivial 0 0 zm zm
def yj.te:TEs:=[(0,.b xH),(2,kB),(3,kI),kL 4,(19,kB),(20,.b xH),(21,kI),(22,kI),(23,kB),(54,kB)]
def yj.tb:TEs:=[(4,.g xH)]
def yj.h:SH:=shN yj.te yj.tb [] [(0,1,0,0),(1,17,0,0),(2,2,0,0),(3,225,0,0),(4,481,0,0),(5,237,1,0),(6,737,0,0),(7,2,0,0),(8,225,0,0),(9,2,0,0)]
def yj.hl:SH:=shN yj.te yj.tb [] [(4,225,0,0)]
def yj.L4 (F:Nat) (R:Type) (K:KK R) (n:Nat) (x:((List xH.T)×(List xH.T)×Int×Int×Unit)×(Unit)×(Unit)):Option R :=
 yj.l4 F (fun r2=>K .ret (xa (yj.h 7) ((r2,()),(),()))) (fun tiers t20 t21 t22 t23=>K (.exit 0) (xa (yj.h 4) ((tiers,t20,t21,t22,t23,()),(),()))) n x.1.1 x.1.2.1 x.1.2.2.1 x.1.2.2.2.1
def yj.X (m:Int) (F:Nat):FX TI (G m) Sg:={hn:={na:=1},N:=56,H:=yj.h,HL:=yj.hl,L:=mkL yj.hl [⟨4,fun x R K=>yj.L4 F R K F x⟩]}
theorem yj.ok (m:Int) (F:Nat):OKP m 150 yj.sg (yj.sp F) :=
 okp (yj.X m F) Go.Proofs.Tryz.func150 trivial trivial 1 0 (yh (FX.loopk 4 F (yj.L4 F)) zm) zm
def yo.te:TEs:=[(1,kI),(2,kI),kL 3,(6,kI),kL 7,(8,kI),(9,kB),(10,kB),(18,kB),(26,kB),(34,kB),(47,kB),(89,kB),(97,kB)]
def yo.tb:TEs:=[(3,.g zT),(7,.g wn)]
def yo.h:SH:=shN yo.te yo.tb [] [(0,7,1,0),(1,263,1,0),(2,8,0,0),(3,23,3,0),(4,55,3,0),(5,567,3,0),(6,54,3,0),(7,118,3,0),(8,1142,3,0),(9,118,3,0),(10,246,3,0),(11,2294,3,0),(12,246,3,0),(13,4116,3,0),(14,8,0,0),(15,8192,0,0),(16,8,0,0),(17,8,0,0)]
def yo.hj:Nat->Option Shape:=shO yo.te yo.tb [] [(7,54,3,0),(10,118,3,0),(13,246,3,0)]
def yo.J13 (F:Nat) (x:(Int×Unit×Unit×Int×Bool×Bool×Unit)×(zT.T×wn.T×Unit)×(Unit)) (R:Type) (K:KK R):Option R :=
 yo.j13 F (fun r6=>K .ret (xa (yo.h 14) ((r6,()),(),()))) (fun r6=>K .ret (xa (yo.h 16) ((r6,()),(),()))) (fun r6=>K .ret (xa (yo.h 17) ((r6,()),(),()))) x.1.1 x.1.2.2.2.1 x.1.2.2.2.2.1 x.1.2.2.2.2.2.1 x.2.1.1 x.2.1.2.1
def yo.J10 (F:Nat) (x:(Int×Unit×Unit×Int×Bool×Unit)×(zT.T×wn.T×Unit)×(Unit)) (R:Type) (K:KK R):Option R :=
 yo.j10 F (fun r6=>K .ret (xa (yo.h 14) ((r6,()),(),()))) (fun r6=>K .ret (xa (yo.h 16) ((r6,()),(),()))) (fun r6=>K .ret (xa (yo.h 17) ((r6,()),(),()))) x.1.1 x.1.2.2.2.1 x.1.2.2.2.2.1 x.2.1.1 x.2.1.2.1
def yo.J7 (F:Nat) (x:(Int×Unit×Unit×Int×Unit)×(zT.T×wn.T×Unit)×(Unit)) (R:Type) (K:KK R):Option R :=
 yo.j7 F (fun r6=>K .ret (xa (yo.h 14) ((r6,()),(),()))) (fun r6=>K .ret (xa (yo.h 16) ((r6,()),(),()))) (fun r6=>K .ret (xa (yo.h 17) ((r6,()),(),()))) x.1.1 x.1.2.2.2.1 x.2.1.1 x.2.1.2.1
def yo.X (m:Int) (F:Nat):FX TI (G m) Sg:={hn:={na:=3},lv:=[⟨66,xz.sp F⟩,⟨150,yj.sp F⟩],N:=98,H:=yo.h,HJ:=yo.hj,J:=mkJ yo.hj [⟨13,yo.J13 F⟩,⟨10,yo.J10 F⟩,⟨7,yo.J7 F⟩]}
theorem yo.ok (m:Int) (F:Nat):OKP m 104 yo.sg (yo.sp F) :=
 okp (yo.X m F) Go.Proofs.Tryz.func104 ⟨xz.ok m F,yj.ok m F,trivial⟩ trivial 0 3 zm (yh (FX.cutk 13) (yh (FX.cutk 10) (yh (FX.cutk 7) zm)))
def yl.te:TEs:=[kL 1,(2,kI),(3,kI),(4,kI),(5,kI),(6,kI),kL 7,(8,kI),(12,kB),(17,kB),(19,.c (.sl zT)),(20,kI),(21,kI),(22,kB),(33,kB),(43,kB)]
def yl.tb:TEs:=[(1,.g xZ),(7,.g zT)]
def yl.h:SH:=shN yl.te yl.tb [] [(0,1,1,0),(1,9,1,0),(2,265,1,0),(3,6,0,0),(4,513,1,0),(5,6,0,0),(6,17,1,0),(7,7185,1,0),(8,15377,1,0),(9,7281,3,0),(10,7409,3,0),(11,23793,3,0),(12,6,0,0),(13,7185,1,0),(14,7185,1,0),(15,32769,1,0),(16,6,0,0),(17,6,0,0)]
def yl.hl:SH:=shN yl.te yl.tb [] [(8,7185,1,0)]
def yl.L8 (F:Nat) (R:Type) (K:KK R) (n:Nat) (x:(Unit×Int×(List zT.T)×Int×Int×Unit)×(xZ.T×Unit)×(Unit)):Option R :=
 yl.l8 F (fun r2 r3=>K .ret (xa (yl.h 12) ((r2,r3,()),(),()))) (fun pile t19 t20 t21 t22 p=>K (.exit 0) (xa (yl.h 8) (((),pile,t19,t20,t21,t22,()),(p,()),()))) n x.1.2.1 x.1.2.2.1 x.1.2.2.2.1 x.1.2.2.2.2.1 x.2.1.1
def yl.X (m:Int) (F:Nat):FX TI (G m) Sg:={hn:={na:=1},lv:=[⟨103,yS.sp F⟩,⟨104,yo.sp F⟩,⟨66,xz.sp F⟩],N:=47,H:=yl.h,HL:=yl.hl,L:=mkL yl.hl [⟨8,fun x R K=>yl.L8 F R K F x⟩]}
theorem yl.ok (m:Int) (F:Nat):OKP m 63 yl.sg (yl.sp F) :=
 okp (yl.X m F) Go.Proofs.Tryz.func63 ⟨yS.ok m F,yo.ok m F,xz.ok m F,trivial⟩ trivial 1 0 (yh (FX.loopk 8 F (yl.L8 F)) zm) zm
def zP.te:TEs:=[kL 1,(2,.c (.sl (.int .i64))),(3,.c (.sl (.int .i64))),(3,.ow 3),(4,.ow 4),(5,kI),kL 6,(7,kI),(8,kI),(10,.c (.sl zT)),(11,kI),(12,kI),(13,kB),(21,kB)]
def zP.tb:TEs:=[(1,.g xZ),(6,.g zT)]
def zP.tp:List uf:=[⟨3,.env 3,(.int .i64)⟩,⟨4,.env 4,(.int .i64)⟩]
def zP.h:SH:=shN zP.te zP.tb zP.tp [(0,1,1,0),(1,25,1,3),(2,3608,0,3),(3,7704,0,3),(4,3704,2,3),(5,3800,2,3),(6,3992,0,3),(7,12184,0,3),(8,3992,0,3),(9,3736,0,3),(10,3736,0,3),(11,3608,0,3),(12,3608,0,3),(13,2,0,0)]
def zP.hl:SH:=shN zP.te zP.tb zP.tp [(3,3608,0,3)]
def zP.hj:Nat->Option Shape:=shO zP.te zP.tb zP.tp [(13,4,0,0)]
def zP.L3 (F:Nat) (R:Type) (K:KK R) (n:Nat) (x:(Unit×Unit×(List zT.T)×Int×Int×Unit)×(Unit)×((List Int)×(List Int)×Unit)):Option R :=
 zP.l3 F (fun t10 t11 t12 t13 list pile=>K (.exit 0) (xa (zP.h 3) (((),(),t10,t11,t12,t13,()),(),(list,pile,())))) n x.1.2.2.1 x.1.2.2.2.1 x.1.2.2.2.2.1 x.2.2.1 x.2.2.2.1
def zP.J13 (F:Nat) (x:((List Int)×Unit)×(Unit)×(Unit)) (R:Type) (K:KK R):Option R :=
 zP.j13 F (fun r2=>K .ret (xa (zP.h 13) ((r2,()),(),()))) x.1.1
def zP.X (m:Int) (F:Nat):FX TI (G m) Sg:={hn:={MU:=fun s=>lk false s [(38,true),(42,true)],na:=1,fzJ:=fun r=>lk [] r [(13,[3])]},lv:=[⟨66,xz.sp F⟩],N:=45,H:=zP.h,HL:=zP.hl,HJ:=zP.hj,L:=mkL zP.hl [⟨3,fun x R K=>zP.L3 F R K F x⟩],J:=mkJ zP.hj [⟨13,zP.J13 F⟩]}
theorem zP.ok (m:Int) (F:Nat):OKP m 151 zP.sg (zP.sp F) :=
 okp (zP.X m F) Go.Proofs.Tryz.func151 ⟨xz.ok m F,trivial⟩ trivial 1 1 (yh (FX.loopk 3 F (zP.L3 F)) zm) (yh (FX.cutk 13) zm)
def xS.te:TEs:=[kL 1,(2,.c (.sl (.int .i64))),(3,kI),(5,kI),(12,kB)]
def xS.tb:TEs:=[(1,.g xZ)]
def xS.h:SH:=shN xS.te xS.tb [] [(0,1,1,0),(1,9,1,0),(2,25,1,0),(3,6,0,0),(4,6,0,0)]
def xS.X (m:Int) (F:Nat):FX TI (G m) Sg:={hn:={na:=1},lv:=[⟨63,yl.sp F⟩,⟨151,zP.sp F⟩],N:=16,H:=xS.h}
theorem xS.ok (m:Int) (F:Nat):OKP m 105 xS.sg (xS.sp F) :=
 okp (xS.X m F) Go.Proofs.Tryz.func105 ⟨yl.ok m F,zP.ok m F,trivial⟩ trivial 0 0 zm zm
def zG.te:TEs:=[kL 1,(2,.c (.sl .bool)),(3,kI),(4,.c (.sl (.int .i64))),(5,kI),(6,kI),(7,.c (.sl .bool)),(7,.ow 7),(8,kI),kL 9,(16,kB),(22,.c (.sl zT)),(23,kI),(24,kI),(25,kB),(36,kB)]
def zG.tb:TEs:=[(1,.g xZ),(9,.g zT)]
def zG.tp:List uf:=[⟨7,.env 7,.bool⟩]
def zG.h:SH:=shN zG.te zG.tb zG.tp [(0,1,1,0),(1,25,1,0),(2,1049,1,0),(3,6,0,0),(4,41,1,0),(5,169,1,1),(6,14504,0,1),(7,30888,0,1),(8,15272,2,1),(9,47528,0,1),(10,14760,0,1),(11,14504,0,1),(12,14504,0,1),(13,6,0,0)]
def zG.hl:SH:=shN zG.te zG.tb zG.tp [(7,14504,0,1)]
def zG.hj:Nat->Option Shape:=shO zG.te zG.tb zG.tp [(13,64,0,0)]
def zG.L7 (F:Nat) (R:Type) (K:KK R) (n:Nat) (x:((List Int)×Int×Unit×(List zT.T)×Int×Int×Unit)×(Unit)×((List Bool)×Unit)):Option R :=
 zG.l7 F (fun list last t22 t23 t24 t25 out=>K (.exit 0) (xa (zG.h 7) ((list,last,(),t22,t23,t24,t25,()),(),(out,())))) n x.1.1 x.1.2.1 x.1.2.2.2.1 x.1.2.2.2.2.1 x.1.2.2.2.2.2.1 x.2.2.1
def zG.J13 (F:Nat) (x:((List Bool)×Unit)×(Unit)×(Unit)) (R:Type) (K:KK R):Option R :=
 zG.j13 F (fun r2 r3=>K .ret (xa (zG.h 13) ((r2,r3,()),(),()))) x.1.1
def zG.X (m:Int) (F:Nat):FX TI (G m) Sg:={hn:={MU:=fun s=>lk false s [(20,true)],na:=1,fzJ:=fun r=>lk [] r [(13,[7])]},lv:=[⟨105,xS.sp F⟩],N:=49,H:=zG.h,HL:=zG.hl,HJ:=zG.hj,L:=mkL zG.hl [⟨7,fun x R K=>zG.L7 F R K F x⟩],J:=mkJ zG.hj [⟨13,zG.J13 F⟩]}
theorem zG.ok (m:Int) (F:Nat):OKP m 64 zG.sg (zG.sp F) :=
 okp (zG.X m F) Go.Proofs.Tryz.func64 ⟨xS.ok m F,trivial⟩ trivial 1 1 (yh (FX.loopk 7 F (zG.L7 F)) zm) (yh (FX.cutk 13) zm)
def x9.te:TEs:=[(0,kI),(2,.c .fn),(3,kI),(4,.c (.sl (.pair .fn (.int .i64))))]
def x9.h:SH:=shN x9.te [] [] [(0,1,0,0),(1,9,0,0),(2,6,0,0)]
def x9.X (m:Int) (F:Nat):FX TI (G m) Sg:={hn:={na:=1},N:=32,H:=x9.h}
theorem x9.ok (m:Int) (F:Nat):OKP m 65 x9.sg (x9.sp F) :=
 okp (x9.X m F) Go.Proofs.Tryz.func65 trivial trivial 0 0 zm zm
def zM.te:TEs:=[(1,kI),kL 2,(4,kI),(6,kI),(10,.b (.int .i64)),(11,kI),(12,kI),(13,kB),(22,kB)]
def zM.tb:TEs:=[(2,.g yJ)]
def zM.h:SH:=shN zM.te zM.tb [] [(0,3,1,0),(1,115,1,0),(2,243,1,0),(3,123,1,0),(4,371,1,0),(5,4,0,0),(6,115,1,0),(7,4,0,0)]
def zM.hl:SH:=shN zM.te zM.tb [] [(2,115,1,0)]
def zM.L2 (F:Nat) (R:Type) (K:KK R) (n:Nat) (x:(Int×Unit×(List Int)×Int×Int×Unit)×(yJ.T×Unit)×(Unit)):Option R :=
 zM.l2 F (fun r4=>K .ret (xa (zM.h 5) ((r4,()),(),()))) (fun from_ t10 t11 t12 t13 n=>K (.exit 0) (xa (zM.h 2) ((from_,(),t10,t11,t12,t13,()),(n,()),()))) n x.1.1 x.1.2.2.1 x.1.2.2.2.1 x.1.2.2.2.2.1 x.2.1.1
def zM.X (m:Int) (F:Nat):FX TI (G m) Sg:={hn:={na:=2},N:=29,H:=zM.h,HL:=zM.hl,L:=mkL zM.hl [⟨2,fun x R K=>zM.L2 F R K F x⟩]}
theorem zM.ok (m:Int) (F:Nat):OKP m 152 zM.sg (zM.sp F) :=
 okp (zM.X m F) Go.Proofs.Tryz.func152 trivial trivial 1 0 (yh (FX.loopk 2 F (zM.L2 F)) zm) zm
def xf.te:TEs:=[kL 1,(2,kI)]
def xf.tb:TEs:=[(1,.g yJ)]
def xf.h:SH:=shN xf.te xf.tb [] [(0,1,1,0),(1,2,0,0)]
def xf.X (m:Int) (F:Nat):FX TI (G m) Sg:={hn:={na:=1},lv:=[⟨152,zM.sp F⟩],N:=5,H:=xf.h}
theorem xf.ok (m:Int) (F:Nat):OKP m 110 xf.sg (xf.sp F) :=
 okp (xf.X m F) Go.Proofs.Tryz.func110 ⟨zM.ok m F,trivial⟩ trivial 0 0 zm zm
def yR.te:TEs:=[kL 1,(2,kI)]
def yR.tb:TEs:=[(1,.g yJ)]
def yR.h:SH:=shN yR.te yR.tb [] [(0,1,1,0),(1,2,0,0)]
def yR.X (m:Int) (F:Nat):FX TI (G m) Sg:={hn:={na:=1},N:=8,H:=yR.h}
theorem yR.ok (m:Int) (F:Nat):OKP m 109 yR.sg (yR.sp F) :=
 okp (yR.X m F) Go.Proofs.Tryz.func109 trivial trivial 0 0 zm zm
def xu.te:TEs:=[(0,kI),(2,kB)]
def xu.h:SH:=shN xu.te [] [] [(0,1,0,0),(1,2,0,0)]
def xu.X (m:Int) (F:Nat):FX TI (G m) Sg:={hn:={na:=1},N:=5,H:=xu.h}
theorem xu.ok (m:Int) (F:Nat):OKP m 153 xu.sg (xu.sp F) :=
 okp (xu.X m F) Go.Proofs.Tryz.func153 trivial trivial 0 0 zm zm
def yF.te:TEs:=[kL 1,(2,kI),(7,kB)]
def yF.tb:TEs:=[(1,.g yJ)]
def yF.h:SH:=shN yF.te yF.tb [] [(0,1,1,0),(1,5,1,0),(2,2,0,0),(3,2,0,0)]
def yF.X (m:Int) (F:Nat):FX TI (G m) Sg:={hn:={na:=1},lv:=[⟨153,xu.sp F⟩],N:=12,H:=yF.h}
theorem yF.ok (m:Int) (F:Nat):OKP m 112 yF.sg (yF.sp F) :=
 okp (yF.X m F) Go.Proofs.Tryz.func112 ⟨xu.ok m F,trivial⟩ trivial 0 0 zm zm
def xw.te:TEs:=[(2,kI)]
def xw.h:SH:=shN xw.te [] [] [(1,1,0,0)]
def xw.X (m:Int) (F:Nat):FX TI (G m) Sg:={hn:={na:=1},N:=3,H:=xw.h}
theorem xw.ok (m:Int) (F:Nat):OKP m 107 xw.sg (xw.sp F) :=
 okp (xw.X m F) Go.Proofs.Tryz.func107 trivial trivial 0 0 zm zm
def xn.te:TEs:=[(2,kI)]
def xn.h:SH:=shN xn.te [] [] [(1,1,0,0)]
def xn.X (m:Int) (F:Nat):FX TI (G m) Sg:={hn:={na:=1},N:=3,H:=xn.h}
theorem xn.ok (m:Int) (F:Nat):OKP m 106 xn.sg (xn.sp F) :=
 okp (xn.X m F) Go.Proofs.Tryz.func106 trivial trivial 0 0 zm zm
def xA.te:TEs:=[kL 1,(2,kI),(7,kB)]
def xA.tb:TEs:=[(1,.g yJ)]
def xA.h:SH:=shN xA.te xA.tb [] [(0,1,1,0),(1,4,0,0),(2,2,0,0),(3,2,0,0)]
def xA.X (m:Int) (F:Nat):FX TI (G m) Sg:={hn:={na:=1},N:=8,H:=xA.h}
theorem xA.ok (m:Int) (F:Nat):OKP m 114 xA.sg (xA.sp F) :=
 okp (xA.X m F) Go.Proofs.Tryz.func114 trivial trivial 0 0 zm zm
def yQ.te:TEs:=[kL 1,(2,kI),(7,kB)]
def yQ.tb:TEs:=[(1,.g yJ)]
def yQ.h:SH:=shN yQ.te yQ.tb [] [(0,1,1,0),(1,4,0,0),(2,2,0,0),(3,2,0,0)]
def yQ.X (m:Int) (F:Nat):FX TI (G m) Sg:={hn:={na:=1},lv:=[⟨153,xu.sp F⟩],N:=8,H:=yQ.h}
theorem yQ.ok (m:Int) (F:Nat):OKP m 113 yQ.sg (yQ.sp F) :=
 okp (yQ.X m F) Go.Proofs.Tryz.func113 ⟨xu.ok m F,trivial⟩ trivial 0 0 zm zm
def yE.te:TEs:=[kL 1,(2,kI),(3,kI),(4,kI),(13,kB),(17,kB),(21,kB)]
def yE.tb:TEs:=[(1,.g yJ)]
def yE.h:SH:=shN yE.te yE.tb [] [(0,1,1,0),(1,12,0,0),(2,28,0,0),(3,2,0,0),(4,44,0,0),(5,2,0,0),(6,76,0,0),(7,64,0,0),(8,2,0,0),(9,2,0,0)]
def yE.X (m:Int) (F:Nat):FX TI (G m) Sg:={hn:={na:=1},lv:=[⟨153,xu.sp F⟩],N:=34,H:=yE.h}
theorem yE.ok (m:Int) (F:Nat):OKP m 111 yE.sg (yE.sp F) :=
 okp (yE.X m F) Go.Proofs.Tryz.func111 ⟨xu.ok m F,trivial⟩ trivial 0 0 zm zm
def yy.te:TEs:=[kL 1,(2,kI)]
def yy.tb:TEs:=[(1,.g yJ)]
def yy.h:SH:=shN yy.te yy.tb [] [(0,1,1,0),(1,2,0,0)]
def yy.X (m:Int) (F:Nat):FX TI (G m) Sg:={hn:={na:=1},N:=8,H:=yy.h}
theorem yy.ok (m:Int) (F:Nat):OKP m 108 yy.sg (yy.sp F) :=
 okp (yy.X m F) Go.Proofs.Tryz.func108 trivial trivial 0 0 zm zm
def xv.te:TEs:=[kL 1,(2,kI),(7,kB)]
def xv.tb:TEs:=[(1,.g yJ)]
def xv.h:SH:=shN xv.te xv.tb [] [(0,1,1,0),(1,5,1,0),(2,2,0,0),(3,2,0,0)]
def xv.X (m:Int) (F:Nat):FX TI (G m) Sg:={hn:={na:=1},lv:=[⟨153,xu.sp F⟩,⟨152,zM.sp F⟩],N:=10,H:=xv.h}
theorem xv.ok (m:Int) (F:Nat):OKP m 115 xv.sg (xv.sp F) :=
 okp (xv.X m F) Go.Proofs.Tryz.func115 ⟨xu.ok m F,zM.ok m F,trivial⟩ trivial 0 0 zm zm
def zC.te:TEs:=[kL 1,(2,.c (.sl (.int .i64))),(3,kI),(4,kI),(5,kI),(6,kI),(7,.c (.sl .bool)),(9,.c (.sl (.int .i64))),(9,.ow 9),(10,.c (.sl (.int .i64))),(10,.ow 10),(11,.ow 11),(12,kI),kL 13,(14,.c .fn),(15,kI),(16,kI),(17,kI),(24,kB),(33,.c (.sl zT)),(34,kI),(35,kI),(36,kB),(47,kB),(65,kB),(84,kB),(109,kB)]
def zC.tb:TEs:=[(1,.g xZ),(13,.g zT)]
def zC.tp:List uf:=[⟨9,.env 9,(.int .i64)⟩,⟨10,.env 10,(.int .i64)⟩,⟨11,.env 11,.bool⟩]
def zC.h:SH:=shN zC.te zC.tb zC.tp [(0,1,1,0),(1,49,1,0),(2,262193,1,0),(3,14,0,0),(4,65,1,0),(5,1345,1,3),(6,3393,1,7),(7,3673408,0,7),(8,7867712,0,7),(9,3685696,2,7),(10,3734848,2,7),(11,12123456,2,7),(12,3734848,2,7),(13,3767616,2,7),(14,3882304,2,7),(15,20659520,2,7),(16,14,0,0),(17,37428544,0,7),(18,14,0,0),(19,3874112,0,7),(20,3743040,0,7),(21,3673408,0,7),(22,3673408,0,7),(23,67108992,0,0),(24,14,0,0),(25,14,0,0)]
def zC.hl:SH:=shN zC.te zC.tb zC.tp [(8,3673408,0,7)]
def zC.hj:Nat->Option Shape:=shO zC.te zC.tb zC.tp [(23,640,0,0)]
def zC.L8 (F:Nat) (R:Type) (K:KK R) (n:Nat) (x:((List Bool)×Unit×Unit×Unit×(List zT.T)×Int×Int×Unit)×(Unit)×((List Int)×(List Int)×(List Bool)×Unit)):Option R :=
 zC.l8 F (fun r2 r3 r4=>K .ret (xa (zC.h 16) ((r2,r3,r4,()),(),()))) (fun r2 r3 r4=>K .ret (xa (zC.h 18) ((r2,r3,r4,()),(),()))) (fun fixed t33 t34 t35 t36 types pile fix=>K (.exit 0) (xa (zC.h 8) ((fixed,(),(),(),t33,t34,t35,t36,()),(),(types,pile,fix,())))) n x.1.1 x.1.2.2.2.2.1 x.1.2.2.2.2.2.1 x.1.2.2.2.2.2.2.1 x.2.2.1 x.2.2.2.1 x.2.2.2.2.1
def zC.J23 (F:Nat) (x:((List Int)×(List Int)×Unit)×(Unit)×(Unit)) (R:Type) (K:KK R):Option R :=
 zC.j23 F (fun r2 r3 r4=>K .ret (xa (zC.h 24) ((r2,r3,r4,()),(),()))) (fun r2 r3 r4=>K .ret (xa (zC.h 25) ((r2,r3,r4,()),(),()))) x.1.1 x.1.2.1
def zC.X (m:Int) (F:Nat):FX TI (G m) Sg:={hn:={MU:=fun s=>lk false s [(89,true),(95,true),(104,true)],DS:=fun d=>lk none d [(63,some zC.ds63)],na:=1,fzJ:=fun r=>lk [] r [(23,[9,10])]},lv:=[⟨63,yl.sp F⟩,⟨64,zG.sp F⟩,⟨65,x9.sp F⟩],ld:=[⟨63,zC.d63 F⟩],N:=114,H:=zC.h,HL:=zC.hl,HJ:=zC.hj,L:=mkL zC.hl [⟨8,fun x R K=>zC.L8 F R K F x⟩],J:=mkJ zC.hj [⟨23,zC.J23 F⟩]}
theorem zC.ok (m:Int) (F:Nat):OKP m 35 zC.sg (zC.sp F) :=
 okp (zC.X m F) Go.Proofs.Tryz.func35 ⟨yl.ok m F,zG.ok m F,x9.ok m F,trivial⟩ ⟨ux ⟨⟨110,by kernel_rfl,xf.ok m F⟩,⟨109,by kernel_rfl,yR.ok m F⟩,⟨112,by kernel_rfl,yF.ok m F⟩,⟨107,by kernel_rfl,xw.ok m F⟩,⟨106,by kernel_rfl,xn.ok m F⟩,⟨114,by kernel_rfl,xA.ok m F⟩,⟨113,by kernel_rfl,yQ.ok m F⟩,⟨111,by kernel_rfl,yE.ok m F⟩,⟨108,by kernel_rfl,yy.ok m F⟩,⟨115,by kernel_rfl,xv.ok m F⟩,trivial⟩,trivial⟩ 1 1 (yh (FX.loopk 8 F (zC.L8 F)) zm) (yh (FX.cutk 23) zm)
def zX.te:TEs:=[(0,.b (.int .i64)),(2,kI),(3,kI),(4,kI),(7,kB),(15,kB)]
def zX.h:SH:=shN zX.te [] [] [(0,1,0,0),(1,17,0,0),(3,5,0,0),(4,13,0,0),(5,45,0,0),(6,13,0,0),(7,13,0,0),(8,2,0,0)]
def zX.hl:SH:=shN zX.te [] [] [(5,13,0,0)]
def zX.L5 (F:Nat) (R:Type) (K:KK R) (n:Nat) (x:((List Int)×Int×Int×Unit)×(Unit)×(Unit)):Option R :=
 zX.l5 F (fun x m i t15=>K (.exit 0) (xa (zX.h 5) ((x,m,i,t15,()),(),()))) n x.1.1 x.1.2.1 x.1.2.2.1
def zX.X (m:Int) (F:Nat):FX TI (G m) Sg:={hn:={na:=1},N:=25,H:=zX.h,HL:=zX.hl,L:=mkL zX.hl [⟨5,fun x R K=>zX.L5 F R K F x⟩]}
theorem zX.ok (m:Int) (F:Nat):OKP m 67 zX.sg (zX.sp F) :=
 okp (zX.X m F) Go.Proofs.Tryz.func67 trivial trivial 1 0 (yh (FX.loopk 5 F (zX.L5 F)) zm) zm
def zV.te:TEs:=[kL 1,(2,kI),(3,kI),(5,kI),(6,.c (.sl (.int .i64))),(6,.ow 6),kL 8,(9,kI),(10,kI),(17,kB),(20,.c (.sl zT)),(21,kI),(22,kI),(23,kB),(29,kB),(45,kB)]
def zV.tb:TEs:=[(1,.g xZ),(8,.g zT)]
def zV.tp:List uf:=[⟨6,.env 6,(.int .i64)⟩]
def zV.h:SH:=shN zV.te zV.tb zV.tp [(0,1,1,0),(1,9,1,0),(2,521,1,0),(3,6,0,0),(4,33,1,1),(5,7200,0,1),(6,15392,0,1),(7,7264,2,1),(8,7392,2,1),(9,7648,2,1),(10,24032,2,1),(11,7648,2,1),(12,7392,2,1),(13,40096,0,1),(14,7328,0,1),(15,7200,0,1),(16,7200,0,1),(17,6,0,0)]
def zV.hl:SH:=shN zV.te zV.tb zV.tp [(6,7200,0,1)]
def zV.hj:Nat->Option Shape:=shO zV.te zV.tb zV.tp [(17,16,0,0)]
def zV.L6 (F:Nat) (R:Type) (K:KK R) (n:Nat) (x:(Unit×(List zT.T)×Int×Int×Unit)×(Unit)×((List Int)×Unit)):Option R :=
 zV.l6 F (fun t20 t21 t22 t23 pile=>K (.exit 0) (xa (zV.h 6) (((),t20,t21,t22,t23,()),(),(pile,())))) n x.1.2.1 x.1.2.2.1 x.1.2.2.2.1 x.2.2.1
def zV.J17 (F:Nat) (x:((List Int)×Unit)×(Unit)×(Unit)) (R:Type) (K:KK R):Option R :=
 zV.j17 F (fun r2 r3=>K .ret (xa (zV.h 17) ((r2,r3,()),(),()))) x.1.1
def zV.X (m:Int) (F:Nat):FX TI (G m) Sg:={hn:={MU:=fun s=>lk false s [(51,true)],na:=1,fzJ:=fun r=>lk [] r [(17,[6])]},lv:=[⟨63,yl.sp F⟩,⟨66,xz.sp F⟩,⟨67,zX.sp F⟩],N:=56,H:=zV.h,HL:=zV.hl,HJ:=zV.hj,L:=mkL zV.hl [⟨6,fun x R K=>zV.L6 F R K F x⟩],J:=mkJ zV.hj [⟨17,zV.J17 F⟩]}
theorem zV.ok (m:Int) (F:Nat):OKP m 36 zV.sg (zV.sp F) :=
 okp (zV.X m F) Go.Proofs.Tryz.func36 ⟨yl.ok m F,xz.ok m F,zX.ok m F,trivial⟩ trivial 1 1 (yh (FX.loopk 6 F (zV.L6 F)) zm) (yh (FX.cutk 17) zm)
def z8.te:TEs:=[(0,kI),kL 2]
def z8.tb:TEs:=[(2,.g zg)]
def z8.h:SH:=shN z8.te z8.tb [] [(0,3,1,0),(1,2,1,0)]
def z8.X (m:Int) (F:Nat):FX TI (G m) Sg:={hn:={na:=1},N:=8,H:=z8.h}
theorem z8.ok (m:Int) (F:Nat):OKP m 33 z8.sg (z8.sp F) :=
 okp (z8.X m F) Go.Proofs.Tryz.func33 trivial trivial 0 0 zm zm
theorem zW.ok (m:Int) (F:Nat):OK Go.Proofs.Tryz.prog (G m) 102 zW.sg (zW.sp F):=zW.ok' F Go.Proofs.Tryz.func102 (by kernel_rfl) (by kernel_rfl) (by kernel_rfl)
def xR.te:TEs:=[kL 1,(2,.c (.int .u64)),(3,.c (.int .u64)),(4,.c (.int .u64)),(5,.c (.int .u64)),(6,.c (.int .u64)),(10,kB)]
def xR.tb:TEs:=[(1,.g zg)]
def xR.h:SH:=shN xR.te xR.tb [] [(0,1,1,0),(1,65,1,0),(2,6,0,0),(3,25,1,0),(4,40,0,0),(5,6,0,0)]
def xR.X (m:Int) (F:Nat):FX TI (G m) Sg:={hn:={na:=1},lv:=[⟨102,zW.sp F⟩],N:=32,H:=xR.h}
theorem xR.ok (m:Int) (F:Nat):OKP m 59 xR.sg (xR.sp F) :=
 okp (xR.X m F) Go.Proofs.Tryz.func59 ⟨zW.ok m F,trivial⟩ trivial 0 0 zm zm
def y4.te:TEs:=[(0,.c (.int .u64)),(1,.c (.int .u64)),(4,.c (.int .u64)),(5,.c (.int .u64)),(6,.c (.int .u64)),(7,.c (.int .u64)),(8,.c (.int .u64)),(9,.c (.int .u64)),(10,.c (.int .u64)),(11,.c (.int .u64)),(12,.c (.int .u64)),(13,.c (.int .u64))]
def y4.h:SH:=shN y4.te [] [] [(0,3,0,0),(1,19,0,0),(2,51,0,0),(3,115,0,0),(4,243,0,0),(5,499,0,0),(6,691,0,0),(7,1715,0,0),(8,3251,0,0),(9,3235,0,0),(10,7,0,0),(11,12,0,0)]
def y4.X (m:Int) (F:Nat):FX TI (G m) Sg:={hn:={na:=2},N:=51,H:=y4.h}
theorem y4.ok (m:Int) (F:Nat):OKP m 60 y4.sg (y4.sp F) :=
 okp (y4.X m F) Go.Proofs.Tryz.func60 trivial trivial 0 0 zm zm
def we.te:TEs:=[(0,kB),(1,.c (.int .u64)),(2,.c (.int .u64)),(6,.c (.int .u64)),(7,kB)]
def we.h:SH:=shN we.te [] [] [(0,7,0,0),(1,22,0,0),(2,8,0,0),(3,8,0,0)]
def we.X (m:Int) (F:Nat):FX TI (G m) Sg:={hn:={na:=3},N:=10,H:=we.h}
theorem we.ok (m:Int) (F:Nat):OKP m 61 we.sg (we.sp F) :=
 okp (we.X m F) Go.Proofs.Tryz.func61 trivial trivial 0 0 zm zm
theorem yq.ok (m:Int) (F:Nat):OK Go.Proofs.Tryz.prog (G m) 50 yq.sg (yq.sp F):=yq.ok' F Go.Proofs.Tryz.func50 (by kernel_rfl) (by kernel_rfl) (by kernel_rfl)
def xW.te:TEs:=[kL 2,kL 3,kL 4,(5,kI),(6,.c (.int .u64)),(7,.c (.int .u64)),(8,.c (.int .u64)),kL 10,(49,kB)]
def xW.tb:TEs:=[(2,.g zg),(3,.g zg),(4,.g zg),(10,.g zg)]
def xW.h:SH:=shN xW.te xW.tb [] [(0,7,7,0),(1,55,7,0),(2,87,7,0),(3,135,15,0),(4,388,12,0),(5,12,4,0),(6,12,4,0)]
def xW.X (m:Int) (F:Nat):FX TI (G m) Sg:={hn:={na:=2},lv:=[⟨102,zW.sp F⟩],N:=52,H:=xW.h}
theorem xW.ok (m:Int) (F:Nat):OKP m 95 xW.sg (xW.sp F) :=
 okp (xW.X m F) Go.Proofs.Tryz.func95 ⟨zW.ok m F,trivial⟩ trivial 0 0 zm zm
def x8.te:TEs:=[kL 1,kL 2,(3,kI)]
def x8.tb:TEs:=[(1,.g zg),(2,.g zg)]
def x8.h:SH:=shN x8.te x8.tb [] [(0,3,3,0),(1,6,2,0)]
def x8.X (m:Int) (F:Nat):FX TI (G m) Sg:={hn:={na:=1},lv:=[⟨95,xW.sp F⟩],N:=9,H:=x8.h}
theorem x8.ok (m:Int) (F:Nat):OKP m 49 x8.sg (x8.sp F) :=
 okp (x8.X m F) Go.Proofs.Tryz.func49 ⟨xW.ok m F,trivial⟩ trivial 0 0 zm zm
def xU.te:TEs:=[(0,kB),(1,.c (.int .u64)),(2,.c (.int .u64)),kL 6,(7,kI),kL 8,(11,kB),(16,kB),(30,kB)]
def xU.tb:TEs:=[(6,.g zg),(8,.g zg)]
def xU.h:SH:=shN xU.te xU.tb [] [(0,15,1,0),(1,79,1,0),(2,41,3,0),(3,168,3,0),(4,24,1,0),(5,24,1,0),(6,264,1,0),(7,24,1,0),(8,24,1,0)]
def xU.X (m:Int) (F:Nat):FX TI (G m) Sg:={hn:={na:=3},lv:=[⟨49,x8.sp F⟩],N:=33,H:=xU.h}
theorem xU.ok (m:Int) (F:Nat):OKP m 62 xU.sg (xU.sp F) :=
 okp (xU.X m F) Go.Proofs.Tryz.func62 ⟨x8.ok m F,trivial⟩ trivial 0 0 zm zm
def zY.te:TEs:=[kL 2,kL 3,kL 4,(5,kI),(6,.c (.int .u64)),(7,.c (.int .u64)),(8,.c (.int .u64)),(9,.c (.int .u64)),(10,.c (.int .u64)),(11,.c (.int .u64)),(12,.c (.int .u64)),(13,.c (.int .u64)),(14,.c (.int .u64)),(30,kB),(61,kB)]
def zY.tb:TEs:=[(2,.g zg),(3,.g zg),(4,.g zg)]
def zY.h:SH:=shN zY.te zY.tb [] [(0,7,7,0),(1,55,7,0),(2,247,7,0),(3,8439,7,0),(4,12,4,0),(5,1015,7,0),(6,3847,7,0),(7,5895,7,0),(8,17159,7,0),(9,12,4,0),(10,12,4,0)]
def zY.hj:Nat->Option Shape:=shO zY.te zY.tb [] [(5,247,7,0)]
def zY.J5 (F:Nat) (x:(Unit×Unit×Unit×Int×Int×Int×Int×Unit)×(zg.T×zg.T×zg.T×Unit)×(Unit)) (R:Type) (K:KK R):Option R :=
 zY.j5 F (fun r5 r4=>K .ret (xa (zY.h 9) (((),r5,()),(r4,()),()))) (fun r5 r4=>K .ret (xa (zY.h 10) (((),r5,()),(r4,()),()))) x.1.2.2.2.1 x.1.2.2.2.2.1 x.1.2.2.2.2.2.1 x.1.2.2.2.2.2.2.1 x.2.1.1 x.2.1.2.1 x.2.1.2.2.1
def zY.X (m:Int) (F:Nat):FX TI (G m) Sg:={hn:={na:=2},lv:=[⟨59,xR.sp F⟩,⟨60,y4.sp F⟩,⟨61,we.sp F⟩,⟨50,yq.sp F⟩,⟨62,xU.sp F⟩],N:=75,H:=zY.h,HJ:=zY.hj,J:=mkJ zY.hj [⟨5,zY.J5 F⟩]}
theorem zY.ok (m:Int) (F:Nat):OKP m 32 zY.sg (zY.sp F) :=
 okp (zY.X m F) Go.Proofs.Tryz.func32 ⟨xR.ok m F,y4.ok m F,we.ok m F,yq.ok m F,xU.ok m F,trivial⟩ trivial 0 1 zm (yh (FX.cutk 5) zm)
def yt.te:TEs:=[(0,kI),kL 2,(3,kI),kL 4,(6,kB),(9,kB),(12,kI),(13,kI),(14,kB)]
def yt.tb:TEs:=[(2,.g zg),(4,.g zg)]
def yt.h:SH:=shN yt.te yt.tb [] [(0,3,1,0),(1,19,1,0),(2,6,1,0),(3,35,1,0),(4,6,1,0),(5,11,3,0),(6,202,3,0),(7,458,3,0),(8,202,3,0),(9,202,3,0),(10,6,1,0)]
def yt.hl:SH:=shN yt.te yt.tb [] [(7,202,3,0)]
def yt.L7 (F:Nat) (R:Type) (K:KK R) (n:Nat) (x:(Unit×Unit×Int×Int×Unit)×(zg.T×zg.T×Unit)×(Unit)):Option R :=
 yt.l7 F (fun t12 t13 t14 r2 p=>K (.exit 0) (xa (yt.h 7) (((),(),t12,t13,t14,()),(r2,p,()),()))) n x.1.2.2.1 x.1.2.2.2.1 x.2.1.1 x.2.1.2.1
def yt.X (m:Int) (F:Nat):FX TI (G m) Sg:={hn:={na:=1},lv:=[⟨33,z8.sp F⟩,⟨32,zY.sp F⟩],N:=23,H:=yt.h,HL:=yt.hl,L:=mkL yt.hl [⟨7,fun x R K=>yt.L7 F R K F x⟩]}
theorem yt.ok (m:Int) (F:Nat):OKP m 37 yt.sg (yt.sp F) :=
 okp (yt.X m F) Go.Proofs.Tryz.func37 ⟨z8.ok m F,zY.ok m F,trivial⟩ trivial 1 0 (yh (FX.loopk 7 F (yt.L7 F)) zm) zm
def zZ.te:TEs:=[kL 1,(2,kI),(4,kI),(5,kB),(10,kB),(14,kB),(19,kB)]
def zZ.tb:TEs:=[(1,.g zT)]
def zZ.h:SH:=shN zZ.te zZ.tb [] [(0,1,1,0),(1,5,1,0),(2,13,1,0),(3,13,1,0),(4,13,1,0),(5,13,1,0),(6,2,0,0),(7,21,1,0),(8,21,1,0),(9,21,1,0),(10,2,0,0),(11,37,1,0),(12,37,1,0),(13,2,0,0),(14,64,0,0),(15,2,0,0),(16,2,0,0)]
def zZ.hj:Nat->Option Shape:=shO zZ.te zZ.tb [] [(6,13,1,0),(10,21,1,0)]
def zZ.J10 (F:Nat) (x:(Unit×Int×Bool×Unit)×(zT.T×Unit)×(Unit)) (R:Type) (K:KK R):Option R :=
 zZ.j10 F (fun r2=>K .ret (xa (zZ.h 10) ((r2,()),(),()))) (fun r2=>K .ret (xa (zZ.h 13) ((r2,()),(),()))) (fun r2=>K .ret (xa (zZ.h 15) ((r2,()),(),()))) (fun t19=>K .normal (xa (zZ.h 14) ((t19,()),(),()))) x.1.2.1 x.1.2.2.1 x.2.1.1
def zZ.J6 (F:Nat) (x:(Unit×Int×Bool×Unit)×(zT.T×Unit)×(Unit)) (R:Type) (K:KK R):Option R :=
 zZ.j6 F (fun r2=>K .ret (xa (zZ.h 6) ((r2,()),(),()))) (fun r2=>K .ret (xa (zZ.h 10) ((r2,()),(),()))) (fun r2=>K .ret (xa (zZ.h 13) ((r2,()),(),()))) (fun r2=>K .ret (xa (zZ.h 15) ((r2,()),(),()))) (fun t19=>K .normal (xa (zZ.h 14) ((t19,()),(),()))) x.1.2.1 x.1.2.2.1 x.2.1.1
def zZ.X (m:Int) (F:Nat):FX TI (G m) Sg:={hn:={na:=1},N:=21,H:=zZ.h,HJ:=zZ.hj,J:=mkJ zZ.hj [⟨10,zZ.J10 F⟩,⟨6,zZ.J6 F⟩]}
theorem zZ.ok (m:Int) (F:Nat):OKP m 68 zZ.sg (zZ.sp F) :=
 okp (zZ.X m F) Go.Proofs.Tryz.func68 trivial trivial 0 2 zm (yh (FX.cutk 10) (yh (FX.cutk 6) zm))
def yi.te:TEs:=[kL 0,(2,kI),kL 4,kL 6]
def yi.tb:TEs:=[(0,.g xq),(4,.g zg),(6,.g zg)]
def yi.h:SH:=shN yi.te yi.tb [] [(0,15,7,0),(1,12,7,0),(2,8,5,0)]
def yi.X (m:Int) (F:Nat):FX TI (G m) Sg:={hn:={na:=3},N:=19,H:=yi.h}
theorem yi.ok (m:Int) (F:Nat):OKP m 117 yi.sg (yi.sp F) :=
 okp (yi.X m F) Go.Proofs.Tryz.func117 trivial trivial 0 0 zm zm
def yr.te:TEs:=[kL 0,kL 4,kL 5,kL 6]
def yr.tb:TEs:=[(0,.g xq),(4,.g zg),(5,.g zg),(6,.g zg)]
def yr.h:SH:=shN yr.te yr.tb [] [(0,15,15,0),(1,8,9,0)]
def yr.X (m:Int) (F:Nat):FX TI (G m) Sg:={hn:={na:=3},lv:=[⟨32,zY.sp F⟩,⟨117,yi.sp F⟩],N:=14,H:=yr.h}
theorem yr.ok (m:Int) (F:Nat):OKP m 116 yr.sg (yr.sp F) :=
 okp (yr.X m F) Go.Proofs.Tryz.func116 ⟨zY.ok m F,yi.ok m F,trivial⟩ trivial 0 0 zm zm
def zU.te:TEs:=[(0,.c (.int .u64)),(2,kI),(4,kB),(8,kB),(14,kB)]
def zU.h:SH:=shN zU.te [] [] [(0,3,0,0),(1,7,0,0),(2,1,0,0),(3,3,0,0),(4,11,0,0),(5,3,0,0),(6,3,0,0),(7,19,0,0),(8,3,0,0),(9,3,0,0),(10,2,0,0)]
def zU.hj:Nat->Option Shape:=shO zU.te [] [] [(4,3,0,0),(7,3,0,0)]
def zU.J7 (F:Nat) (x:(Int×Int×Unit)×(Unit)×(Unit)) (R:Type) (K:KK R):Option R :=
 zU.j7 F (fun n=>K .ret (xa (zU.h 10) ((n,()),(),()))) x.1.1 x.1.2.1
def zU.J4 (F:Nat) (x:(Int×Int×Unit)×(Unit)×(Unit)) (R:Type) (K:KK R):Option R :=
 zU.j4 F (fun n=>K .ret (xa (zU.h 10) ((n,()),(),()))) x.1.1 x.1.2.1
def zU.X (m:Int) (F:Nat):FX TI (G m) Sg:={hn:={na:=1},N:=25,H:=zU.h,HJ:=zU.hj,J:=mkJ zU.hj [⟨7,zU.J7 F⟩,⟨4,zU.J4 F⟩]}
theorem zU.ok (m:Int) (F:Nat):OKP m 176 zU.sg (zU.sp F) :=
 okp (zU.X m F) Go.Proofs.Tryz.func176 trivial trivial 0 2 zm (yh (FX.cutk 7) (yh (FX.cutk 4) zm))
def ya.te:TEs:=[(0,.c (.int .u64)),(2,kI)]
def ya.h:SH:=shN ya.te [] [] [(0,1,0,0),(1,2,0,0)]
def ya.X (m:Int) (F:Nat):FX TI (G m) Sg:={hn:={na:=1},lv:=[⟨176,zU.sp F⟩],N:=6,H:=ya.h}
theorem ya.ok (m:Int) (F:Nat):OKP m 198 ya.sg (ya.sp F) :=
 okp (ya.X m F) Go.Proofs.Tryz.func198 ⟨zU.ok m F,trivial⟩ trivial 0 0 zm zm
def zp.te:TEs:=[(0,.c (.int .u64)),(1,.c (.int .u64)),(2,.c (.int .u64)),(6,.c (.int .u64)),(7,.c (.int .u64)),(8,.c (.int .u64)),(9,.c (.int .u64)),(10,.c (.int .u64)),(11,.c (.int .u64)),(12,.c (.int .u64)),(13,.c (.int .u64)),(14,.c (.int .u64)),(15,.c (.int .u64)),(16,.c (.int .u64)),(17,.c (.int .u64)),(18,.c (.int .u64)),(20,kB),(24,kB),(27,kB),(78,kB),(85,kB),(113,kB),(120,kB)]
def zp.h:SH:=shN zp.te [] [] [(0,7,0,0),(1,65543,0,0),(3,131079,0,0),(5,262151,0,0),(6,24,0,0),(7,39,0,0),(8,39,0,0),(9,103,0,0),(10,231,0,0),(11,486,0,0),(12,996,0,0),(13,2020,0,0),(14,3556,0,0),(15,7652,0,0),(16,15844,0,0),(17,540132,0,0),(18,15844,0,0),(19,15844,0,0),(20,1064420,0,0),(21,22756,0,0),(22,55524,0,0),(23,63716,0,0),(24,2160868,0,0),(25,63716,0,0),(26,63716,0,0),(27,4258020,0,0),(28,24,0,0)]
def zp.hl:SH:=shN zp.te [] [] [(17,15844,0,0),(24,63716,0,0)]
def zp.hj:Nat->Option Shape:=shO zp.te [] [] [(21,7652,0,0),(28,55332,0,0)]
def zp.L17 (F:Nat) (R:Type) (K:KK R) (n:Nat) (x:(Int×Int×Int×Int×Int×Int×Int×Int×Int×Unit)×(Unit)×(Unit)):Option R :=
 zp.l17 F (fun y s yn1 yn0 un32 un1 un0 q1 rhat t85=>K (.exit 0) (xa (zp.h 20) ((y,s,yn1,yn0,un32,un1,un0,q1,rhat,t85,()),(),()))) (fun y s yn1 yn0 un32 un1 un0 q1 rhat t78=>K (.exit 0) (xa (zp.h 17) ((y,s,yn1,yn0,un32,un1,un0,q1,rhat,t78,()),(),()))) n x.1.1 x.1.2.1 x.1.2.2.1 x.1.2.2.2.1 x.1.2.2.2.2.1 x.1.2.2.2.2.2.1 x.1.2.2.2.2.2.2.1 x.1.2.2.2.2.2.2.2.1 x.1.2.2.2.2.2.2.2.2.1
def zp.L24 (F:Nat) (R:Type) (K:KK R) (n:Nat) (x:(Int×Int×Int×Int×Int×Int×Int×Int×Int×Unit)×(Unit)×(Unit)):Option R :=
 zp.l24 F (fun y s yn1 yn0 un0 q1 rhat un21 q0 t120=>K (.exit 2) (xa (zp.h 27) ((y,s,yn1,yn0,un0,q1,rhat,un21,q0,t120,()),(),()))) (fun y s yn1 yn0 un0 q1 rhat un21 q0 t113=>K (.exit 2) (xa (zp.h 24) ((y,s,yn1,yn0,un0,q1,rhat,un21,q0,t113,()),(),()))) n x.1.1 x.1.2.1 x.1.2.2.1 x.1.2.2.2.1 x.1.2.2.2.2.1 x.1.2.2.2.2.2.1 x.1.2.2.2.2.2.2.1 x.1.2.2.2.2.2.2.2.1 x.1.2.2.2.2.2.2.2.2.1
def zp.J28 (F:Nat) (x:(Int×Int×Int×Int×Int×Int×Unit)×(Unit)×(Unit)) (R:Type) (K:KK R):Option R :=
 zp.j28 F (fun quo rem=>K .ret (xa (zp.h 28) ((quo,rem,()),(),()))) x.1.1 x.1.2.1 x.1.2.2.1 x.1.2.2.2.1 x.1.2.2.2.2.1 x.1.2.2.2.2.2.1
def zp.J21 (F:Nat) (x:(Int×Int×Int×Int×Int×Int×Int×Int×Unit)×(Unit)×(Unit)) (R:Type) (K:KK R):Option R :=
 zp.j21 F (fun quo rem=>K .ret (xa (zp.h 28) ((quo,rem,()),(),()))) x.1.1 x.1.2.1 x.1.2.2.1 x.1.2.2.2.1 x.1.2.2.2.2.1 x.1.2.2.2.2.2.1 x.1.2.2.2.2.2.2.1 x.1.2.2.2.2.2.2.2.1
def zp.X (m:Int) (F:Nat):FX TI (G m) Sg:={hn:={na:=3},lv:=[⟨198,ya.sp F⟩],N:=135,H:=zp.h,HL:=zp.hl,HJ:=zp.hj,L:=mkL zp.hl [⟨17,fun x R K=>zp.L17 F R K F x⟩,⟨24,fun x R K=>zp.L24 F R K F x⟩],J:=mkJ zp.hj [⟨28,zp.J28 F⟩,⟨21,zp.J21 F⟩]}
theorem zp.ok (m:Int) (F:Nat):OKP m 194 zp.sg (zp.sp F) :=
 okp (zp.X m F) Go.Proofs.Tryz.func194 ⟨ya.ok m F,trivial⟩ trivial 2 2 (yh (FX.loopk 24 F (zp.L24 F)) (yh (FX.loopk 17 F (zp.L17 F)) zm)) (yh (FX.cutk 28) (yh (FX.cutk 21) zm))
def ym.te:TEs:=[(0,.c (.int .u64)),(1,.c (.int .u64)),(2,.c (.int .u64)),(3,.c (.int .u64)),(8,.c (.int .u64)),(9,.c (.int .u64)),(10,.c (.int .u64)),(11,.c (.int .u64)),(12,kI),(13,.c (.int .u64)),(15,kB),(34,kB),(61,kB)]
def ym.h:SH:=shN ym.te [] [] [(0,47,0,0),(1,1071,0,0),(2,154,0,0),(3,176,0,0),(4,240,0,0),(5,238,0,0),(6,494,0,0),(7,2542,0,0),(8,494,0,0),(9,494,0,0),(10,494,0,0),(11,4590,0,0),(12,494,0,0),(13,1006,0,0),(14,494,0,0),(15,494,0,0),(16,240,0,0)]
def ym.hl:SH:=shN ym.te [] [] [(7,494,0,0)]
def ym.L7 (F:Nat) (R:Type) (K:KK R) (n:Nat) (x:(Int×Int×Int×Int×Int×Int×Int×Unit)×(Unit)×(Unit)):Option R :=
 ym.l7 F (fun al bh bl ql rh rl i t34=>K (.exit 0) (xa (ym.h 7) ((al,bh,bl,ql,rh,rl,i,t34,()),(),()))) n x.1.1 x.1.2.1 x.1.2.2.1 x.1.2.2.2.1 x.1.2.2.2.2.1 x.1.2.2.2.2.2.1 x.1.2.2.2.2.2.2.1
def ym.X (m:Int) (F:Nat):FX TI (G m) Sg:={hn:={na:=4},lv:=[⟨194,zp.sp F⟩,⟨102,zW.sp F⟩],N:=82,H:=ym.h,HL:=ym.hl,L:=mkL ym.hl [⟨7,fun x R K=>ym.L7 F R K F x⟩]}
theorem ym.ok (m:Int) (F:Nat):OKP m 183 ym.sg (ym.sp F) :=
 okp (ym.X m F) Go.Proofs.Tryz.func183 ⟨zp.ok m F,zW.ok m F,trivial⟩ trivial 1 0 (yh (FX.loopk 7 F (ym.L7 F)) zm) zm
def xK.te:TEs:=[kL 2,kL 3,kL 4,kL 5,(6,kI),(7,.c (.int .u64)),(8,.c (.int .u64)),(9,.c (.int .u64)),(10,.c (.int .u64)),(11,.c (.int .u64)),(12,.c (.int .u64)),(13,.c (.int .u64)),(14,.c (.int .u64)),kL 15,(16,kI),kL 17,(20,kB),(57,kB)]
def xK.tb:TEs:=[(2,.g zg),(3,.g zg),(4,.g zg),(5,.g zg),(15,.g zg),(17,.g zg)]
def xK.h:SH:=shN xK.te xK.tb [] [(0,15,15,0),(1,65551,15,0),(2,28,12,0),(3,111,15,0),(4,495,15,0),(5,7695,15,0),(6,30733,29,0),(7,161805,29,0),(8,28,12,0),(9,57356,60,0),(10,28,12,0)]
def xK.X (m:Int) (F:Nat):FX TI (G m) Sg:={hn:={na:=2},lv:=[⟨59,xR.sp F⟩,⟨183,ym.sp F⟩,⟨62,xU.sp F⟩],N:=73,H:=xK.h}
theorem xK.ok (m:Int) (F:Nat):OKP m 154 xK.sg (xK.sp F) :=
 okp (xK.X m F) Go.Proofs.Tryz.func154 ⟨xR.ok m F,ym.ok m F,xU.ok m F,trivial⟩ trivial 0 0 zm zm
def wg.te:TEs:=[(3,kI),kL 4,kL 5,kL 6,(8,kB),(9,kB),(10,.c (.int .u64)),(11,.c (.int .u64)),(12,.c (.int .u64)),(13,.c (.int .u64)),(14,.c (.int .u64)),(15,.c (.int .u64)),(16,.c (.int .u64)),(25,kI),(26,kB),(29,kB),(33,kB),(58,kB),(72,kB)]
def wg.tb:TEs:=[(4,.g zg),(5,.g zg),(6,.g zg)]
def wg.h:SH:=shN wg.te wg.tb [] [(0,15,7,0),(1,47,7,0),(2,8239,7,0),(3,24623,7,0),(4,16,0,0),(5,41007,7,0),(6,16,0,0),(7,65551,7,0),(8,16,0,0),(9,203,5,0),(10,963,1,0),(11,3523,1,0),(12,5315,1,0),(13,136387,1,0),(14,16,0,0),(15,262147,1,0),(16,16,0,0),(17,16,0,0)]
def wg.X (m:Int) (F:Nat):FX TI (G m) Sg:={hn:={na:=4},lv:=[⟨59,xR.sp F⟩,⟨102,zW.sp F⟩],N:=89,H:=wg.h}
theorem wg.ok (m:Int) (F:Nat):OKP m 155 wg.sg (wg.sp F) :=
 okp (wg.X m F) Go.Proofs.Tryz.func155 ⟨xR.ok m F,zW.ok m F,trivial⟩ trivial 0 0 zm zm
def y7.te:TEs:=[kL 2,kL 3,kL 4,(5,kI),(6,.c (.int .u64)),(7,.c (.int .u64)),(8,.c (.int .u64)),kL 10,(49,kB)]
def y7.tb:TEs:=[(2,.g zg),(3,.g zg),(4,.g zg),(10,.g zg)]
def y7.h:SH:=shN y7.te y7.tb [] [(0,7,7,0),(1,55,7,0),(2,87,7,0),(3,135,15,0),(4,388,12,0),(5,12,4,0),(6,12,4,0)]
def y7.X (m:Int) (F:Nat):FX TI (G m) Sg:={hn:={na:=2},lv:=[⟨50,yq.sp F⟩],N:=52,H:=y7.h}
theorem y7.ok (m:Int) (F:Nat):OKP m 27 y7.sg (y7.sp F) :=
 okp (y7.X m F) Go.Proofs.Tryz.func27 ⟨yq.ok m F,trivial⟩ trivial 0 0 zm zm
def xO.te:TEs:=[(2,kI),kL 3,kL 4,kL 6,(7,kI),kL 8,kL 9,(10,kI),(16,kB),(39,kB),(48,kB)]
def xO.tb:TEs:=[(3,.g zg),(4,.g zg),(6,.g zg),(8,.g zg),(9,.g zg)]
def xO.h:SH:=shN xO.te xO.tb [] [(0,15,7,0),(1,271,7,0),(2,24,4,0),(3,239,31,0),(4,686,15,0),(5,24,4,0),(6,1064,12,0),(7,24,4,0),(8,24,4,0)]
def xO.X (m:Int) (F:Nat):FX TI (G m) Sg:={hn:={na:=3},lv:=[⟨154,xK.sp F⟩,⟨155,wg.sp F⟩,⟨33,z8.sp F⟩,⟨95,xW.sp F⟩,⟨27,y7.sp F⟩],N:=59,H:=xO.h}
theorem xO.ok (m:Int) (F:Nat):OKP m 118 xO.sg (xO.sp F) :=
 okp (xO.X m F) Go.Proofs.Tryz.func118 ⟨xK.ok m F,wg.ok m F,z8.ok m F,xW.ok m F,y7.ok m F,trivial⟩ trivial 0 0 zm zm
def ww.te:TEs:=[(0,kI),(2,kI)]
def ww.h:SH:=shN ww.te [] [] [(0,1,0,0),(1,2,0,0)]
def ww.X (m:Int) (F:Nat):FX TI (G m) Sg:={hn:={na:=1},N:=7,H:=ww.h}
theorem ww.ok (m:Int) (F:Nat):OKP m 156 ww.sg (ww.sp F) :=
 okp (ww.X m F) Go.Proofs.Tryz.func156 trivial trivial 0 0 zm zm
def yu.te:TEs:=[kL 0,kL 4,kL 5,kL 6]
def yu.tb:TEs:=[(0,.g xq),(4,.g zg),(5,.g zg),(6,.g zg)]
def yu.h:SH:=shN yu.te yu.tb [] [(0,15,15,0),(1,8,9,0)]
def yu.X (m:Int) (F:Nat):FX TI (G m) Sg:={hn:={na:=3},lv:=[⟨27,y7.sp F⟩,⟨117,yi.sp F⟩],N:=14,H:=yu.h}
theorem yu.ok (m:Int) (F:Nat):OKP m 121 yu.sg (yu.sp F) :=
 okp (yu.X m F) Go.Proofs.Tryz.func121 ⟨y7.ok m F,yi.ok m F,trivial⟩ trivial 0 0 zm zm
def zF.te:TEs:=[kL 0,(2,.b xH),kL 4,kL 6,(7,kI),kL 8,(9,kI),kL 10,kL 11,(13,.b xH),(14,kI),(15,kI),(16,kB),(29,kB)]
def zF.tb:TEs:=[(0,.g xq),(4,.g zg),(6,.g zg),(8,.g zg),(10,.g xH),(11,.g zg)]
def zF.h:SH:=shN zF.te zF.tb [] [(0,15,7,0),(1,63,15,0),(2,3647,15,0),(3,7743,15,0),(4,3839,31,0),(5,3839,31,0),(6,12031,31,0),(7,3647,15,0),(8,3647,15,0),(9,313,45,0),(10,8,5,0)]
def zF.hl:SH:=shN zF.te zF.tb [] [(3,3647,15,0)]
def zF.L3 (F:Nat) (R:Type) (K:KK R) (n:Nat) (x:(Unit×(List xH.T)×Unit×Unit×Int×Unit×(List xH.T)×Int×Int×Unit)×(xq.T×zg.T×zg.T×zg.T×Unit)×(Unit)):Option R :=
 zF.l3 F (fun tiers rate t13 t14 t15 t16 m x r6 ways=>K (.exit 0) (xa (zF.h 3) (((),tiers,(),(),rate,(),t13,t14,t15,t16,()),(m,x,r6,ways,()),()))) n x.1.2.1 x.1.2.2.2.2.1 x.1.2.2.2.2.2.2.1 x.1.2.2.2.2.2.2.2.1 x.1.2.2.2.2.2.2.2.2.1 x.2.1.1 x.2.1.2.1 x.2.1.2.2.1 x.2.1.2.2.2.1
def zF.X (m:Int) (F:Nat):FX TI (G m) Sg:={hn:={na:=3,sp:=fun s=>lk 0 s [(0,2)]},lv:=[⟨156,ww.sp F⟩,⟨33,z8.sp F⟩,⟨116,yr.sp F⟩,⟨121,yu.sp F⟩],N:=75,H:=zF.h,HL:=zF.hl,L:=mkL zF.hl [⟨3,fun x R K=>zF.L3 F R K F x⟩]}
theorem zF.ok (m:Int) (F:Nat):OKP m 119 zF.sg (zF.sp F) :=
 okp (zF.X m F) Go.Proofs.Tryz.func119 ⟨ww.ok m F,z8.ok m F,yr.ok m F,yu.ok m F,trivial⟩ trivial 1 0 (yh (FX.loopk 3 F (zF.L3 F)) zm) zm
def xy.te:TEs:=[(0,.b zg),kL 2,(3,kI),(4,.c (.int .u64)),(5,.c (.int .u64)),(6,kI),kL 8,(9,.c (.int .u64)),kL 10,(11,.b zg),(12,kI),(13,kI),(14,kB),(50,kB)]
def xy.tb:TEs:=[(2,.g zg),(8,.g zg),(10,.g zg)]
def xy.h:SH:=shN xy.te xy.tb [] [(0,3,1,0),(1,27,1,0),(2,59,1,0),(3,3642,1,0),(4,7738,1,0),(5,3706,3,0),(6,3706,3,0),(7,3834,3,0),(8,3834,3,0),(9,3642,1,0),(10,3642,1,0),(11,290,5,0),(12,8450,5,0),(13,6,1,0),(14,6,1,0)]
def xy.hl:SH:=shN xy.te xy.tb [] [(4,3642,1,0)]
def xy.L4 (F:Nat) (R:Type) (K:KK R) (n:Nat) (x:(Unit×Int×Int×Int×(List zg.T)×Int×Int×Unit)×(zg.T×Unit)×(Unit)):Option R :=
 xy.l4 F (fun lo hi top t11 t12 t13 t14 r2=>K (.exit 0) (xa (xy.h 4) (((),lo,hi,top,t11,t12,t13,t14,()),(r2,()),()))) n x.1.2.1 x.1.2.2.1 x.1.2.2.2.1 x.1.2.2.2.2.1 x.1.2.2.2.2.2.1 x.1.2.2.2.2.2.2.1 x.2.1.1
def xy.X (m:Int) (F:Nat):FX TI (G m) Sg:={hn:={na:=1},lv:=[⟨50,yq.sp F⟩],N:=53,H:=xy.h,HL:=xy.hl,L:=mkL xy.hl [⟨4,fun x R K=>xy.L4 F R K F x⟩]}
theorem xy.ok (m:Int) (F:Nat):OKP m 120 xy.sg (xy.sp F) :=
 okp (xy.X m F) Go.Proofs.Tryz.func120 ⟨yq.ok m F,trivial⟩ trivial 1 0 (yh (FX.loopk 4 F (xy.L4 F)) zm) zm
def zS.te:TEs:=[kL 0,(3,.b zg),kL 5,kL 6,kL 8,kL 9,(11,kI),(12,kB),(17,kB),(28,kB),(31,kB),(47,kB),(57,kB),(67,kB),(96,kB)]
def zS.tb:TEs:=[(0,.g xq),(5,.g xZ),(6,.g zT),(8,.g zg),(9,.g zg)]
def zS.h:SH:=shN zS.te zS.tb [] [(0,31,15,0),(1,95,15,0),(2,223,15,0),(3,16,9,0),(4,351,15,0),(5,16,9,0),(6,607,15,0),(7,16,9,0),(8,1119,15,0),(9,16,9,0),(10,2139,13,0),(11,16,9,0),(12,4187,13,0),(13,4187,13,0),(14,16,9,0),(15,8219,13,0),(16,18,9,0),(17,16,9,0),(18,57,29,0),(19,16441,29,0),(20,48,25,0),(21,16,9,0)]
def zS.hj:Nat->Option Shape:=shO zS.te zS.tb [] [(18,27,13,0)]
def zS.J18 (F:Nat) (x:(Unit×(List zg.T)×Unit×Unit×Unit)×(xq.T×zT.T×zg.T×Unit)×(Unit)) (R:Type) (K:KK R):Option R :=
 zS.j18 F (fun m r8=>K .ret (xa (zS.h 21) (((),()),(m,r8,()),()))) x.1.2.1 x.2.1.1 x.2.1.2.1 x.2.1.2.2.1
def zS.X (m:Int) (F:Nat):FX TI (G m) Sg:={hn:={na:=4},lv:=[⟨33,z8.sp F⟩,⟨116,yr.sp F⟩,⟨118,xO.sp F⟩,⟨117,yi.sp F⟩,⟨119,zF.sp F⟩,⟨120,xy.sp F⟩,⟨121,yu.sp F⟩],N:=104,H:=zS.h,HJ:=zS.hj,J:=mkJ zS.hj [⟨18,zS.J18 F⟩]}
theorem zS.ok (m:Int) (F:Nat):OKP m 69 zS.sg (zS.sp F) :=
 okp (zS.X m F) Go.Proofs.Tryz.func69 ⟨z8.ok m F,yr.ok m F,xO.ok m F,yi.ok m F,zF.ok m F,xy.ok m F,yu.ok m F,trivial⟩ trivial 0 1 zm (yh (FX.cutk 18) zm)
def xF.te:TEs:=[kL 2,kL 3,(4,kI),(5,kB),(9,kB)]
def xF.tb:TEs:=[(2,.g zg),(3,.g zg)]
def xF.h:SH:=shN xF.te xF.tb [] [(0,3,3,0),(1,11,3,0),(2,4,0,0),(3,19,3,0),(4,16,0,0),(5,4,0,0),(6,4,0,0)]
def xF.X (m:Int) (F:Nat):FX TI (G m) Sg:={hn:={na:=2},N:=27,H:=xF.h}
theorem xF.ok (m:Int) (F:Nat):OKP m 8 xF.sg (xF.sp F) :=
 okp (xF.X m F) Go.Proofs.Tryz.func8 trivial trivial 0 0 zm zm
def xT.te:TEs:=[kL 2,kL 3,(4,kB),kL 5,(9,kB)]
def xT.tb:TEs:=[(2,.g zT),(3,.g zg),(5,.g zg)]
def xT.h:SH:=shN xT.te xT.tb [] [(0,3,3,0),(1,11,7,0),(2,26,6,0),(3,10,6,0),(4,4,0,0)]
def xT.X (m:Int) (F:Nat):FX TI (G m) Sg:={hn:={na:=2},lv:=[⟨33,z8.sp F⟩,⟨32,zY.sp F⟩,⟨8,xF.sp F⟩],N:=20,H:=xT.h}
theorem xT.ok (m:Int) (F:Nat):OKP m 70 xT.sg (xT.sp F) :=
 okp (xT.X m F) Go.Proofs.Tryz.func70 ⟨z8.ok m F,zY.ok m F,xF.ok m F,trivial⟩ trivial 0 0 zm zm
def zz.te:TEs:=[kL 2,kL 3,(4,.c (.sl zg)),(5,kI),(6,.c (.sl zg)),(6,.ow 6),(7,.ow 7),(8,.loc 15),(9,kI),kL 10,(11,kI),kL 12,(17,.c (.sl zT)),(18,kI),(19,kI),(20,kB),(44,kB)]
def zz.tb:TEs:=[(2,.g xZ),(3,.g zg),(10,.g zT),(12,.g zg),(15,.g xq)]
def zz.tp:List uf:=[⟨6,.env 6,zg⟩,⟨7,.env 7,zg⟩]
def zz.h:SH:=shN zz.te zz.tb zz.tp [(0,3,3,0),(1,99,3,3),(2,225,17,3),(3,28897,17,3),(4,61665,17,3),(5,29665,21,3),(6,30689,21,3),(7,32737,29,3),(8,97761,25,3),(9,12,0,0),(10,31969,25,3),(11,28897,17,3),(12,28897,17,3),(13,12,0,0)]
def zz.hl:SH:=shN zz.te zz.tb zz.tp [(4,28897,17,3)]
def zz.hj:Nat->Option Shape:=shO zz.te zz.tb zz.tp [(13,16,0,0)]
def zz.L4 (F:Nat) (R:Type) (K:KK R) (n:Nat) (x:(Unit×Unit×Unit×Unit×(List zT.T)×Int×Int×Unit)×(xZ.T×xq.T×Unit)×((List zg.T)×(List zg.T)×Unit)):Option R :=
 zz.l4 F (fun r4 r5=>K .ret (xa (zz.h 9) ((r4,r5,()),(),()))) (fun t17 t18 t19 t20 p m mags pile=>K (.exit 0) (xa (zz.h 4) (((),(),(),(),t17,t18,t19,t20,()),(p,m,()),(mags,pile,())))) n x.1.2.2.2.2.1 x.1.2.2.2.2.2.1 x.1.2.2.2.2.2.2.1 x.2.1.1 x.2.1.2.1 x.2.2.1 x.2.2.2.1
def zz.J13 (F:Nat) (x:((List zg.T)×Unit)×(Unit)×(Unit)) (R:Type) (K:KK R):Option R :=
 zz.j13 F (fun r4 r5=>K .ret (xa (zz.h 13) ((r4,r5,()),(),()))) x.1.1
def zz.X (m:Int) (F:Nat):FX TI (G m) Sg:={hn:={MU:=fun s=>lk false s [(49,true),(55,true)],na:=2,fzJ:=fun r=>lk [] r [(13,[6])]},lv:=[⟨68,zZ.sp F⟩,⟨69,zS.sp F⟩,⟨70,xT.sp F⟩],N:=58,H:=zz.h,HL:=zz.hl,HJ:=zz.hj,L:=mkL zz.hl [⟨4,fun x R K=>zz.L4 F R K F x⟩],J:=mkJ zz.hj [⟨13,zz.J13 F⟩]}
theorem zz.ok (m:Int) (F:Nat):OKP m 38 zz.sg (zz.sp F) :=
 okp (zz.X m F) Go.Proofs.Tryz.func38 ⟨zZ.ok m F,zS.ok m F,xT.ok m F,trivial⟩ trivial 1 1 (yh (FX.loopk 4 F (zz.L4 F)) zm) (yh (FX.cutk 13) zm)
def xQ.te:TEs:=[kL 1,kL 2,(3,kI),(4,kI),(6,kI),(7,kI),(8,kI),kL 10,(11,kI),(13,kI),(21,kB),(31,kB),(49,kB)]
def xQ.tb:TEs:=[(1,.g xZ),(2,.g zg),(10,.g zg)]
def xQ.h:SH:=shN xQ.te xQ.tb [] [(0,3,3,0),(1,51,3,0),(2,1075,3,0),(3,14,2,0),(4,67,3,0),(5,2115,3,0),(6,14,2,0),(7,387,7,0),(8,898,6,0),(9,4994,6,0),(10,14,2,0),(11,14,2,0)]
def xQ.X (m:Int) (F:Nat):FX TI (G m) Sg:={hn:={na:=1},lv:=[⟨35,zC.sp F⟩,⟨36,zV.sp F⟩,⟨37,yt.sp F⟩,⟨38,zz.sp F⟩],N:=54,H:=xQ.h}
theorem xQ.ok (m:Int) (F:Nat):OKP m 21 xQ.sg (xQ.sp F) :=
 okp (xQ.X m F) Go.Proofs.Tryz.func21 ⟨zC.ok m F,zV.ok m F,yt.ok m F,zz.ok m F,trivial⟩ trivial 0 0 zm zm
def yK.te:TEs:=[kL 1,(2,.c (.sl zj)),kL 3,(7,kI),(8,kB),(15,kB),(28,kB),(32,kB)]
def yK.tb:TEs:=[(1,.g za),(3,.g zo)]
def yK.h:SH:=shN yK.te yK.tb [] [(0,1,1,0),(1,5,3,0),(2,13,3,0),(3,29,3,0),(4,4,2,0),(5,45,3,0),(6,4,2,0),(7,76,2,0),(8,4,2,0),(9,132,2,0),(10,4,2,0),(11,2,0,0)]
def yK.X (m:Int) (F:Nat):FX TI (G m) Sg:={hn:={na:=1},lv:=[⟨33,z8.sp F⟩,⟨32,zY.sp F⟩],N:=39,H:=yK.h}
theorem yK.ok (m:Int) (F:Nat):OKP m 39 yK.sg (yK.sp F) :=
 okp (yK.X m F) Go.Proofs.Tryz.func39 ⟨z8.ok m F,zY.ok m F,trivial⟩ trivial 0 0 zm zm
def yn.te:TEs:=[kL 1,(2,.c (.bnd za)),(3,kI),(4,.c (.sl (.pair (.bnd za) (.int .i64))))]
def yn.tb:TEs:=[(1,.g za)]
def yn.h:SH:=shN yn.te yn.tb [] [(0,1,1,0),(1,9,1,0),(2,6,0,0)]
def yn.X (m:Int) (F:Nat):FX TI (G m) Sg:={hn:={CT:=fun d=>lk .unit d [(6,za),(9,za),(12,za),(15,za),(18,za),(24,za),(30,za),(33,za),(36,za),(39,za),(42,za),(45,za)],na:=1},N:=62,H:=yn.h}
theorem yn.ok (m:Int) (F:Nat):OKP m 40 yn.sg (yn.sp F) :=
 okp (yn.X m F) Go.Proofs.Tryz.func40 trivial trivial 0 0 zm zm
def xV.te:TEs:=[(3,kI),(4,kI),(5,kI),kL 6,kL 7,kL 8,kL 12,(13,kI),(23,kB)]
def xV.tb:TEs:=[(6,.g zg),(7,.g zg),(8,.g zg),(12,.g zo)]
def xV.h:SH:=shN xV.te xV.tb [] [(0,127,15,0),(1,376,15,0),(2,192,8,0),(3,192,8,0)]
def xV.X (m:Int) (F:Nat):FX TI (G m) Sg:={hn:={na:=6},N:=29,H:=xV.h}
theorem xV.ok (m:Int) (F:Nat):OKP m 184 xV.sg (xV.sp F) :=
 okp (xV.X m F) Go.Proofs.Tryz.func184 trivial trivial 0 0 zm zm
def wC.te:TEs:=[kL 2,kL 3,kL 4,(5,kI),kL 6,(7,kI),kL 8,(9,kI),kL 10,(11,kI)]
def wC.tb:TEs:=[(2,.g zo),(3,.g zo),(4,.g zo),(6,.g zg),(8,.g zg),(10,.g zg)]
def wC.h:SH:=shN wC.te wC.tb [] [(0,7,7,0),(1,55,15,0),(2,247,31,0),(3,1012,60,0),(4,12,4,0)]
def wC.X (m:Int) (F:Nat):FX TI (G m) Sg:={hn:={na:=2},lv:=[⟨27,y7.sp F⟩,⟨184,xV.sp F⟩],N:=45,H:=wC.h}
theorem wC.ok (m:Int) (F:Nat):OKP m 158 wC.sg (wC.sp F) :=
 okp (wC.X m F) Go.Proofs.Tryz.func158 ⟨y7.ok m F,xV.ok m F,trivial⟩ trivial 0 0 zm zm
def xP.te:TEs:=[kL 2,kL 3,kL 4,kL 5]
def xP.tb:TEs:=[(2,.g zo),(3,.g zo),(4,.g zo),(5,.g zo)]
def xP.h:SH:=shN xP.te xP.tb [] [(0,7,7,0),(1,12,12,0),(2,4,4,0)]
def xP.X (m:Int) (F:Nat):FX TI (G m) Sg:={hn:={na:=2},lv:=[⟨158,wC.sp F⟩],N:=14,H:=xP.h}
theorem xP.ok (m:Int) (F:Nat):OKP m 123 xP.sg (xP.sp F) :=
 okp (xP.X m F) Go.Proofs.Tryz.func123 ⟨wC.ok m F,trivial⟩ trivial 0 0 zm zm
def xj.te:TEs:=[(1,.b zo),kL 6,(7,.c (.sl zo))]
def xj.tb:TEs:=[(6,.g zo)]
def xj.h:SH:=shN xj.te xj.tb [] [(0,3,1,0),(1,6,1,0)]
def xj.X (m:Int) (F:Nat):FX TI (G m) Sg:={hn:={na:=3},lv:=[⟨123,xP.sp F⟩],N:=15,H:=xj.h}
theorem xj.ok (m:Int) (F:Nat):OKP m 72 xj.sg (xj.sp F) :=
 okp (xj.X m F) Go.Proofs.Tryz.func72 ⟨xP.ok m F,trivial⟩ trivial 0 0 zm zm
def z6.te:TEs:=[kL 1,kL 2]
def z6.tb:TEs:=[(1,.g zg),(2,.g zo)]
def z6.h:SH:=shN z6.te z6.tb [] [(0,3,3,0),(1,2,2,0)]
def z6.X (m:Int) (F:Nat):FX TI (G m) Sg:={hn:={na:=1},N:=5,H:=z6.h}
theorem z6.ok (m:Int) (F:Nat):OKP m 124 z6.sg (z6.sp F) :=
 okp (z6.X m F) Go.Proofs.Tryz.func124 trivial trivial 0 0 zm zm
def wB.te:TEs:=[kL 2,kL 3,kL 4,(5,kI),kL 6,(7,kI),kL 8,(9,kI),kL 10,(11,kI)]
def wB.tb:TEs:=[(2,.g zo),(3,.g zo),(4,.g zo),(6,.g zg),(8,.g zg),(10,.g zg)]
def wB.h:SH:=shN wB.te wB.tb [] [(0,7,7,0),(1,55,15,0),(2,247,31,0),(3,1012,60,0),(4,12,4,0)]
def wB.X (m:Int) (F:Nat):FX TI (G m) Sg:={hn:={na:=2},lv:=[⟨95,xW.sp F⟩,⟨184,xV.sp F⟩],N:=45,H:=wB.h}
theorem wB.ok (m:Int) (F:Nat):OKP m 157 wB.sg (wB.sp F) :=
 okp (wB.X m F) Go.Proofs.Tryz.func157 ⟨xW.ok m F,xV.ok m F,trivial⟩ trivial 0 0 zm zm
def yO.te:TEs:=[kL 2,kL 3,kL 4,kL 5]
def yO.tb:TEs:=[(2,.g zo),(3,.g zo),(4,.g zo),(5,.g zo)]
def yO.h:SH:=shN yO.te yO.tb [] [(0,7,7,0),(1,12,12,0),(2,4,4,0)]
def yO.X (m:Int) (F:Nat):FX TI (G m) Sg:={hn:={na:=2},lv:=[⟨157,wB.sp F⟩],N:=14,H:=yO.h}
theorem yO.ok (m:Int) (F:Nat):OKP m 122 yO.sg (yO.sp F) :=
 okp (yO.X m F) Go.Proofs.Tryz.func122 ⟨wB.ok m F,trivial⟩ trivial 0 0 zm zm
def z7.te:TEs:=[(0,kI),(1,.p zo),(2,.p za),kL 4]
def z7.tb:TEs:=[(4,.g zo)]
def z7.h:SH:=shN z7.te z7.tb [] [(0,15,1,0),(1,8,1,0)]
def z7.X (m:Int) (F:Nat):FX TI (G m) Sg:={hn:={na:=3},lv:=[⟨33,z8.sp F⟩,⟨124,z6.sp F⟩,⟨122,yO.sp F⟩],N:=16,H:=z7.h}
theorem z7.ok (m:Int) (F:Nat):OKP m 160 z7.sg (z7.sp F) :=
 okp (z7.X m F) Go.Proofs.Tryz.func160 ⟨z8.ok m F,z6.ok m F,yO.ok m F,trivial⟩ trivial 0 0 zm zm
def wj.te:TEs:=[(0,kI),(1,kI),(4,kB)]
def wj.h:SH:=shN wj.te [] [] [(0,3,0,0),(1,4,0,0)]
def wj.X (m:Int) (F:Nat):FX TI (G m) Sg:={hn:={na:=2},N:=19,H:=wj.h}
theorem wj.ok (m:Int) (F:Nat):OKP m 25 wj.sg (wj.sp F) :=
 okp (wj.X m F) Go.Proofs.Tryz.func25 trivial trivial 0 0 zm zm
def xD.te:TEs:=[(0,kI),(1,kI),(4,kI)]
def xD.h:SH:=shN xD.te [] [] [(0,3,0,0),(1,4,0,0)]
def xD.X (m:Int) (F:Nat):FX TI (G m) Sg:={hn:={na:=2},N:=13,H:=xD.h}
theorem xD.ok (m:Int) (F:Nat):OKP m 34 xD.sg (xD.sp F) :=
 okp (xD.X m F) Go.Proofs.Tryz.func34 trivial trivial 0 0 zm zm
def yP.te:TEs:=[(1,kI),(2,kI),kL 3,kL 6,(7,kI),kL 8,(9,kI),kL 10,kL 11,(15,kB),(26,kB),(40,kB),(51,kB)]
def yP.tb:TEs:=[(3,.g zo),(6,.g zg),(8,.g zg),(10,.g zg),(11,.g zg)]
def yP.h:SH:=shN yP.te yP.tb [] [(0,15,3,0),(1,527,3,0),(2,24,2,0),(3,111,7,0),(4,1135,7,0),(5,24,2,0),(6,236,15,0),(7,2284,15,0),(8,24,2,0),(9,456,26,0),(10,4552,26,0),(11,24,2,0),(12,24,2,0)]
def yP.X (m:Int) (F:Nat):FX TI (G m) Sg:={hn:={na:=3},lv:=[⟨25,wj.sp F⟩,⟨33,z8.sp F⟩,⟨32,zY.sp F⟩,⟨34,xD.sp F⟩,⟨27,y7.sp F⟩],N:=59,H:=yP.h}
theorem yP.ok (m:Int) (F:Nat):OKP m 20 yP.sg (yP.sp F) :=
 okp (yP.X m F) Go.Proofs.Tryz.func20 ⟨wj.ok m F,z8.ok m F,zY.ok m F,xD.ok m F,y7.ok m F,trivial⟩ trivial 0 0 zm zm
def xp.te:TEs:=[kL 1,(2,kI),(3,kB),(7,kB)]
def xp.tb:TEs:=[(1,.g zg)]
def xp.h:SH:=shN xp.te xp.tb [] [(0,1,1,0),(1,5,1,0),(2,2,0,0),(3,8,0,0),(4,2,0,0),(5,2,0,0)]
def xp.X (m:Int) (F:Nat):FX TI (G m) Sg:={hn:={na:=1},N:=11,H:=xp.h}
theorem xp.ok (m:Int) (F:Nat):OKP m 28 xp.sg (xp.sp F) :=
 okp (xp.X m F) Go.Proofs.Tryz.func28 trivial trivial 0 0 zm zm
def zK.te:TEs:=[(2,kI),kL 3,kL 4,(6,kB),kL 7]
def zK.tb:TEs:=[(3,.g za),(4,.g zo),(7,.g zg)]
def zK.h:SH:=shN zK.te zK.tb [] [(0,7,3,0),(1,16,4,0),(2,8,0,0)]
def zK.X (m:Int) (F:Nat):FX TI (G m) Sg:={hn:={na:=3},lv:=[⟨20,yP.sp F⟩,⟨28,xp.sp F⟩],N:=20,H:=zK.h}
theorem zK.ok (m:Int) (F:Nat):OKP m 126 zK.sg (zK.sp F) :=
 okp (zK.X m F) Go.Proofs.Tryz.func126 ⟨yP.ok m F,xp.ok m F,trivial⟩ trivial 0 0 zm zm
def zh.te:TEs:=[(2,kI),kL 3,(3,.p za),kL 4,(6,kI),(7,.c (.sl zo)),(8,.cl2 zo za),(9,kI),(10,.c (.sl zo)),(10,.ow 10),(25,kB),(29,kB),(42,kB)]
def zh.tb:TEs:=[(3,.g za),(4,.g zo)]
def zh.tp:List uf:=[⟨10,.env 10,zo⟩]
def zh.h:SH:=shN zh.te zh.tb zh.tp [(0,11,3,0),(1,69,0,0),(2,197,0,0),(3,1221,0,0),(4,197,0,0),(5,708,0,1),(6,2756,0,1),(7,708,0,1),(8,4800,0,1),(9,384,0,0),(10,48,0,0)]
def zh.hl:SH:=shN zh.te zh.tb zh.tp [(3,197,0,0)]
def zh.hj:Nat->Option Shape:=shO zh.te zh.tb zh.tp [(8,708,0,1),(10,384,0,0)]
def zh.L3 (F:Nat) (R:Type) (K:KK R) (n:Nat) (x:(Int×za.T×(Nat×zo.T×za.T)×Int×Unit)×(Unit)×(Unit)):Option R :=
 zh.l3 F (fun q m from_ n t25=>K (.exit 0) (xa (zh.h 3) ((q,m,from_,n,t25,()),(),()))) n x.1.1 x.1.2.1 x.1.2.2.1 x.1.2.2.2.1
def zh.J10 (F:Nat) (x:(Int×(List zo.T)×Unit)×(Unit)×(Unit)) (R:Type) (K:KK R):Option R :=
 zh.j10 F (fun r6 r7=>K .ret (xa (zh.h 10) ((r6,r7,()),(),()))) x.1.1 x.1.2.1
def zh.J8 (F:Nat) (x:(za.T×(Nat×zo.T×za.T)×Int×Unit×Unit)×(Unit)×((List zo.T)×Unit)) (R:Type) (K:KK R):Option R :=
 zh.j8 F (fun r6 r7=>K .ret (xa (zh.h 10) ((r6,r7,()),(),()))) x.1.1 x.1.2.1 x.1.2.2.1 x.2.2.1
def zh.X (m:Int) (F:Nat):FX TI (G m) Sg:={hn:={MU:=fun s=>lk false s [(36,true),(48,true)],DS:=fun d=>lk none d [(22,some zh.ds22),(34,some zh.ds34),(46,some zh.ds46)],CT:=fun d=>lk .unit d [(11,(.pair zo za))],na:=3,fz:=fun r=>lk [] r [(9,[48])],fzJ:=fun r=>lk [] r [(10,[10])]},lv:=[⟨126,zK.sp F⟩],ld:=[⟨22,zh.d22 F⟩,⟨34,zh.d34 F⟩,⟨46,zh.d46 F⟩],N:=51,H:=zh.h,HL:=zh.hl,HJ:=zh.hj,L:=mkL zh.hl [⟨3,fun x R K=>zh.L3 F R K F x⟩],J:=mkJ zh.hj [⟨10,zh.J10 F⟩,⟨8,zh.J8 F⟩]}
theorem zh.ok (m:Int) (F:Nat):OKP m 128 zh.sg (zh.sp F) :=
 okp (zh.X m F) Go.Proofs.Tryz.func128 ⟨zK.ok m F,trivial⟩ ⟨ux ⟨⟨160,by kernel_rfl,z7.ok m F⟩,trivial⟩,ux ⟨⟨160,by kernel_rfl,z7.ok m F⟩,trivial⟩,ux ⟨⟨160,by kernel_rfl,z7.ok m F⟩,trivial⟩,trivial⟩ 1 2 (yh (FX.loopk 3 F (zh.L3 F)) zm) (yh (FX.cutk 10) (yh (FX.cutk 8) zm))
def wh.te:TEs:=[kL 2,kL 3,kL 4,(5,kI),kL 6,(7,kI),kL 8,(9,kI),kL 10,(11,kI)]
def wh.tb:TEs:=[(2,.g zo),(3,.g zg),(4,.g zo),(6,.g zg),(8,.g zg),(10,.g zg)]
def wh.h:SH:=shN wh.te wh.tb [] [(0,7,7,0),(1,55,15,0),(2,247,31,0),(3,1012,60,0),(4,12,4,0)]
def wh.X (m:Int) (F:Nat):FX TI (G m) Sg:={hn:={na:=2},lv:=[⟨32,zY.sp F⟩,⟨184,xV.sp F⟩],N:=42,H:=wh.h}
theorem wh.ok (m:Int) (F:Nat):OKP m 159 wh.sg (wh.sp F) :=
 okp (wh.X m F) Go.Proofs.Tryz.func159 ⟨zY.ok m F,xV.ok m F,trivial⟩ trivial 0 0 zm zm
def xL.te:TEs:=[kL 2,kL 3,kL 4,kL 5]
def xL.tb:TEs:=[(2,.g zo),(3,.g zg),(4,.g zo),(5,.g zo)]
def xL.h:SH:=shN xL.te xL.tb [] [(0,7,7,0),(1,12,12,0),(2,4,4,0)]
def xL.X (m:Int) (F:Nat):FX TI (G m) Sg:={hn:={na:=2},lv:=[⟨159,wh.sp F⟩],N:=14,H:=xL.h}
theorem xL.ok (m:Int) (F:Nat):OKP m 125 xL.sg (xL.sp F) :=
 okp (xL.X m F) Go.Proofs.Tryz.func125 ⟨wh.ok m F,trivial⟩ trivial 0 0 zm zm
def zt.te:TEs:=[(1,.b zo),(2,kI),kL 3,kL 6,(7,.c (.sl zo)),(8,kI),(9,.c (.sl zo)),kL 10,(11,.c (.sl xH)),(12,kI),kL 13,kL 15,(26,kB),(34,kI),(35,kI),(36,kB)]
def zt.tb:TEs:=[(3,.g za),(6,.g zo),(10,.g zg),(13,.g zg),(15,.g zo)]
def zt.h:SH:=shN zt.te zt.tb [] [(0,15,3,0),(1,109,3,0),(2,4205,3,0),(3,24,2,0),(4,237,7,0),(5,493,7,0),(6,25069,7,0),(7,57837,7,0),(8,25581,7,0),(9,26093,15,0),(10,25069,7,0),(11,25069,7,0),(12,2252,23,0),(13,24,2,0)]
def zt.hl:SH:=shN zt.te zt.tb [] [(7,25069,7,0)]
def zt.L7 (F:Nat) (R:Type) (K:KK R) (n:Nat) (x:((List zo.T)×Unit×Unit×Int×(List zo.T)×Unit×(List xH.T)×Int×Int×Unit)×(za.T×zo.T×zg.T×Unit)×(Unit)):Option R :=
 zt.l7 F (fun k n turn t t34 t35 t36 m r6 base=>K (.exit 0) (xa (zt.h 7) ((k,(),(),n,turn,(),t,t34,t35,t36,()),(m,r6,base,()),()))) n x.1.1 x.1.2.2.2.1 x.1.2.2.2.2.1 x.1.2.2.2.2.2.2.1 x.1.2.2.2.2.2.2.2.1 x.1.2.2.2.2.2.2.2.2.1 x.2.1.1 x.2.1.2.1 x.2.1.2.2.1
def zt.X (m:Int) (F:Nat):FX TI (G m) Sg:={hn:={na:=3},lv:=[⟨128,zh.sp F⟩,⟨33,z8.sp F⟩,⟨32,zY.sp F⟩,⟨27,y7.sp F⟩,⟨124,z6.sp F⟩,⟨122,yO.sp F⟩,⟨125,xL.sp F⟩,⟨123,xP.sp F⟩],N:=96,H:=zt.h,HL:=zt.hl,L:=mkL zt.hl [⟨7,fun x R K=>zt.L7 F R K F x⟩]}
theorem zt.ok (m:Int) (F:Nat):OKP m 79 zt.sg (zt.sp F) :=
 okp (zt.X m F) Go.Proofs.Tryz.func79 ⟨zh.ok m F,z8.ok m F,zY.ok m F,y7.ok m F,z6.ok m F,yO.ok m F,xL.ok m F,xP.ok m F,trivial⟩ trivial 1 0 (yh (FX.loopk 7 F (zt.L7 F)) zm) zm
def yI.te:TEs:=[(1,.b zo),(2,kI),kL 3,kL 6,(7,.c (.sl zo)),kL 8,(19,kB)]
def yI.tb:TEs:=[(3,.g za),(6,.g zo),(8,.g zo)]
def yI.h:SH:=shN yI.te yI.tb [] [(0,15,3,0),(1,47,7,0),(2,105,6,0),(3,24,2,0),(4,24,2,0)]
def yI.X (m:Int) (F:Nat):FX TI (G m) Sg:={hn:={na:=3},lv:=[⟨122,yO.sp F⟩,⟨126,zK.sp F⟩],N:=30,H:=yI.h}
theorem yI.ok (m:Int) (F:Nat):OKP m 75 yI.sg (yI.sp F) :=
 okp (yI.X m F) Go.Proofs.Tryz.func75 ⟨yO.ok m F,zK.ok m F,trivial⟩ trivial 0 0 zm zm
def yW.te:TEs:=[(1,.b zo),(2,kI),kL 3,kL 6,(7,.c (.sl zo)),kL 8,(19,kB)]
def yW.tb:TEs:=[(3,.g za),(6,.g zo),(8,.g zo)]
def yW.h:SH:=shN yW.te yW.tb [] [(0,15,3,0),(1,47,7,0),(2,105,6,0),(3,24,2,0),(4,24,2,0)]
def yW.X (m:Int) (F:Nat):FX TI (G m) Sg:={hn:={na:=3},lv:=[⟨122,yO.sp F⟩,⟨126,zK.sp F⟩],N:=30,H:=yW.h}
theorem yW.ok (m:Int) (F:Nat):OKP m 76 yW.sg (yW.sp F) :=
 okp (yW.X m F) Go.Proofs.Tryz.func76 ⟨yO.ok m F,zK.ok m F,trivial⟩ trivial 0 0 zm zm
def xi.te:TEs:=[(1,.b zo),kL 6,(7,.c (.sl zo)),(16,kB)]
def xi.tb:TEs:=[(6,.g zo)]
def xi.h:SH:=shN xi.te xi.tb [] [(0,3,1,0),(1,11,1,0),(2,6,1,0),(3,6,1,0)]
def xi.X (m:Int) (F:Nat):FX TI (G m) Sg:={hn:={na:=3},lv:=[⟨124,z6.sp F⟩,⟨125,xL.sp F⟩],N:=33,H:=xi.h}
theorem xi.ok (m:Int) (F:Nat):OKP m 74 xi.sg (xi.sp F) :=
 okp (xi.X m F) Go.Proofs.Tryz.func74 ⟨z6.ok m F,xL.ok m F,trivial⟩ trivial 0 0 zm zm
def xh.te:TEs:=[(1,.b zo),kL 6,(7,.c (.sl zo))]
def xh.tb:TEs:=[(6,.g zo)]
def xh.h:SH:=shN xh.te xh.tb [] [(0,3,1,0),(1,6,1,0)]
def xh.X (m:Int) (F:Nat):FX TI (G m) Sg:={hn:={na:=3},lv:=[⟨122,yO.sp F⟩],N:=13,H:=xh.h}
theorem xh.ok (m:Int) (F:Nat):OKP m 71 xh.sg (xh.sp F) :=
 okp (xh.X m F) Go.Proofs.Tryz.func71 ⟨yO.ok m F,trivial⟩ trivial 0 0 zm zm
def ye.te:TEs:=[(1,.p za),kL 2,kL 3]
def ye.tb:TEs:=[(2,.g zg),(3,.g zg)]
def ye.h:SH:=shN ye.te ye.tb [] [(0,7,3,0),(1,6,3,0),(2,6,3,0),(3,4,2,0)]
def ye.X (m:Int) (F:Nat):FX TI (G m) Sg:={hn:={na:=2},lv:=[⟨33,z8.sp F⟩,⟨32,zY.sp F⟩,⟨118,xO.sp F⟩],N:=21,H:=ye.h}
theorem ye.ok (m:Int) (F:Nat):OKP m 129 ye.sg (ye.sp F) :=
 okp (ye.X m F) Go.Proofs.Tryz.func129 ⟨z8.ok m F,zY.ok m F,xO.ok m F,trivial⟩ trivial 0 0 zm zm
def zH.te:TEs:=[(1,.b zo),kL 3,kL 6,(7,.c (.sl zo)),(8,.cl za)]
def zH.tb:TEs:=[(3,.g za),(6,.g zo)]
def zH.h:SH:=shN zH.te zH.tb [] [(0,7,3,0),(1,21,2,0),(2,12,2,0)]
def zH.X (m:Int) (F:Nat):FX TI (G m) Sg:={hn:={DS:=fun d=>lk none d [(15,some zH.ds15),(21,some zH.ds21),(27,some zH.ds27)],CT:=fun d=>lk .unit d [(9,za)],na:=3},ld:=[⟨15,zH.d15 F⟩,⟨21,zH.d21 F⟩,⟨27,zH.d27 F⟩],N:=29,H:=zH.h}
theorem zH.ok (m:Int) (F:Nat):OKP m 81 zH.sg (zH.sp F) :=
 okp (zH.X m F) Go.Proofs.Tryz.func81 trivial ⟨ux ⟨⟨129,by kernel_rfl,ye.ok m F⟩,trivial⟩,ux ⟨⟨129,by kernel_rfl,ye.ok m F⟩,trivial⟩,ux ⟨⟨129,by kernel_rfl,ye.ok m F⟩,trivial⟩,trivial⟩ 0 0 zm zm
def yb.te:TEs:=[(2,kI),kL 3,kL 4,kL 6]
def yb.tb:TEs:=[(3,.g za),(4,.g zo),(6,.g zo)]
def yb.h:SH:=shN yb.te yb.tb [] [(0,15,7,0),(1,8,4,0)]
def yb.X (m:Int) (F:Nat):FX TI (G m) Sg:={hn:={na:=3},lv:=[⟨33,z8.sp F⟩,⟨124,z6.sp F⟩,⟨122,yO.sp F⟩],N:=16,H:=yb.h}
theorem yb.ok (m:Int) (F:Nat):OKP m 127 yb.sg (yb.sp F) :=
 okp (yb.X m F) Go.Proofs.Tryz.func127 ⟨z8.ok m F,z6.ok m F,yO.ok m F,trivial⟩ trivial 0 0 zm zm
def yV.te:TEs:=[(1,.b zo),(2,kI),kL 3,kL 6,(7,.c (.sl zo)),kL 8,(17,kB)]
def yV.tb:TEs:=[(3,.g za),(6,.g zo),(8,.g zo)]
def yV.h:SH:=shN yV.te yV.tb [] [(0,15,3,0),(1,46,7,0),(2,104,6,0),(3,24,2,0),(4,24,2,0)]
def yV.X (m:Int) (F:Nat):FX TI (G m) Sg:={hn:={na:=3},lv:=[⟨127,yb.sp F⟩,⟨126,zK.sp F⟩],N:=24,H:=yV.h}
theorem yV.ok (m:Int) (F:Nat):OKP m 77 yV.sg (yV.sp F) :=
 okp (yV.X m F) Go.Proofs.Tryz.func77 ⟨yb.ok m F,zK.ok m F,trivial⟩ trivial 0 0 zm zm
def xg.te:TEs:=[(1,.b zo),kL 6,(7,.c (.sl zo))]
def xg.tb:TEs:=[(6,.g zo)]
def xg.h:SH:=shN xg.te xg.tb [] [(0,3,1,0),(1,6,1,0)]
def xg.X (m:Int) (F:Nat):FX TI (G m) Sg:={hn:={na:=3},lv:=[⟨122,yO.sp F⟩],N:=15,H:=xg.h}
theorem xg.ok (m:Int) (F:Nat):OKP m 73 xg.sg (xg.sp F) :=
 okp (xg.X m F) Go.Proofs.Tryz.func73 ⟨yO.ok m F,trivial⟩ trivial 0 0 zm zm
def yU.te:TEs:=[(1,.b zo),(2,kI),kL 3,kL 6,(7,.c (.sl zo)),kL 8,kL 9,(10,kB),(11,kB),(12,kB),(53,kB)]
def yU.tb:TEs:=[(3,.g za),(6,.g zo),(8,.g zo),(9,.g zo)]
def yU.h:SH:=shN yU.te yU.tb [] [(0,15,3,0),(1,111,15,0),(2,493,15,0),(3,617,14,0),(4,1129,14,0),(5,24,2,0),(6,24,2,0)]
def yU.X (m:Int) (F:Nat):FX TI (G m) Sg:={hn:={na:=3},lv:=[⟨127,yb.sp F⟩,⟨126,zK.sp F⟩],N:=66,H:=yU.h}
theorem yU.ok (m:Int) (F:Nat):OKP m 82 yU.sg (yU.sp F) :=
 okp (yU.X m F) Go.Proofs.Tryz.func82 ⟨yb.ok m F,zK.ok m F,trivial⟩ trivial 0 0 zm zm
def yT.te:TEs:=[(1,.b zo),(2,kI),kL 3,kL 6,(7,.c (.sl zo)),kL 8,(17,kB)]
def yT.tb:TEs:=[(3,.g za),(6,.g zo),(8,.g zo)]
def yT.h:SH:=shN yT.te yT.tb [] [(0,15,3,0),(1,47,7,0),(2,109,7,0),(3,24,2,0),(4,24,2,0)]
def yT.X (m:Int) (F:Nat):FX TI (G m) Sg:={hn:={na:=3},lv:=[⟨127,yb.sp F⟩,⟨126,zK.sp F⟩,⟨33,z8.sp F⟩,⟨124,z6.sp F⟩],N:=30,H:=yT.h}
theorem yT.ok (m:Int) (F:Nat):OKP m 78 yT.sg (yT.sp F) :=
 okp (yT.X m F) Go.Proofs.Tryz.func78 ⟨yb.ok m F,zK.ok m F,z8.ok m F,z6.ok m F,trivial⟩ trivial 0 0 zm zm
def yz.te:TEs:=[(1,.b zo),(2,kI),kL 3,kL 6,(7,.c (.sl zo)),(8,kI),(9,.c (.sl zo)),(20,kB)]
def yz.tb:TEs:=[(3,.g za),(6,.g zo)]
def yz.h:SH:=shN yz.te yz.tb [] [(0,15,3,0),(1,109,3,0),(2,237,3,0),(3,24,2,0),(4,24,2,0)]
def yz.X (m:Int) (F:Nat):FX TI (G m) Sg:={hn:={na:=3},lv:=[⟨128,zh.sp F⟩,⟨33,z8.sp F⟩,⟨125,xL.sp F⟩],N:=40,H:=yz.h}
theorem yz.ok (m:Int) (F:Nat):OKP m 80 yz.sg (yz.sp F) :=
 okp (yz.X m F) Go.Proofs.Tryz.func80 ⟨zh.ok m F,z8.ok m F,xL.ok m F,trivial⟩ trivial 0 0 zm zm
def wq.te:TEs:=[kL 1,kL 2,(3,kI),(6,kB)]
def wq.tb:TEs:=[(1,.g zg),(2,.g zg)]
def wq.h:SH:=shN wq.te wq.tb [] [(0,3,3,0),(1,11,3,0),(2,6,2,0),(3,6,2,0)]
def wq.X (m:Int) (F:Nat):FX TI (G m) Sg:={hn:={na:=1},lv:=[⟨49,x8.sp F⟩],N:=12,H:=wq.h}
theorem wq.ok (m:Int) (F:Nat):OKP m 26 wq.sg (wq.sp F) :=
 okp (wq.X m F) Go.Proofs.Tryz.func26 ⟨x8.ok m F,trivial⟩ trivial 0 0 zm zm
def xJ.te:TEs:=[(1,kI),kL 2,kL 4,(5,kI),kL 6,(7,kI),kL 8,(9,kI),kL 10,(11,kI),(14,kB),(43,kB)]
def xJ.tb:TEs:=[(2,.g zo),(4,.g zg),(6,.g zg),(8,.g zg),(10,.g zg)]
def xJ.h:SH:=shN xJ.te xJ.tb [] [(0,7,3,0),(1,1031,3,0),(2,12,2,0),(3,55,7,0),(4,247,15,0),(5,1013,30,0),(6,2389,30,0),(7,12,2,0),(8,12,2,0)]
def xJ.X (m:Int) (F:Nat):FX TI (G m) Sg:={hn:={na:=2},lv:=[⟨25,wj.sp F⟩,⟨26,wq.sp F⟩,⟨20,yP.sp F⟩],N:=53,H:=xJ.h}
theorem xJ.ok (m:Int) (F:Nat):OKP m 12 xJ.sg (xJ.sp F) :=
 okp (xJ.X m F) Go.Proofs.Tryz.func12 ⟨wj.ok m F,wq.ok m F,yP.ok m F,trivial⟩ trivial 0 0 zm zm
def xk.te:TEs:=[(1,kI),kL 2,kL 4,kL 5]
def xk.tb:TEs:=[(2,.g (.pair zo (.pair (.int .i64) .bool))),(4,.g zg),(5,.g zg)]
def xk.h:SH:=shN xk.te xk.tb [] [(0,7,3,0),(1,12,6,0),(2,4,2,0)]
def xk.X (m:Int) (F:Nat):FX TI (G m) Sg:={hn:={na:=2},lv:=[⟨20,yP.sp F⟩],N:=17,H:=xk.h}
theorem xk.ok (m:Int) (F:Nat):OKP m 161 xk.sg (xk.sp F) :=
 okp (xk.X m F) Go.Proofs.Tryz.func161 ⟨yP.ok m F,trivial⟩ trivial 0 0 zm zm
def wA.te:TEs:=[kL 1,(2,kI),(3,kB),(4,kI),(12,kB)]
def wA.tb:TEs:=[(1,.g zg)]
def wA.h:SH:=shN wA.te wA.tb [] [(0,1,1,0),(1,9,1,0),(2,24,0,0),(3,6,0,0),(4,6,0,0)]
def wA.X (m:Int) (F:Nat):FX TI (G m) Sg:={hn:={na:=1},N:=14,H:=wA.h}
theorem wA.ok (m:Int) (F:Nat):OKP m 195 wA.sg (wA.sp F) :=
 okp (wA.X m F) Go.Proofs.Tryz.func195 trivial trivial 0 0 zm zm
def zJ.te:TEs:=[(3,kI),kL 4,kL 5,kL 6,(8,kI),(9,kB),kL 10,kL 12,(14,kI),(15,kB),(21,kB),(38,kB),(51,kB)]
def zJ.tb:TEs:=[(4,.g (.pair zo (.pair (.int .i64) .bool))),(5,.g zg),(6,.g zg),(10,.g zg),(12,.g zg)]
def zJ.h:SH:=shN zJ.te zJ.tb [] [(0,15,7,0),(1,1039,7,0),(2,48,0,0),(3,2063,7,0),(4,48,0,0),(5,75,13,0),(6,203,29,0),(7,4297,28,0),(8,129,16,0),(9,129,16,0),(10,769,0,0),(11,48,0,0)]
def zJ.hj:Nat->Option Shape:=shO zJ.te zJ.tb [] [(5,15,7,0),(10,129,16,0)]
def zJ.J10 (F:Nat) (x:(Int×Unit×Unit)×(zg.T×Unit)×(Unit)) (R:Type) (K:KK R):Option R :=
 zJ.j10 F (fun r8 r9=>K .ret (xa (zJ.h 11) ((r8,r9,()),(),()))) x.1.1 x.2.1.1
def zJ.J5 (F:Nat) (x:(Int×Unit×Unit×Unit×Unit)×((zo.T×Int×Bool)×zg.T×zg.T×Unit)×(Unit)) (R:Type) (K:KK R):Option R :=
 zJ.j5 F (fun r8 r9=>K .ret (xa (zJ.h 11) ((r8,r9,()),(),()))) x.1.1 x.2.1.1 x.2.1.2.1 x.2.1.2.2.1
def zJ.X (m:Int) (F:Nat):FX TI (G m) Sg:={hn:={na:=4},lv:=[⟨28,xp.sp F⟩,⟨49,x8.sp F⟩,⟨118,xO.sp F⟩,⟨195,wA.sp F⟩,⟨33,z8.sp F⟩,⟨27,y7.sp F⟩],N:=76,H:=zJ.h,HJ:=zJ.hj,J:=mkJ zJ.hj [⟨10,zJ.J10 F⟩,⟨5,zJ.J5 F⟩]}
theorem zJ.ok (m:Int) (F:Nat):OKP m 185 zJ.sg (zJ.sp F) :=
 okp (zJ.X m F) Go.Proofs.Tryz.func185 ⟨xp.ok m F,x8.ok m F,xO.ok m F,wA.ok m F,z8.ok m F,y7.ok m F,trivial⟩ trivial 0 2 zm (yh (FX.cutk 10) (yh (FX.cutk 5) zm))
def yN.te:TEs:=[(1,kI),(2,kI),kL 3,(6,kI),(7,kB),(8,kI),(9,kB),(12,kB)]
def yN.tb:TEs:=[(3,.g (.pair zo (.pair (.int .i64) .bool)))]
def yN.h:SH:=shN yN.te yN.tb [] [(0,7,1,0),(1,135,1,0),(2,24,0,0),(3,97,0,0),(4,24,0,0)]
def yN.X (m:Int) (F:Nat):FX TI (G m) Sg:={hn:={na:=3},lv:=[⟨161,xk.sp F⟩,⟨185,zJ.sp F⟩],N:=31,H:=yN.h}
theorem yN.ok (m:Int) (F:Nat):OKP m 162 yN.sg (yN.sp F) :=
 okp (yN.X m F) Go.Proofs.Tryz.func162 ⟨xk.ok m F,zJ.ok m F,trivial⟩ trivial 0 0 zm zm
def yM.te:TEs:=[(1,kI),kL 2,(4,kI),(5,kI)]
def yM.tb:TEs:=[(2,.g (.pair zo (.pair (.int .i64) .bool)))]
def yM.h:SH:=shN yM.te yM.tb [] [(0,3,1,0),(1,12,0,0)]
def yM.X (m:Int) (F:Nat):FX TI (G m) Sg:={hn:={na:=2},N:=17,H:=yM.h}
theorem yM.ok (m:Int) (F:Nat):OKP m 164 yM.sg (yM.sp F) :=
 okp (yM.X m F) Go.Proofs.Tryz.func164 trivial trivial 0 0 zm zm
def xm.te:TEs:=[(1,kI),(2,kI),kL 3,(6,kI),(7,kB),kL 8,(10,kI),(11,kI),(12,kI),(13,kB),(14,kI),(15,kB),(18,kB),(67,kB),(77,kB)]
def xm.tb:TEs:=[(3,.g (.pair zo (.pair (.int .i64) .bool))),(8,.g zg)]
def xm.h:SH:=shN xm.te xm.tb [] [(0,7,1,0),(1,4103,1,0),(2,24,0,0),(3,39,3,0),(4,39,3,0),(5,231,3,0),(6,935,3,0),(7,3841,0,0),(8,12033,0,0),(9,24,0,0),(10,19713,0,0),(11,24,0,0),(12,24,0,0)]
def xm.X (m:Int) (F:Nat):FX TI (G m) Sg:={hn:={na:=3},lv:=[⟨33,z8.sp F⟩,⟨32,zY.sp F⟩,⟨27,y7.sp F⟩,⟨164,yM.sp F⟩,⟨161,xk.sp F⟩,⟨185,zJ.sp F⟩],N:=86,H:=xm.h}
theorem xm.ok (m:Int) (F:Nat):OKP m 163 xm.sg (xm.sp F) :=
 okp (xm.X m F) Go.Proofs.Tryz.func163 ⟨z8.ok m F,zY.ok m F,y7.ok m F,yM.ok m F,xk.ok m F,zJ.ok m F,trivial⟩ trivial 0 0 zm zm
def xB.te:TEs:=[(1,kI),(2,kI),kL 3,(6,kI),(7,kI),kL 8,(9,kI),kL 10,(11,kI),(12,kI),(13,kI),(14,kB),(15,kI),(16,kB),(17,kI),(18,kI),(19,kI),(20,kB),(24,kB),(38,kB),(64,kB),(76,kB),(83,kB),(97,kB)]
def xB.tb:TEs:=[(3,.g zo),(8,.g zg),(10,.g (.pair zo (.pair (.int .i64) .bool)))]
def xB.h:SH:=shN xB.te xB.tb [] [(0,7,1,0),(1,262151,1,0),(2,24,0,0),(3,103,3,0),(4,524295,1,0),(5,24,0,0),(6,131,4,0),(7,131,4,0),(8,899,4,0),(9,3968,4,0),(10,1050496,4,0),(11,24,0,0),(12,13184,4,0),(13,2102144,4,0),(14,4736,4,0),(15,4198528,4,0),(16,24,0,0),(17,49280,4,0),(18,196608,0,0),(19,8454144,0,0),(20,24,0,0),(21,24,0,0)]
def xB.hj:Nat->Option Shape:=shO xB.te xB.tb [] [(15,4736,4,0)]
def xB.J15 (F:Nat) (x:(Unit×Int×Int×Unit)×((zo.T×Int×Bool)×Unit)×(Unit)) (R:Type) (K:KK R):Option R :=
 xB.j15 F (fun r6 r7=>K .ret (xa (xB.h 16) ((r6,r7,()),(),()))) (fun r6 r7=>K .ret (xa (xB.h 20) ((r6,r7,()),(),()))) (fun r6 r7=>K .ret (xa (xB.h 21) ((r6,r7,()),(),()))) x.1.2.1 x.1.2.2.1 x.2.1.1
def xB.X (m:Int) (F:Nat):FX TI (G m) Sg:={hn:={na:=3},lv:=[⟨25,wj.sp F⟩,⟨12,xJ.sp F⟩,⟨8,xF.sp F⟩,⟨161,xk.sp F⟩,⟨28,xp.sp F⟩,⟨34,xD.sp F⟩,⟨162,yN.sp F⟩,⟨163,xm.sp F⟩,⟨164,yM.sp F⟩],N:=99,H:=xB.h,HJ:=xB.hj,J:=mkJ xB.hj [⟨15,xB.J15 F⟩]}
theorem xB.ok (m:Int) (F:Nat):OKP m 130 xB.sg (xB.sp F) :=
 okp (xB.X m F) Go.Proofs.Tryz.func130 ⟨wj.ok m F,xJ.ok m F,xF.ok m F,xk.ok m F,xp.ok m F,xD.ok m F,yN.ok m F,xm.ok m F,yM.ok m F,trivial⟩ trivial 0 1 zm (yh (FX.cutk 15) zm)
def zd.te:TEs:=[(1,.c (.bnd za)),(2,.b (.sl zj)),kL 3,(6,.c (.sl zj)),(7,kB),(8,.c (.sl zj)),(8,.ow 8),(9,.ow 9),(10,.ow 10),(11,kI),(12,kI),(13,kI),(14,kI),(15,.c (.sl zj)),kL 16,(17,.c (.sl zo)),kL 19,(20,kI),(29,kB),(30,.b (.sl zj)),(31,kI),(32,kI),(33,kB),(57,kB),(71,kB),(102,.c (.sl zo)),(103,kI),(104,kI),(105,kB),(133,kB),(148,kB)]
def zd.tb:TEs:=[(3,.g za),(16,.g zo),(19,.g zo)]
def zd.tp:List uf:=[⟨8,.env 8,zj⟩,⟨9,.env 9,(.int .i64)⟩,⟨10,.env 10,zo⟩]
def zd.h:SH:=shN zd.te zd.tb zd.tp [(0,7,1,0),(1,71,1,1),(2,199,1,3),(3,455,1,7),(4,967,1,7),(5,1991,1,7),(6,264135,1,7),(7,4039,1,7),(8,3674055,1,7),(9,7868359,1,7),(10,3686343,1,7),(11,12074951,1,7),(12,3686343,1,7),(13,20463559,1,7),(14,3686343,1,7),(15,3674055,1,7),(16,3674055,1,7),(17,53191,3,7),(18,234901447,3,7),(19,503336903,3,7),(20,234966983,7,7),(21,235032519,3,7),(22,234901447,3,7),(23,234901447,3,7),(24,536891335,3,7),(25,3015,1,7),(26,3015,1,7),(27,1073744839,1,7),(28,24,0,0),(29,1991,1,7),(30,24,0,0)]
def zd.hl:SH:=shN zd.te zd.tb zd.tp [(6,1991,1,7),(9,3674055,1,7),(11,3686343,1,7),(19,234901447,3,7)]
def zd.hj:Nat->Option Shape:=shO zd.te zd.tb zd.tp [(30,32,0,0)]
def zd.L11 (F:Nat) (R:Type) (K:KK R) (n:Nat) (x:((Nat×za.T)×(List (List zj.T))×Unit×Unit×Unit×Unit×Int×Int×Int×Int×(List zj.T)×(List (List zj.T))×Int×Int×Unit)×(za.T×Unit)×((List zj.T)×(List Int)×(List zo.T)×Unit)):Option R :=
 zd.l11 F (fun of kids runs q next i k t30 t31 t32 t57 m out at_ lines=>K (.exit 4) (xa (zd.h 11) ((of,kids,(),(),(),(),runs,q,next,i,k,t30,t31,t32,t57,()),(m,()),(out,at_,lines,())))) n x.1.1 x.1.2.1 x.1.2.2.2.2.2.2.1 x.1.2.2.2.2.2.2.2.1 x.1.2.2.2.2.2.2.2.2.1 x.1.2.2.2.2.2.2.2.2.2.1 x.1.2.2.2.2.2.2.2.2.2.2.1 x.1.2.2.2.2.2.2.2.2.2.2.2.1 x.1.2.2.2.2.2.2.2.2.2.2.2.2.1 x.1.2.2.2.2.2.2.2.2.2.2.2.2.2.1 x.2.1.1 x.2.2.1 x.2.2.2.1 x.2.2.2.2.1
def zd.L9 (F:Nat) (R:Type) (K:KK R) (n:Nat) (x:((Nat×za.T)×(List (List zj.T))×Unit×Unit×Unit×Unit×Int×Int×Int×(List (List zj.T))×Int×Int×Unit)×(za.T×Unit)×((List zj.T)×(List Int)×(List zo.T)×Unit)):Option R :=
 zd.l9 F (fun of kids runs q next t30 t31 t32 t33 m out at_ lines=>K (.exit 2) (xa (zd.h 9) ((of,kids,(),(),(),(),runs,q,next,t30,t31,t32,t33,()),(m,()),(out,at_,lines,())))) n x.1.1 x.1.2.1 x.1.2.2.2.2.2.2.1 x.1.2.2.2.2.2.2.2.1 x.1.2.2.2.2.2.2.2.2.1 x.1.2.2.2.2.2.2.2.2.2.1 x.1.2.2.2.2.2.2.2.2.2.2.1 x.1.2.2.2.2.2.2.2.2.2.2.2.1 x.2.1.1 x.2.2.1 x.2.2.2.1 x.2.2.2.2.1
def zd.L19 (F:Nat) (R:Type) (K:KK R) (n:Nat) (x:((Nat×za.T)×(List (List zj.T))×Unit×Unit×Unit×Unit×Int×Int×Int×Unit×(List zo.T)×Int×Int×Unit)×(za.T×zo.T×Unit)×((List zj.T)×(List Int)×(List zo.T)×Unit)):Option R :=
 zd.l19 F (fun of kids runs q next t102 t103 t104 t105 m l out at_ lines=>K (.exit 6) (xa (zd.h 19) ((of,kids,(),(),(),(),runs,q,next,(),t102,t103,t104,t105,()),(m,l,()),(out,at_,lines,())))) n x.1.1 x.1.2.1 x.1.2.2.2.2.2.2.1 x.1.2.2.2.2.2.2.2.1 x.1.2.2.2.2.2.2.2.2.1 x.1.2.2.2.2.2.2.2.2.2.2.1 x.1.2.2.2.2.2.2.2.2.2.2.2.1 x.1.2.2.2.2.2.2.2.2.2.2.2.2.1 x.2.1.1 x.2.1.2.1 x.2.2.1 x.2.2.2.1 x.2.2.2.2.1
def zd.L6 (F:Nat) (R:Type) (K:KK R) (n:Nat) (x:((Nat×za.T)×(List (List zj.T))×Unit×Unit×Unit×Unit×Int×Int×Unit)×(za.T×Unit)×((List zj.T)×(List Int)×(List zo.T)×Unit)):Option R :=
 zd.l6 F (fun r6 r7=>K .ret (xa (zd.h 28) ((r6,r7,()),(),()))) (fun of kids runs q t29 m out at_ lines=>K (.exit 0) (xa (zd.h 6) ((of,kids,(),(),(),(),runs,q,t29,()),(m,()),(out,at_,lines,())))) n x.1.1 x.1.2.1 x.1.2.2.2.2.2.2.1 x.1.2.2.2.2.2.2.2.1 x.2.1.1 x.2.2.1 x.2.2.2.1 x.2.2.2.2.1
def zd.J30 (F:Nat) (x:((List zj.T)×Unit)×(Unit)×(Unit)) (R:Type) (K:KK R):Option R :=
 zd.j30 F (fun r6 r7=>K .ret (xa (zd.h 30) ((r6,r7,()),(),()))) x.1.1
def zd.X (m:Int) (F:Nat):FX TI (G m) Sg:={hn:={MU:=fun s=>lk false s [(24,true),(27,true),(139,true)],DS:=fun d=>lk none d [(99,some zd.ds99)],na:=3,fzJ:=fun r=>lk [] r [(30,[8])]},lv:=[⟨130,xB.sp F⟩],ld:=[⟨99,zd.d99 F⟩],N:=151,H:=zd.h,HL:=zd.hl,HJ:=zd.hj,L:=mkL zd.hl [⟨11,fun x R K=>zd.L11 F R K F x⟩,⟨9,fun x R K=>zd.L9 F R K F x⟩,⟨19,fun x R K=>zd.L19 F R K F x⟩,⟨6,fun x R K=>zd.L6 F R K F x⟩],J:=mkJ zd.hj [⟨30,zd.J30 F⟩]}
theorem zd.ok (m:Int) (F:Nat):OKP m 83 zd.sg (zd.sp F) :=
 okp (zd.X m F) Go.Proofs.Tryz.func83 ⟨xB.ok m F,trivial⟩ ⟨ux ⟨⟨72,by kernel_rfl,xj.ok m F⟩,⟨79,by kernel_rfl,zt.ok m F⟩,⟨75,by kernel_rfl,yI.ok m F⟩,⟨76,by kernel_rfl,yW.ok m F⟩,⟨74,by kernel_rfl,xi.ok m F⟩,⟨71,by kernel_rfl,xh.ok m F⟩,⟨81,by kernel_rfl,zH.ok m F⟩,⟨77,by kernel_rfl,yV.ok m F⟩,⟨73,by kernel_rfl,xg.ok m F⟩,⟨82,by kernel_rfl,yU.ok m F⟩,⟨78,by kernel_rfl,yT.ok m F⟩,⟨80,by kernel_rfl,yz.ok m F⟩,trivial⟩,trivial⟩ 4 1 (yh (FX.loopk 19 F (zd.L19 F)) (yh (FX.loopk 11 F (zd.L11 F)) (yh (FX.loopk 9 F (zd.L9 F)) (yh (FX.loopk 6 F (zd.L6 F)) zm)))) (yh (FX.cutk 30) zm)
def zu.te:TEs:=[(1,.c (.bnd za)),(2,.b (.sl zj)),kL 3,(6,.c (.sl zj)),(7,kB),(8,.c (.sl zj)),(9,kB),(11,.c (.sl zj)),(21,kB),(32,.b (.sl zj)),(33,kI),(34,kI),(35,kB),(48,kB)]
def zu.tb:TEs:=[(3,.g za)]
def zu.h:SH:=shN zu.te zu.tb [] [(0,7,1,0),(1,263,1,0),(2,24,0,0),(3,39,1,0),(4,3621,1,0),(5,7717,1,0),(6,3749,1,0),(7,3685,1,0),(8,11813,1,0),(9,24,0,0),(10,3621,1,0),(11,24,0,0)]
def zu.hl:SH:=shN zu.te zu.tb [] [(5,3621,1,0)]
def zu.hj:Nat->Option Shape:=shO zu.te zu.tb [] [(3,7,1,0)]
def zu.L5 (F:Nat) (R:Type) (K:KK R) (n:Nat) (x:((Nat×za.T)×Unit×(List zj.T)×(List (List zj.T))×Int×Int×Unit)×(za.T×Unit)×(Unit)):Option R :=
 zu.l5 F (fun r6 r7=>K .ret (xa (zu.h 9) ((r6,r7,()),(),()))) (fun of made t32 t33 t34 t35 m=>K (.exit 0) (xa (zu.h 5) ((of,(),made,t32,t33,t34,t35,()),(m,()),()))) n x.1.1 x.1.2.2.1 x.1.2.2.2.1 x.1.2.2.2.2.1 x.1.2.2.2.2.2.1 x.2.1.1
def zu.J3 (F:Nat) (x:((Nat×za.T)×(List (List zj.T))×Unit×Unit)×(za.T×Unit)×(Unit)) (R:Type) (K:KK R):Option R :=
 zu.j3 F (fun r6 r7=>K .ret (xa (zu.h 9) ((r6,r7,()),(),()))) (fun r6 r7=>K .ret (xa (zu.h 11) ((r6,r7,()),(),()))) x.1.1 x.1.2.1 x.2.1.1
def zu.X (m:Int) (F:Nat):FX TI (G m) Sg:={hn:={na:=3},lv:=[⟨83,zd.sp F⟩],N:=51,H:=zu.h,HL:=zu.hl,HJ:=zu.hj,L:=mkL zu.hl [⟨5,fun x R K=>zu.L5 F R K F x⟩],J:=mkJ zu.hj [⟨3,zu.J3 F⟩]}
theorem zu.ok (m:Int) (F:Nat):OKP m 41 zu.sg (zu.sp F) :=
 okp (zu.X m F) Go.Proofs.Tryz.func41 ⟨zd.ok m F,trivial⟩ trivial 1 1 (yh (FX.loopk 5 F (zu.L5 F)) zm) (yh (FX.cutk 3) zm)
def zI.te:TEs:=[kL 1,kL 2,(3,kI),(4,kI),kL 5,(6,kI),(7,kI),(8,kI),(10,.c (.sl (.sl zj))),(10,.ow 10),(11,kI),kL 12,kL 13,(14,.c (.bnd za)),(15,kI),(16,kI),(17,.c (.sl zj)),(18,kB),(26,kB),(33,kB),(41,.c (.sl zT)),(42,kI),(43,kI),(44,kB),(58,kB),(83,kB)]
def zI.tb:TEs:=[(1,.g xZ),(2,.g zN),(5,.g zg),(12,.g zT),(13,.g za)]
def zI.tp:List uf:=[⟨10,.env 10,(.sl zj)⟩]
def zI.h:SH:=shN zI.te zI.tb zI.tp [(0,3,3,0),(1,115,7,0),(2,262259,7,0),(3,14,2,0),(4,524307,7,0),(5,14,2,0),(6,147,7,0),(7,659,7,1),(8,7340691,7,1),(9,15729299,7,1),(10,7343763,15,1),(11,7347859,31,1),(12,24123027,23,1),(13,7340691,7,1),(14,7370387,23,1),(15,7386771,23,1),(16,7571091,7,1),(17,40994451,7,1),(18,14,2,0),(19,7340691,7,1),(20,7340691,7,1),(21,14,2,0)]
def zI.hl:SH:=shN zI.te zI.tb zI.tp [(9,7340691,7,1)]
def zI.hj:Nat->Option Shape:=shO zI.te zI.tb zI.tp [(21,387,3,0)]
def zI.L9 (F:Nat) (R:Type) (K:KK R) (n:Nat) (x:(Unit×Unit×Unit×Int×Unit×(List zT.T)×Int×Int×Unit)×(xZ.T×zN.T×zg.T×Unit)×((List (List zj.T))×Unit)):Option R :=
 zI.l9 F (fun r3 r4 r2=>K .ret (xa (zI.h 18) (((),r3,r4,()),(r2,()),()))) (fun scale t41 t42 t43 t44 p r2 unit pile=>K (.exit 0) (xa (zI.h 9) (((),(),(),scale,(),t41,t42,t43,t44,()),(p,r2,unit,()),(pile,())))) n x.1.2.2.2.1 x.1.2.2.2.2.2.1 x.1.2.2.2.2.2.2.1 x.1.2.2.2.2.2.2.2.1 x.2.1.1 x.2.1.2.1 x.2.1.2.2.1 x.2.2.1
def zI.J21 (F:Nat) (x:(Unit×Unit×Int×(List (List zj.T))×Unit)×(xZ.T×zN.T×Unit)×(Unit)) (R:Type) (K:KK R):Option R :=
 zI.j21 F (fun r3 r4 r2=>K .ret (xa (zI.h 21) (((),r3,r4,()),(r2,()),()))) x.1.2.2.1 x.1.2.2.2.1 x.2.1.1 x.2.1.2.1
def zI.X (m:Int) (F:Nat):FX TI (G m) Sg:={hn:={MU:=fun s=>lk false s [(63,true),(91,true)],na:=1,fzJ:=fun r=>lk [] r [(21,[10])]},lv:=[⟨21,xQ.sp F⟩,⟨36,zV.sp F⟩,⟨39,yK.sp F⟩,⟨40,yn.sp F⟩,⟨41,zu.sp F⟩],N:=103,H:=zI.h,HL:=zI.hl,HJ:=zI.hj,L:=mkL zI.hl [⟨9,fun x R K=>zI.L9 F R K F x⟩],J:=mkJ zI.hj [⟨21,zI.J21 F⟩]}
theorem zI.ok (m:Int) (F:Nat):OKP m 22 zI.sg (zI.sp F) :=
 okp (zI.X m F) Go.Proofs.Tryz.func22 ⟨xQ.ok m F,zV.ok m F,yK.ok m F,yn.ok m F,zu.ok m F,trivial⟩ trivial 1 1 (yh (FX.loopk 9 F (zI.L9 F)) zm) (yh (FX.cutk 21) zm)
def zO.te:TEs:=[kL 1,(2,kB),(3,kI),(4,kI),kL 5,kL 6,(43,kB),(45,kI),(46,kI),(47,kB),(76,kB)]
def zO.tb:TEs:=[(1,.g zN),(5,.g zj),(6,.g zj)]
def zO.h:SH:=shN zO.te zO.tb [] [(0,1,1,0),(1,5,1,0),(2,69,1,0),(3,2,0,0),(4,385,1,0),(5,897,1,0),(6,393,1,0),(7,433,7,0),(8,1409,1,0),(9,2,0,0),(10,385,1,0),(11,2,0,0)]
def zO.hl:SH:=shN zO.te zO.tb [] [(5,385,1,0)]
def zO.L5 (F:Nat) (R:Type) (K:KK R) (n:Nat) (x:(Unit×Int×Int×Unit)×(zN.T×Unit)×(Unit)):Option R :=
 zO.l5 F (fun r2=>K .ret (xa (zO.h 9) ((r2,()),(),()))) (fun t45 t46 t47 t=>K (.exit 0) (xa (zO.h 5) (((),t45,t46,t47,()),(t,()),()))) n x.1.2.1 x.1.2.2.1 x.2.1.1
def zO.X (m:Int) (F:Nat):FX TI (G m) Sg:={hn:={na:=1},N:=78,H:=zO.h,HL:=zO.hl,L:=mkL zO.hl [⟨5,fun x R K=>zO.L5 F R K F x⟩]}
theorem zO.ok (m:Int) (F:Nat):OKP m 11 zO.sg (zO.sp F) :=
 okp (zO.X m F) Go.Proofs.Tryz.func11 trivial trivial 1 0 (yh (FX.loopk 5 F (zO.L5 F)) zm) zm
def xE.te:TEs:=[(1,kI),kL 2,(4,kI)]
def xE.tb:TEs:=[(2,.g zj)]
def xE.h:SH:=shN xE.te xE.tb [] [(0,3,1,0),(1,4,0,0)]
def xE.X (m:Int) (F:Nat):FX TI (G m) Sg:={hn:={na:=2},N:=11,H:=xE.h}
theorem xE.ok (m:Int) (F:Nat):OKP m 19 xE.sg (xE.sp F) :=
 okp (xE.X m F) Go.Proofs.Tryz.func19 trivial trivial 0 0 zm zm
def ze.te:TEs:=[(0,.b zj),(1,kI),(2,.c .fn),(6,kI),(7,kB),(8,kI),(9,kI),(10,kI),(11,kI),(17,kB),(31,kB)]
def ze.h:SH:=shN ze.te [] [] [(0,7,0,0),(1,39,0,0),(2,231,0,0),(3,743,0,0),(4,487,0,0),(5,1511,0,0),(6,231,0,0),(7,231,0,0),(8,24,0,0)]
def ze.hl:SH:=shN ze.te [] [] [(3,231,0,0)]
def ze.L3 (F:Nat) (R:Type) (K:KK R) (n:Nat) (x:((List zj.T)×Int×Nat×Int×Int×Int×Unit)×(Unit)×(Unit)):Option R :=
 ze.l3 F (fun x target cmp n i j t17=>K (.exit 0) (xa (ze.h 3) ((x,target,cmp,n,i,j,t17,()),(),()))) n x.1.1 x.1.2.1 x.1.2.2.1 x.1.2.2.2.1 x.1.2.2.2.2.1 x.1.2.2.2.2.2.1
def ze.X (m:Int) (F:Nat):FX TI (G m) Sg:={hn:={DS:=fun d=>lk none d [(30,some ze.ds30),(46,some ze.ds46)],na:=3},ld:=[⟨30,ze.d30 F⟩,⟨46,ze.d46 F⟩],N:=49,H:=ze.h,HL:=ze.hl,L:=mkL ze.hl [⟨3,fun x R K=>ze.L3 F R K F x⟩]}
theorem ze.ok (m:Int) (F:Nat):OKP m 18 ze.sg (ze.sp F) :=
 okp (ze.X m F) Go.Proofs.Tryz.func18 trivial ⟨ux ⟨⟨19,by kernel_rfl,xE.ok m F⟩,trivial⟩,ux ⟨⟨19,by kernel_rfl,xE.ok m F⟩,trivial⟩,trivial⟩ 1 0 (yh (FX.loopk 3 F (ze.L3 F)) zm) zm
def yC.te:TEs:=[(1,kI),kL 2,kL 4,(5,kI),(6,kI),(7,kB),(18,kB),(28,kB)]
def yC.tb:TEs:=[(2,.g zN),(4,.g zg)]
def yC.h:SH:=shN yC.te yC.tb [] [(0,7,3,0),(1,71,3,0),(2,12,2,0),(3,55,3,0),(4,151,3,0),(5,23,3,0),(6,12,2,0)]
def yC.hj:Nat->Option Shape:=shO yC.te yC.tb [] [(6,23,3,0)]
def yC.J6 (F:Nat) (x:(Int×Unit×Unit×Int×Unit)×(zN.T×zg.T×Unit)×(Unit)) (R:Type) (K:KK R):Option R :=
 yC.j6 F (fun r5 r4=>K .ret (xa (yC.h 6) (((),r5,()),(r4,()),()))) x.1.1 x.1.2.2.2.1 x.2.1.1 x.2.1.2.1
def yC.X (m:Int) (F:Nat):FX TI (G m) Sg:={hn:={na:=2},lv:=[⟨11,zO.sp F⟩,⟨18,ze.sp F⟩,⟨20,yP.sp F⟩],N:=43,H:=yC.h,HJ:=yC.hj,J:=mkJ yC.hj [⟨6,yC.J6 F⟩]}
theorem yC.ok (m:Int) (F:Nat):OKP m 7 yC.sg (yC.sp F) :=
 okp (yC.X m F) Go.Proofs.Tryz.func7 ⟨zO.ok m F,ze.ok m F,yP.ok m F,trivial⟩ trivial 0 1 zm (yh (FX.cutk 6) zm)
def xx.te:TEs:=[(0,kI),kL 2]
def xx.tb:TEs:=[(2,.g xG)]
def xx.h:SH:=shN xx.te xx.tb [] [(0,3,1,0),(1,2,1,0)]
def xx.X (m:Int) (F:Nat):FX TI (G m) Sg:={hn:={na:=1},N:=9,H:=xx.h}
theorem xx.ok (m:Int) (F:Nat):OKP m 13 xx.sg (xx.sp F) :=
 okp (xx.X m F) Go.Proofs.Tryz.func13 trivial trivial 0 0 zm zm
def zy.te:TEs:=[kL 1,(2,kI),(3,kB),kL 4,(6,kI),(28,kB),(33,kB),(39,kB),(61,kB)]
def zy.tb:TEs:=[(1,.g (.pair zo (.pair (.int .i64) xH))),(4,.g zg)]
def zy.h:SH:=shN zy.te zy.tb [] [(0,1,1,0),(1,9,3,0),(2,25,3,0),(3,57,3,0),(4,89,3,0),(5,25,3,0),(6,153,3,0),(7,6,0,0),(8,25,3,0),(9,272,0,0),(10,6,0,0),(11,6,0,0)]
def zy.hj:Nat->Option Shape:=shO zy.te zy.tb [] [(8,9,3,0)]
def zy.J8 (F:Nat) (x:(Unit×Unit×Unit)×((zo.T×Int×xH.T)×zg.T×Unit)×(Unit)) (R:Type) (K:KK R):Option R :=
 zy.j8 F (fun r2 r3=>K .ret (xa (zy.h 10) ((r2,r3,()),(),()))) (fun r2 r3=>K .ret (xa (zy.h 11) ((r2,r3,()),(),()))) x.2.1.1 x.2.1.2.1
def zy.X (m:Int) (F:Nat):FX TI (G m) Sg:={hn:={na:=1},lv:=[⟨27,y7.sp F⟩,⟨28,xp.sp F⟩],N:=63,H:=zy.h,HJ:=zy.hj,J:=mkJ zy.hj [⟨8,zy.J8 F⟩]}
theorem zy.ok (m:Int) (F:Nat):OKP m 14 zy.sg (zy.sp F) :=
 okp (zy.X m F) Go.Proofs.Tryz.func14 ⟨y7.ok m F,xp.ok m F,trivial⟩ trivial 0 1 zm (yh (FX.cutk 8) zm)
def zi.te:TEs:=[kL 1,kL 2,(3,kI),kL 5,kL 6,(7,kI),(8,kI),kL 9,kL 10,kL 11,kL 13,(15,kI),(16,kB),(19,kB),(22,.c (.sl zj)),(23,kI),(24,kI),(25,kB),(43,kB),(47,.c (.sl zj)),(48,kI),(49,kI),(50,kB),(66,kB),(94,kB),(103,kB)]
def zi.tb:TEs:=[(1,.g zN),(2,.g xG),(5,.g zj),(6,.g zg),(9,.g zj),(10,.g (.pair zo (.pair (.int .i64) xH))),(11,.g zg),(13,.g zg)]
def zi.h:SH:=shN zi.te zi.tb [] [(0,3,3,0),(1,8195,3,0),(2,6,2,0),(3,114691,3,0),(4,245763,3,0),(5,114699,7,0),(6,114739,11,0),(7,376835,3,0),(8,6,2,0),(9,114691,3,0),(10,3670019,3,0),(11,7864323,3,0),(12,3670211,19,0),(13,3670339,35,0),(14,12058947,35,0),(15,3670275,35,0),(16,3670787,99,0),(17,3671811,227,0),(18,20447491,35,0),(19,6,2,0),(20,3676163,3,0),(21,37226499,3,0),(22,6,2,0),(23,3670019,3,0),(24,6,2,0)]
def zi.hl:SH:=shN zi.te zi.tb [] [(4,114691,3,0),(11,3670019,3,0)]
def zi.hj:Nat->Option Shape:=shO zi.te zi.tb [] [(20,3670275,35,0)]
def zi.L4 (F:Nat) (R:Type) (K:KK R) (n:Nat) (x:(Unit×Unit×(List zj.T)×Int×Int×Unit)×(zN.T×xG.T×Unit)×(Unit)):Option R :=
 zi.l4 F (fun r3 r2=>K .ret (xa (zi.h 8) (((),r3,()),(r2,()),()))) (fun t22 t23 t24 t25 t r2=>K (.exit 0) (xa (zi.h 4) (((),(),t22,t23,t24,t25,()),(t,r2,()),()))) n x.1.2.2.1 x.1.2.2.2.1 x.1.2.2.2.2.1 x.2.1.1 x.2.1.2.1
def zi.J20 (F:Nat) (x:(Unit×Unit×Unit×(List zj.T)×Int×Int×Unit)×(zN.T×xG.T×(zo.T×Int×xH.T)×Unit)×(Unit)) (R:Type) (K:KK R):Option R :=
 zi.j20 F (fun r3 r2=>K .ret (xa (zi.h 22) (((),r3,()),(r2,()),()))) (fun q t47 t48 t49 t103 t r2=>K .normal (xa (zi.h 21) (((),(),q,t47,t48,t49,t103,()),(t,r2,()),()))) x.1.2.2.2.1 x.1.2.2.2.2.1 x.1.2.2.2.2.2.1 x.2.1.1 x.2.1.2.1 x.2.1.2.2.1
def zi.L11 (F:Nat) (R:Type) (K:KK R) (n:Nat) (x:(Unit×Unit×(List zj.T)×Int×Int×Unit)×(zN.T×xG.T×Unit)×(Unit)):Option R :=
 zi.l11 F (fun r3 r2=>K .ret (xa (zi.h 19) (((),r3,()),(r2,()),()))) (fun r3 r2=>K .ret (xa (zi.h 22) (((),r3,()),(r2,()),()))) (fun t47 t48 t49 t50 t r2=>K (.exit 2) (xa (zi.h 11) (((),(),t47,t48,t49,t50,()),(t,r2,()),()))) n x.1.2.2.1 x.1.2.2.2.1 x.1.2.2.2.2.1 x.2.1.1 x.2.1.2.1
def zi.X (m:Int) (F:Nat):FX TI (G m) Sg:={hn:={na:=1},lv:=[⟨11,zO.sp F⟩,⟨12,xJ.sp F⟩,⟨8,xF.sp F⟩,⟨7,yC.sp F⟩,⟨13,xx.sp F⟩,⟨14,zy.sp F⟩],N:=108,H:=zi.h,HL:=zi.hl,HJ:=zi.hj,L:=mkL zi.hl [⟨4,fun x R K=>zi.L4 F R K F x⟩,⟨11,fun x R K=>zi.L11 F R K F x⟩],J:=mkJ zi.hj [⟨20,zi.J20 F⟩]}
theorem zi.ok (m:Int) (F:Nat):OKP m 5 zi.sg (zi.sp F) :=
 okp (zi.X m F) Go.Proofs.Tryz.func5 ⟨zO.ok m F,xJ.ok m F,xF.ok m F,yC.ok m F,xx.ok m F,zy.ok m F,trivial⟩ trivial 2 1 (yh (FX.loopk 11 F (zi.L11 F)) (yh (FX.loopk 4 F (zi.L4 F)) zm)) (yh (FX.cutk 20) zm)
def zL.te:TEs:=[kL 1,kL 2,(3,kI),(4,kI),(6,kI),(7,kI),kL 8,(10,kI),kL 11,(13,kB),(14,kI),(24,kB),(35,kB),(44,kI),(45,kI),(46,kB),(55,kB)]
def zL.tb:TEs:=[(1,.g xZ),(2,.g xG),(8,.g zN),(11,.g xG)]
def zL.h:SH:=shN zL.te zL.tb [] [(0,3,3,0),(1,51,3,0),(2,2099,3,0),(3,14,2,0),(4,195,7,0),(5,4163,7,0),(6,258,10,0),(7,14,2,0),(8,515,3,0),(9,25091,3,0),(10,57859,3,0),(11,26115,3,0),(12,25091,3,0),(13,25091,3,0),(14,65539,3,0),(15,14,2,0)]
def zL.hl:SH:=shN zL.te zL.tb [] [(10,25091,3,0)]
def zL.L10 (F:Nat) (R:Type) (K:KK R) (n:Nat) (x:(Unit×Unit×Bool×Int×Int×Unit)×(xZ.T×xG.T×Unit)×(Unit)):Option R :=
 zL.l10 F (fun rising t44 t45 t46 p r2=>K (.exit 0) (xa (zL.h 10) (((),(),rising,t44,t45,t46,()),(p,r2,()),()))) n x.1.2.2.1 x.1.2.2.2.1 x.1.2.2.2.2.1 x.2.1.1 x.2.1.2.1
def zL.X (m:Int) (F:Nat):FX TI (G m) Sg:={hn:={na:=1},lv:=[⟨21,xQ.sp F⟩,⟨22,zI.sp F⟩,⟨5,zi.sp F⟩],N:=65,H:=zL.h,HL:=zL.hl,L:=mkL zL.hl [⟨10,fun x R K=>zL.L10 F R K F x⟩]}
theorem zL.ok (m:Int) (F:Nat):OKP m 9 zL.sg (zL.sp F) :=
 okp (zL.X m F) Go.Proofs.Tryz.func9 ⟨xQ.ok m F,zI.ok m F,zi.ok m F,trivial⟩ trivial 1 0 (yh (FX.loopk 10 F (zL.L10 F)) zm) zm
def yx.te:TEs:=[(0,kB),kL 1,(2,kI),(3,kI),kL 4,(5,kI),(6,kI),(8,kI)]
def yx.tb:TEs:=[(1,.g xG),(4,.g xG)]
def yx.h:SH:=shN yx.te yx.tb [] [(1,14,1,0),(2,126,3,0),(3,254,3,0),(4,1,0,0)]
def yx.X (m:Int) (F:Nat):FX TI (G m) Sg:={hn:={na:=0},lv:=[⟨10,xd.sp F⟩,⟨9,zL.sp F⟩,⟨5,zi.sp F⟩],N:=63,H:=yx.h}
theorem yx.ok (m:Int) (F:Nat):OKP m 4 yx.sg (yx.sp F) :=
 okp (yx.X m F) Go.Proofs.Tryz.func4 ⟨xd.ok m F,zL.ok m F,zi.ok m F,trivial⟩ trivial 0 0 zm zm
def zl.te:TEs:=[kL 1,(2,kB),(3,kI),(33,kB),(38,kB),(60,kB),(94,kB)]
def zl.tb:TEs:=[(1,.g zN)]
def zl.h:SH:=shN zl.te zl.tb [] [(0,1,1,0),(1,9,1,0),(2,2,0,0),(3,5,1,0),(4,21,1,0),(5,5,1,0),(6,37,1,0),(7,2,0,0),(8,69,1,0),(9,2,0,0),(10,2,0,0)]
def zl.hl:SH:=shN zl.te zl.tb [] [(4,5,1,0)]
def zl.hj:Nat->Option Shape:=shO zl.te zl.tb [] [(8,5,1,0)]
def zl.J8 (F:Nat) (x:(Unit×Int×Unit)×(zN.T×Unit)×(Unit)) (R:Type) (K:KK R):Option R :=
 zl.j8 F (fun r2=>K .ret (xa (zl.h 9) ((r2,()),(),()))) (fun i t94 t=>K .normal (xa (zl.h 8) (((),i,t94,()),(t,()),()))) x.1.2.1 x.2.1.1
def zl.L4 (F:Nat) (R:Type) (K:KK R) (n:Nat) (x:(Unit×Int×Unit)×(zN.T×Unit)×(Unit)):Option R :=
 zl.l4 F (fun r2=>K .ret (xa (zl.h 7) ((r2,()),(),()))) (fun r2=>K .ret (xa (zl.h 9) ((r2,()),(),()))) (fun i t38 t=>K (.exit 0) (xa (zl.h 4) (((),i,t38,()),(t,()),()))) n x.1.2.1 x.2.1.1
def zl.X (m:Int) (F:Nat):FX TI (G m) Sg:={hn:={na:=1},N:=95,H:=zl.h,HL:=zl.hl,HJ:=zl.hj,L:=mkL zl.hl [⟨4,fun x R K=>zl.L4 F R K F x⟩],J:=mkJ zl.hj [⟨8,zl.J8 F⟩]}
theorem zl.ok (m:Int) (F:Nat):OKP m 15 zl.sg (zl.sp F) :=
 okp (zl.X m F) Go.Proofs.Tryz.func15 trivial trivial 1 1 (yh (FX.loopk 4 F (zl.L4 F)) zm) (yh (FX.cutk 8) zm)
def yB.te:TEs:=[(0,kI),(1,kI),(4,kB)]
def yB.h:SH:=shN yB.te [] [] [(0,3,0,0),(1,4,0,0)]
def yB.X (m:Int) (F:Nat):FX TI (G m) Sg:={hn:={na:=2},N:=19,H:=yB.h}
theorem yB.ok (m:Int) (F:Nat):OKP m 51 yB.sg (yB.sp F) :=
 okp (yB.X m F) Go.Proofs.Tryz.func51 trivial trivial 0 0 zm zm
def zk.te:TEs:=[kL 1,kL 2,kL 3,(4,kI),(5,kI),(7,kB),(32,kB),(34,kB)]
def zk.tb:TEs:=[(1,.g zg),(2,.a .u64),(3,.a .u64)]
def zk.h:SH:=shN zk.te zk.tb [] [(0,3,3,0),(1,7,7,0),(2,15,7,0),(3,47,7,0),(4,15,7,0),(5,15,7,0),(6,15,7,0),(7,70,6,0),(8,22,6,0),(9,150,6,0),(10,22,6,0),(11,22,6,0),(12,2,2,0)]
def zk.hl:SH:=shN zk.te zk.tb [] [(3,15,7,0),(9,22,6,0)]
def zk.L3 (F:Nat) (R:Type) (K:KK R) (n:Nat) (x:(Unit×Unit×Unit×Int×Unit)×(zg.T×(List Int)×(List Int)×Unit)×(Unit)):Option R :=
 zk.l3 F (fun i t7 w r2 l=>K (.exit 0) (xa (zk.h 3) (((),(),(),i,t7,()),(w,r2,l,()),()))) n x.1.2.2.2.1 x.2.1.1 x.2.1.2.1 x.2.1.2.2.1
def zk.L9 (F:Nat) (R:Type) (K:KK R) (n:Nat) (x:(Unit×Unit×Int×Unit)×((List Int)×(List Int)×Unit)×(Unit)):Option R :=
 zk.l9 F (fun i t34 r2 l=>K (.exit 2) (xa (zk.h 9) (((),(),i,t34,()),(r2,l,()),()))) n x.1.2.2.1 x.2.1.1 x.2.1.2.1
def zk.X (m:Int) (F:Nat):FX TI (G m) Sg:={hn:={na:=1},N:=40,H:=zk.h,HL:=zk.hl,L:=mkL zk.hl [⟨3,fun x R K=>zk.L3 F R K F x⟩,⟨9,fun x R K=>zk.L9 F R K F x⟩]}
theorem zk.ok (m:Int) (F:Nat):OKP m 55 zk.sg (zk.sp F) :=
 okp (zk.X m F) Go.Proofs.Tryz.func55 trivial trivial 2 0 (yh (FX.loopk 9 F (zk.L9 F)) (yh (FX.loopk 3 F (zk.L3 F)) zm)) zm
def zw.te:TEs:=[kL 2,kL 3,kL 4,(5,.c (.int .u64)),(6,kI),(8,kB)]
def zw.tb:TEs:=[(2,.a .u64),(3,.a .u64),(4,.a .u64)]
def zw.h:SH:=shN zw.te zw.tb [] [(0,7,7,0),(1,15,7,0),(2,31,7,0),(3,63,7,0),(4,31,7,0),(5,31,7,0),(6,31,7,0),(7,31,7,0),(8,4,4,0)]
def zw.hl:SH:=shN zw.te zw.tb [] [(3,31,7,0)]
def zw.L3 (F:Nat) (R:Type) (K:KK R) (n:Nat) (x:(Unit×Unit×Unit×Int×Int×Unit)×((List Int)×(List Int)×(List Int)×Unit)×(Unit)):Option R :=
 zw.l3 F (fun c i t8 a b r4=>K (.exit 0) (xa (zw.h 3) (((),(),(),c,i,t8,()),(a,b,r4,()),()))) n x.1.2.2.2.1 x.1.2.2.2.2.1 x.2.1.1 x.2.1.2.1 x.2.1.2.2.1
def zw.X (m:Int) (F:Nat):FX TI (G m) Sg:={hn:={na:=2},N:=27,H:=zw.h,HL:=zw.hl,L:=mkL zw.hl [⟨3,fun x R K=>zw.L3 F R K F x⟩]}
theorem zw.ok (m:Int) (F:Nat):OKP m 54 zw.sg (zw.sp F) :=
 okp (zw.X m F) Go.Proofs.Tryz.func54 trivial trivial 1 0 (yh (FX.loopk 3 F (zw.L3 F)) zm) zm
def zq.te:TEs:=[kL 1,kL 2,(3,kI),(5,kB)]
def zq.tb:TEs:=[(1,.a .u64),(2,.a .u64)]
def zq.h:SH:=shN zq.te zq.tb [] [(0,3,3,0),(1,7,3,0),(2,15,3,0),(3,7,3,0),(4,7,3,0),(5,2,2,0)]
def zq.hl:SH:=shN zq.te zq.tb [] [(2,7,3,0)]
def zq.L2 (F:Nat) (R:Type) (K:KK R) (n:Nat) (x:(Unit×Unit×Int×Unit)×((List Int)×(List Int)×Unit)×(Unit)):Option R :=
 zq.l2 F (fun i t5 a r2=>K (.exit 0) (xa (zq.h 2) (((),(),i,t5,()),(a,r2,()),()))) n x.1.2.2.1 x.2.1.1 x.2.1.2.1
def zq.X (m:Int) (F:Nat):FX TI (G m) Sg:={hn:={na:=1},lv:=[⟨54,zw.sp F⟩],N:=17,H:=zq.h,HL:=zq.hl,L:=mkL zq.hl [⟨2,fun x R K=>zq.L2 F R K F x⟩]}
theorem zq.ok (m:Int) (F:Nat):OKP m 56 zq.sg (zq.sp F) :=
 okp (zq.X m F) Go.Proofs.Tryz.func56 ⟨zw.ok m F,trivial⟩ trivial 1 0 (yh (FX.loopk 2 F (zq.L2 F)) zm) zm
def zn.te:TEs:=[kL 1,kL 2,(3,kB),(4,.c (.int .u64)),(5,kI),(6,.c (.int .u64)),(7,.c (.int .u64)),(8,kI),(11,kB),(13,kB),(20,kB),(23,kB)]
def zn.tb:TEs:=[(1,.a .u64),(2,.g zg)]
def zn.h:SH:=shN zn.te zn.tb [] [(0,3,3,0),(1,11,3,0),(2,267,3,0),(3,11,3,0),(4,27,3,0),(5,539,3,0),(6,27,3,0),(7,1051,3,0),(8,6,2,0),(9,35,3,0),(10,99,3,0),(11,227,3,0),(12,2275,3,0),(13,227,3,0),(14,227,3,0),(15,227,3,0),(16,6,2,0)]
def zn.hl:SH:=shN zn.te zn.tb [] [(5,27,3,0),(12,227,3,0)]
def zn.hj:Nat->Option Shape:=shO zn.te zn.tb [] [(4,11,3,0)]
def zn.L5 (F:Nat) (R:Type) (K:KK R) (n:Nat) (x:(Unit×Unit×Int×Int×Unit)×((List Int)×zg.T×Unit)×(Unit)):Option R :=
 zn.l5 F (fun r3 r2=>K .ret (xa (zn.h 8) (((),r3,()),(r2,()),()))) (fun top i t13 l r2=>K (.exit 0) (xa (zn.h 5) (((),(),top,i,t13,()),(l,r2,()),()))) n x.1.2.2.1 x.1.2.2.2.1 x.2.1.1 x.2.1.2.1
def zn.L12 (F:Nat) (R:Type) (K:KK R) (n:Nat) (x:(Unit×Unit×Int×Int×Int×Unit)×((List Int)×zg.T×Unit)×(Unit)):Option R :=
 zn.l12 F (fun lo hi i t23 l r2=>K (.exit 2) (xa (zn.h 12) (((),(),lo,hi,i,t23,()),(l,r2,()),()))) n x.1.2.2.1 x.1.2.2.2.1 x.1.2.2.2.2.1 x.2.1.1 x.2.1.2.1
def zn.J4 (F:Nat) (x:(Unit×Unit×Int×Unit)×((List Int)×zg.T×Unit)×(Unit)) (R:Type) (K:KK R):Option R :=
 zn.j4 F (fun r3 r2=>K .ret (xa (zn.h 8) (((),r3,()),(r2,()),()))) (fun r3 r2=>K .ret (xa (zn.h 16) (((),r3,()),(r2,()),()))) x.1.2.2.1 x.2.1.1 x.2.1.2.1
def zn.X (m:Int) (F:Nat):FX TI (G m) Sg:={hn:={na:=1},N:=43,H:=zn.h,HL:=zn.hl,HJ:=zn.hj,L:=mkL zn.hl [⟨5,fun x R K=>zn.L5 F R K F x⟩,⟨12,fun x R K=>zn.L12 F R K F x⟩],J:=mkJ zn.hj [⟨4,zn.J4 F⟩]}
theorem zn.ok (m:Int) (F:Nat):OKP m 177 zn.sg (zn.sp F) :=
 okp (zn.X m F) Go.Proofs.Tryz.func177 trivial trivial 2 1 (yh (FX.loopk 12 F (zn.L12 F)) (yh (FX.loopk 5 F (zn.L5 F)) zm)) (yh (FX.cutk 4) zm)
def zR.te:TEs:=[kL 1,kL 2,(3,kI),kL 4,(5,kB),(12,kB)]
def zR.tb:TEs:=[(1,.a .u64),(2,.g zg),(4,.g zg)]
def zR.h:SH:=shN zR.te zR.tb [] [(0,3,3,0),(1,26,6,0),(2,42,6,0),(3,6,2,0),(4,6,2,0)]
def zR.X (m:Int) (F:Nat):FX TI (G m) Sg:={hn:={na:=1},lv:=[⟨177,zn.sp F⟩],N:=15,H:=zR.h}
theorem zR.ok (m:Int) (F:Nat):OKP m 143 zR.sg (zR.sp F) :=
 okp (zR.X m F) Go.Proofs.Tryz.func143 ⟨zn.ok m F,trivial⟩ trivial 0 0 zm zm
def yZ.te:TEs:=[kL 1,kL 2,(3,kI)]
def yZ.tb:TEs:=[(1,.g zg),(2,.g zg)]
def yZ.h:SH:=shN yZ.te yZ.tb [] [(0,3,3,0),(1,6,2,0)]
def yZ.X (m:Int) (F:Nat):FX TI (G m) Sg:={hn:={na:=1},lv:=[⟨55,zk.sp F⟩,⟨56,zq.sp F⟩,⟨143,zR.sp F⟩],N:=10,H:=yZ.h}
theorem yZ.ok (m:Int) (F:Nat):OKP m 96 yZ.sg (yZ.sp F) :=
 okp (yZ.X m F) Go.Proofs.Tryz.func96 ⟨zk.ok m F,zq.ok m F,zR.ok m F,trivial⟩ trivial 0 0 zm zm
def yD.te:TEs:=[kL 1,kL 2,(3,kI),(6,kB)]
def yD.tb:TEs:=[(1,.g zg),(2,.g zg)]
def yD.h:SH:=shN yD.te yD.tb [] [(0,3,3,0),(1,11,3,0),(2,6,2,0),(3,6,2,0)]
def yD.X (m:Int) (F:Nat):FX TI (G m) Sg:={hn:={na:=1},lv:=[⟨96,yZ.sp F⟩],N:=12,H:=yD.h}
theorem yD.ok (m:Int) (F:Nat):OKP m 52 yD.sg (yD.sp F) :=
 okp (yD.X m F) Go.Proofs.Tryz.func52 ⟨yZ.ok m F,trivial⟩ trivial 0 0 zm zm
def xc.te:TEs:=[(0,kI),kL 2,kL 3,(8,kB)]
def xc.tb:TEs:=[(2,.g zg),(3,.g zg)]
def xc.h:SH:=shN xc.te xc.tb [] [(0,3,1,0),(1,7,3,0),(2,14,3,0),(3,6,3,0),(4,2,1,0)]
def xc.X (m:Int) (F:Nat):FX TI (G m) Sg:={hn:={na:=1},N:=11,H:=xc.h}
theorem xc.ok (m:Int) (F:Nat):OKP m 98 xc.sg (xc.sp F) :=
 okp (xc.X m F) Go.Proofs.Tryz.func98 trivial trivial 0 0 zm zm
def yk.te:TEs:=[kL 1,(2,kB)]
def yk.tb:TEs:=[(1,.a .u64)]
def yk.h:SH:=shN yk.te yk.tb [] [(0,1,1,0),(1,2,0,0)]
def yk.X (m:Int) (F:Nat):FX TI (G m) Sg:={hn:={na:=1},N:=6,H:=yk.h}
theorem yk.ok (m:Int) (F:Nat):OKP m 57 yk.sg (yk.sp F) :=
 okp (yk.X m F) Go.Proofs.Tryz.func57 trivial trivial 0 0 zm zm
def zx.te:TEs:=[kL 1,(2,.c (.int .u64)),(3,.c (.int .u64)),kL 4,(5,.c (.int .u64)),(6,.c (.int .u64)),(7,kI),(11,kB),(15,kB)]
def zx.tb:TEs:=[(1,.g zg),(4,.a .u64)]
def zx.h:SH:=shN zx.te zx.tb [] [(0,1,1,0),(1,8,2,0),(2,136,2,0),(3,8,2,0),(4,24,2,0),(5,56,2,0),(6,120,2,0),(7,376,2,0),(8,120,2,0),(9,120,2,0),(10,120,2,0),(11,6,0,0)]
def zx.hl:SH:=shN zx.te zx.tb [] [(7,120,2,0)]
def zx.hj:Nat->Option Shape:=shO zx.te zx.tb [] [(4,8,2,0)]
def zx.L7 (F:Nat) (R:Type) (K:KK R) (n:Nat) (x:(Unit×Int×Int×Int×Unit)×((List Int)×Unit)×(Unit)):Option R :=
 zx.l7 F (fun hi lo i t15 l=>K (.exit 0) (xa (zx.h 7) (((),hi,lo,i,t15,()),(l,()),()))) n x.1.2.1 x.1.2.2.1 x.1.2.2.2.1 x.2.1.1
def zx.J4 (F:Nat) (x:(Unit×Unit)×((List Int)×Unit)×(Unit)) (R:Type) (K:KK R):Option R :=
 zx.j4 F (fun r2 r3=>K .ret (xa (zx.h 11) ((r2,r3,()),(),()))) x.2.1.1
def zx.X (m:Int) (F:Nat):FX TI (G m) Sg:={hn:={na:=1},lv:=[⟨55,zk.sp F⟩,⟨57,yk.sp F⟩,⟨56,zq.sp F⟩],N:=33,H:=zx.h,HL:=zx.hl,HJ:=zx.hj,L:=mkL zx.hl [⟨7,fun x R K=>zx.L7 F R K F x⟩],J:=mkJ zx.hj [⟨4,zx.J4 F⟩]}
theorem zx.ok (m:Int) (F:Nat):OKP m 145 zx.sg (zx.sp F) :=
 okp (zx.X m F) Go.Proofs.Tryz.func145 ⟨zk.ok m F,yk.ok m F,zq.ok m F,trivial⟩ trivial 1 1 (yh (FX.loopk 7 F (zx.L7 F)) zm) (yh (FX.cutk 4) zm)
def zA.te:TEs:=[(0,.c (.int .u64)),(1,.c (.int .u64)),kL 4,kL 5,(6,kI),(8,kB)]
def zA.tb:TEs:=[(4,.a .u64),(5,.a .u64)]
def zA.h:SH:=shN zA.te zA.tb [] [(0,7,1,0),(1,15,3,0),(2,31,3,0),(3,63,3,0),(4,31,3,0),(5,31,3,0),(6,31,3,0),(7,4,1,0)]
def zA.hl:SH:=shN zA.te zA.tb [] [(3,31,3,0)]
def zA.L3 (F:Nat) (R:Type) (K:KK R) (n:Nat) (x:(Int×Int×Unit×Unit×Int×Unit)×((List Int)×(List Int)×Unit)×(Unit)):Option R :=
 zA.l3 F (fun hi lo i t8 r4 d=>K (.exit 0) (xa (zA.h 3) ((hi,lo,(),(),i,t8,()),(r4,d,()),()))) n x.1.1 x.1.2.1 x.1.2.2.2.2.1 x.2.1.1 x.2.1.2.1
def zA.X (m:Int) (F:Nat):FX TI (G m) Sg:={hn:={na:=2},N:=29,H:=zA.h,HL:=zA.hl,L:=mkL zA.hl [⟨3,fun x R K=>zA.L3 F R K F x⟩]}
theorem zA.ok (m:Int) (F:Nat):OKP m 144 zA.sg (zA.sp F) :=
 okp (zA.X m F) Go.Proofs.Tryz.func144 trivial trivial 1 0 (yh (FX.loopk 3 F (zA.L3 F)) zm) zm
def zB.te:TEs:=[(0,kB),(1,.c (.int .u64)),(2,.c (.int .u64)),kL 6,(7,kI),kL 8,(9,kI),(11,kB),(31,kB)]
def zB.tb:TEs:=[(6,.g zg),(8,.a .u64)]
def zB.h:SH:=shN zB.te zB.tb [] [(0,15,1,0),(1,47,3,0),(2,111,3,0),(3,239,3,0),(4,111,3,0),(5,111,3,0),(6,111,3,0),(7,296,3,0),(8,40,3,0),(9,24,1,0)]
def zB.hl:SH:=shN zB.te zB.tb [] [(3,111,3,0)]
def zB.L3 (F:Nat) (R:Type) (K:KK R) (n:Nat) (x:(Bool×Int×Int×Unit×Unit×Int×Unit)×(zg.T×(List Int)×Unit)×(Unit)):Option R :=
 zB.l3 F (fun below hi lo i t11 r6 l=>K (.exit 0) (xa (zB.h 3) ((below,hi,lo,(),(),i,t11,()),(r6,l,()),()))) n x.1.1 x.1.2.1 x.1.2.2.1 x.1.2.2.2.2.2.1 x.2.1.1 x.2.1.2.1
def zB.X (m:Int) (F:Nat):FX TI (G m) Sg:={hn:={na:=3},lv:=[⟨56,zq.sp F⟩,⟨143,zR.sp F⟩],N:=38,H:=zB.h,HL:=zB.hl,L:=mkL zB.hl [⟨3,fun x R K=>zB.L3 F R K F x⟩]}
theorem zB.ok (m:Int) (F:Nat):OKP m 146 zB.sg (zB.sp F) :=
 okp (zB.X m F) Go.Proofs.Tryz.func146 ⟨zq.ok m F,zR.ok m F,trivial⟩ trivial 1 0 (yh (FX.loopk 3 F (zB.L3 F)) zm) zm
def zf.te:TEs:=[kL 2,kL 3,kL 4,(5,kI),kL 6,kL 7,kL 8,(9,kI),(10,.c (.int .u64)),(11,kI),(12,kI),(13,.c (.int .u64)),(14,.c (.int .u64)),(15,kI),(27,kB),(31,kB),(62,kB),(68,kB),(71,kB)]
def zf.tb:TEs:=[(2,.g zg),(3,.g zg),(4,.g zg),(6,.a .u64),(7,.a .u64),(8,.a .u64)]
def zf.h:SH:=shN zf.te zf.tb [] [(0,7,7,0),(1,23,15,0),(2,55,31,0),(3,119,63,0),(4,247,63,0),(5,16631,63,0),(6,247,63,0),(7,503,63,0),(8,1015,63,0),(9,33783,63,0),(10,1015,63,0),(11,1015,63,0),(12,1015,63,0),(13,1015,63,0),(14,247,63,0),(15,1095,39,0),(16,66631,39,0),(17,1095,39,0),(18,132167,39,0),(19,12,4,0),(20,2119,39,0),(21,6215,39,0),(22,14407,39,0),(23,276551,39,0),(24,14407,39,0),(25,14407,39,0),(26,14407,39,0),(27,12,4,0)]
def zf.hl:SH:=shN zf.te zf.tb [] [(5,247,63,0),(9,1015,63,0),(16,1095,39,0),(23,14407,39,0)]
def zf.L9 (F:Nat) (R:Type) (K:KK R) (n:Nat) (x:(Unit×Unit×Unit×Unit×Unit×Unit×Int×Int×Int×Unit)×(zg.T×zg.T×zg.T×(List Int)×(List Int)×(List Int)×Unit)×(Unit)):Option R :=
 zf.l9 F (fun i c j t31 a b r4 x y p=>K (.exit 2) (xa (zf.h 9) (((),(),(),(),(),(),i,c,j,t31,()),(a,b,r4,x,y,p,()),()))) n x.1.2.2.2.2.2.2.1 x.1.2.2.2.2.2.2.2.1 x.1.2.2.2.2.2.2.2.2.1 x.2.1.1 x.2.1.2.1 x.2.1.2.2.1 x.2.1.2.2.2.1 x.2.1.2.2.2.2.1 x.2.1.2.2.2.2.2.1
def zf.L5 (F:Nat) (R:Type) (K:KK R) (n:Nat) (x:(Unit×Unit×Unit×Unit×Unit×Unit×Int×Unit)×(zg.T×zg.T×zg.T×(List Int)×(List Int)×(List Int)×Unit)×(Unit)):Option R :=
 zf.l5 F (fun i t27 a b r4 x y p=>K (.exit 0) (xa (zf.h 5) (((),(),(),(),(),(),i,t27,()),(a,b,r4,x,y,p,()),()))) n x.1.2.2.2.2.2.2.1 x.2.1.1 x.2.1.2.1 x.2.1.2.2.1 x.2.1.2.2.2.1 x.2.1.2.2.2.2.1 x.2.1.2.2.2.2.2.1
def zf.L16 (F:Nat) (R:Type) (K:KK R) (n:Nat) (x:(Unit×Unit×Unit×Unit×Int×Unit)×(zg.T×zg.T×zg.T×(List Int)×Unit)×(Unit)):Option R :=
 zf.l16 F (fun r5 r4=>K .ret (xa (zf.h 19) (((),r5,()),(r4,()),()))) (fun i t62 a b r4 p=>K (.exit 4) (xa (zf.h 16) (((),(),(),(),i,t62,()),(a,b,r4,p,()),()))) n x.1.2.2.2.2.1 x.2.1.1 x.2.1.2.1 x.2.1.2.2.1 x.2.1.2.2.2.1
def zf.L23 (F:Nat) (R:Type) (K:KK R) (n:Nat) (x:(Unit×Unit×Unit×Unit×Int×Int×Int×Unit)×(zg.T×zg.T×zg.T×(List Int)×Unit)×(Unit)):Option R :=
 zf.l23 F (fun hi lo i t71 a b r4 p=>K (.exit 6) (xa (zf.h 23) (((),(),(),(),hi,lo,i,t71,()),(a,b,r4,p,()),()))) n x.1.2.2.2.2.1 x.1.2.2.2.2.2.1 x.1.2.2.2.2.2.2.1 x.2.1.1 x.2.1.2.1 x.2.1.2.2.1 x.2.1.2.2.2.1
def zf.X (m:Int) (F:Nat):FX TI (G m) Sg:={hn:={na:=2},lv:=[⟨145,zx.sp F⟩,⟨144,zA.sp F⟩,⟨146,zB.sp F⟩],N:=99,H:=zf.h,HL:=zf.hl,L:=mkL zf.hl [⟨9,fun x R K=>zf.L9 F R K F x⟩,⟨5,fun x R K=>zf.L5 F R K F x⟩,⟨16,fun x R K=>zf.L16 F R K F x⟩,⟨23,fun x R K=>zf.L23 F R K F x⟩]}
theorem zf.ok (m:Int) (F:Nat):OKP m 97 zf.sg (zf.sp F) :=
 okp (zf.X m F) Go.Proofs.Tryz.func97 ⟨zx.ok m F,zA.ok m F,zB.ok m F,trivial⟩ trivial 4 0 (yh (FX.loopk 23 F (zf.L23 F)) (yh (FX.loopk 16 F (zf.L16 F)) (yh (FX.loopk 9 F (zf.L9 F)) (yh (FX.loopk 5 F (zf.L5 F)) zm)))) zm
def yA.te:TEs:=[(0,kI),(1,kI),(4,kI),(5,kI),(12,kB)]
def yA.h:SH:=shN yA.te [] [] [(0,3,0,0),(1,11,0,0),(2,24,0,0),(3,8,0,0),(4,4,0,0)]
def yA.X (m:Int) (F:Nat):FX TI (G m) Sg:={hn:={na:=2},N:=16,H:=yA.h}
theorem yA.ok (m:Int) (F:Nat):OKP m 99 yA.sg (yA.sp F) :=
 okp (yA.X m F) Go.Proofs.Tryz.func99 trivial trivial 0 0 zm zm
def yL.te:TEs:=[kL 2,kL 3,kL 4,(5,kI)]
def yL.tb:TEs:=[(2,.g zg),(3,.g zg),(4,.g zg)]
def yL.h:SH:=shN yL.te yL.tb [] [(0,7,7,0),(1,12,4,0)]
def yL.X (m:Int) (F:Nat):FX TI (G m) Sg:={hn:={na:=2},lv:=[⟨55,zk.sp F⟩,⟨54,zw.sp F⟩,⟨143,zR.sp F⟩],N:=14,H:=yL.h}
theorem yL.ok (m:Int) (F:Nat):OKP m 100 yL.sg (yL.sp F) :=
 okp (yL.X m F) Go.Proofs.Tryz.func100 ⟨zk.ok m F,zw.ok m F,zR.ok m F,trivial⟩ trivial 0 0 zm zm
def yg.te:TEs:=[(1,kI),(2,kI),kL 3,kL 6,(7,kI),kL 8,(9,kI),kL 10,(11,kI),kL 12,(16,kB),(41,kB),(51,kB)]
def yg.tb:TEs:=[(3,.g zo),(6,.g zg),(8,.g zg),(10,.g zg),(12,.g zg)]
def yg.h:SH:=shN yg.te yg.tb [] [(0,15,3,0),(1,1039,3,0),(2,24,2,0),(3,111,7,0),(4,492,15,0),(5,2220,15,0),(6,24,2,0),(7,712,26,0),(8,4744,26,0),(9,24,2,0),(10,24,2,0)]
def yg.X (m:Int) (F:Nat):FX TI (G m) Sg:={hn:={na:=3},lv:=[⟨51,yB.sp F⟩,⟨98,xc.sp F⟩,⟨97,zf.sp F⟩,⟨99,yA.sp F⟩,⟨100,yL.sp F⟩],N:=58,H:=yg.h}
theorem yg.ok (m:Int) (F:Nat):OKP m 53 yg.sg (yg.sp F) :=
 okp (yg.X m F) Go.Proofs.Tryz.func53 ⟨yB.ok m F,xc.ok m F,zf.ok m F,yA.ok m F,yL.ok m F,trivial⟩ trivial 0 0 zm zm
def yH.te:TEs:=[(1,kI),kL 2,kL 4,(5,kI),kL 6,(7,kI),kL 8,(9,kI),kL 10,(11,kI),(14,kB),(43,kB)]
def yH.tb:TEs:=[(2,.g zo),(4,.g zg),(6,.g zg),(8,.g zg),(10,.g zg)]
def yH.h:SH:=shN yH.te yH.tb [] [(0,7,3,0),(1,1031,3,0),(2,12,2,0),(3,55,7,0),(4,247,15,0),(5,1013,30,0),(6,2389,30,0),(7,12,2,0),(8,12,2,0)]
def yH.X (m:Int) (F:Nat):FX TI (G m) Sg:={hn:={na:=2},lv:=[⟨51,yB.sp F⟩,⟨52,yD.sp F⟩,⟨53,yg.sp F⟩],N:=53,H:=yH.h}
theorem yH.ok (m:Int) (F:Nat):OKP m 29 yH.sg (yH.sp F) :=
 okp (yH.X m F) Go.Proofs.Tryz.func29 ⟨yB.ok m F,yD.ok m F,yg.ok m F,trivial⟩ trivial 0 0 zm zm
def yw.te:TEs:=[kL 2,kL 3,(4,kI),kL 5,(13,kB),(16,kB)]
def yw.tb:TEs:=[(2,.g zg),(3,.g zg),(5,.a .u64)]
def yw.h:SH:=shN yw.te yw.tb [] [(0,3,3,0),(1,8,4,0),(2,24,4,0),(3,4,0,0),(4,32,0,0),(5,4,0,0),(6,4,0,0)]
def yw.X (m:Int) (F:Nat):FX TI (G m) Sg:={hn:={na:=2},lv:=[⟨55,zk.sp F⟩,⟨56,zq.sp F⟩,⟨54,zw.sp F⟩,⟨57,yk.sp F⟩],N:=17,H:=yw.h}
theorem yw.ok (m:Int) (F:Nat):OKP m 30 yw.sg (yw.sp F) :=
 okp (yw.X m F) Go.Proofs.Tryz.func30 ⟨zk.ok m F,zq.ok m F,zw.ok m F,yk.ok m F,trivial⟩ trivial 0 0 zm zm
def yG.te:TEs:=[(1,kI),kL 2,(4,kB),kL 5,(6,kI)]
def yG.tb:TEs:=[(2,.g zo),(5,.g zg)]
def yG.h:SH:=shN yG.te yG.tb [] [(0,3,1,0),(1,24,2,0),(2,4,0,0)]
def yG.X (m:Int) (F:Nat):FX TI (G m) Sg:={hn:={na:=2},lv:=[⟨29,yH.sp F⟩,⟨30,yw.sp F⟩],N:=21,H:=yG.h}
theorem yG.ok (m:Int) (F:Nat):OKP m 16 yG.sg (yG.sp F) :=
 okp (yG.X m F) Go.Proofs.Tryz.func16 ⟨yH.ok m F,yw.ok m F,trivial⟩ trivial 0 0 zm zm
def zD.te:TEs:=[(0,.b zj),(1,kI),(4,kI),(5,kI),(20,kB)]
def zD.h:SH:=shN zD.te [] [] [(0,3,0,0),(1,11,0,0),(2,27,0,0),(3,11,0,0),(4,4,0,0)]
def zD.hl:SH:=shN zD.te [] [] [(2,11,0,0)]
def zD.L2 (F:Nat) (R:Type) (K:KK R) (n:Nat) (x:((List zj.T)×Int×Int×Unit)×(Unit)×(Unit)):Option R :=
 zD.l2 F (fun l q i t20=>K (.exit 0) (xa (zD.h 2) ((l,q,i,t20,()),(),()))) n x.1.1 x.1.2.1 x.1.2.2.1
def zD.X (m:Int) (F:Nat):FX TI (G m) Sg:={hn:={na:=2},N:=24,H:=zD.h,HL:=zD.hl,L:=mkL zD.hl [⟨2,fun x R K=>zD.L2 F R K F x⟩]}
theorem zD.ok (m:Int) (F:Nat):OKP m 101 zD.sg (zD.sp F) :=
 okp (zD.X m F) Go.Proofs.Tryz.func101 trivial trivial 1 0 (yh (FX.loopk 2 F (zD.L2 F)) zm) zm
def yY.te:TEs:=[(1,kI),kL 2,kL 4,(5,kI),(16,kB)]
def yY.tb:TEs:=[(2,.g zN),(4,.g zg)]
def yY.h:SH:=shN yY.te yY.tb [] [(0,7,3,0),(1,23,3,0),(2,12,2,0),(3,12,2,0)]
def yY.X (m:Int) (F:Nat):FX TI (G m) Sg:={hn:={na:=2},lv:=[⟨15,zl.sp F⟩,⟨101,zD.sp F⟩,⟨53,yg.sp F⟩],N:=33,H:=yY.h}
theorem yY.ok (m:Int) (F:Nat):OKP m 58 yY.sg (yY.sp F) :=
 okp (yY.X m F) Go.Proofs.Tryz.func58 ⟨zl.ok m F,zD.ok m F,yg.ok m F,trivial⟩ trivial 0 0 zm zm
def yp.te:TEs:=[(1,kI),kL 2,(4,kB),kL 5,kL 7]
def yp.tb:TEs:=[(2,.g zN),(5,.g zg),(7,.g zg)]
def yp.h:SH:=shN yp.te yp.tb [] [(0,3,1,0),(1,11,3,0),(2,24,6,0),(3,4,0,0)]
def yp.X (m:Int) (F:Nat):FX TI (G m) Sg:={hn:={na:=2},lv:=[⟨58,yY.sp F⟩,⟨30,yw.sp F⟩],N:=26,H:=yp.h}
theorem yp.ok (m:Int) (F:Nat):OKP m 31 yp.sg (yp.sp F) :=
 okp (yp.X m F) Go.Proofs.Tryz.func31 ⟨yY.ok m F,yw.ok m F,trivial⟩ trivial 0 0 zm zm
def zb.te:TEs:=[kL 1,(2,kB),(3,kI),(4,kI),(5,kI),(6,kI),(7,kI),(8,kI),(13,kB),(27,kB),(38,kB),(48,kB),(53,kB),(67,kB),(82,kB)]
def zb.tb:TEs:=[(1,.g zN)]
def zb.h:SH:=shN zb.te zb.tb [] [(0,1,1,0),(1,5,1,0),(2,261,1,0),(3,5,1,0),(4,13,1,0),(5,29,1,0),(6,541,1,0),(7,29,1,0),(8,1053,1,0),(9,2,0,0),(10,61,1,0),(11,2109,1,0),(12,61,1,0),(13,4157,1,0),(14,2,0,0),(15,93,1,0),(16,221,1,0),(17,8413,1,0),(18,221,1,0),(19,16605,1,0),(20,2,0,0),(21,2,0,0)]
def zb.hl:SH:=shN zb.te zb.tb [] [(2,5,1,0),(11,61,1,0),(17,221,1,0)]
def zb.hj:Nat->Option Shape:=shO zb.te zb.tb [] [(10,29,1,0)]
def zb.L11 (F:Nat) (R:Type) (K:KK R) (n:Nat) (x:(Unit×Int×Int×Int×Int×Unit)×(zN.T×Unit)×(Unit)):Option R :=
 zb.l11 F (fun r2=>K .ret (xa (zb.h 14) ((r2,()),(),()))) (fun i lo hi q t48 t=>K (.exit 2) (xa (zb.h 11) (((),i,lo,hi,q,t48,()),(t,()),()))) n x.1.2.1 x.1.2.2.1 x.1.2.2.2.1 x.1.2.2.2.2.1 x.2.1.1
def zb.L17 (F:Nat) (R:Type) (K:KK R) (n:Nat) (x:(Unit×Int×Int×Int×Int×Int×Unit)×(zN.T×Unit)×(Unit)):Option R :=
 zb.l17 F (fun r2=>K .ret (xa (zb.h 20) ((r2,()),(),()))) (fun i lo hi edge q t67 t=>K (.exit 4) (xa (zb.h 17) (((),i,lo,hi,edge,q,t67,()),(t,()),()))) n x.1.2.1 x.1.2.2.1 x.1.2.2.2.1 x.1.2.2.2.2.1 x.1.2.2.2.2.2.1 x.2.1.1
def zb.J10 (F:Nat) (x:(Unit×Int×Int×Int×Unit)×(zN.T×Unit)×(Unit)) (R:Type) (K:KK R):Option R :=
 zb.j10 F (fun r2=>K .ret (xa (zb.h 14) ((r2,()),(),()))) (fun r2=>K .ret (xa (zb.h 20) ((r2,()),(),()))) (fun i lo hi edge q t67 t=>K .normal (xa (zb.h 17) (((),i,lo,hi,edge,q,t67,()),(t,()),()))) x.1.2.1 x.1.2.2.1 x.1.2.2.2.1 x.2.1.1
def zb.L2 (F:Nat) (R:Type) (K:KK R) (n:Nat) (x:(Unit×Int×Unit)×(zN.T×Unit)×(Unit)):Option R :=
 zb.l2 F (fun r2=>K .ret (xa (zb.h 9) ((r2,()),(),()))) (fun r2=>K .ret (xa (zb.h 14) ((r2,()),(),()))) (fun r2=>K .ret (xa (zb.h 20) ((r2,()),(),()))) (fun i t13 t=>K (.exit 0) (xa (zb.h 2) (((),i,t13,()),(t,()),()))) n x.1.2.1 x.2.1.1
def zb.X (m:Int) (F:Nat):FX TI (G m) Sg:={hn:={na:=1},lv:=[⟨31,yp.sp F⟩],N:=83,H:=zb.h,HL:=zb.hl,HJ:=zb.hj,L:=mkL zb.hl [⟨11,fun x R K=>zb.L11 F R K F x⟩,⟨17,fun x R K=>zb.L17 F R K F x⟩,⟨2,fun x R K=>zb.L2 F R K F x⟩],J:=mkJ zb.hj [⟨10,zb.J10 F⟩]}
theorem zb.ok (m:Int) (F:Nat):OKP m 17 zb.sg (zb.sp F) :=
 okp (zb.X m F) Go.Proofs.Tryz.func17 ⟨yp.ok m F,trivial⟩ trivial 3 1 (yh (FX.loopk 17 F (zb.L17 F)) (yh (FX.loopk 11 F (zb.L11 F)) (yh (FX.loopk 2 F (zb.L2 F)) zm))) (yh (FX.cutk 10) zm)
def zv.te:TEs:=[kL 1,(2,kI),(3,kI),(4,kI),(7,kB),(12,kB),(23,kB),(25,kB)]
def zv.tb:TEs:=[(1,.g zN)]
def zv.h:SH:=shN zv.te zv.tb [] [(0,1,1,0),(1,17,1,0),(2,6,0,0),(3,9,1,0),(4,41,1,0),(5,9,1,0),(6,73,1,0),(7,6,0,0),(8,128,0,0),(9,6,0,0),(10,6,0,0)]
def zv.hl:SH:=shN zv.te zv.tb [] [(4,9,1,0)]
def zv.L4 (F:Nat) (R:Type) (K:KK R) (n:Nat) (x:(Unit×Int×Unit)×(zN.T×Unit)×(Unit)):Option R :=
 zv.l4 F (fun r2 r3=>K .ret (xa (zv.h 7) ((r2,r3,()),(),()))) (fun i t12 t=>K (.exit 0) (xa (zv.h 4) (((),i,t12,()),(t,()),()))) n x.1.2.1 x.2.1.1
def zv.X (m:Int) (F:Nat):FX TI (G m) Sg:={hn:={na:=1},lv:=[⟨15,zl.sp F⟩,⟨16,yG.sp F⟩,⟨17,zb.sp F⟩],N:=26,H:=zv.h,HL:=zv.hl,L:=mkL zv.hl [⟨4,fun x R K=>zv.L4 F R K F x⟩]}
theorem zv.ok (m:Int) (F:Nat):OKP m 6 zv.sg (zv.sp F) :=
 okp (zv.X m F) Go.Proofs.Tryz.func6 ⟨zl.ok m F,yG.ok m F,zb.ok m F,trivial⟩ trivial 1 0 (yh (FX.loopk 4 F (zv.L4 F)) zm) zm
def zE.te:TEs:=[kL 1,(2,kB),kL 3,(4,kI),(5,kI),(6,kI),kL 7,(8,kI),kL 9,(10,kI),(12,kB),(31,kB),(33,kB),(64,kB)]
def zE.tb:TEs:=[(1,.g zN),(3,.g xG),(7,.g zg),(9,.g zg)]
def zE.h:SH:=shN zE.te zE.tb [] [(0,1,1,0),(1,1025,1,0),(2,2,0,0),(3,13,3,0),(4,61,3,0),(5,2069,3,0),(6,2,0,0),(7,4101,3,0),(8,2,0,0),(9,8197,3,0),(10,2,0,0),(11,197,7,0),(12,960,12,0),(13,2,0,0)]
def zE.X (m:Int) (F:Nat):FX TI (G m) Sg:={hn:={na:=1},lv:=[⟨4,yx.sp F⟩,⟨5,zi.sp F⟩,⟨6,zv.sp F⟩,⟨7,yC.sp F⟩,⟨8,xF.sp F⟩],N:=95,H:=zE.h}
theorem zE.ok (m:Int) (F:Nat):OKP m 3 zE.sg (zE.sp F) :=
 okp (zE.X m F) Go.Proofs.Tryz.func3 ⟨yx.ok m F,zi.ok m F,zv.ok m F,yC.ok m F,xF.ok m F,trivial⟩ trivial 0 0 zm zm
end Go.VS
