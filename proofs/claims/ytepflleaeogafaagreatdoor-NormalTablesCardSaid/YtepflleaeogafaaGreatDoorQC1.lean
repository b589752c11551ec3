import Derived.Test.YtepflleaeogafaaGreatDoorQT
set_option linter.unusedVariables false
set_option linter.unusedSimpArgs false
set_option linter.unusedSectionVars false
set_option linter.unusedVariables false
set_option maxRecDepth 100000
namespace Go.VS
open Go
def wQ.te:TEs:=[(0,.c (.sl zx)),kL 2]
def wQ.tb:TEs:=[(2,.g yr)]
def wQ.h:SH:=shN wQ.te wQ.tb [] [(0,3,1,0),(1,2,1,0)]
def wQ.X (m:Int) (F:Nat):FX TI (G m) Sg:={hn:={na:=1},N:=7,H:=wQ.h}
theorem wQ.ok (m:Int) (F:Nat):OKP m 20 wQ.sg (wQ.sp F) :=
 okp (wQ.X m F) Go.Proofs.Tryz.func20 trivial trivial 0 0 zp zp
def wW.te:TEs:=[(0,.c (.int .u8)),(2,kB)]
def wW.h:SH:=shN wW.te [] [] [(0,1,0,0),(1,2,0,0)]
def wW.X (m:Int) (F:Nat):FX TI (G m) Sg:={hn:={na:=1},N:=9,H:=wW.h}
theorem wW.ok (m:Int) (F:Nat):OKP m 182 wW.sg (wW.sp F) :=
 okp (wW.X m F) Go.Proofs.Tryz.func182 trivial trivial 0 0 zp zp
def vZ.te:TEs:=[(0,.c (.int .u8)),(2,kB)]
def vZ.h:SH:=shN vZ.te [] [] [(0,1,0,0),(1,2,0,0)]
def vZ.X (m:Int) (F:Nat):FX TI (G m) Sg:={hn:={na:=1},N:=9,H:=vZ.h}
theorem vZ.ok (m:Int) (F:Nat):OKP m 204 vZ.sg (vZ.sp F) :=
 okp (vZ.X m F) Go.Proofs.Tryz.func204 trivial trivial 0 0 zp zp
def vL.te:TEs:=[(0,.c (.int .u8)),(2,kB)]
def vL.h:SH:=shN vL.te [] [] [(0,1,0,0),(1,2,0,0)]
def vL.X (m:Int) (F:Nat):FX TI (G m) Sg:={hn:={na:=1},lv:=[⟨182,wW.sp F⟩,⟨204,vZ.sp F⟩],N:=13,H:=vL.h}
theorem vL.ok (m:Int) (F:Nat):OKP m 184 vL.sg (vL.sp F) :=
 okp (vL.X m F) Go.Proofs.Tryz.func184 ⟨wW.ok m F,vZ.ok m F,trivial⟩ trivial 0 0 zp zp
def xA.te:TEs:=[(0,.c .str),(1,.c .fn),(4,kI),(5,kI),(16,kB)]
def xA.h:SH:=shN xA.te [] [] [(0,3,0,0),(1,11,0,0),(2,27,0,0),(3,11,0,0),(4,4,0,0)]
def xA.hl:SH:=shN xA.te [] [] [(2,11,0,0)]
def xA.L2 (F:Nat) (R:Type) (K:KK R) (n:Nat) (x:(ByteArray×Nat×Int×Unit)×(Unit)×(Unit)):Option R :=
 xA.l2 F (fun s of n t16=>K (.exit 0) (xl (xA.h 2) ((s,of,n,t16,()),(),()))) n x.1.1 x.1.2.1 x.1.2.2.1
def xA.X (m:Int) (F:Nat):FX TI (G m) Sg:={hn:={DS:=fun d=>lk none d [(15,some xA.ds15)],na:=2},ld:=[⟨15,xA.d15 F⟩],N:=20,H:=xA.h,HL:=xA.hl,L:=mkL xA.hl [⟨2,fun x R K=>xA.L2 F R K F x⟩]}
theorem xA.ok (m:Int) (F:Nat):OKP m 183 xA.sg (xA.sp F) :=
 okp (xA.X m F) Go.Proofs.Tryz.func183 trivial ⟨ZS ⟨⟨184,by kernel_rfl,vL.ok m F⟩,⟨182,by kernel_rfl,wW.ok m F⟩,trivial⟩,trivial⟩ 1 0 (yB (FX.loopk 2 F (xA.L2 F)) zp) zp
theorem wM.ok (m:Int) (F:Nat):OK Go.Proofs.Tryz.prog (G m) 205 wM.sg (wM.sp F):=wM.ok' F Go.Proofs.Tryz.func205 (by kernel_rfl) (g:=3) (by kernel_rfl) (fun s sub w h1 h2=>Go.Proofs.Tryz.strings_Contains s sub m w h1 h2)
def ux.te:TEs:=[(0,.c .str),(2,kB)]
def ux.h:SH:=shN ux.te [] [] [(0,1,0,0),(1,2,0,0)]
def ux.X (m:Int) (F:Nat):FX TI (G m) Sg:={hn:={na:=1},lv:=[⟨183,xA.sp F⟩,⟨205,wM.sp F⟩],N:=18,H:=ux.h}
theorem ux.ok (m:Int) (F:Nat):OKP m 185 ux.sg (ux.sp F) :=
 okp (ux.X m F) Go.Proofs.Tryz.func185 ⟨xA.ok m F,wM.ok m F,trivial⟩ trivial 0 0 zp zp
def uf.te:TEs:=[(0,.c .str),(2,kB)]
def uf.h:SH:=shN uf.te [] [] [(0,1,0,0),(1,2,0,0)]
def uf.X (m:Int) (F:Nat):FX TI (G m) Sg:={hn:={na:=1},lv:=[⟨182,wW.sp F⟩,⟨183,xA.sp F⟩,⟨185,ux.sp F⟩],N:=27,H:=uf.h}
theorem uf.ok (m:Int) (F:Nat):OKP m 139 uf.sg (uf.sp F) :=
 okp (uf.X m F) Go.Proofs.Tryz.func139 ⟨wW.ok m F,xA.ok m F,ux.ok m F,trivial⟩ trivial 0 0 zp zp
def vr.te:TEs:=[(1,.p wV),kL 2,(3,kB)]
def vr.tb:TEs:=[(2,.g wV)]
def vr.h:SH:=shN vr.te vr.tb [] [(0,3,1,0),(1,4,0,0)]
def vr.X (m:Int) (F:Nat):FX TI (G m) Sg:={hn:={na:=2},N:=9,H:=vr.h}
theorem vr.ok (m:Int) (F:Nat):OKP m 140 vr.sg (vr.sp F) :=
 okp (vr.X m F) Go.Proofs.Tryz.func140 trivial trivial 0 0 zp zp
def zt.te:TEs:=[(0,.b wV),(1,.cl wV),(4,kI),(5,kI),(7,kI),(8,kI),(9,kB),(16,kB)]
def zt.h:SH:=shN zt.te [] [] [(0,3,0,0),(1,51,0,0),(2,115,0,0),(3,59,0,0),(4,187,0,0),(5,4,0,0),(6,51,0,0),(7,4,0,0)]
def zt.hl:SH:=shN zt.te [] [] [(2,51,0,0)]
def zt.L2 (F:Nat) (R:Type) (K:KK R) (n:Nat) (x:((List wV.T)×(Nat×wV.T)×Int×Int×Unit)×(Unit)×(Unit)):Option R :=
 zt.l2 F (fun r4=>K .ret (xl (zt.h 5) ((r4,()),(),()))) (fun s f t7 t8 t9=>K (.exit 0) (xl (zt.h 2) ((s,f,t7,t8,t9,()),(),()))) n x.1.1 x.1.2.1 x.1.2.2.1 x.1.2.2.2.1
def zt.X (m:Int) (F:Nat):FX TI (G m) Sg:={hn:={DS:=fun d=>lk none d [(16,some zt.ds16)],na:=2},ld:=[⟨16,zt.d16 F⟩],N:=19,H:=zt.h,HL:=zt.hl,L:=mkL zt.hl [⟨2,fun x R K=>zt.L2 F R K F x⟩]}
theorem zt.ok (m:Int) (F:Nat):OKP m 186 zt.sg (zt.sp F) :=
 okp (zt.X m F) Go.Proofs.Tryz.func186 trivial ⟨ZS ⟨⟨140,by kernel_rfl,vr.ok m F⟩,trivial⟩,trivial⟩ 1 0 (yB (FX.loopk 2 F (zt.L2 F)) zp) zp
def y4.te:TEs:=[(0,.b wV),(1,.cl wV),(4,kB)]
def y4.h:SH:=shN y4.te [] [] [(0,3,0,0),(1,4,0,0)]
def y4.X (m:Int) (F:Nat):FX TI (G m) Sg:={hn:={na:=2},lv:=[⟨186,zt.sp F⟩],N:=9,H:=y4.h}
theorem y4.ok (m:Int) (F:Nat):OKP m 141 y4.sg (y4.sp F) :=
 okp (y4.X m F) Go.Proofs.Tryz.func141 ⟨zt.ok m F,trivial⟩ trivial 0 0 zp zp
def xg.te:TEs:=[kL 1,(2,kI),(3,kI),kL 4,(4,.p wV),(5,.cl wV),(9,kB),(19,kB),(21,.c (.sl wV)),(22,kI),(23,kI),(24,kB),(40,kB),(48,kB),(57,kB)]
def xg.tb:TEs:=[(1,.g yr),(4,.g wV)]
def xg.h:SH:=shN xg.te xg.tb [] [(0,1,1,0),(1,65,1,0),(2,2,0,0),(3,129,1,0),(4,2,0,0),(5,1793,1,0),(6,3841,1,0),(7,1805,3,0),(8,1845,1,0),(9,5905,1,0),(10,2,0,0),(11,9985,1,0),(12,2,0,0),(13,1793,1,0),(14,16384,0,0),(15,2,0,0),(16,2,0,0)]
def xg.hl:SH:=shN xg.te xg.tb [] [(6,1793,1,0)]
def xg.L6 (F:Nat) (R:Type) (K:KK R) (n:Nat) (x:(Unit×(List wV.T)×Int×Int×Unit)×(yr.T×Unit)×(Unit)):Option R :=
 xg.l6 F (fun r2=>K .ret (xl (xg.h 10) ((r2,()),(),()))) (fun r2=>K .ret (xl (xg.h 12) ((r2,()),(),()))) (fun t21 t22 t23 t24 p=>K (.exit 0) (xl (xg.h 6) (((),t21,t22,t23,t24,()),(p,()),()))) n x.1.2.1 x.1.2.2.1 x.1.2.2.2.1 x.2.1.1
def xg.X (m:Int) (F:Nat):FX TI (G m) Sg:={hn:={CT:=fun d=>lk .unit d [(28,wV)],na:=1},lv:=[⟨139,uf.sp F⟩,⟨141,y4.sp F⟩],N:=58,H:=xg.h,HL:=xg.hl,L:=mkL xg.hl [⟨6,fun x R K=>xg.L6 F R K F x⟩]}
theorem xg.ok (m:Int) (F:Nat):OKP m 81 xg.sg (xg.sp F) :=
 okp (xg.X m F) Go.Proofs.Tryz.func81 ⟨uf.ok m F,y4.ok m F,trivial⟩ trivial 1 0 (yB (FX.loopk 6 F (xg.L6 F)) zp) zp
def wK.te:TEs:=[kL 1,(2,kI),(3,kI),(10,kB)]
def wK.tb:TEs:=[(1,.g zx)]
def wK.h:SH:=shN wK.te wK.tb [] [(0,1,1,0),(1,5,1,0),(2,13,1,0),(3,2,0,0),(4,2,0,0)]
def wK.X (m:Int) (F:Nat):FX TI (G m) Sg:={hn:={na:=1},N:=14,H:=wK.h}
theorem wK.ok (m:Int) (F:Nat):OKP m 45 wK.sg (wK.sp F) :=
 okp (wK.X m F) Go.Proofs.Tryz.func45 trivial trivial 0 0 zp zp
def yA.te:TEs:=[(0,.b yp),(2,kB),(3,kI),kL 4,(19,kB),(20,.b yp),(21,kI),(22,kI),(23,kB),(54,kB)]
def yA.tb:TEs:=[(4,.g yp)]
def yA.h:SH:=shN yA.te yA.tb [] [(0,1,0,0),(1,17,0,0),(2,2,0,0),(3,225,0,0),(4,481,0,0),(5,237,1,0),(6,737,0,0),(7,2,0,0),(8,225,0,0),(9,2,0,0)]
def yA.hl:SH:=shN yA.te yA.tb [] [(4,225,0,0)]
def yA.L4 (F:Nat) (R:Type) (K:KK R) (n:Nat) (x:((List yp.T)×(List yp.T)×Int×Int×Unit)×(Unit)×(Unit)):Option R :=
 yA.l4 F (fun r2=>K .ret (xl (yA.h 7) ((r2,()),(),()))) (fun tiers t20 t21 t22 t23=>K (.exit 0) (xl (yA.h 4) ((tiers,t20,t21,t22,t23,()),(),()))) n x.1.1 x.1.2.1 x.1.2.2.1 x.1.2.2.2.1
def yA.X (m:Int) (F:Nat):FX TI (G m) Sg:={hn:={na:=1},N:=56,H:=yA.h,HL:=yA.hl,L:=mkL yA.hl [⟨4,fun x R K=>yA.L4 F R K F x⟩]}
theorem yA.ok (m:Int) (F:Nat):OKP m 142 yA.sg (yA.sp F) :=
 okp (yA.X m F) Go.Proofs.Tryz.func142 trivial trivial 1 0 (yB (FX.loopk 4 F (yA.L4 F)) zp) zp
def yZ.te:TEs:=[(1,kI),(2,kI),kL 3,(6,kI),kL 7,(8,kI),(9,kB),(10,kB),(18,kB),(26,kB),(34,kB),(47,kB),(89,kB),(97,kB)]
def yZ.tb:TEs:=[(3,.g zx),(7,.g vg)]
def yZ.h:SH:=shN yZ.te yZ.tb [] [(0,7,1,0),(1,263,1,0),(2,8,0,0),(3,23,3,0),(4,55,3,0),(5,567,3,0),(6,54,3,0),(7,118,3,0),(8,1142,3,0),(9,118,3,0),(10,246,3,0),(11,2294,3,0),(12,246,3,0),(13,4116,3,0),(14,8,0,0),(15,8192,0,0),(16,8,0,0),(17,8,0,0)]
def yZ.hj:Nat->Option Shape:=shO yZ.te yZ.tb [] [(7,54,3,0),(10,118,3,0),(13,246,3,0)]
def yZ.J13 (F:Nat) (x:(Int×Unit×Unit×Int×Bool×Bool×Unit)×(zx.T×vg.T×Unit)×(Unit)) (R:Type) (K:KK R):Option R :=
 yZ.j13 F (fun r6=>K .ret (xl (yZ.h 14) ((r6,()),(),()))) (fun r6=>K .ret (xl (yZ.h 16) ((r6,()),(),()))) (fun r6=>K .ret (xl (yZ.h 17) ((r6,()),(),()))) x.1.1 x.1.2.2.2.1 x.1.2.2.2.2.1 x.1.2.2.2.2.2.1 x.2.1.1 x.2.1.2.1
def yZ.J10 (F:Nat) (x:(Int×Unit×Unit×Int×Bool×Unit)×(zx.T×vg.T×Unit)×(Unit)) (R:Type) (K:KK R):Option R :=
 yZ.j10 F (fun r6=>K .ret (xl (yZ.h 14) ((r6,()),(),()))) (fun r6=>K .ret (xl (yZ.h 16) ((r6,()),(),()))) (fun r6=>K .ret (xl (yZ.h 17) ((r6,()),(),()))) x.1.1 x.1.2.2.2.1 x.1.2.2.2.2.1 x.2.1.1 x.2.1.2.1
def yZ.J7 (F:Nat) (x:(Int×Unit×Unit×Int×Unit)×(zx.T×vg.T×Unit)×(Unit)) (R:Type) (K:KK R):Option R :=
 yZ.j7 F (fun r6=>K .ret (xl (yZ.h 14) ((r6,()),(),()))) (fun r6=>K .ret (xl (yZ.h 16) ((r6,()),(),()))) (fun r6=>K .ret (xl (yZ.h 17) ((r6,()),(),()))) x.1.1 x.1.2.2.2.1 x.2.1.1 x.2.1.2.1
def yZ.X (m:Int) (F:Nat):FX TI (G m) Sg:={hn:={na:=3},lv:=[⟨45,wK.sp F⟩,⟨142,yA.sp F⟩],N:=98,H:=yZ.h,HJ:=yZ.hj,J:=mkJ yZ.hj [⟨13,yZ.J13 F⟩,⟨10,yZ.J10 F⟩,⟨7,yZ.J7 F⟩]}
theorem yZ.ok (m:Int) (F:Nat):OKP m 82 yZ.sg (yZ.sp F) :=
 okp (yZ.X m F) Go.Proofs.Tryz.func82 ⟨wK.ok m F,yA.ok m F,trivial⟩ trivial 0 3 zp (yB (FX.cutk 13) (yB (FX.cutk 10) (yB (FX.cutk 7) zp)))
def yF.te:TEs:=[kL 1,(2,kI),(3,kI),(4,kI),(5,kI),(6,kI),kL 7,(8,kI),(12,kB),(17,kB),(19,.c (.sl zx)),(20,kI),(21,kI),(22,kB),(33,kB),(43,kB)]
def yF.tb:TEs:=[(1,.g yr),(7,.g zx)]
def yF.h:SH:=shN yF.te yF.tb [] [(0,1,1,0),(1,9,1,0),(2,265,1,0),(3,6,0,0),(4,513,1,0),(5,6,0,0),(6,17,1,0),(7,7185,1,0),(8,15377,1,0),(9,7281,3,0),(10,7409,3,0),(11,23793,3,0),(12,6,0,0),(13,7185,1,0),(14,7185,1,0),(15,32769,1,0),(16,6,0,0),(17,6,0,0)]
def yF.hl:SH:=shN yF.te yF.tb [] [(8,7185,1,0)]
def yF.L8 (F:Nat) (R:Type) (K:KK R) (n:Nat) (x:(Unit×Int×(List zx.T)×Int×Int×Unit)×(yr.T×Unit)×(Unit)):Option R :=
 yF.l8 F (fun r2 r3=>K .ret (xl (yF.h 12) ((r2,r3,()),(),()))) (fun pile t19 t20 t21 t22 p=>K (.exit 0) (xl (yF.h 8) (((),pile,t19,t20,t21,t22,()),(p,()),()))) n x.1.2.1 x.1.2.2.1 x.1.2.2.2.1 x.1.2.2.2.2.1 x.2.1.1
def yF.X (m:Int) (F:Nat):FX TI (G m) Sg:={hn:={na:=1},lv:=[⟨81,xg.sp F⟩,⟨82,yZ.sp F⟩,⟨45,wK.sp F⟩],N:=47,H:=yF.h,HL:=yF.hl,L:=mkL yF.hl [⟨8,fun x R K=>yF.L8 F R K F x⟩]}
theorem yF.ok (m:Int) (F:Nat):OKP m 44 yF.sg (yF.sp F) :=
 okp (yF.X m F) Go.Proofs.Tryz.func44 ⟨xg.ok m F,yZ.ok m F,wK.ok m F,trivial⟩ trivial 1 0 (yB (FX.loopk 8 F (yF.L8 F)) zp) zp
def yf.te:TEs:=[kL 1,(2,.c (.sl (.int .i64))),(3,.c (.sl (.int .i64))),(3,.ow 3),(4,.ow 4),(5,kI),kL 6,(7,kI),(8,kI),(10,.c (.sl zx)),(11,kI),(12,kI),(13,kB),(21,kB)]
def yf.tb:TEs:=[(1,.g yr),(6,.g zx)]
def yf.tp:List qF:=[⟨3,.env 3,(.int .i64)⟩,⟨4,.env 4,(.int .i64)⟩]
def yf.h:SH:=shN yf.te yf.tb yf.tp [(0,1,1,0),(1,25,1,3),(2,3608,0,3),(3,7704,0,3),(4,3704,2,3),(5,3800,2,3),(6,3992,0,3),(7,12184,0,3),(8,3992,0,3),(9,3736,0,3),(10,3736,0,3),(11,3608,0,3),(12,3608,0,3),(13,2,0,0)]
def yf.hl:SH:=shN yf.te yf.tb yf.tp [(3,3608,0,3)]
def yf.hj:Nat->Option Shape:=shO yf.te yf.tb yf.tp [(13,4,0,0)]
def yf.L3 (F:Nat) (R:Type) (K:KK R) (n:Nat) (x:(Unit×Unit×(List zx.T)×Int×Int×Unit)×(Unit)×((List Int)×(List Int)×Unit)):Option R :=
 yf.l3 F (fun t10 t11 t12 t13 list pile=>K (.exit 0) (xl (yf.h 3) (((),(),t10,t11,t12,t13,()),(),(list,pile,())))) n x.1.2.2.1 x.1.2.2.2.1 x.1.2.2.2.2.1 x.2.2.1 x.2.2.2.1
def yf.J13 (F:Nat) (x:((List Int)×Unit)×(Unit)×(Unit)) (R:Type) (K:KK R):Option R :=
 yf.j13 F (fun r2=>K .ret (xl (yf.h 13) ((r2,()),(),()))) x.1.1
def yf.X (m:Int) (F:Nat):FX TI (G m) Sg:={hn:={MU:=fun s=>lk false s [(38,true),(42,true)],na:=1,fzJ:=fun r=>lk [] r [(13,[3])]},lv:=[⟨45,wK.sp F⟩],N:=45,H:=yf.h,HL:=yf.hl,HJ:=yf.hj,L:=mkL yf.hl [⟨3,fun x R K=>yf.L3 F R K F x⟩],J:=mkJ yf.hj [⟨13,yf.J13 F⟩]}
theorem yf.ok (m:Int) (F:Nat):OKP m 179 yf.sg (yf.sp F) :=
 okp (yf.X m F) Go.Proofs.Tryz.func179 ⟨wK.ok m F,trivial⟩ trivial 1 1 (yB (FX.loopk 3 F (yf.L3 F)) zp) (yB (FX.cutk 13) zp)
def vA.te:TEs:=[kL 1,(2,.c (.sl (.int .i64))),(3,kI),(5,kI),(12,kB)]
def vA.tb:TEs:=[(1,.g yr)]
def vA.h:SH:=shN vA.te vA.tb [] [(0,1,1,0),(1,9,1,0),(2,25,1,0),(3,6,0,0),(4,6,0,0)]
def vA.X (m:Int) (F:Nat):FX TI (G m) Sg:={hn:={na:=1},lv:=[⟨44,yF.sp F⟩,⟨179,yf.sp F⟩],N:=16,H:=vA.h}
theorem vA.ok (m:Int) (F:Nat):OKP m 128 vA.sg (vA.sp F) :=
 okp (vA.X m F) Go.Proofs.Tryz.func128 ⟨yF.ok m F,yf.ok m F,trivial⟩ trivial 0 0 zp zp
def zV.te:TEs:=[kL 1,(2,.c (.sl .bool)),(3,kI),(4,.c (.sl (.int .i64))),(5,kI),(6,kI),(7,.c (.sl .bool)),(7,.ow 7),(8,kI),kL 9,(16,kB),(22,.c (.sl zx)),(23,kI),(24,kI),(25,kB),(36,kB)]
def zV.tb:TEs:=[(1,.g yr),(9,.g zx)]
def zV.tp:List qF:=[⟨7,.env 7,.bool⟩]
def zV.h:SH:=shN zV.te zV.tb zV.tp [(0,1,1,0),(1,25,1,0),(2,1049,1,0),(3,6,0,0),(4,41,1,0),(5,169,1,1),(6,14504,0,1),(7,30888,0,1),(8,15272,2,1),(9,47528,0,1),(10,14760,0,1),(11,14504,0,1),(12,14504,0,1),(13,6,0,0)]
def zV.hl:SH:=shN zV.te zV.tb zV.tp [(7,14504,0,1)]
def zV.hj:Nat->Option Shape:=shO zV.te zV.tb zV.tp [(13,64,0,0)]
def zV.L7 (F:Nat) (R:Type) (K:KK R) (n:Nat) (x:((List Int)×Int×Unit×(List zx.T)×Int×Int×Unit)×(Unit)×((List Bool)×Unit)):Option R :=
 zV.l7 F (fun list last t22 t23 t24 t25 out=>K (.exit 0) (xl (zV.h 7) ((list,last,(),t22,t23,t24,t25,()),(),(out,())))) n x.1.1 x.1.2.1 x.1.2.2.2.1 x.1.2.2.2.2.1 x.1.2.2.2.2.2.1 x.2.2.1
def zV.J13 (F:Nat) (x:((List Bool)×Unit)×(Unit)×(Unit)) (R:Type) (K:KK R):Option R :=
 zV.j13 F (fun r2 r3=>K .ret (xl (zV.h 13) ((r2,r3,()),(),()))) x.1.1
def zV.X (m:Int) (F:Nat):FX TI (G m) Sg:={hn:={MU:=fun s=>lk false s [(20,true)],na:=1,fzJ:=fun r=>lk [] r [(13,[7])]},lv:=[⟨128,vA.sp F⟩],N:=49,H:=zV.h,HL:=zV.hl,HJ:=zV.hj,L:=mkL zV.hl [⟨7,fun x R K=>zV.L7 F R K F x⟩],J:=mkJ zV.hj [⟨13,zV.J13 F⟩]}
theorem zV.ok (m:Int) (F:Nat):OKP m 79 zV.sg (zV.sp F) :=
 okp (zV.X m F) Go.Proofs.Tryz.func79 ⟨vA.ok m F,trivial⟩ trivial 1 1 (yB (FX.loopk 7 F (zV.L7 F)) zp) (yB (FX.cutk 13) zp)
def vH.te:TEs:=[(0,kI),(2,.c .fn),(3,kI),(4,.c (.sl (.pair .fn (.int .i64))))]
def vH.h:SH:=shN vH.te [] [] [(0,1,0,0),(1,9,0,0),(2,6,0,0)]
def vH.X (m:Int) (F:Nat):FX TI (G m) Sg:={hn:={na:=1},N:=32,H:=vH.h}
theorem vH.ok (m:Int) (F:Nat):OKP m 80 vH.sg (vH.sp F) :=
 okp (vH.X m F) Go.Proofs.Tryz.func80 trivial trivial 0 0 zp zp
def ya.te:TEs:=[(1,kI),kL 2,(4,kI),(6,kI),(10,.b (.int .i64)),(11,kI),(12,kI),(13,kB),(22,kB)]
def ya.tb:TEs:=[(2,.g xM)]
def ya.h:SH:=shN ya.te ya.tb [] [(0,3,1,0),(1,115,1,0),(2,243,1,0),(3,123,1,0),(4,371,1,0),(5,4,0,0),(6,115,1,0),(7,4,0,0)]
def ya.hl:SH:=shN ya.te ya.tb [] [(2,115,1,0)]
def ya.L2 (F:Nat) (R:Type) (K:KK R) (n:Nat) (x:(Int×Unit×(List Int)×Int×Int×Unit)×(xM.T×Unit)×(Unit)):Option R :=
 ya.l2 F (fun r4=>K .ret (xl (ya.h 5) ((r4,()),(),()))) (fun from_ t10 t11 t12 t13 n=>K (.exit 0) (xl (ya.h 2) ((from_,(),t10,t11,t12,t13,()),(n,()),()))) n x.1.1 x.1.2.2.1 x.1.2.2.2.1 x.1.2.2.2.2.1 x.2.1.1
def ya.X (m:Int) (F:Nat):FX TI (G m) Sg:={hn:={na:=2},N:=29,H:=ya.h,HL:=ya.hl,L:=mkL ya.hl [⟨2,fun x R K=>ya.L2 F R K F x⟩]}
theorem ya.ok (m:Int) (F:Nat):OKP m 180 ya.sg (ya.sp F) :=
 okp (ya.X m F) Go.Proofs.Tryz.func180 trivial trivial 1 0 (yB (FX.loopk 2 F (ya.L2 F)) zp) zp
def xE.te:TEs:=[kL 1,(2,kI)]
def xE.tb:TEs:=[(1,.g xM)]
def xE.h:SH:=shN xE.te xE.tb [] [(0,1,1,0),(1,2,0,0)]
def xE.X (m:Int) (F:Nat):FX TI (G m) Sg:={hn:={na:=1},lv:=[⟨180,ya.sp F⟩],N:=5,H:=xE.h}
theorem xE.ok (m:Int) (F:Nat):OKP m 133 xE.sg (xE.sp F) :=
 okp (xE.X m F) Go.Proofs.Tryz.func133 ⟨ya.ok m F,trivial⟩ trivial 0 0 zp zp
def x9.te:TEs:=[kL 1,(2,kI)]
def x9.tb:TEs:=[(1,.g xM)]
def x9.h:SH:=shN x9.te x9.tb [] [(0,1,1,0),(1,2,0,0)]
def x9.X (m:Int) (F:Nat):FX TI (G m) Sg:={hn:={na:=1},N:=8,H:=x9.h}
theorem x9.ok (m:Int) (F:Nat):OKP m 132 x9.sg (x9.sp F) :=
 okp (x9.X m F) Go.Proofs.Tryz.func132 trivial trivial 0 0 zp zp
def wA.te:TEs:=[(0,kI),(2,kB)]
def wA.h:SH:=shN wA.te [] [] [(0,1,0,0),(1,2,0,0)]
def wA.X (m:Int) (F:Nat):FX TI (G m) Sg:={hn:={na:=1},N:=5,H:=wA.h}
theorem wA.ok (m:Int) (F:Nat):OKP m 181 wA.sg (wA.sp F) :=
 okp (wA.X m F) Go.Proofs.Tryz.func181 trivial trivial 0 0 zp zp
def xB.te:TEs:=[kL 1,(2,kI),(7,kB)]
def xB.tb:TEs:=[(1,.g xM)]
def xB.h:SH:=shN xB.te xB.tb [] [(0,1,1,0),(1,5,1,0),(2,2,0,0),(3,2,0,0)]
def xB.X (m:Int) (F:Nat):FX TI (G m) Sg:={hn:={na:=1},lv:=[⟨181,wA.sp F⟩],N:=12,H:=xB.h}
theorem xB.ok (m:Int) (F:Nat):OKP m 135 xB.sg (xB.sp F) :=
 okp (xB.X m F) Go.Proofs.Tryz.func135 ⟨wA.ok m F,trivial⟩ trivial 0 0 zp zp
def wZ.te:TEs:=[(2,kI)]
def wZ.h:SH:=shN wZ.te [] [] [(1,1,0,0)]
def wZ.X (m:Int) (F:Nat):FX TI (G m) Sg:={hn:={na:=1},N:=3,H:=wZ.h}
theorem wZ.ok (m:Int) (F:Nat):OKP m 130 wZ.sg (wZ.sp F) :=
 okp (wZ.X m F) Go.Proofs.Tryz.func130 trivial trivial 0 0 zp zp
def wR.te:TEs:=[(2,kI)]
def wR.h:SH:=shN wR.te [] [] [(1,1,0,0)]
def wR.X (m:Int) (F:Nat):FX TI (G m) Sg:={hn:={na:=1},N:=3,H:=wR.h}
theorem wR.ok (m:Int) (F:Nat):OKP m 129 wR.sg (wR.sp F) :=
 okp (wR.X m F) Go.Proofs.Tryz.func129 trivial trivial 0 0 zp zp
def wN.te:TEs:=[kL 1,(2,kI),(7,kB)]
def wN.tb:TEs:=[(1,.g xM)]
def wN.h:SH:=shN wN.te wN.tb [] [(0,1,1,0),(1,4,0,0),(2,2,0,0),(3,2,0,0)]
def wN.X (m:Int) (F:Nat):FX TI (G m) Sg:={hn:={na:=1},N:=8,H:=wN.h}
theorem wN.ok (m:Int) (F:Nat):OKP m 137 wN.sg (wN.sp F) :=
 okp (wN.X m F) Go.Proofs.Tryz.func137 trivial trivial 0 0 zp zp
def xQ.te:TEs:=[kL 1,(2,kI),(7,kB)]
def xQ.tb:TEs:=[(1,.g xM)]
def xQ.h:SH:=shN xQ.te xQ.tb [] [(0,1,1,0),(1,4,0,0),(2,2,0,0),(3,2,0,0)]
def xQ.X (m:Int) (F:Nat):FX TI (G m) Sg:={hn:={na:=1},lv:=[⟨181,wA.sp F⟩],N:=8,H:=xQ.h}
theorem xQ.ok (m:Int) (F:Nat):OKP m 136 xQ.sg (xQ.sp F) :=
 okp (xQ.X m F) Go.Proofs.Tryz.func136 ⟨wA.ok m F,trivial⟩ trivial 0 0 zp zp
def xL.te:TEs:=[kL 1,(2,kI),(3,kI),(4,kI),(13,kB),(17,kB),(21,kB)]
def xL.tb:TEs:=[(1,.g xM)]
def xL.h:SH:=shN xL.te xL.tb [] [(0,1,1,0),(1,12,0,0),(2,28,0,0),(3,2,0,0),(4,44,0,0),(5,2,0,0),(6,76,0,0),(7,64,0,0),(8,2,0,0),(9,2,0,0)]
def xL.X (m:Int) (F:Nat):FX TI (G m) Sg:={hn:={na:=1},lv:=[⟨181,wA.sp F⟩],N:=34,H:=xL.h}
theorem xL.ok (m:Int) (F:Nat):OKP m 134 xL.sg (xL.sp F) :=
 okp (xL.X m F) Go.Proofs.Tryz.func134 ⟨wA.ok m F,trivial⟩ trivial 0 0 zp zp
def xH.te:TEs:=[kL 1,(2,kI)]
def xH.tb:TEs:=[(1,.g xM)]
def xH.h:SH:=shN xH.te xH.tb [] [(0,1,1,0),(1,2,0,0)]
def xH.X (m:Int) (F:Nat):FX TI (G m) Sg:={hn:={na:=1},N:=8,H:=xH.h}
theorem xH.ok (m:Int) (F:Nat):OKP m 131 xH.sg (xH.sp F) :=
 okp (xH.X m F) Go.Proofs.Tryz.func131 trivial trivial 0 0 zp zp
def wD.te:TEs:=[kL 1,(2,kI),(7,kB)]
def wD.tb:TEs:=[(1,.g xM)]
def wD.h:SH:=shN wD.te wD.tb [] [(0,1,1,0),(1,5,1,0),(2,2,0,0),(3,2,0,0)]
def wD.X (m:Int) (F:Nat):FX TI (G m) Sg:={hn:={na:=1},lv:=[⟨181,wA.sp F⟩,⟨180,ya.sp F⟩],N:=10,H:=wD.h}
theorem wD.ok (m:Int) (F:Nat):OKP m 138 wD.sg (wD.sp F) :=
 okp (wD.X m F) Go.Proofs.Tryz.func138 ⟨wA.ok m F,ya.ok m F,trivial⟩ trivial 0 0 zp zp
def zE.te:TEs:=[kL 1,(2,.c (.sl (.int .i64))),(3,kI),(4,kI),(5,kI),(6,kI),(7,.c (.sl .bool)),(9,.c (.sl (.int .i64))),(9,.ow 9),(10,.c (.sl (.int .i64))),(10,.ow 10),(11,.ow 11),(12,kI),kL 13,(14,.c .fn),(15,kI),(16,kI),(17,kI),(24,kB),(33,.c (.sl zx)),(34,kI),(35,kI),(36,kB),(47,kB),(65,kB),(84,kB),(109,kB)]
def zE.tb:TEs:=[(1,.g yr),(13,.g zx)]
def zE.tp:List qF:=[⟨9,.env 9,(.int .i64)⟩,⟨10,.env 10,(.int .i64)⟩,⟨11,.env 11,.bool⟩]
def zE.h:SH:=shN zE.te zE.tb zE.tp [(0,1,1,0),(1,49,1,0),(2,262193,1,0),(3,14,0,0),(4,65,1,0),(5,1345,1,3),(6,3393,1,7),(7,3673408,0,7),(8,7867712,0,7),(9,3685696,2,7),(10,3734848,2,7),(11,12123456,2,7),(12,3734848,2,7),(13,3767616,2,7),(14,3882304,2,7),(15,20659520,2,7),(16,14,0,0),(17,37428544,0,7),(18,14,0,0),(19,3874112,0,7),(20,3743040,0,7),(21,3673408,0,7),(22,3673408,0,7),(23,67108992,0,0),(24,14,0,0),(25,14,0,0)]
def zE.hl:SH:=shN zE.te zE.tb zE.tp [(8,3673408,0,7)]
def zE.hj:Nat->Option Shape:=shO zE.te zE.tb zE.tp [(23,640,0,0)]
def zE.L8 (F:Nat) (R:Type) (K:KK R) (n:Nat) (x:((List Bool)×Unit×Unit×Unit×(List zx.T)×Int×Int×Unit)×(Unit)×((List Int)×(List Int)×(List Bool)×Unit)):Option R :=
 zE.l8 F (fun r2 r3 r4=>K .ret (xl (zE.h 16) ((r2,r3,r4,()),(),()))) (fun r2 r3 r4=>K .ret (xl (zE.h 18) ((r2,r3,r4,()),(),()))) (fun fixed t33 t34 t35 t36 types pile fix=>K (.exit 0) (xl (zE.h 8) ((fixed,(),(),(),t33,t34,t35,t36,()),(),(types,pile,fix,())))) n x.1.1 x.1.2.2.2.2.1 x.1.2.2.2.2.2.1 x.1.2.2.2.2.2.2.1 x.2.2.1 x.2.2.2.1 x.2.2.2.2.1
def zE.J23 (F:Nat) (x:((List Int)×(List Int)×Unit)×(Unit)×(Unit)) (R:Type) (K:KK R):Option R :=
 zE.j23 F (fun r2 r3 r4=>K .ret (xl (zE.h 24) ((r2,r3,r4,()),(),()))) (fun r2 r3 r4=>K .ret (xl (zE.h 25) ((r2,r3,r4,()),(),()))) x.1.1 x.1.2.1
def zE.X (m:Int) (F:Nat):FX TI (G m) Sg:={hn:={MU:=fun s=>lk false s [(89,true),(95,true),(104,true)],DS:=fun d=>lk none d [(63,some zE.ds63)],na:=1,fzJ:=fun r=>lk [] r [(23,[9,10])]},lv:=[⟨44,yF.sp F⟩,⟨79,zV.sp F⟩,⟨80,vH.sp F⟩],ld:=[⟨63,zE.d63 F⟩],N:=114,H:=zE.h,HL:=zE.hl,HJ:=zE.hj,L:=mkL zE.hl [⟨8,fun x R K=>zE.L8 F R K F x⟩],J:=mkJ zE.hj [⟨23,zE.J23 F⟩]}
theorem zE.ok (m:Int) (F:Nat):OKP m 42 zE.sg (zE.sp F) :=
 okp (zE.X m F) Go.Proofs.Tryz.func42 ⟨yF.ok m F,zV.ok m F,vH.ok m F,trivial⟩ ⟨ZS ⟨⟨133,by kernel_rfl,xE.ok m F⟩,⟨132,by kernel_rfl,x9.ok m F⟩,⟨135,by kernel_rfl,xB.ok m F⟩,⟨130,by kernel_rfl,wZ.ok m F⟩,⟨129,by kernel_rfl,wR.ok m F⟩,⟨137,by kernel_rfl,wN.ok m F⟩,⟨136,by kernel_rfl,xQ.ok m F⟩,⟨134,by kernel_rfl,xL.ok m F⟩,⟨131,by kernel_rfl,xH.ok m F⟩,⟨138,by kernel_rfl,wD.ok m F⟩,trivial⟩,trivial⟩ 1 1 (yB (FX.loopk 8 F (zE.L8 F)) zp) (yB (FX.cutk 23) zp)
def yi.te:TEs:=[(0,.b (.int .i64)),(2,kI),(3,kI),(4,kI),(7,kB),(15,kB)]
def yi.h:SH:=shN yi.te [] [] [(0,1,0,0),(1,17,0,0),(3,5,0,0),(4,13,0,0),(5,45,0,0),(6,13,0,0),(7,13,0,0),(8,2,0,0)]
def yi.hl:SH:=shN yi.te [] [] [(5,13,0,0)]
def yi.L5 (F:Nat) (R:Type) (K:KK R) (n:Nat) (x:((List Int)×Int×Int×Unit)×(Unit)×(Unit)):Option R :=
 yi.l5 F (fun x m i t15=>K (.exit 0) (xl (yi.h 5) ((x,m,i,t15,()),(),()))) n x.1.1 x.1.2.1 x.1.2.2.1
def yi.X (m:Int) (F:Nat):FX TI (G m) Sg:={hn:={na:=1},N:=25,H:=yi.h,HL:=yi.hl,L:=mkL yi.hl [⟨5,fun x R K=>yi.L5 F R K F x⟩]}
theorem yi.ok (m:Int) (F:Nat):OKP m 46 yi.sg (yi.sp F) :=
 okp (yi.X m F) Go.Proofs.Tryz.func46 trivial trivial 1 0 (yB (FX.loopk 5 F (yi.L5 F)) zp) zp
def yq.te:TEs:=[kL 1,(2,kI),(3,kI),(5,kI),(6,.c (.sl (.int .i64))),(6,.ow 6),kL 8,(9,kI),(10,kI),(17,kB),(20,.c (.sl zx)),(21,kI),(22,kI),(23,kB),(29,kB),(45,kB)]
def yq.tb:TEs:=[(1,.g yr),(8,.g zx)]
def yq.tp:List qF:=[⟨6,.env 6,(.int .i64)⟩]
def yq.h:SH:=shN yq.te yq.tb yq.tp [(0,1,1,0),(1,9,1,0),(2,521,1,0),(3,6,0,0),(4,33,1,1),(5,7200,0,1),(6,15392,0,1),(7,7264,2,1),(8,7392,2,1),(9,7648,2,1),(10,24032,2,1),(11,7648,2,1),(12,7392,2,1),(13,40096,0,1),(14,7328,0,1),(15,7200,0,1),(16,7200,0,1),(17,6,0,0)]
def yq.hl:SH:=shN yq.te yq.tb yq.tp [(6,7200,0,1)]
def yq.hj:Nat->Option Shape:=shO yq.te yq.tb yq.tp [(17,16,0,0)]
def yq.L6 (F:Nat) (R:Type) (K:KK R) (n:Nat) (x:(Unit×(List zx.T)×Int×Int×Unit)×(Unit)×((List Int)×Unit)):Option R :=
 yq.l6 F (fun t20 t21 t22 t23 pile=>K (.exit 0) (xl (yq.h 6) (((),t20,t21,t22,t23,()),(),(pile,())))) n x.1.2.1 x.1.2.2.1 x.1.2.2.2.1 x.2.2.1
def yq.J17 (F:Nat) (x:((List Int)×Unit)×(Unit)×(Unit)) (R:Type) (K:KK R):Option R :=
 yq.j17 F (fun r2 r3=>K .ret (xl (yq.h 17) ((r2,r3,()),(),()))) x.1.1
def yq.X (m:Int) (F:Nat):FX TI (G m) Sg:={hn:={MU:=fun s=>lk false s [(51,true)],na:=1,fzJ:=fun r=>lk [] r [(17,[6])]},lv:=[⟨44,yF.sp F⟩,⟨45,wK.sp F⟩,⟨46,yi.sp F⟩],N:=56,H:=yq.h,HL:=yq.hl,HJ:=yq.hj,L:=mkL yq.hl [⟨6,fun x R K=>yq.L6 F R K F x⟩],J:=mkJ yq.hj [⟨17,yq.J17 F⟩]}
theorem yq.ok (m:Int) (F:Nat):OKP m 24 yq.sg (yq.sp F) :=
 okp (yq.X m F) Go.Proofs.Tryz.func24 ⟨yF.ok m F,wK.ok m F,yi.ok m F,trivial⟩ trivial 1 1 (yB (FX.loopk 6 F (yq.L6 F)) zp) (yB (FX.cutk 17) zp)
def yQ.te:TEs:=[(0,kI),kL 2]
def yQ.tb:TEs:=[(2,.g zh)]
def yQ.h:SH:=shN yQ.te yQ.tb [] [(0,3,1,0),(1,2,1,0)]
def yQ.X (m:Int) (F:Nat):FX TI (G m) Sg:={hn:={na:=1},N:=8,H:=yQ.h}
theorem yQ.ok (m:Int) (F:Nat):OKP m 22 yQ.sg (yQ.sp F) :=
 okp (yQ.X m F) Go.Proofs.Tryz.func22 trivial trivial 0 0 zp zp
theorem y9.ok (m:Int) (F:Nat):OK Go.Proofs.Tryz.prog (G m) 39 y9.sg (y9.sp F):=y9.ok' F Go.Proofs.Tryz.func39 (by kernel_rfl) (by kernel_rfl) (by kernel_rfl)
def vG.te:TEs:=[kL 1,(2,.c (.int .u64)),(3,.c (.int .u64)),(4,.c (.int .u64)),(5,.c (.int .u64)),(6,.c (.int .u64)),(10,kB)]
def vG.tb:TEs:=[(1,.g zh)]
def vG.h:SH:=shN vG.te vG.tb [] [(0,1,1,0),(1,65,1,0),(2,6,0,0),(3,25,1,0),(4,40,0,0),(5,6,0,0)]
def vG.X (m:Int) (F:Nat):FX TI (G m) Sg:={hn:={na:=1},lv:=[⟨39,y9.sp F⟩],N:=32,H:=vG.h}
theorem vG.ok (m:Int) (F:Nat):OKP m 83 vG.sg (vG.sp F) :=
 okp (vG.X m F) Go.Proofs.Tryz.func83 ⟨y9.ok m F,trivial⟩ trivial 0 0 zp zp
def wF.te:TEs:=[(0,.c (.int .u64)),(1,.c (.int .u64)),(4,.c (.int .u64)),(5,.c (.int .u64)),(6,.c (.int .u64)),(7,.c (.int .u64)),(8,.c (.int .u64)),(9,.c (.int .u64)),(10,.c (.int .u64)),(11,.c (.int .u64)),(12,.c (.int .u64)),(13,.c (.int .u64))]
def wF.h:SH:=shN wF.te [] [] [(0,3,0,0),(1,19,0,0),(2,51,0,0),(3,115,0,0),(4,243,0,0),(5,499,0,0),(6,691,0,0),(7,1715,0,0),(8,3251,0,0),(9,3235,0,0),(10,7,0,0),(11,12,0,0)]
def wF.X (m:Int) (F:Nat):FX TI (G m) Sg:={hn:={na:=2},N:=51,H:=wF.h}
theorem wF.ok (m:Int) (F:Nat):OKP m 84 wF.sg (wF.sp F) :=
 okp (wF.X m F) Go.Proofs.Tryz.func84 trivial trivial 0 0 zp zp
def vW.te:TEs:=[(0,kB),(1,.c (.int .u64)),(2,.c (.int .u64)),(6,.c (.int .u64)),(7,kB)]
def vW.h:SH:=shN vW.te [] [] [(0,7,0,0),(1,22,0,0),(2,8,0,0),(3,8,0,0)]
def vW.X (m:Int) (F:Nat):FX TI (G m) Sg:={hn:={na:=3},N:=10,H:=vW.h}
theorem vW.ok (m:Int) (F:Nat):OKP m 85 vW.sg (vW.sp F) :=
 okp (vW.X m F) Go.Proofs.Tryz.func85 trivial trivial 0 0 zp zp
theorem xy.ok (m:Int) (F:Nat):OK Go.Proofs.Tryz.prog (G m) 38 xy.sg (xy.sp F):=xy.ok' F Go.Proofs.Tryz.func38 (by kernel_rfl) (by kernel_rfl) (by kernel_rfl)
def vK.te:TEs:=[kL 2,kL 3,kL 4,(5,kI),(6,.c (.int .u64)),(7,.c (.int .u64)),(8,.c (.int .u64)),kL 10,(49,kB)]
def vK.tb:TEs:=[(2,.g zh),(3,.g zh),(4,.g zh),(10,.g zh)]
def vK.h:SH:=shN vK.te vK.tb [] [(0,7,7,0),(1,55,7,0),(2,87,7,0),(3,135,15,0),(4,388,12,0),(5,12,4,0),(6,12,4,0)]
def vK.X (m:Int) (F:Nat):FX TI (G m) Sg:={hn:={na:=2},lv:=[⟨39,y9.sp F⟩],N:=52,H:=vK.h}
theorem vK.ok (m:Int) (F:Nat):OKP m 16 vK.sg (vK.sp F) :=
 okp (vK.X m F) Go.Proofs.Tryz.func16 ⟨y9.ok m F,trivial⟩ trivial 0 0 zp zp
def vT.te:TEs:=[kL 1,kL 2,(3,kI)]
def vT.tb:TEs:=[(1,.g zh),(2,.g zh)]
def vT.h:SH:=shN vT.te vT.tb [] [(0,3,3,0),(1,6,2,0)]
def vT.X (m:Int) (F:Nat):FX TI (G m) Sg:={hn:={na:=1},lv:=[⟨16,vK.sp F⟩],N:=9,H:=vT.h}
theorem vT.ok (m:Int) (F:Nat):OKP m 143 vT.sg (vT.sp F) :=
 okp (vT.X m F) Go.Proofs.Tryz.func143 ⟨vK.ok m F,trivial⟩ trivial 0 0 zp zp
def vI.te:TEs:=[(0,kB),(1,.c (.int .u64)),(2,.c (.int .u64)),kL 6,(7,kI),kL 8,(11,kB),(16,kB),(30,kB)]
def vI.tb:TEs:=[(6,.g zh),(8,.g zh)]
def vI.h:SH:=shN vI.te vI.tb [] [(0,15,1,0),(1,79,1,0),(2,41,3,0),(3,168,3,0),(4,24,1,0),(5,24,1,0),(6,264,1,0),(7,24,1,0),(8,24,1,0)]
def vI.X (m:Int) (F:Nat):FX TI (G m) Sg:={hn:={na:=3},lv:=[⟨143,vT.sp F⟩],N:=33,H:=vI.h}
theorem vI.ok (m:Int) (F:Nat):OKP m 86 vI.sg (vI.sp F) :=
 okp (vI.X m F) Go.Proofs.Tryz.func86 ⟨vT.ok m F,trivial⟩ trivial 0 0 zp zp
def xc.te:TEs:=[kL 2,kL 3,kL 4,(5,kI),(6,.c (.int .u64)),(7,.c (.int .u64)),(8,.c (.int .u64)),(9,.c (.int .u64)),(10,.c (.int .u64)),(11,.c (.int .u64)),(12,.c (.int .u64)),(13,.c (.int .u64)),(14,.c (.int .u64)),(30,kB),(61,kB)]
def xc.tb:TEs:=[(2,.g zh),(3,.g zh),(4,.g zh)]
def xc.h:SH:=shN xc.te xc.tb [] [(0,7,7,0),(1,55,7,0),(2,247,7,0),(3,8439,7,0),(4,12,4,0),(5,1015,7,0),(6,3847,7,0),(7,5895,7,0),(8,17159,7,0),(9,12,4,0),(10,12,4,0)]
def xc.hj:Nat->Option Shape:=shO xc.te xc.tb [] [(5,247,7,0)]
def xc.J5 (F:Nat) (x:(Unit×Unit×Unit×Int×Int×Int×Int×Unit)×(zh.T×zh.T×zh.T×Unit)×(Unit)) (R:Type) (K:KK R):Option R :=
 xc.j5 F (fun r5 r4=>K .ret (xl (xc.h 9) (((),r5,()),(r4,()),()))) (fun r5 r4=>K .ret (xl (xc.h 10) (((),r5,()),(r4,()),()))) x.1.2.2.2.1 x.1.2.2.2.2.1 x.1.2.2.2.2.2.1 x.1.2.2.2.2.2.2.1 x.2.1.1 x.2.1.2.1 x.2.1.2.2.1
def xc.X (m:Int) (F:Nat):FX TI (G m) Sg:={hn:={na:=2},lv:=[⟨83,vG.sp F⟩,⟨84,wF.sp F⟩,⟨85,vW.sp F⟩,⟨38,xy.sp F⟩,⟨86,vI.sp F⟩],N:=75,H:=xc.h,HJ:=xc.hj,J:=mkJ xc.hj [⟨5,xc.J5 F⟩]}
theorem xc.ok (m:Int) (F:Nat):OKP m 47 xc.sg (xc.sp F) :=
 okp (xc.X m F) Go.Proofs.Tryz.func47 ⟨vG.ok m F,wF.ok m F,vW.ok m F,xy.ok m F,vI.ok m F,trivial⟩ trivial 0 1 zp (yB (FX.cutk 5) zp)
def yV.te:TEs:=[(0,kI),kL 2,(3,kI),kL 4,(6,kB),(9,kB),(12,kI),(13,kI),(14,kB)]
def yV.tb:TEs:=[(2,.g zh),(4,.g zh)]
def yV.h:SH:=shN yV.te yV.tb [] [(0,3,1,0),(1,19,1,0),(2,6,1,0),(3,35,1,0),(4,6,1,0),(5,11,3,0),(6,202,3,0),(7,458,3,0),(8,202,3,0),(9,202,3,0),(10,6,1,0)]
def yV.hl:SH:=shN yV.te yV.tb [] [(7,202,3,0)]
def yV.L7 (F:Nat) (R:Type) (K:KK R) (n:Nat) (x:(Unit×Unit×Int×Int×Unit)×(zh.T×zh.T×Unit)×(Unit)):Option R :=
 yV.l7 F (fun t12 t13 t14 r2 p=>K (.exit 0) (xl (yV.h 7) (((),(),t12,t13,t14,()),(r2,p,()),()))) n x.1.2.2.1 x.1.2.2.2.1 x.2.1.1 x.2.1.2.1
def yV.X (m:Int) (F:Nat):FX TI (G m) Sg:={hn:={na:=1},lv:=[⟨22,yQ.sp F⟩,⟨47,xc.sp F⟩],N:=23,H:=yV.h,HL:=yV.hl,L:=mkL yV.hl [⟨7,fun x R K=>yV.L7 F R K F x⟩]}
theorem yV.ok (m:Int) (F:Nat):OKP m 43 yV.sg (yV.sp F) :=
 okp (yV.X m F) Go.Proofs.Tryz.func43 ⟨yQ.ok m F,xc.ok m F,trivial⟩ trivial 1 0 (yB (FX.loopk 7 F (yV.L7 F)) zp) zp
def yX.te:TEs:=[kL 1,(2,kI),(4,kI),(5,kB),(10,kB),(14,kB),(19,kB)]
def yX.tb:TEs:=[(1,.g zx)]
def yX.h:SH:=shN yX.te yX.tb [] [(0,1,1,0),(1,5,1,0),(2,13,1,0),(3,13,1,0),(4,13,1,0),(5,13,1,0),(6,2,0,0),(7,21,1,0),(8,21,1,0),(9,21,1,0),(10,2,0,0),(11,37,1,0),(12,37,1,0),(13,2,0,0),(14,64,0,0),(15,2,0,0),(16,2,0,0)]
def yX.hj:Nat->Option Shape:=shO yX.te yX.tb [] [(6,13,1,0),(10,21,1,0)]
def yX.J10 (F:Nat) (x:(Unit×Int×Bool×Unit)×(zx.T×Unit)×(Unit)) (R:Type) (K:KK R):Option R :=
 yX.j10 F (fun r2=>K .ret (xl (yX.h 10) ((r2,()),(),()))) (fun r2=>K .ret (xl (yX.h 13) ((r2,()),(),()))) (fun r2=>K .ret (xl (yX.h 15) ((r2,()),(),()))) (fun t19=>K .normal (xl (yX.h 14) ((t19,()),(),()))) x.1.2.1 x.1.2.2.1 x.2.1.1
def yX.J6 (F:Nat) (x:(Unit×Int×Bool×Unit)×(zx.T×Unit)×(Unit)) (R:Type) (K:KK R):Option R :=
 yX.j6 F (fun r2=>K .ret (xl (yX.h 6) ((r2,()),(),()))) (fun r2=>K .ret (xl (yX.h 10) ((r2,()),(),()))) (fun r2=>K .ret (xl (yX.h 13) ((r2,()),(),()))) (fun r2=>K .ret (xl (yX.h 15) ((r2,()),(),()))) (fun t19=>K .normal (xl (yX.h 14) ((t19,()),(),()))) x.1.2.1 x.1.2.2.1 x.2.1.1
def yX.X (m:Int) (F:Nat):FX TI (G m) Sg:={hn:={na:=1},N:=21,H:=yX.h,HJ:=yX.hj,J:=mkJ yX.hj [⟨10,yX.J10 F⟩,⟨6,yX.J6 F⟩]}
theorem yX.ok (m:Int) (F:Nat):OKP m 73 yX.sg (yX.sp F) :=
 okp (yX.X m F) Go.Proofs.Tryz.func73 trivial trivial 0 2 zp (yB (FX.cutk 10) (yB (FX.cutk 6) zp))
def xn.te:TEs:=[kL 0,(2,kI),kL 4,kL 6]
def xn.tb:TEs:=[(0,.g zj),(4,.g zh),(6,.g zh)]
def xn.h:SH:=shN xn.te xn.tb [] [(0,15,7,0),(1,12,7,0),(2,8,5,0)]
def xn.X (m:Int) (F:Nat):FX TI (G m) Sg:={hn:={na:=3},N:=19,H:=xn.h}
theorem xn.ok (m:Int) (F:Nat):OKP m 115 xn.sg (xn.sp F) :=
 okp (xn.X m F) Go.Proofs.Tryz.func115 trivial trivial 0 0 zp zp
def xk.te:TEs:=[kL 0,kL 4,kL 5,kL 6]
def xk.tb:TEs:=[(0,.g zj),(4,.g zh),(5,.g zh),(6,.g zh)]
def xk.h:SH:=shN xk.te xk.tb [] [(0,15,15,0),(1,8,9,0)]
def xk.X (m:Int) (F:Nat):FX TI (G m) Sg:={hn:={na:=3},lv:=[⟨47,xc.sp F⟩,⟨115,xn.sp F⟩],N:=14,H:=xk.h}
theorem xk.ok (m:Int) (F:Nat):OKP m 114 xk.sg (xk.sp F) :=
 okp (xk.X m F) Go.Proofs.Tryz.func114 ⟨xc.ok m F,xn.ok m F,trivial⟩ trivial 0 0 zp zp
def yC.te:TEs:=[(0,.c (.int .u64)),(2,kI),(4,kB),(8,kB),(14,kB)]
def yC.h:SH:=shN yC.te [] [] [(0,3,0,0),(1,7,0,0),(2,1,0,0),(3,3,0,0),(4,11,0,0),(5,3,0,0),(6,3,0,0),(7,19,0,0),(8,3,0,0),(9,3,0,0),(10,2,0,0)]
def yC.hj:Nat->Option Shape:=shO yC.te [] [] [(4,3,0,0),(7,3,0,0)]
def yC.J7 (F:Nat) (x:(Int×Int×Unit)×(Unit)×(Unit)) (R:Type) (K:KK R):Option R :=
 yC.j7 F (fun n=>K .ret (xl (yC.h 10) ((n,()),(),()))) x.1.1 x.1.2.1
def yC.J4 (F:Nat) (x:(Int×Int×Unit)×(Unit)×(Unit)) (R:Type) (K:KK R):Option R :=
 yC.j4 F (fun n=>K .ret (xl (yC.h 10) ((n,()),(),()))) x.1.1 x.1.2.1
def yC.X (m:Int) (F:Nat):FX TI (G m) Sg:={hn:={na:=1},N:=25,H:=yC.h,HJ:=yC.hj,J:=mkJ yC.hj [⟨7,yC.J7 F⟩,⟨4,yC.J4 F⟩]}
theorem yC.ok (m:Int) (F:Nat):OKP m 218 yC.sg (yC.sp F) :=
 okp (yC.X m F) Go.Proofs.Tryz.func218 trivial trivial 0 2 zp (yB (FX.cutk 7) (yB (FX.cutk 4) zp))
def yY.te:TEs:=[(0,.c (.int .u64)),(2,kI)]
def yY.h:SH:=shN yY.te [] [] [(0,1,0,0),(1,2,0,0)]
def yY.X (m:Int) (F:Nat):FX TI (G m) Sg:={hn:={na:=1},lv:=[⟨218,yC.sp F⟩],N:=6,H:=yY.h}
theorem yY.ok (m:Int) (F:Nat):OKP m 213 yY.sg (yY.sp F) :=
 okp (yY.X m F) Go.Proofs.Tryz.func213 ⟨yC.ok m F,trivial⟩ trivial 0 0 zp zp
def zu.te:TEs:=[(0,.c (.int .u64)),(1,.c (.int .u64)),(2,.c (.int .u64)),(6,.c (.int .u64)),(7,.c (.int .u64)),(8,.c (.int .u64)),(9,.c (.int .u64)),(10,.c (.int .u64)),(11,.c (.int .u64)),(12,.c (.int .u64)),(13,.c (.int .u64)),(14,.c (.int .u64)),(15,.c (.int .u64)),(16,.c (.int .u64)),(17,.c (.int .u64)),(18,.c (.int .u64)),(20,kB),(24,kB),(27,kB),(78,kB),(85,kB),(113,kB),(120,kB)]
def zu.h:SH:=shN zu.te [] [] [(0,7,0,0),(1,65543,0,0),(3,131079,0,0),(5,262151,0,0),(6,24,0,0),(7,39,0,0),(8,39,0,0),(9,103,0,0),(10,231,0,0),(11,486,0,0),(12,996,0,0),(13,2020,0,0),(14,3556,0,0),(15,7652,0,0),(16,15844,0,0),(17,540132,0,0),(18,15844,0,0),(19,15844,0,0),(20,1064420,0,0),(21,22756,0,0),(22,55524,0,0),(23,63716,0,0),(24,2160868,0,0),(25,63716,0,0),(26,63716,0,0),(27,4258020,0,0),(28,24,0,0)]
def zu.hl:SH:=shN zu.te [] [] [(17,15844,0,0),(24,63716,0,0)]
def zu.hj:Nat->Option Shape:=shO zu.te [] [] [(21,7652,0,0),(28,55332,0,0)]
def zu.L17 (F:Nat) (R:Type) (K:KK R) (n:Nat) (x:(Int×Int×Int×Int×Int×Int×Int×Int×Int×Unit)×(Unit)×(Unit)):Option R :=
 zu.l17 F (fun y s yn1 yn0 un32 un1 un0 q1 rhat t85=>K (.exit 0) (xl (zu.h 20) ((y,s,yn1,yn0,un32,un1,un0,q1,rhat,t85,()),(),()))) (fun y s yn1 yn0 un32 un1 un0 q1 rhat t78=>K (.exit 0) (xl (zu.h 17) ((y,s,yn1,yn0,un32,un1,un0,q1,rhat,t78,()),(),()))) n x.1.1 x.1.2.1 x.1.2.2.1 x.1.2.2.2.1 x.1.2.2.2.2.1 x.1.2.2.2.2.2.1 x.1.2.2.2.2.2.2.1 x.1.2.2.2.2.2.2.2.1 x.1.2.2.2.2.2.2.2.2.1
def zu.L24 (F:Nat) (R:Type) (K:KK R) (n:Nat) (x:(Int×Int×Int×Int×Int×Int×Int×Int×Int×Unit)×(Unit)×(Unit)):Option R :=
 zu.l24 F (fun y s yn1 yn0 un0 q1 rhat un21 q0 t120=>K (.exit 2) (xl (zu.h 27) ((y,s,yn1,yn0,un0,q1,rhat,un21,q0,t120,()),(),()))) (fun y s yn1 yn0 un0 q1 rhat un21 q0 t113=>K (.exit 2) (xl (zu.h 24) ((y,s,yn1,yn0,un0,q1,rhat,un21,q0,t113,()),(),()))) n x.1.1 x.1.2.1 x.1.2.2.1 x.1.2.2.2.1 x.1.2.2.2.2.1 x.1.2.2.2.2.2.1 x.1.2.2.2.2.2.2.1 x.1.2.2.2.2.2.2.2.1 x.1.2.2.2.2.2.2.2.2.1
def zu.J28 (F:Nat) (x:(Int×Int×Int×Int×Int×Int×Unit)×(Unit)×(Unit)) (R:Type) (K:KK R):Option R :=
 zu.j28 F (fun quo rem=>K .ret (xl (zu.h 28) ((quo,rem,()),(),()))) x.1.1 x.1.2.1 x.1.2.2.1 x.1.2.2.2.1 x.1.2.2.2.2.1 x.1.2.2.2.2.2.1
def zu.J21 (F:Nat) (x:(Int×Int×Int×Int×Int×Int×Int×Int×Unit)×(Unit)×(Unit)) (R:Type) (K:KK R):Option R :=
 zu.j21 F (fun quo rem=>K .ret (xl (zu.h 28) ((quo,rem,()),(),()))) x.1.1 x.1.2.1 x.1.2.2.1 x.1.2.2.2.1 x.1.2.2.2.2.1 x.1.2.2.2.2.2.1 x.1.2.2.2.2.2.2.1 x.1.2.2.2.2.2.2.2.1
def zu.X (m:Int) (F:Nat):FX TI (G m) Sg:={hn:={na:=3},lv:=[⟨213,yY.sp F⟩],N:=135,H:=zu.h,HL:=zu.hl,HJ:=zu.hj,L:=mkL zu.hl [⟨17,fun x R K=>zu.L17 F R K F x⟩,⟨24,fun x R K=>zu.L24 F R K F x⟩],J:=mkJ zu.hj [⟨28,zu.J28 F⟩,⟨21,zu.J21 F⟩]}
theorem zu.ok (m:Int) (F:Nat):OKP m 206 zu.sg (zu.sp F) :=
 okp (zu.X m F) Go.Proofs.Tryz.func206 ⟨yY.ok m F,trivial⟩ trivial 2 2 (yB (FX.loopk 24 F (zu.L24 F)) (yB (FX.loopk 17 F (zu.L17 F)) zp)) (yB (FX.cutk 28) (yB (FX.cutk 21) zp))
def yM.te:TEs:=[(0,.c (.int .u64)),(1,.c (.int .u64)),(2,.c (.int .u64)),(3,.c (.int .u64)),(8,.c (.int .u64)),(9,.c (.int .u64)),(10,.c (.int .u64)),(11,.c (.int .u64)),(12,kI),(13,.c (.int .u64)),(15,kB),(34,kB),(61,kB)]
def yM.h:SH:=shN yM.te [] [] [(0,47,0,0),(1,1071,0,0),(2,154,0,0),(3,176,0,0),(4,240,0,0),(5,238,0,0),(6,494,0,0),(7,2542,0,0),(8,494,0,0),(9,494,0,0),(10,494,0,0),(11,4590,0,0),(12,494,0,0),(13,1006,0,0),(14,494,0,0),(15,494,0,0),(16,240,0,0)]
def yM.hl:SH:=shN yM.te [] [] [(7,494,0,0)]
def yM.L7 (F:Nat) (R:Type) (K:KK R) (n:Nat) (x:(Int×Int×Int×Int×Int×Int×Int×Unit)×(Unit)×(Unit)):Option R :=
 yM.l7 F (fun al bh bl ql rh rl i t34=>K (.exit 0) (xl (yM.h 7) ((al,bh,bl,ql,rh,rl,i,t34,()),(),()))) n x.1.1 x.1.2.1 x.1.2.2.1 x.1.2.2.2.1 x.1.2.2.2.2.1 x.1.2.2.2.2.2.1 x.1.2.2.2.2.2.2.1
def yM.X (m:Int) (F:Nat):FX TI (G m) Sg:={hn:={na:=4},lv:=[⟨206,zu.sp F⟩,⟨39,y9.sp F⟩],N:=82,H:=yM.h,HL:=yM.hl,L:=mkL yM.hl [⟨7,fun x R K=>yM.L7 F R K F x⟩]}
theorem yM.ok (m:Int) (F:Nat):OKP m 188 yM.sg (yM.sp F) :=
 okp (yM.X m F) Go.Proofs.Tryz.func188 ⟨zu.ok m F,y9.ok m F,trivial⟩ trivial 1 0 (yB (FX.loopk 7 F (yM.L7 F)) zp) zp
def vd.te:TEs:=[kL 2,kL 3,kL 4,kL 5,(6,kI),(7,.c (.int .u64)),(8,.c (.int .u64)),(9,.c (.int .u64)),(10,.c (.int .u64)),(11,.c (.int .u64)),(12,.c (.int .u64)),(13,.c (.int .u64)),(14,.c (.int .u64)),kL 15,(16,kI),kL 17,(20,kB),(57,kB)]
def vd.tb:TEs:=[(2,.g zh),(3,.g zh),(4,.g zh),(5,.g zh),(15,.g zh),(17,.g zh)]
def vd.h:SH:=shN vd.te vd.tb [] [(0,15,15,0),(1,65551,15,0),(2,28,12,0),(3,111,15,0),(4,495,15,0),(5,7695,15,0),(6,30733,29,0),(7,161805,29,0),(8,28,12,0),(9,57356,60,0),(10,28,12,0)]
def vd.X (m:Int) (F:Nat):FX TI (G m) Sg:={hn:={na:=2},lv:=[⟨83,vG.sp F⟩,⟨188,yM.sp F⟩,⟨86,vI.sp F⟩],N:=73,H:=vd.h}
theorem vd.ok (m:Int) (F:Nat):OKP m 148 vd.sg (vd.sp F) :=
 okp (vd.X m F) Go.Proofs.Tryz.func148 ⟨vG.ok m F,yM.ok m F,vI.ok m F,trivial⟩ trivial 0 0 zp zp
def vD.te:TEs:=[(3,kI),kL 4,kL 5,kL 6,(8,kB),(9,kB),(10,.c (.int .u64)),(11,.c (.int .u64)),(12,.c (.int .u64)),(13,.c (.int .u64)),(14,.c (.int .u64)),(15,.c (.int .u64)),(16,.c (.int .u64)),(25,kI),(26,kB),(29,kB),(33,kB),(58,kB),(72,kB)]
def vD.tb:TEs:=[(4,.g zh),(5,.g zh),(6,.g zh)]
def vD.h:SH:=shN vD.te vD.tb [] [(0,15,7,0),(1,47,7,0),(2,8239,7,0),(3,24623,7,0),(4,16,0,0),(5,41007,7,0),(6,16,0,0),(7,65551,7,0),(8,16,0,0),(9,203,5,0),(10,963,1,0),(11,3523,1,0),(12,5315,1,0),(13,136387,1,0),(14,16,0,0),(15,262147,1,0),(16,16,0,0),(17,16,0,0)]
def vD.X (m:Int) (F:Nat):FX TI (G m) Sg:={hn:={na:=4},lv:=[⟨83,vG.sp F⟩,⟨39,y9.sp F⟩],N:=89,H:=vD.h}
theorem vD.ok (m:Int) (F:Nat):OKP m 149 vD.sg (vD.sp F) :=
 okp (vD.X m F) Go.Proofs.Tryz.func149 ⟨vG.ok m F,y9.ok m F,trivial⟩ trivial 0 0 zp zp
def wU.te:TEs:=[kL 2,kL 3,kL 4,(5,kI),(6,.c (.int .u64)),(7,.c (.int .u64)),(8,.c (.int .u64)),kL 10,(49,kB)]
def wU.tb:TEs:=[(2,.g zh),(3,.g zh),(4,.g zh),(10,.g zh)]
def wU.h:SH:=shN wU.te wU.tb [] [(0,7,7,0),(1,55,7,0),(2,87,7,0),(3,135,15,0),(4,388,12,0),(5,12,4,0),(6,12,4,0)]
def wU.X (m:Int) (F:Nat):FX TI (G m) Sg:={hn:={na:=2},lv:=[⟨38,xy.sp F⟩],N:=52,H:=wU.h}
theorem wU.ok (m:Int) (F:Nat):OKP m 15 wU.sg (wU.sp F) :=
 okp (wU.X m F) Go.Proofs.Tryz.func15 ⟨xy.ok m F,trivial⟩ trivial 0 0 zp zp
def vn.te:TEs:=[(2,kI),kL 3,kL 4,kL 6,(7,kI),kL 8,kL 9,(10,kI),(16,kB),(39,kB),(48,kB)]
def vn.tb:TEs:=[(3,.g zh),(4,.g zh),(6,.g zh),(8,.g zh),(9,.g zh)]
def vn.h:SH:=shN vn.te vn.tb [] [(0,15,7,0),(1,271,7,0),(2,24,4,0),(3,239,31,0),(4,686,15,0),(5,24,4,0),(6,1064,12,0),(7,24,4,0),(8,24,4,0)]
def vn.X (m:Int) (F:Nat):FX TI (G m) Sg:={hn:={na:=3},lv:=[⟨148,vd.sp F⟩,⟨149,vD.sp F⟩,⟨22,yQ.sp F⟩,⟨16,vK.sp F⟩,⟨15,wU.sp F⟩],N:=59,H:=vn.h}
theorem vn.ok (m:Int) (F:Nat):OKP m 95 vn.sg (vn.sp F) :=
 okp (vn.X m F) Go.Proofs.Tryz.func95 ⟨vd.ok m F,vD.ok m F,yQ.ok m F,vK.ok m F,wU.ok m F,trivial⟩ trivial 0 0 zp zp
def v7.te:TEs:=[(0,kI),(2,kI)]
def v7.h:SH:=shN v7.te [] [] [(0,1,0,0),(1,2,0,0)]
def v7.X (m:Int) (F:Nat):FX TI (G m) Sg:={hn:={na:=1},N:=7,H:=v7.h}
theorem v7.ok (m:Int) (F:Nat):OKP m 177 v7.sg (v7.sp F) :=
 okp (v7.X m F) Go.Proofs.Tryz.func177 trivial trivial 0 0 zp zp
def xp.te:TEs:=[kL 0,kL 4,kL 5,kL 6]
def xp.tb:TEs:=[(0,.g zj),(4,.g zh),(5,.g zh),(6,.g zh)]
def xp.h:SH:=shN xp.te xp.tb [] [(0,15,15,0),(1,8,9,0)]
def xp.X (m:Int) (F:Nat):FX TI (G m) Sg:={hn:={na:=3},lv:=[⟨15,wU.sp F⟩,⟨115,xn.sp F⟩],N:=14,H:=xp.h}
theorem xp.ok (m:Int) (F:Nat):OKP m 118 xp.sg (xp.sp F) :=
 okp (xp.X m F) Go.Proofs.Tryz.func118 ⟨wU.ok m F,xn.ok m F,trivial⟩ trivial 0 0 zp zp
def zN.te:TEs:=[kL 0,(2,.b yp),kL 4,kL 6,(7,kI),kL 8,(9,kI),kL 10,kL 11,(13,.b yp),(14,kI),(15,kI),(16,kB),(29,kB)]
def zN.tb:TEs:=[(0,.g zj),(4,.g zh),(6,.g zh),(8,.g zh),(10,.g yp),(11,.g zh)]
def zN.h:SH:=shN zN.te zN.tb [] [(0,15,7,0),(1,63,15,0),(2,3647,15,0),(3,7743,15,0),(4,3839,31,0),(5,3839,31,0),(6,12031,31,0),(7,3647,15,0),(8,3647,15,0),(9,313,45,0),(10,8,5,0)]
def zN.hl:SH:=shN zN.te zN.tb [] [(3,3647,15,0)]
def zN.L3 (F:Nat) (R:Type) (K:KK R) (n:Nat) (x:(Unit×(List yp.T)×Unit×Unit×Int×Unit×(List yp.T)×Int×Int×Unit)×(zj.T×zh.T×zh.T×zh.T×Unit)×(Unit)):Option R :=
 zN.l3 F (fun tiers rate t13 t14 t15 t16 m x r6 ways=>K (.exit 0) (xl (zN.h 3) (((),tiers,(),(),rate,(),t13,t14,t15,t16,()),(m,x,r6,ways,()),()))) n x.1.2.1 x.1.2.2.2.2.1 x.1.2.2.2.2.2.2.1 x.1.2.2.2.2.2.2.2.1 x.1.2.2.2.2.2.2.2.2.1 x.2.1.1 x.2.1.2.1 x.2.1.2.2.1 x.2.1.2.2.2.1
def zN.X (m:Int) (F:Nat):FX TI (G m) Sg:={hn:={na:=3,sp:=fun s=>lk 0 s [(0,2)]},lv:=[⟨177,v7.sp F⟩,⟨22,yQ.sp F⟩,⟨114,xk.sp F⟩,⟨118,xp.sp F⟩],N:=75,H:=zN.h,HL:=zN.hl,L:=mkL zN.hl [⟨3,fun x R K=>zN.L3 F R K F x⟩]}
theorem zN.ok (m:Int) (F:Nat):OKP m 116 zN.sg (zN.sp F) :=
 okp (zN.X m F) Go.Proofs.Tryz.func116 ⟨v7.ok m F,yQ.ok m F,xk.ok m F,xp.ok m F,trivial⟩ trivial 1 0 (yB (FX.loopk 3 F (zN.L3 F)) zp) zp
def xJ.te:TEs:=[(0,.b zh),kL 2,(3,kI),(4,.c (.int .u64)),(5,.c (.int .u64)),(6,kI),kL 8,(9,.c (.int .u64)),kL 10,(11,.b zh),(12,kI),(13,kI),(14,kB),(50,kB)]
def xJ.tb:TEs:=[(2,.g zh),(8,.g zh),(10,.g zh)]
def xJ.h:SH:=shN xJ.te xJ.tb [] [(0,3,1,0),(1,27,1,0),(2,59,1,0),(3,3642,1,0),(4,7738,1,0),(5,3706,3,0),(6,3706,3,0),(7,3834,3,0),(8,3834,3,0),(9,3642,1,0),(10,3642,1,0),(11,290,5,0),(12,8450,5,0),(13,6,1,0),(14,6,1,0)]
def xJ.hl:SH:=shN xJ.te xJ.tb [] [(4,3642,1,0)]
def xJ.L4 (F:Nat) (R:Type) (K:KK R) (n:Nat) (x:(Unit×Int×Int×Int×(List zh.T)×Int×Int×Unit)×(zh.T×Unit)×(Unit)):Option R :=
 xJ.l4 F (fun lo hi top t11 t12 t13 t14 r2=>K (.exit 0) (xl (xJ.h 4) (((),lo,hi,top,t11,t12,t13,t14,()),(r2,()),()))) n x.1.2.1 x.1.2.2.1 x.1.2.2.2.1 x.1.2.2.2.2.1 x.1.2.2.2.2.2.1 x.1.2.2.2.2.2.2.1 x.2.1.1
def xJ.X (m:Int) (F:Nat):FX TI (G m) Sg:={hn:={na:=1},lv:=[⟨38,xy.sp F⟩],N:=53,H:=xJ.h,HL:=xJ.hl,L:=mkL xJ.hl [⟨4,fun x R K=>xJ.L4 F R K F x⟩]}
theorem xJ.ok (m:Int) (F:Nat):OKP m 117 xJ.sg (xJ.sp F) :=
 okp (xJ.X m F) Go.Proofs.Tryz.func117 ⟨xy.ok m F,trivial⟩ trivial 1 0 (yB (FX.loopk 4 F (xJ.L4 F)) zp) zp
def z8.te:TEs:=[kL 0,(3,.b zh),kL 5,kL 6,kL 8,kL 9,(11,kI),(12,kB),(17,kB),(28,kB),(31,kB),(47,kB),(57,kB),(67,kB),(96,kB)]
def z8.tb:TEs:=[(0,.g zj),(5,.g yr),(6,.g zx),(8,.g zh),(9,.g zh)]
def z8.h:SH:=shN z8.te z8.tb [] [(0,31,15,0),(1,95,15,0),(2,223,15,0),(3,16,9,0),(4,351,15,0),(5,16,9,0),(6,607,15,0),(7,16,9,0),(8,1119,15,0),(9,16,9,0),(10,2139,13,0),(11,16,9,0),(12,4187,13,0),(13,4187,13,0),(14,16,9,0),(15,8219,13,0),(16,18,9,0),(17,16,9,0),(18,57,29,0),(19,16441,29,0),(20,48,25,0),(21,16,9,0)]
def z8.hj:Nat->Option Shape:=shO z8.te z8.tb [] [(18,27,13,0)]
def z8.J18 (F:Nat) (x:(Unit×(List zh.T)×Unit×Unit×Unit)×(zj.T×zx.T×zh.T×Unit)×(Unit)) (R:Type) (K:KK R):Option R :=
 z8.j18 F (fun m r8=>K .ret (xl (z8.h 21) (((),()),(m,r8,()),()))) x.1.2.1 x.2.1.1 x.2.1.2.1 x.2.1.2.2.1
def z8.X (m:Int) (F:Nat):FX TI (G m) Sg:={hn:={na:=4},lv:=[⟨22,yQ.sp F⟩,⟨114,xk.sp F⟩,⟨95,vn.sp F⟩,⟨115,xn.sp F⟩,⟨116,zN.sp F⟩,⟨117,xJ.sp F⟩,⟨118,xp.sp F⟩],N:=104,H:=z8.h,HJ:=z8.hj,J:=mkJ z8.hj [⟨18,z8.J18 F⟩]}
theorem z8.ok (m:Int) (F:Nat):OKP m 74 z8.sg (z8.sp F) :=
 okp (z8.X m F) Go.Proofs.Tryz.func74 ⟨yQ.ok m F,xk.ok m F,vn.ok m F,xn.ok m F,zN.ok m F,xJ.ok m F,xp.ok m F,trivial⟩ trivial 0 1 zp (yB (FX.cutk 18) zp)
def v8.te:TEs:=[kL 2,kL 3,(4,kI),(5,kB),(9,kB)]
def v8.tb:TEs:=[(2,.g zh),(3,.g zh)]
def v8.h:SH:=shN v8.te v8.tb [] [(0,3,3,0),(1,11,3,0),(2,4,0,0),(3,19,3,0),(4,16,0,0),(5,4,0,0),(6,4,0,0)]
def v8.X (m:Int) (F:Nat):FX TI (G m) Sg:={hn:={na:=2},N:=27,H:=v8.h}
theorem v8.ok (m:Int) (F:Nat):OKP m 119 v8.sg (v8.sp F) :=
 okp (v8.X m F) Go.Proofs.Tryz.func119 trivial trivial 0 0 zp zp
def vu.te:TEs:=[kL 2,kL 3,(4,kB),kL 5,(9,kB)]
def vu.tb:TEs:=[(2,.g zx),(3,.g zh),(5,.g zh)]
def vu.h:SH:=shN vu.te vu.tb [] [(0,3,3,0),(1,11,7,0),(2,26,6,0),(3,10,6,0),(4,4,0,0)]
def vu.X (m:Int) (F:Nat):FX TI (G m) Sg:={hn:={na:=2},lv:=[⟨22,yQ.sp F⟩,⟨47,xc.sp F⟩,⟨119,v8.sp F⟩],N:=20,H:=vu.h}
theorem vu.ok (m:Int) (F:Nat):OKP m 75 vu.sg (vu.sp F) :=
 okp (vu.X m F) Go.Proofs.Tryz.func75 ⟨yQ.ok m F,xc.ok m F,v8.ok m F,trivial⟩ trivial 0 0 zp zp
def zJ.te:TEs:=[kL 2,kL 3,(4,.c (.sl zh)),(5,kI),(6,.c (.sl zh)),(6,.ow 6),(7,.ow 7),(8,.loc 15),(9,kI),kL 10,(11,kI),kL 12,(17,.c (.sl zx)),(18,kI),(19,kI),(20,kB),(44,kB)]
def zJ.tb:TEs:=[(2,.g yr),(3,.g zh),(10,.g zx),(12,.g zh),(15,.g zj)]
def zJ.tp:List qF:=[⟨6,.env 6,zh⟩,⟨7,.env 7,zh⟩]
def zJ.h:SH:=shN zJ.te zJ.tb zJ.tp [(0,3,3,0),(1,99,3,3),(2,225,17,3),(3,28897,17,3),(4,61665,17,3),(5,29665,21,3),(6,30689,21,3),(7,32737,29,3),(8,97761,25,3),(9,12,0,0),(10,31969,25,3),(11,28897,17,3),(12,28897,17,3),(13,12,0,0)]
def zJ.hl:SH:=shN zJ.te zJ.tb zJ.tp [(4,28897,17,3)]
def zJ.hj:Nat->Option Shape:=shO zJ.te zJ.tb zJ.tp [(13,16,0,0)]
def zJ.L4 (F:Nat) (R:Type) (K:KK R) (n:Nat) (x:(Unit×Unit×Unit×Unit×(List zx.T)×Int×Int×Unit)×(yr.T×zj.T×Unit)×((List zh.T)×(List zh.T)×Unit)):Option R :=
 zJ.l4 F (fun r4 r5=>K .ret (xl (zJ.h 9) ((r4,r5,()),(),()))) (fun t17 t18 t19 t20 p m mags pile=>K (.exit 0) (xl (zJ.h 4) (((),(),(),(),t17,t18,t19,t20,()),(p,m,()),(mags,pile,())))) n x.1.2.2.2.2.1 x.1.2.2.2.2.2.1 x.1.2.2.2.2.2.2.1 x.2.1.1 x.2.1.2.1 x.2.2.1 x.2.2.2.1
def zJ.J13 (F:Nat) (x:((List zh.T)×Unit)×(Unit)×(Unit)) (R:Type) (K:KK R):Option R :=
 zJ.j13 F (fun r4 r5=>K .ret (xl (zJ.h 13) ((r4,r5,()),(),()))) x.1.1
def zJ.X (m:Int) (F:Nat):FX TI (G m) Sg:={hn:={MU:=fun s=>lk false s [(49,true),(55,true)],na:=2,fzJ:=fun r=>lk [] r [(13,[6])]},lv:=[⟨73,yX.sp F⟩,⟨74,z8.sp F⟩,⟨75,vu.sp F⟩],N:=58,H:=zJ.h,HL:=zJ.hl,HJ:=zJ.hj,L:=mkL zJ.hl [⟨4,fun x R K=>zJ.L4 F R K F x⟩],J:=mkJ zJ.hj [⟨13,zJ.J13 F⟩]}
theorem zJ.ok (m:Int) (F:Nat):OKP m 40 zJ.sg (zJ.sp F) :=
 okp (zJ.X m F) Go.Proofs.Tryz.func40 ⟨yX.ok m F,z8.ok m F,vu.ok m F,trivial⟩ trivial 1 1 (yB (FX.loopk 4 F (zJ.L4 F)) zp) (yB (FX.cutk 13) zp)
def vC.te:TEs:=[kL 1,kL 2,(3,kI),(4,kI),(6,kI),(7,kI),(8,kI),kL 10,(11,kI),(13,kI),(21,kB),(31,kB),(49,kB)]
def vC.tb:TEs:=[(1,.g yr),(2,.g zh),(10,.g zh)]
def vC.h:SH:=shN vC.te vC.tb [] [(0,3,3,0),(1,51,3,0),(2,1075,3,0),(3,14,2,0),(4,67,3,0),(5,2115,3,0),(6,14,2,0),(7,387,7,0),(8,898,6,0),(9,4994,6,0),(10,14,2,0),(11,14,2,0)]
def vC.X (m:Int) (F:Nat):FX TI (G m) Sg:={hn:={na:=1},lv:=[⟨42,zE.sp F⟩,⟨24,yq.sp F⟩,⟨43,yV.sp F⟩,⟨40,zJ.sp F⟩],N:=54,H:=vC.h}
theorem vC.ok (m:Int) (F:Nat):OKP m 23 vC.sg (vC.sp F) :=
 okp (vC.X m F) Go.Proofs.Tryz.func23 ⟨zE.ok m F,yq.ok m F,yV.ok m F,zJ.ok m F,trivial⟩ trivial 0 0 zp zp
def xq.te:TEs:=[kL 1,(2,.c (.sl zo)),kL 3,(7,kI),(8,kB),(15,kB),(28,kB),(32,kB)]
def xq.tb:TEs:=[(1,.g za),(3,.g zf)]
def xq.h:SH:=shN xq.te xq.tb [] [(0,1,1,0),(1,5,3,0),(2,13,3,0),(3,29,3,0),(4,4,2,0),(5,45,3,0),(6,4,2,0),(7,76,2,0),(8,4,2,0),(9,132,2,0),(10,4,2,0),(11,2,0,0)]
def xq.X (m:Int) (F:Nat):FX TI (G m) Sg:={hn:={na:=1},lv:=[⟨22,yQ.sp F⟩,⟨47,xc.sp F⟩],N:=39,H:=xq.h}
theorem xq.ok (m:Int) (F:Nat):OKP m 25 xq.sg (xq.sp F) :=
 okp (xq.X m F) Go.Proofs.Tryz.func25 ⟨yQ.ok m F,xc.ok m F,trivial⟩ trivial 0 0 zp zp
def xd.te:TEs:=[kL 1,(2,.c (.bnd za)),(3,kI),(4,.c (.sl (.pair (.bnd za) (.int .i64))))]
def xd.tb:TEs:=[(1,.g za)]
def xd.h:SH:=shN xd.te xd.tb [] [(0,1,1,0),(1,9,1,0),(2,6,0,0)]
def xd.X (m:Int) (F:Nat):FX TI (G m) Sg:={hn:={CT:=fun d=>lk .unit d [(6,za),(9,za),(12,za),(15,za),(18,za),(24,za),(30,za),(33,za),(36,za),(39,za),(42,za),(45,za)],na:=1},N:=62,H:=xd.h}
theorem xd.ok (m:Int) (F:Nat):OKP m 26 xd.sg (xd.sp F) :=
 okp (xd.X m F) Go.Proofs.Tryz.func26 trivial trivial 0 0 zp zp
def vJ.te:TEs:=[(3,kI),(4,kI),(5,kI),kL 6,kL 7,kL 8,kL 12,(13,kI),(23,kB)]
def vJ.tb:TEs:=[(6,.g zh),(7,.g zh),(8,.g zh),(12,.g zf)]
def vJ.h:SH:=shN vJ.te vJ.tb [] [(0,127,15,0),(1,376,15,0),(2,192,8,0),(3,192,8,0)]
def vJ.X (m:Int) (F:Nat):FX TI (G m) Sg:={hn:={na:=6},N:=29,H:=vJ.h}
theorem vJ.ok (m:Int) (F:Nat):OKP m 187 vJ.sg (vJ.sp F) :=
 okp (vJ.X m F) Go.Proofs.Tryz.func187 trivial trivial 0 0 zp zp
def uK.te:TEs:=[kL 2,kL 3,kL 4,(5,kI),kL 6,(7,kI),kL 8,(9,kI),kL 10,(11,kI)]
def uK.tb:TEs:=[(2,.g zf),(3,.g zf),(4,.g zf),(6,.g zh),(8,.g zh),(10,.g zh)]
def uK.h:SH:=shN uK.te uK.tb [] [(0,7,7,0),(1,55,15,0),(2,247,31,0),(3,1012,60,0),(4,12,4,0)]
def uK.X (m:Int) (F:Nat):FX TI (G m) Sg:={hn:={na:=2},lv:=[⟨15,wU.sp F⟩,⟨187,vJ.sp F⟩],N:=45,H:=uK.h}
theorem uK.ok (m:Int) (F:Nat):OKP m 145 uK.sg (uK.sp F) :=
 okp (uK.X m F) Go.Proofs.Tryz.func145 ⟨wU.ok m F,vJ.ok m F,trivial⟩ trivial 0 0 zp zp
def vv.te:TEs:=[kL 2,kL 3,kL 4,kL 5]
def vv.tb:TEs:=[(2,.g zf),(3,.g zf),(4,.g zf),(5,.g zf)]
def vv.h:SH:=shN vv.te vv.tb [] [(0,7,7,0),(1,12,12,0),(2,4,4,0)]
def vv.X (m:Int) (F:Nat):FX TI (G m) Sg:={hn:={na:=2},lv:=[⟨145,uK.sp F⟩],N:=14,H:=vv.h}
theorem vv.ok (m:Int) (F:Nat):OKP m 88 vv.sg (vv.sp F) :=
 okp (vv.X m F) Go.Proofs.Tryz.func88 ⟨uK.ok m F,trivial⟩ trivial 0 0 zp zp
def wy.te:TEs:=[(1,.b zf),kL 6,(7,.c (.sl zf))]
def wy.tb:TEs:=[(6,.g zf)]
def wy.h:SH:=shN wy.te wy.tb [] [(0,3,1,0),(1,6,1,0)]
def wy.X (m:Int) (F:Nat):FX TI (G m) Sg:={hn:={na:=3},lv:=[⟨88,vv.sp F⟩],N:=15,H:=wy.h}
theorem wy.ok (m:Int) (F:Nat):OKP m 49 wy.sg (wy.sp F) :=
 okp (wy.X m F) Go.Proofs.Tryz.func49 ⟨vv.ok m F,trivial⟩ trivial 0 0 zp zp
def y7.te:TEs:=[kL 1,kL 2]
def y7.tb:TEs:=[(1,.g zh),(2,.g zf)]
def y7.h:SH:=shN y7.te y7.tb [] [(0,3,3,0),(1,2,2,0)]
def y7.X (m:Int) (F:Nat):FX TI (G m) Sg:={hn:={na:=1},N:=5,H:=y7.h}
theorem y7.ok (m:Int) (F:Nat):OKP m 89 y7.sg (y7.sp F) :=
 okp (y7.X m F) Go.Proofs.Tryz.func89 trivial trivial 0 0 zp zp
def uJ.te:TEs:=[kL 2,kL 3,kL 4,(5,kI),kL 6,(7,kI),kL 8,(9,kI),kL 10,(11,kI)]
def uJ.tb:TEs:=[(2,.g zf),(3,.g zf),(4,.g zf),(6,.g zh),(8,.g zh),(10,.g zh)]
def uJ.h:SH:=shN uJ.te uJ.tb [] [(0,7,7,0),(1,55,15,0),(2,247,31,0),(3,1012,60,0),(4,12,4,0)]
def uJ.X (m:Int) (F:Nat):FX TI (G m) Sg:={hn:={na:=2},lv:=[⟨16,vK.sp F⟩,⟨187,vJ.sp F⟩],N:=45,H:=uJ.h}
theorem uJ.ok (m:Int) (F:Nat):OKP m 144 uJ.sg (uJ.sp F) :=
 okp (uJ.X m F) Go.Proofs.Tryz.func144 ⟨vK.ok m F,vJ.ok m F,trivial⟩ trivial 0 0 zp zp
def xP.te:TEs:=[kL 2,kL 3,kL 4,kL 5]
def xP.tb:TEs:=[(2,.g zf),(3,.g zf),(4,.g zf),(5,.g zf)]
def xP.h:SH:=shN xP.te xP.tb [] [(0,7,7,0),(1,12,12,0),(2,4,4,0)]
def xP.X (m:Int) (F:Nat):FX TI (G m) Sg:={hn:={na:=2},lv:=[⟨144,uJ.sp F⟩],N:=14,H:=xP.h}
theorem xP.ok (m:Int) (F:Nat):OKP m 87 xP.sg (xP.sp F) :=
 okp (xP.X m F) Go.Proofs.Tryz.func87 ⟨uJ.ok m F,trivial⟩ trivial 0 0 zp zp
def yW.te:TEs:=[(0,kI),(1,.p zf),(2,.p za),kL 4]
def yW.tb:TEs:=[(4,.g zf)]
def yW.h:SH:=shN yW.te yW.tb [] [(0,15,1,0),(1,8,1,0)]
def yW.X (m:Int) (F:Nat):FX TI (G m) Sg:={hn:={na:=3},lv:=[⟨22,yQ.sp F⟩,⟨89,y7.sp F⟩,⟨87,xP.sp F⟩],N:=16,H:=yW.h}
theorem yW.ok (m:Int) (F:Nat):OKP m 147 yW.sg (yW.sp F) :=
 okp (yW.X m F) Go.Proofs.Tryz.func147 ⟨yQ.ok m F,y7.ok m F,xP.ok m F,trivial⟩ trivial 0 0 zp zp
def ui.te:TEs:=[(0,kI),(1,kI),(4,kB)]
def ui.h:SH:=shN ui.te [] [] [(0,3,0,0),(1,4,0,0)]
def ui.X (m:Int) (F:Nat):FX TI (G m) Sg:={hn:={na:=2},N:=19,H:=ui.h}
theorem ui.ok (m:Int) (F:Nat):OKP m 68 ui.sg (ui.sp F) :=
 okp (ui.X m F) Go.Proofs.Tryz.func68 trivial trivial 0 0 zp zp
def vo.te:TEs:=[(0,kI),(1,kI),(4,kI)]
def vo.h:SH:=shN vo.te [] [] [(0,3,0,0),(1,4,0,0)]
def vo.X (m:Int) (F:Nat):FX TI (G m) Sg:={hn:={na:=2},N:=13,H:=vo.h}
theorem vo.ok (m:Int) (F:Nat):OKP m 69 vo.sg (vo.sp F) :=
 okp (vo.X m F) Go.Proofs.Tryz.func69 trivial trivial 0 0 zp zp
def wS.te:TEs:=[(1,kI),(2,kI),kL 3,kL 6,(7,kI),kL 8,(9,kI),kL 10,kL 11,(15,kB),(26,kB),(40,kB),(51,kB)]
def wS.tb:TEs:=[(3,.g zf),(6,.g zh),(8,.g zh),(10,.g zh),(11,.g zh)]
def wS.h:SH:=shN wS.te wS.tb [] [(0,15,3,0),(1,527,3,0),(2,24,2,0),(3,111,7,0),(4,1135,7,0),(5,24,2,0),(6,236,15,0),(7,2284,15,0),(8,24,2,0),(9,456,26,0),(10,4552,26,0),(11,24,2,0),(12,24,2,0)]
def wS.X (m:Int) (F:Nat):FX TI (G m) Sg:={hn:={na:=3},lv:=[⟨68,ui.sp F⟩,⟨22,yQ.sp F⟩,⟨47,xc.sp F⟩,⟨69,vo.sp F⟩,⟨15,wU.sp F⟩],N:=59,H:=wS.h}
theorem wS.ok (m:Int) (F:Nat):OKP m 35 wS.sg (wS.sp F) :=
 okp (wS.X m F) Go.Proofs.Tryz.func35 ⟨ui.ok m F,yQ.ok m F,xc.ok m F,vo.ok m F,wU.ok m F,trivial⟩ trivial 0 0 zp zp
def vp.te:TEs:=[kL 1,(2,kI),(3,kB),(7,kB)]
def vp.tb:TEs:=[(1,.g zh)]
def vp.h:SH:=shN vp.te vp.tb [] [(0,1,1,0),(1,5,1,0),(2,2,0,0),(3,8,0,0),(4,2,0,0),(5,2,0,0)]
def vp.X (m:Int) (F:Nat):FX TI (G m) Sg:={hn:={na:=1},N:=11,H:=vp.h}
theorem vp.ok (m:Int) (F:Nat):OKP m 17 vp.sg (vp.sp F) :=
 okp (vp.X m F) Go.Proofs.Tryz.func17 trivial trivial 0 0 zp zp
def yx.te:TEs:=[(2,kI),kL 3,kL 4,(6,kB),kL 7]
def yx.tb:TEs:=[(3,.g za),(4,.g zf),(7,.g zh)]
def yx.h:SH:=shN yx.te yx.tb [] [(0,7,3,0),(1,16,4,0),(2,8,0,0)]
def yx.X (m:Int) (F:Nat):FX TI (G m) Sg:={hn:={na:=3},lv:=[⟨35,wS.sp F⟩,⟨17,vp.sp F⟩],N:=20,H:=yx.h}
theorem yx.ok (m:Int) (F:Nat):OKP m 91 yx.sg (yx.sp F) :=
 okp (yx.X m F) Go.Proofs.Tryz.func91 ⟨wS.ok m F,vp.ok m F,trivial⟩ trivial 0 0 zp zp
def zk.te:TEs:=[(2,kI),kL 3,(3,.p za),kL 4,(6,kI),(7,.c (.sl zf)),(8,.cl2 zf za),(9,kI),(10,.c (.sl zf)),(10,.ow 10),(25,kB),(29,kB),(42,kB)]
def zk.tb:TEs:=[(3,.g za),(4,.g zf)]
def zk.tp:List qF:=[⟨10,.env 10,zf⟩]
def zk.h:SH:=shN zk.te zk.tb zk.tp [(0,11,3,0),(1,69,0,0),(2,197,0,0),(3,1221,0,0),(4,197,0,0),(5,708,0,1),(6,2756,0,1),(7,708,0,1),(8,4800,0,1),(9,384,0,0),(10,48,0,0)]
def zk.hl:SH:=shN zk.te zk.tb zk.tp [(3,197,0,0)]
def zk.hj:Nat->Option Shape:=shO zk.te zk.tb zk.tp [(8,708,0,1),(10,384,0,0)]
def zk.L3 (F:Nat) (R:Type) (K:KK R) (n:Nat) (x:(Int×za.T×(Nat×zf.T×za.T)×Int×Unit)×(Unit)×(Unit)):Option R :=
 zk.l3 F (fun q m from_ n t25=>K (.exit 0) (xl (zk.h 3) ((q,m,from_,n,t25,()),(),()))) n x.1.1 x.1.2.1 x.1.2.2.1 x.1.2.2.2.1
def zk.J10 (F:Nat) (x:(Int×(List zf.T)×Unit)×(Unit)×(Unit)) (R:Type) (K:KK R):Option R :=
 zk.j10 F (fun r6 r7=>K .ret (xl (zk.h 10) ((r6,r7,()),(),()))) x.1.1 x.1.2.1
def zk.J8 (F:Nat) (x:(za.T×(Nat×zf.T×za.T)×Int×Unit×Unit)×(Unit)×((List zf.T)×Unit)) (R:Type) (K:KK R):Option R :=
 zk.j8 F (fun r6 r7=>K .ret (xl (zk.h 10) ((r6,r7,()),(),()))) x.1.1 x.1.2.1 x.1.2.2.1 x.2.2.1
def zk.X (m:Int) (F:Nat):FX TI (G m) Sg:={hn:={MU:=fun s=>lk false s [(36,true),(48,true)],DS:=fun d=>lk none d [(22,some zk.ds22),(34,some zk.ds34),(46,some zk.ds46)],CT:=fun d=>lk .unit d [(11,(.pair zf za))],na:=3,fz:=fun r=>lk [] r [(9,[48])],fzJ:=fun r=>lk [] r [(10,[10])]},lv:=[⟨91,yx.sp F⟩],ld:=[⟨22,zk.d22 F⟩,⟨34,zk.d34 F⟩,⟨46,zk.d46 F⟩],N:=51,H:=zk.h,HL:=zk.hl,HJ:=zk.hj,L:=mkL zk.hl [⟨3,fun x R K=>zk.L3 F R K F x⟩],J:=mkJ zk.hj [⟨10,zk.J10 F⟩,⟨8,zk.J8 F⟩]}
theorem zk.ok (m:Int) (F:Nat):OKP m 93 zk.sg (zk.sp F) :=
 okp (zk.X m F) Go.Proofs.Tryz.func93 ⟨yx.ok m F,trivial⟩ ⟨ZS ⟨⟨147,by kernel_rfl,yW.ok m F⟩,trivial⟩,ZS ⟨⟨147,by kernel_rfl,yW.ok m F⟩,trivial⟩,ZS ⟨⟨147,by kernel_rfl,yW.ok m F⟩,trivial⟩,trivial⟩ 1 2 (yB (FX.loopk 3 F (zk.L3 F)) zp) (yB (FX.cutk 10) (yB (FX.cutk 8) zp))
def vQ.te:TEs:=[kL 2,kL 3,kL 4,(5,kI),kL 6,(7,kI),kL 8,(9,kI),kL 10,(11,kI)]
def vQ.tb:TEs:=[(2,.g zf),(3,.g zh),(4,.g zf),(6,.g zh),(8,.g zh),(10,.g zh)]
def vQ.h:SH:=shN vQ.te vQ.tb [] [(0,7,7,0),(1,55,15,0),(2,247,31,0),(3,1012,60,0),(4,12,4,0)]
def vQ.X (m:Int) (F:Nat):FX TI (G m) Sg:={hn:={na:=2},lv:=[⟨47,xc.sp F⟩,⟨187,vJ.sp F⟩],N:=42,H:=vQ.h}
theorem vQ.ok (m:Int) (F:Nat):OKP m 146 vQ.sg (vQ.sp F) :=
 okp (vQ.X m F) Go.Proofs.Tryz.func146 ⟨xc.ok m F,vJ.ok m F,trivial⟩ trivial 0 0 zp zp
def vk.te:TEs:=[kL 2,kL 3,kL 4,kL 5]
def vk.tb:TEs:=[(2,.g zf),(3,.g zh),(4,.g zf),(5,.g zf)]
def vk.h:SH:=shN vk.te vk.tb [] [(0,7,7,0),(1,12,12,0),(2,4,4,0)]
def vk.X (m:Int) (F:Nat):FX TI (G m) Sg:={hn:={na:=2},lv:=[⟨146,vQ.sp F⟩],N:=14,H:=vk.h}
theorem vk.ok (m:Int) (F:Nat):OKP m 90 vk.sg (vk.sp F) :=
 okp (vk.X m F) Go.Proofs.Tryz.func90 ⟨vQ.ok m F,trivial⟩ trivial 0 0 zp zp
def zO.te:TEs:=[(1,.b zf),(2,kI),kL 3,kL 6,(7,.c (.sl zf)),(8,kI),(9,.c (.sl zf)),kL 10,(11,.c (.sl yp)),(12,kI),kL 13,kL 15,(26,kB),(34,kI),(35,kI),(36,kB)]
def zO.tb:TEs:=[(3,.g za),(6,.g zf),(10,.g zh),(13,.g zh),(15,.g zf)]
def zO.h:SH:=shN zO.te zO.tb [] [(0,15,3,0),(1,109,3,0),(2,4205,3,0),(3,24,2,0),(4,237,7,0),(5,493,7,0),(6,25069,7,0),(7,57837,7,0),(8,25581,7,0),(9,26093,15,0),(10,25069,7,0),(11,25069,7,0),(12,2252,23,0),(13,24,2,0)]
def zO.hl:SH:=shN zO.te zO.tb [] [(7,25069,7,0)]
def zO.L7 (F:Nat) (R:Type) (K:KK R) (n:Nat) (x:((List zf.T)×Unit×Unit×Int×(List zf.T)×Unit×(List yp.T)×Int×Int×Unit)×(za.T×zf.T×zh.T×Unit)×(Unit)):Option R :=
 zO.l7 F (fun k n turn t t34 t35 t36 m r6 base=>K (.exit 0) (xl (zO.h 7) ((k,(),(),n,turn,(),t,t34,t35,t36,()),(m,r6,base,()),()))) n x.1.1 x.1.2.2.2.1 x.1.2.2.2.2.1 x.1.2.2.2.2.2.2.1 x.1.2.2.2.2.2.2.2.1 x.1.2.2.2.2.2.2.2.2.1 x.2.1.1 x.2.1.2.1 x.2.1.2.2.1
def zO.X (m:Int) (F:Nat):FX TI (G m) Sg:={hn:={na:=3},lv:=[⟨93,zk.sp F⟩,⟨22,yQ.sp F⟩,⟨47,xc.sp F⟩,⟨15,wU.sp F⟩,⟨89,y7.sp F⟩,⟨87,xP.sp F⟩,⟨90,vk.sp F⟩,⟨88,vv.sp F⟩],N:=96,H:=zO.h,HL:=zO.hl,L:=mkL zO.hl [⟨7,fun x R K=>zO.L7 F R K F x⟩]}
theorem zO.ok (m:Int) (F:Nat):OKP m 56 zO.sg (zO.sp F) :=
 okp (zO.X m F) Go.Proofs.Tryz.func56 ⟨zk.ok m F,yQ.ok m F,xc.ok m F,wU.ok m F,y7.ok m F,xP.ok m F,vk.ok m F,vv.ok m F,trivial⟩ trivial 1 0 (yB (FX.loopk 7 F (zO.L7 F)) zp) zp
def xT.te:TEs:=[(1,.b zf),(2,kI),kL 3,kL 6,(7,.c (.sl zf)),kL 8,(19,kB)]
def xT.tb:TEs:=[(3,.g za),(6,.g zf),(8,.g zf)]
def xT.h:SH:=shN xT.te xT.tb [] [(0,15,3,0),(1,47,7,0),(2,105,6,0),(3,24,2,0),(4,24,2,0)]
def xT.X (m:Int) (F:Nat):FX TI (G m) Sg:={hn:={na:=3},lv:=[⟨87,xP.sp F⟩,⟨91,yx.sp F⟩],N:=30,H:=xT.h}
theorem xT.ok (m:Int) (F:Nat):OKP m 52 xT.sg (xT.sp F) :=
 okp (xT.X m F) Go.Proofs.Tryz.func52 ⟨xP.ok m F,yx.ok m F,trivial⟩ trivial 0 0 zp zp
def wg.te:TEs:=[(1,.b zf),(2,kI),kL 3,kL 6,(7,.c (.sl zf)),kL 8,(19,kB)]
def wg.tb:TEs:=[(3,.g za),(6,.g zf),(8,.g zf)]
def wg.h:SH:=shN wg.te wg.tb [] [(0,15,3,0),(1,47,7,0),(2,105,6,0),(3,24,2,0),(4,24,2,0)]
def wg.X (m:Int) (F:Nat):FX TI (G m) Sg:={hn:={na:=3},lv:=[⟨87,xP.sp F⟩,⟨91,yx.sp F⟩],N:=30,H:=wg.h}
theorem wg.ok (m:Int) (F:Nat):OKP m 53 wg.sg (wg.sp F) :=
 okp (wg.X m F) Go.Proofs.Tryz.func53 ⟨xP.ok m F,yx.ok m F,trivial⟩ trivial 0 0 zp zp
def wx.te:TEs:=[(1,.b zf),kL 6,(7,.c (.sl zf)),(16,kB)]
def wx.tb:TEs:=[(6,.g zf)]
def wx.h:SH:=shN wx.te wx.tb [] [(0,3,1,0),(1,11,1,0),(2,6,1,0),(3,6,1,0)]
def wx.X (m:Int) (F:Nat):FX TI (G m) Sg:={hn:={na:=3},lv:=[⟨89,y7.sp F⟩,⟨90,vk.sp F⟩],N:=33,H:=wx.h}
theorem wx.ok (m:Int) (F:Nat):OKP m 51 wx.sg (wx.sp F) :=
 okp (wx.X m F) Go.Proofs.Tryz.func51 ⟨y7.ok m F,vk.ok m F,trivial⟩ trivial 0 0 zp zp
def ww.te:TEs:=[(1,.b zf),kL 6,(7,.c (.sl zf))]
def ww.tb:TEs:=[(6,.g zf)]
def ww.h:SH:=shN ww.te ww.tb [] [(0,3,1,0),(1,6,1,0)]
def ww.X (m:Int) (F:Nat):FX TI (G m) Sg:={hn:={na:=3},lv:=[⟨87,xP.sp F⟩],N:=13,H:=ww.h}
theorem ww.ok (m:Int) (F:Nat):OKP m 48 ww.sg (ww.sp F) :=
 okp (ww.X m F) Go.Proofs.Tryz.func48 ⟨xP.ok m F,trivial⟩ trivial 0 0 zp zp
def xi.te:TEs:=[(1,.p za),kL 2,kL 3]
def xi.tb:TEs:=[(2,.g zh),(3,.g zh)]
def xi.h:SH:=shN xi.te xi.tb [] [(0,7,3,0),(1,6,3,0),(2,6,3,0),(3,4,2,0)]
def xi.X (m:Int) (F:Nat):FX TI (G m) Sg:={hn:={na:=2},lv:=[⟨22,yQ.sp F⟩,⟨47,xc.sp F⟩,⟨95,vn.sp F⟩],N:=21,H:=xi.h}
theorem xi.ok (m:Int) (F:Nat):OKP m 94 xi.sg (xi.sp F) :=
 okp (xi.X m F) Go.Proofs.Tryz.func94 ⟨yQ.ok m F,xc.ok m F,vn.ok m F,trivial⟩ trivial 0 0 zp zp
def yj.te:TEs:=[(1,.b zf),kL 3,kL 6,(7,.c (.sl zf)),(8,.cl za)]
def yj.tb:TEs:=[(3,.g za),(6,.g zf)]
def yj.h:SH:=shN yj.te yj.tb [] [(0,7,3,0),(1,21,2,0),(2,12,2,0)]
def yj.X (m:Int) (F:Nat):FX TI (G m) Sg:={hn:={DS:=fun d=>lk none d [(15,some yj.ds15),(21,some yj.ds21),(27,some yj.ds27)],CT:=fun d=>lk .unit d [(9,za)],na:=3},ld:=[⟨15,yj.d15 F⟩,⟨21,yj.d21 F⟩,⟨27,yj.d27 F⟩],N:=29,H:=yj.h}
theorem yj.ok (m:Int) (F:Nat):OKP m 58 yj.sg (yj.sp F) :=
 okp (yj.X m F) Go.Proofs.Tryz.func58 trivial ⟨ZS ⟨⟨94,by kernel_rfl,xi.ok m F⟩,trivial⟩,ZS ⟨⟨94,by kernel_rfl,xi.ok m F⟩,trivial⟩,ZS ⟨⟨94,by kernel_rfl,xi.ok m F⟩,trivial⟩,trivial⟩ 0 0 zp zp
def yJ.te:TEs:=[(2,kI),kL 3,kL 4,kL 6]
def yJ.tb:TEs:=[(3,.g za),(4,.g zf),(6,.g zf)]
def yJ.h:SH:=shN yJ.te yJ.tb [] [(0,15,7,0),(1,8,4,0)]
def yJ.X (m:Int) (F:Nat):FX TI (G m) Sg:={hn:={na:=3},lv:=[⟨22,yQ.sp F⟩,⟨89,y7.sp F⟩,⟨87,xP.sp F⟩],N:=16,H:=yJ.h}
theorem yJ.ok (m:Int) (F:Nat):OKP m 92 yJ.sg (yJ.sp F) :=
 okp (yJ.X m F) Go.Proofs.Tryz.func92 ⟨yQ.ok m F,y7.ok m F,xP.ok m F,trivial⟩ trivial 0 0 zp zp
def we.te:TEs:=[(1,.b zf),(2,kI),kL 3,kL 6,(7,.c (.sl zf)),kL 8,(17,kB)]
def we.tb:TEs:=[(3,.g za),(6,.g zf),(8,.g zf)]
def we.h:SH:=shN we.te we.tb [] [(0,15,3,0),(1,46,7,0),(2,104,6,0),(3,24,2,0),(4,24,2,0)]
def we.X (m:Int) (F:Nat):FX TI (G m) Sg:={hn:={na:=3},lv:=[⟨92,yJ.sp F⟩,⟨91,yx.sp F⟩],N:=24,H:=we.h}
theorem we.ok (m:Int) (F:Nat):OKP m 54 we.sg (we.sp F) :=
 okp (we.X m F) Go.Proofs.Tryz.func54 ⟨yJ.ok m F,yx.ok m F,trivial⟩ trivial 0 0 zp zp
def wv.te:TEs:=[(1,.b zf),kL 6,(7,.c (.sl zf))]
def wv.tb:TEs:=[(6,.g zf)]
def wv.h:SH:=shN wv.te wv.tb [] [(0,3,1,0),(1,6,1,0)]
def wv.X (m:Int) (F:Nat):FX TI (G m) Sg:={hn:={na:=3},lv:=[⟨87,xP.sp F⟩],N:=15,H:=wv.h}
theorem wv.ok (m:Int) (F:Nat):OKP m 50 wv.sg (wv.sp F) :=
 okp (wv.X m F) Go.Proofs.Tryz.func50 ⟨xP.ok m F,trivial⟩ trivial 0 0 zp zp
def wd.te:TEs:=[(1,.b zf),(2,kI),kL 3,kL 6,(7,.c (.sl zf)),kL 8,kL 9,(10,kB),(11,kB),(12,kB),(53,kB)]
def wd.tb:TEs:=[(3,.g za),(6,.g zf),(8,.g zf),(9,.g zf)]
def wd.h:SH:=shN wd.te wd.tb [] [(0,15,3,0),(1,111,15,0),(2,493,15,0),(3,617,14,0),(4,1129,14,0),(5,24,2,0),(6,24,2,0)]
def wd.X (m:Int) (F:Nat):FX TI (G m) Sg:={hn:={na:=3},lv:=[⟨92,yJ.sp F⟩,⟨91,yx.sp F⟩],N:=66,H:=wd.h}
theorem wd.ok (m:Int) (F:Nat):OKP m 59 wd.sg (wd.sp F) :=
 okp (wd.X m F) Go.Proofs.Tryz.func59 ⟨yJ.ok m F,yx.ok m F,trivial⟩ trivial 0 0 zp zp
def wb.te:TEs:=[(1,.b zf),(2,kI),kL 3,kL 6,(7,.c (.sl zf)),kL 8,(17,kB)]
def wb.tb:TEs:=[(3,.g za),(6,.g zf),(8,.g zf)]
def wb.h:SH:=shN wb.te wb.tb [] [(0,15,3,0),(1,47,7,0),(2,109,7,0),(3,24,2,0),(4,24,2,0)]
def wb.X (m:Int) (F:Nat):FX TI (G m) Sg:={hn:={na:=3},lv:=[⟨92,yJ.sp F⟩,⟨91,yx.sp F⟩,⟨22,yQ.sp F⟩,⟨89,y7.sp F⟩],N:=30,H:=wb.h}
theorem wb.ok (m:Int) (F:Nat):OKP m 55 wb.sg (wb.sp F) :=
 okp (wb.X m F) Go.Proofs.Tryz.func55 ⟨yJ.ok m F,yx.ok m F,yQ.ok m F,y7.ok m F,trivial⟩ trivial 0 0 zp zp
def xI.te:TEs:=[(1,.b zf),(2,kI),kL 3,kL 6,(7,.c (.sl zf)),(8,kI),(9,.c (.sl zf)),(20,kB)]
def xI.tb:TEs:=[(3,.g za),(6,.g zf)]
def xI.h:SH:=shN xI.te xI.tb [] [(0,15,3,0),(1,109,3,0),(2,237,3,0),(3,24,2,0),(4,24,2,0)]
def xI.X (m:Int) (F:Nat):FX TI (G m) Sg:={hn:={na:=3},lv:=[⟨93,zk.sp F⟩,⟨22,yQ.sp F⟩,⟨90,vk.sp F⟩],N:=40,H:=xI.h}
theorem xI.ok (m:Int) (F:Nat):OKP m 57 xI.sg (xI.sp F) :=
 okp (xI.X m F) Go.Proofs.Tryz.func57 ⟨zk.ok m F,yQ.ok m F,vk.ok m F,trivial⟩ trivial 0 0 zp zp
def uv.te:TEs:=[kL 1,kL 2,(3,kI),(6,kB)]
def uv.tb:TEs:=[(1,.g zh),(2,.g zh)]
def uv.h:SH:=shN uv.te uv.tb [] [(0,3,3,0),(1,11,3,0),(2,6,2,0),(3,6,2,0)]
def uv.X (m:Int) (F:Nat):FX TI (G m) Sg:={hn:={na:=1},lv:=[⟨143,vT.sp F⟩],N:=12,H:=uv.h}
theorem uv.ok (m:Int) (F:Nat):OKP m 189 uv.sg (uv.sp F) :=
 okp (uv.X m F) Go.Proofs.Tryz.func189 ⟨vT.ok m F,trivial⟩ trivial 0 0 zp zp
def uj.te:TEs:=[(1,kI),kL 2,kL 4,(5,kI),kL 6,(7,kI),kL 8,(9,kI),kL 10,(11,kI),(14,kB),(43,kB)]
def uj.tb:TEs:=[(2,.g zf),(4,.g zh),(6,.g zh),(8,.g zh),(10,.g zh)]
def uj.h:SH:=shN uj.te uj.tb [] [(0,7,3,0),(1,1031,3,0),(2,12,2,0),(3,55,7,0),(4,247,15,0),(5,1013,30,0),(6,2389,30,0),(7,12,2,0),(8,12,2,0)]
def uj.X (m:Int) (F:Nat):FX TI (G m) Sg:={hn:={na:=2},lv:=[⟨68,ui.sp F⟩,⟨189,uv.sp F⟩,⟨35,wS.sp F⟩],N:=53,H:=uj.h}
theorem uj.ok (m:Int) (F:Nat):OKP m 150 uj.sg (uj.sp F) :=
 okp (uj.X m F) Go.Proofs.Tryz.func150 ⟨ui.ok m F,uv.ok m F,wS.ok m F,trivial⟩ trivial 0 0 zp zp
def wH.te:TEs:=[(1,kI),kL 2,kL 4,kL 5]
def wH.tb:TEs:=[(2,.g (.pair zf (.pair (.int .i64) .bool))),(4,.g zh),(5,.g zh)]
def wH.h:SH:=shN wH.te wH.tb [] [(0,7,3,0),(1,12,6,0),(2,4,2,0)]
def wH.X (m:Int) (F:Nat):FX TI (G m) Sg:={hn:={na:=2},lv:=[⟨35,wS.sp F⟩],N:=17,H:=wH.h}
theorem wH.ok (m:Int) (F:Nat):OKP m 151 wH.sg (wH.sp F) :=
 okp (wH.X m F) Go.Proofs.Tryz.func151 ⟨wS.ok m F,trivial⟩ trivial 0 0 zp zp
def uA.te:TEs:=[kL 1,(2,kI),(3,kB),(4,kI),(12,kB)]
def uA.tb:TEs:=[(1,.g zh)]
def uA.h:SH:=shN uA.te uA.tb [] [(0,1,1,0),(1,9,1,0),(2,24,0,0),(3,6,0,0),(4,6,0,0)]
def uA.X (m:Int) (F:Nat):FX TI (G m) Sg:={hn:={na:=1},N:=14,H:=uA.h}
theorem uA.ok (m:Int) (F:Nat):OKP m 207 uA.sg (uA.sp F) :=
 okp (uA.X m F) Go.Proofs.Tryz.func207 trivial trivial 0 0 zp zp
def yo.te:TEs:=[(3,kI),kL 4,kL 5,kL 6,(8,kI),(9,kB),kL 10,kL 12,(14,kI),(15,kB),(21,kB),(38,kB),(51,kB)]
def yo.tb:TEs:=[(4,.g (.pair zf (.pair (.int .i64) .bool))),(5,.g zh),(6,.g zh),(10,.g zh),(12,.g zh)]
def yo.h:SH:=shN yo.te yo.tb [] [(0,15,7,0),(1,1039,7,0),(2,48,0,0),(3,2063,7,0),(4,48,0,0),(5,75,13,0),(6,203,29,0),(7,4297,28,0),(8,129,16,0),(9,129,16,0),(10,769,0,0),(11,48,0,0)]
def yo.hj:Nat->Option Shape:=shO yo.te yo.tb [] [(5,15,7,0),(10,129,16,0)]
def yo.J10 (F:Nat) (x:(Int×Unit×Unit)×(zh.T×Unit)×(Unit)) (R:Type) (K:KK R):Option R :=
 yo.j10 F (fun r8 r9=>K .ret (xl (yo.h 11) ((r8,r9,()),(),()))) x.1.1 x.2.1.1
def yo.J5 (F:Nat) (x:(Int×Unit×Unit×Unit×Unit)×((zf.T×Int×Bool)×zh.T×zh.T×Unit)×(Unit)) (R:Type) (K:KK R):Option R :=
 yo.j5 F (fun r8 r9=>K .ret (xl (yo.h 11) ((r8,r9,()),(),()))) x.1.1 x.2.1.1 x.2.1.2.1 x.2.1.2.2.1
def yo.X (m:Int) (F:Nat):FX TI (G m) Sg:={hn:={na:=4},lv:=[⟨17,vp.sp F⟩,⟨143,vT.sp F⟩,⟨95,vn.sp F⟩,⟨207,uA.sp F⟩,⟨22,yQ.sp F⟩,⟨15,wU.sp F⟩],N:=76,H:=yo.h,HJ:=yo.hj,J:=mkJ yo.hj [⟨10,yo.J10 F⟩,⟨5,yo.J5 F⟩]}
theorem yo.ok (m:Int) (F:Nat):OKP m 190 yo.sg (yo.sp F) :=
 okp (yo.X m F) Go.Proofs.Tryz.func190 ⟨vp.ok m F,vT.ok m F,vn.ok m F,uA.ok m F,yQ.ok m F,wU.ok m F,trivial⟩ trivial 0 2 zp (yB (FX.cutk 10) (yB (FX.cutk 5) zp))
def xZ.te:TEs:=[(1,kI),(2,kI),kL 3,(6,kI),(7,kB),(8,kI),(9,kB),(12,kB)]
def xZ.tb:TEs:=[(3,.g (.pair zf (.pair (.int .i64) .bool)))]
def xZ.h:SH:=shN xZ.te xZ.tb [] [(0,7,1,0),(1,135,1,0),(2,24,0,0),(3,97,0,0),(4,24,0,0)]
def xZ.X (m:Int) (F:Nat):FX TI (G m) Sg:={hn:={na:=3},lv:=[⟨151,wH.sp F⟩,⟨190,yo.sp F⟩],N:=31,H:=xZ.h}
theorem xZ.ok (m:Int) (F:Nat):OKP m 152 xZ.sg (xZ.sp F) :=
 okp (xZ.X m F) Go.Proofs.Tryz.func152 ⟨wH.ok m F,yo.ok m F,trivial⟩ trivial 0 0 zp zp
def xY.te:TEs:=[(1,kI),kL 2,(4,kI),(5,kI)]
def xY.tb:TEs:=[(2,.g (.pair zf (.pair (.int .i64) .bool)))]
def xY.h:SH:=shN xY.te xY.tb [] [(0,3,1,0),(1,12,0,0)]
def xY.X (m:Int) (F:Nat):FX TI (G m) Sg:={hn:={na:=2},N:=17,H:=xY.h}
theorem xY.ok (m:Int) (F:Nat):OKP m 154 xY.sg (xY.sp F) :=
 okp (xY.X m F) Go.Proofs.Tryz.func154 trivial trivial 0 0 zp zp
def wG.te:TEs:=[(1,kI),(2,kI),kL 3,(6,kI),(7,kB),kL 8,(10,kI),(11,kI),(12,kI),(13,kB),(14,kI),(15,kB),(18,kB),(67,kB),(77,kB)]
def wG.tb:TEs:=[(3,.g (.pair zf (.pair (.int .i64) .bool))),(8,.g zh)]
def wG.h:SH:=shN wG.te wG.tb [] [(0,7,1,0),(1,4103,1,0),(2,24,0,0),(3,39,3,0),(4,39,3,0),(5,231,3,0),(6,935,3,0),(7,3841,0,0),(8,12033,0,0),(9,24,0,0),(10,19713,0,0),(11,24,0,0),(12,24,0,0)]
def wG.X (m:Int) (F:Nat):FX TI (G m) Sg:={hn:={na:=3},lv:=[⟨22,yQ.sp F⟩,⟨47,xc.sp F⟩,⟨15,wU.sp F⟩,⟨154,xY.sp F⟩,⟨151,wH.sp F⟩,⟨190,yo.sp F⟩],N:=86,H:=wG.h}
theorem wG.ok (m:Int) (F:Nat):OKP m 153 wG.sg (wG.sp F) :=
 okp (wG.X m F) Go.Proofs.Tryz.func153 ⟨yQ.ok m F,xc.ok m F,wU.ok m F,xY.ok m F,wH.ok m F,yo.ok m F,trivial⟩ trivial 0 0 zp zp
def wJ.te:TEs:=[(1,kI),(2,kI),kL 3,(6,kI),(7,kI),kL 8,(9,kI),kL 10,(11,kI),(12,kI),(13,kI),(14,kB),(15,kI),(16,kB),(17,kI),(18,kI),(19,kI),(20,kB),(24,kB),(38,kB),(64,kB),(76,kB),(83,kB),(97,kB)]
def wJ.tb:TEs:=[(3,.g zf),(8,.g zh),(10,.g (.pair zf (.pair (.int .i64) .bool)))]
def wJ.h:SH:=shN wJ.te wJ.tb [] [(0,7,1,0),(1,262151,1,0),(2,24,0,0),(3,103,3,0),(4,524295,1,0),(5,24,0,0),(6,131,4,0),(7,131,4,0),(8,899,4,0),(9,3968,4,0),(10,1050496,4,0),(11,24,0,0),(12,13184,4,0),(13,2102144,4,0),(14,4736,4,0),(15,4198528,4,0),(16,24,0,0),(17,49280,4,0),(18,196608,0,0),(19,8454144,0,0),(20,24,0,0),(21,24,0,0)]
def wJ.hj:Nat->Option Shape:=shO wJ.te wJ.tb [] [(15,4736,4,0)]
def wJ.J15 (F:Nat) (x:(Unit×Int×Int×Unit)×((zf.T×Int×Bool)×Unit)×(Unit)) (R:Type) (K:KK R):Option R :=
 wJ.j15 F (fun r6 r7=>K .ret (xl (wJ.h 16) ((r6,r7,()),(),()))) (fun r6 r7=>K .ret (xl (wJ.h 20) ((r6,r7,()),(),()))) (fun r6 r7=>K .ret (xl (wJ.h 21) ((r6,r7,()),(),()))) x.1.2.1 x.1.2.2.1 x.2.1.1
def wJ.X (m:Int) (F:Nat):FX TI (G m) Sg:={hn:={na:=3},lv:=[⟨68,ui.sp F⟩,⟨150,uj.sp F⟩,⟨119,v8.sp F⟩,⟨151,wH.sp F⟩,⟨17,vp.sp F⟩,⟨69,vo.sp F⟩,⟨152,xZ.sp F⟩,⟨153,wG.sp F⟩,⟨154,xY.sp F⟩],N:=99,H:=wJ.h,HJ:=wJ.hj,J:=mkJ wJ.hj [⟨15,wJ.J15 F⟩]}
theorem wJ.ok (m:Int) (F:Nat):OKP m 96 wJ.sg (wJ.sp F) :=
 okp (wJ.X m F) Go.Proofs.Tryz.func96 ⟨ui.ok m F,uj.ok m F,v8.ok m F,wH.ok m F,vp.ok m F,vo.ok m F,xZ.ok m F,wG.ok m F,xY.ok m F,trivial⟩ trivial 0 1 zp (yB (FX.cutk 15) zp)
def zb.te:TEs:=[(1,.c (.bnd za)),(2,.b (.sl zo)),kL 3,(6,.c (.sl zo)),(7,kB),(8,.c (.sl zo)),(8,.ow 8),(9,.ow 9),(10,.ow 10),(11,kI),(12,kI),(13,kI),(14,kI),(15,.c (.sl zo)),kL 16,(17,.c (.sl zf)),kL 19,(20,kI),(29,kB),(30,.b (.sl zo)),(31,kI),(32,kI),(33,kB),(57,kB),(71,kB),(102,.c (.sl zf)),(103,kI),(104,kI),(105,kB),(133,kB),(148,kB)]
def zb.tb:TEs:=[(3,.g za),(16,.g zf),(19,.g zf)]
def zb.tp:List qF:=[⟨8,.env 8,zo⟩,⟨9,.env 9,(.int .i64)⟩,⟨10,.env 10,zf⟩]
def zb.h:SH:=shN zb.te zb.tb zb.tp [(0,7,1,0),(1,71,1,1),(2,199,1,3),(3,455,1,7),(4,967,1,7),(5,1991,1,7),(6,264135,1,7),(7,4039,1,7),(8,3674055,1,7),(9,7868359,1,7),(10,3686343,1,7),(11,12074951,1,7),(12,3686343,1,7),(13,20463559,1,7),(14,3686343,1,7),(15,3674055,1,7),(16,3674055,1,7),(17,53191,3,7),(18,234901447,3,7),(19,503336903,3,7),(20,234966983,7,7),(21,235032519,3,7),(22,234901447,3,7),(23,234901447,3,7),(24,536891335,3,7),(25,3015,1,7),(26,3015,1,7),(27,1073744839,1,7),(28,24,0,0),(29,1991,1,7),(30,24,0,0)]
def zb.hl:SH:=shN zb.te zb.tb zb.tp [(6,1991,1,7),(9,3674055,1,7),(11,3686343,1,7),(19,234901447,3,7)]
def zb.hj:Nat->Option Shape:=shO zb.te zb.tb zb.tp [(30,32,0,0)]
def zb.L11 (F:Nat) (R:Type) (K:KK R) (n:Nat) (x:((Nat×za.T)×(List (List zo.T))×Unit×Unit×Unit×Unit×Int×Int×Int×Int×(List zo.T)×(List (List zo.T))×Int×Int×Unit)×(za.T×Unit)×((List zo.T)×(List Int)×(List zf.T)×Unit)):Option R :=
 zb.l11 F (fun of kids runs q next i k t30 t31 t32 t57 m out at_ lines=>K (.exit 4) (xl (zb.h 11) ((of,kids,(),(),(),(),runs,q,next,i,k,t30,t31,t32,t57,()),(m,()),(out,at_,lines,())))) n x.1.1 x.1.2.1 x.1.2.2.2.2.2.2.1 x.1.2.2.2.2.2.2.2.1 x.1.2.2.2.2.2.2.2.2.1 x.1.2.2.2.2.2.2.2.2.2.1 x.1.2.2.2.2.2.2.2.2.2.2.1 x.1.2.2.2.2.2.2.2.2.2.2.2.1 x.1.2.2.2.2.2.2.2.2.2.2.2.2.1 x.1.2.2.2.2.2.2.2.2.2.2.2.2.2.1 x.2.1.1 x.2.2.1 x.2.2.2.1 x.2.2.2.2.1
def zb.L9 (F:Nat) (R:Type) (K:KK R) (n:Nat) (x:((Nat×za.T)×(List (List zo.T))×Unit×Unit×Unit×Unit×Int×Int×Int×(List (List zo.T))×Int×Int×Unit)×(za.T×Unit)×((List zo.T)×(List Int)×(List zf.T)×Unit)):Option R :=
 zb.l9 F (fun of kids runs q next t30 t31 t32 t33 m out at_ lines=>K (.exit 2) (xl (zb.h 9) ((of,kids,(),(),(),(),runs,q,next,t30,t31,t32,t33,()),(m,()),(out,at_,lines,())))) n x.1.1 x.1.2.1 x.1.2.2.2.2.2.2.1 x.1.2.2.2.2.2.2.2.1 x.1.2.2.2.2.2.2.2.2.1 x.1.2.2.2.2.2.2.2.2.2.1 x.1.2.2.2.2.2.2.2.2.2.2.1 x.1.2.2.2.2.2.2.2.2.2.2.2.1 x.2.1.1 x.2.2.1 x.2.2.2.1 x.2.2.2.2.1
def zb.L19 (F:Nat) (R:Type) (K:KK R) (n:Nat) (x:((Nat×za.T)×(List (List zo.T))×Unit×Unit×Unit×Unit×Int×Int×Int×Unit×(List zf.T)×Int×Int×Unit)×(za.T×zf.T×Unit)×((List zo.T)×(List Int)×(List zf.T)×Unit)):Option R :=
 zb.l19 F (fun of kids runs q next t102 t103 t104 t105 m l out at_ lines=>K (.exit 6) (xl (zb.h 19) ((of,kids,(),(),(),(),runs,q,next,(),t102,t103,t104,t105,()),(m,l,()),(out,at_,lines,())))) n x.1.1 x.1.2.1 x.1.2.2.2.2.2.2.1 x.1.2.2.2.2.2.2.2.1 x.1.2.2.2.2.2.2.2.2.1 x.1.2.2.2.2.2.2.2.2.2.2.1 x.1.2.2.2.2.2.2.2.2.2.2.2.1 x.1.2.2.2.2.2.2.2.2.2.2.2.2.1 x.2.1.1 x.2.1.2.1 x.2.2.1 x.2.2.2.1 x.2.2.2.2.1
def zb.L6 (F:Nat) (R:Type) (K:KK R) (n:Nat) (x:((Nat×za.T)×(List (List zo.T))×Unit×Unit×Unit×Unit×Int×Int×Unit)×(za.T×Unit)×((List zo.T)×(List Int)×(List zf.T)×Unit)):Option R :=
 zb.l6 F (fun r6 r7=>K .ret (xl (zb.h 28) ((r6,r7,()),(),()))) (fun of kids runs q t29 m out at_ lines=>K (.exit 0) (xl (zb.h 6) ((of,kids,(),(),(),(),runs,q,t29,()),(m,()),(out,at_,lines,())))) n x.1.1 x.1.2.1 x.1.2.2.2.2.2.2.1 x.1.2.2.2.2.2.2.2.1 x.2.1.1 x.2.2.1 x.2.2.2.1 x.2.2.2.2.1
def zb.J30 (F:Nat) (x:((List zo.T)×Unit)×(Unit)×(Unit)) (R:Type) (K:KK R):Option R :=
 zb.j30 F (fun r6 r7=>K .ret (xl (zb.h 30) ((r6,r7,()),(),()))) x.1.1
def zb.X (m:Int) (F:Nat):FX TI (G m) Sg:={hn:={MU:=fun s=>lk false s [(24,true),(27,true),(139,true)],DS:=fun d=>lk none d [(99,some zb.ds99)],na:=3,fzJ:=fun r=>lk [] r [(30,[8])]},lv:=[⟨96,wJ.sp F⟩],ld:=[⟨99,zb.d99 F⟩],N:=151,H:=zb.h,HL:=zb.hl,HJ:=zb.hj,L:=mkL zb.hl [⟨11,fun x R K=>zb.L11 F R K F x⟩,⟨9,fun x R K=>zb.L9 F R K F x⟩,⟨19,fun x R K=>zb.L19 F R K F x⟩,⟨6,fun x R K=>zb.L6 F R K F x⟩],J:=mkJ zb.hj [⟨30,zb.J30 F⟩]}
theorem zb.ok (m:Int) (F:Nat):OKP m 60 zb.sg (zb.sp F) :=
 okp (zb.X m F) Go.Proofs.Tryz.func60 ⟨wJ.ok m F,trivial⟩ ⟨ZS ⟨⟨49,by kernel_rfl,wy.ok m F⟩,⟨56,by kernel_rfl,zO.ok m F⟩,⟨52,by kernel_rfl,xT.ok m F⟩,⟨53,by kernel_rfl,wg.ok m F⟩,⟨51,by kernel_rfl,wx.ok m F⟩,⟨48,by kernel_rfl,ww.ok m F⟩,⟨58,by kernel_rfl,yj.ok m F⟩,⟨54,by kernel_rfl,we.ok m F⟩,⟨50,by kernel_rfl,wv.ok m F⟩,⟨59,by kernel_rfl,wd.ok m F⟩,⟨55,by kernel_rfl,wb.ok m F⟩,⟨57,by kernel_rfl,xI.ok m F⟩,trivial⟩,trivial⟩ 4 1 (yB (FX.loopk 19 F (zb.L19 F)) (yB (FX.loopk 11 F (zb.L11 F)) (yB (FX.loopk 9 F (zb.L9 F)) (yB (FX.loopk 6 F (zb.L6 F)) zp)))) (yB (FX.cutk 30) zp)
def zw.te:TEs:=[(1,.c (.bnd za)),(2,.b (.sl zo)),kL 3,(6,.c (.sl zo)),(7,kB),(8,.c (.sl zo)),(9,kB),(11,.c (.sl zo)),(21,kB),(32,.b (.sl zo)),(33,kI),(34,kI),(35,kB),(48,kB)]
def zw.tb:TEs:=[(3,.g za)]
def zw.h:SH:=shN zw.te zw.tb [] [(0,7,1,0),(1,263,1,0),(2,24,0,0),(3,39,1,0),(4,3621,1,0),(5,7717,1,0),(6,3749,1,0),(7,3685,1,0),(8,11813,1,0),(9,24,0,0),(10,3621,1,0),(11,24,0,0)]
def zw.hl:SH:=shN zw.te zw.tb [] [(5,3621,1,0)]
def zw.hj:Nat->Option Shape:=shO zw.te zw.tb [] [(3,7,1,0)]
def zw.L5 (F:Nat) (R:Type) (K:KK R) (n:Nat) (x:((Nat×za.T)×Unit×(List zo.T)×(List (List zo.T))×Int×Int×Unit)×(za.T×Unit)×(Unit)):Option R :=
 zw.l5 F (fun r6 r7=>K .ret (xl (zw.h 9) ((r6,r7,()),(),()))) (fun of made t32 t33 t34 t35 m=>K (.exit 0) (xl (zw.h 5) ((of,(),made,t32,t33,t34,t35,()),(m,()),()))) n x.1.1 x.1.2.2.1 x.1.2.2.2.1 x.1.2.2.2.2.1 x.1.2.2.2.2.2.1 x.2.1.1
def zw.J3 (F:Nat) (x:((Nat×za.T)×(List (List zo.T))×Unit×Unit)×(za.T×Unit)×(Unit)) (R:Type) (K:KK R):Option R :=
 zw.j3 F (fun r6 r7=>K .ret (xl (zw.h 9) ((r6,r7,()),(),()))) (fun r6 r7=>K .ret (xl (zw.h 11) ((r6,r7,()),(),()))) x.1.1 x.1.2.1 x.2.1.1
def zw.X (m:Int) (F:Nat):FX TI (G m) Sg:={hn:={na:=3},lv:=[⟨60,zb.sp F⟩],N:=51,H:=zw.h,HL:=zw.hl,HJ:=zw.hj,L:=mkL zw.hl [⟨5,fun x R K=>zw.L5 F R K F x⟩],J:=mkJ zw.hj [⟨3,zw.J3 F⟩]}
theorem zw.ok (m:Int) (F:Nat):OKP m 27 zw.sg (zw.sp F) :=
 okp (zw.X m F) Go.Proofs.Tryz.func27 ⟨zb.ok m F,trivial⟩ trivial 1 1 (yB (FX.loopk 5 F (zw.L5 F)) zp) (yB (FX.cutk 3) zp)
def zQ.te:TEs:=[kL 1,kL 2,(3,kI),(4,kI),kL 5,(6,kI),(7,kI),(8,kI),(10,.c (.sl (.sl zo))),(10,.ow 10),(11,kI),kL 12,kL 13,(14,.c (.bnd za)),(15,kI),(16,kI),(17,.c (.sl zo)),(18,kB),(26,kB),(33,kB),(41,.c (.sl zx)),(42,kI),(43,kI),(44,kB),(58,kB),(83,kB)]
def zQ.tb:TEs:=[(1,.g yr),(2,.g wY),(5,.g zh),(12,.g zx),(13,.g za)]
def zQ.tp:List qF:=[⟨10,.env 10,(.sl zo)⟩]
def zQ.h:SH:=shN zQ.te zQ.tb zQ.tp [(0,3,3,0),(1,115,7,0),(2,262259,7,0),(3,14,2,0),(4,524307,7,0),(5,14,2,0),(6,147,7,0),(7,659,7,1),(8,7340691,7,1),(9,15729299,7,1),(10,7343763,15,1),(11,7347859,31,1),(12,24123027,23,1),(13,7340691,7,1),(14,7370387,23,1),(15,7386771,23,1),(16,7571091,7,1),(17,40994451,7,1),(18,14,2,0),(19,7340691,7,1),(20,7340691,7,1),(21,14,2,0)]
def zQ.hl:SH:=shN zQ.te zQ.tb zQ.tp [(9,7340691,7,1)]
def zQ.hj:Nat->Option Shape:=shO zQ.te zQ.tb zQ.tp [(21,387,3,0)]
def zQ.L9 (F:Nat) (R:Type) (K:KK R) (n:Nat) (x:(Unit×Unit×Unit×Int×Unit×(List zx.T)×Int×Int×Unit)×(yr.T×wY.T×zh.T×Unit)×((List (List zo.T))×Unit)):Option R :=
 zQ.l9 F (fun r3 r4 r2=>K .ret (xl (zQ.h 18) (((),r3,r4,()),(r2,()),()))) (fun scale t41 t42 t43 t44 p r2 unit pile=>K (.exit 0) (xl (zQ.h 9) (((),(),(),scale,(),t41,t42,t43,t44,()),(p,r2,unit,()),(pile,())))) n x.1.2.2.2.1 x.1.2.2.2.2.2.1 x.1.2.2.2.2.2.2.1 x.1.2.2.2.2.2.2.2.1 x.2.1.1 x.2.1.2.1 x.2.1.2.2.1 x.2.2.1
def zQ.J21 (F:Nat) (x:(Unit×Unit×Int×(List (List zo.T))×Unit)×(yr.T×wY.T×Unit)×(Unit)) (R:Type) (K:KK R):Option R :=
 zQ.j21 F (fun r3 r4 r2=>K .ret (xl (zQ.h 21) (((),r3,r4,()),(r2,()),()))) x.1.2.2.1 x.1.2.2.2.1 x.2.1.1 x.2.1.2.1
def zQ.X (m:Int) (F:Nat):FX TI (G m) Sg:={hn:={MU:=fun s=>lk false s [(63,true),(91,true)],na:=1,fzJ:=fun r=>lk [] r [(21,[10])]},lv:=[⟨23,vC.sp F⟩,⟨24,yq.sp F⟩,⟨25,xq.sp F⟩,⟨26,xd.sp F⟩,⟨27,zw.sp F⟩],N:=103,H:=zQ.h,HL:=zQ.hl,HJ:=zQ.hj,L:=mkL zQ.hl [⟨9,fun x R K=>zQ.L9 F R K F x⟩],J:=mkJ zQ.hj [⟨21,zQ.J21 F⟩]}
theorem zQ.ok (m:Int) (F:Nat):OKP m 8 zQ.sg (zQ.sp F) :=
 okp (zQ.X m F) Go.Proofs.Tryz.func8 ⟨vC.ok m F,yq.ok m F,xq.ok m F,xd.ok m F,zw.ok m F,trivial⟩ trivial 1 1 (yB (FX.loopk 9 F (zQ.L9 F)) zp) (yB (FX.cutk 21) zp)
def wt.te:TEs:=[(0,kI),(1,kI),(2,kI),kL 6]
def wt.tb:TEs:=[(6,.g zf)]
def wt.h:SH:=shN wt.te wt.tb [] [(0,15,1,0),(1,8,1,0)]
def wt.X (m:Int) (F:Nat):FX TI (G m) Sg:={hn:={na:=3},lv:=[⟨22,yQ.sp F⟩],N:=14,H:=wt.h}
theorem wt.ok (m:Int) (F:Nat):OKP m 21 wt.sg (wt.sp F) :=
 okp (wt.X m F) Go.Proofs.Tryz.func21 ⟨yQ.ok m F,trivial⟩ trivial 0 0 zp zp
def xa.te:TEs:=[kL 1,(2,kB),(3,kI),(4,kI),kL 5,kL 6,(43,kB),(45,kI),(46,kI),(47,kB),(76,kB)]
def xa.tb:TEs:=[(1,.g wY),(5,.g zo),(6,.g zo)]
def xa.h:SH:=shN xa.te xa.tb [] [(0,1,1,0),(1,5,1,0),(2,69,1,0),(3,2,0,0),(4,385,1,0),(5,897,1,0),(6,393,1,0),(7,433,7,0),(8,1409,1,0),(9,2,0,0),(10,385,1,0),(11,2,0,0)]
def xa.hl:SH:=shN xa.te xa.tb [] [(5,385,1,0)]
def xa.L5 (F:Nat) (R:Type) (K:KK R) (n:Nat) (x:(Unit×Int×Int×Unit)×(wY.T×Unit)×(Unit)):Option R :=
 xa.l5 F (fun r2=>K .ret (xl (xa.h 9) ((r2,()),(),()))) (fun t45 t46 t47 t=>K (.exit 0) (xl (xa.h 5) (((),t45,t46,t47,()),(t,()),()))) n x.1.2.1 x.1.2.2.1 x.2.1.1
def xa.X (m:Int) (F:Nat):FX TI (G m) Sg:={hn:={na:=1},N:=78,H:=xa.h,HL:=xa.hl,L:=mkL xa.hl [⟨5,fun x R K=>xa.L5 F R K F x⟩]}
theorem xa.ok (m:Int) (F:Nat):OKP m 11 xa.sg (xa.sp F) :=
 okp (xa.X m F) Go.Proofs.Tryz.func11 trivial trivial 1 0 (yB (FX.loopk 5 F (xa.L5 F)) zp) zp
def vt.te:TEs:=[(1,kI),kL 2,(4,kI)]
def vt.tb:TEs:=[(2,.g zo)]
def vt.h:SH:=shN vt.te vt.tb [] [(0,3,1,0),(1,4,0,0)]
def vt.X (m:Int) (F:Nat):FX TI (G m) Sg:={hn:={na:=2},N:=11,H:=vt.h}
theorem vt.ok (m:Int) (F:Nat):OKP m 34 vt.sg (vt.sp F) :=
 okp (vt.X m F) Go.Proofs.Tryz.func34 trivial trivial 0 0 zp zp
def zq.te:TEs:=[(0,.b zo),(1,kI),(2,.c .fn),(6,kI),(7,kB),(8,kI),(9,kI),(10,kI),(11,kI),(17,kB),(31,kB)]
def zq.h:SH:=shN zq.te [] [] [(0,7,0,0),(1,39,0,0),(2,231,0,0),(3,743,0,0),(4,487,0,0),(5,1511,0,0),(6,231,0,0),(7,231,0,0),(8,24,0,0)]
def zq.hl:SH:=shN zq.te [] [] [(3,231,0,0)]
def zq.L3 (F:Nat) (R:Type) (K:KK R) (n:Nat) (x:((List zo.T)×Int×Nat×Int×Int×Int×Unit)×(Unit)×(Unit)):Option R :=
 zq.l3 F (fun x target cmp n i j t17=>K (.exit 0) (xl (zq.h 3) ((x,target,cmp,n,i,j,t17,()),(),()))) n x.1.1 x.1.2.1 x.1.2.2.1 x.1.2.2.2.1 x.1.2.2.2.2.1 x.1.2.2.2.2.2.1
def zq.X (m:Int) (F:Nat):FX TI (G m) Sg:={hn:={DS:=fun d=>lk none d [(30,some zq.ds30),(46,some zq.ds46)],na:=3},ld:=[⟨30,zq.d30 F⟩,⟨46,zq.d46 F⟩],N:=49,H:=zq.h,HL:=zq.hl,L:=mkL zq.hl [⟨3,fun x R K=>zq.L3 F R K F x⟩]}
theorem zq.ok (m:Int) (F:Nat):OKP m 33 zq.sg (zq.sp F) :=
 okp (zq.X m F) Go.Proofs.Tryz.func33 trivial ⟨ZS ⟨⟨34,by kernel_rfl,vt.ok m F⟩,trivial⟩,ZS ⟨⟨34,by kernel_rfl,vt.ok m F⟩,trivial⟩,trivial⟩ 1 0 (yB (FX.loopk 3 F (zq.L3 F)) zp) zp
def vm.te:TEs:=[(1,kI),kL 2,kL 4,(5,kI),(6,kI),(7,kB),(18,kB),(28,kB)]
def vm.tb:TEs:=[(2,.g wY),(4,.g zh)]
def vm.h:SH:=shN vm.te vm.tb [] [(0,7,3,0),(1,71,3,0),(2,12,2,0),(3,55,3,0),(4,151,3,0),(5,23,3,0),(6,12,2,0)]
def vm.hj:Nat->Option Shape:=shO vm.te vm.tb [] [(6,23,3,0)]
def vm.J6 (F:Nat) (x:(Int×Unit×Unit×Int×Unit)×(wY.T×zh.T×Unit)×(Unit)) (R:Type) (K:KK R):Option R :=
 vm.j6 F (fun r5 r4=>K .ret (xl (vm.h 6) (((),r5,()),(r4,()),()))) x.1.1 x.1.2.2.2.1 x.2.1.1 x.2.1.2.1
def vm.X (m:Int) (F:Nat):FX TI (G m) Sg:={hn:={na:=2},lv:=[⟨11,xa.sp F⟩,⟨33,zq.sp F⟩,⟨35,wS.sp F⟩],N:=43,H:=vm.h,HJ:=vm.hj,J:=mkJ vm.hj [⟨6,vm.J6 F⟩]}
theorem vm.ok (m:Int) (F:Nat):OKP m 13 vm.sg (vm.sp F) :=
 okp (vm.X m F) Go.Proofs.Tryz.func13 ⟨xa.ok m F,zq.ok m F,wS.ok m F,trivial⟩ trivial 0 1 zp (yB (FX.cutk 6) zp)
def yg.te:TEs:=[kL 2,kL 3,(4,kB),(5,kI),(26,kB),(31,kB),(44,kB)]
def yg.tb:TEs:=[(2,.g wY),(3,.g wY)]
def yg.h:SH:=shN yg.te yg.tb [] [(0,3,3,0),(1,19,3,0),(2,4,0,0),(3,11,3,0),(4,43,3,0),(5,11,3,0),(6,75,3,0),(7,4,0,0),(8,4,0,0)]
def yg.hl:SH:=shN yg.te yg.tb [] [(4,11,3,0)]
def yg.L4 (F:Nat) (R:Type) (K:KK R) (n:Nat) (x:(Unit×Unit×Int×Unit)×(wY.T×wY.T×Unit)×(Unit)):Option R :=
 yg.l4 F (fun r4=>K .ret (xl (yg.h 7) ((r4,()),(),()))) (fun i t31 a b=>K (.exit 0) (xl (yg.h 4) (((),(),i,t31,()),(a,b,()),()))) n x.1.2.2.1 x.2.1.1 x.2.1.2.1
def yg.X (m:Int) (F:Nat):FX TI (G m) Sg:={hn:={na:=2},N:=45,H:=yg.h,HL:=yg.hl,L:=mkL yg.hl [⟨4,fun x R K=>yg.L4 F R K F x⟩]}
theorem yg.ok (m:Int) (F:Nat):OKP m 10 yg.sg (yg.sp F) :=
 okp (yg.X m F) Go.Proofs.Tryz.func10 trivial trivial 1 0 (yB (FX.loopk 4 F (yg.L4 F)) zp) zp
def xW.te:TEs:=[(0,kB),kL 1,(2,kI),(3,kI),kL 4,kL 5,(6,kI),(8,kI)]
def xW.tb:TEs:=[(1,.g wY),(4,.g wY),(5,.g zh)]
def xW.h:SH:=shN xW.te xW.tb [] [(1,14,1,0),(2,30,3,0),(3,126,7,0),(4,254,7,0),(5,1,0,0)]
def xW.X (m:Int) (F:Nat):FX TI (G m) Sg:={hn:={na:=0},lv:=[⟨20,wQ.sp F⟩,⟨8,zQ.sp F⟩,⟨21,wt.sp F⟩,⟨13,vm.sp F⟩,⟨10,yg.sp F⟩,⟨22,yQ.sp F⟩,⟨11,xa.sp F⟩],N:=68,H:=xW.h}
theorem xW.ok (m:Int) (F:Nat):OKP m 7 xW.sg (xW.sp F) :=
 okp (xW.X m F) Go.Proofs.Tryz.func7 ⟨wQ.ok m F,zQ.ok m F,wt.ok m F,vm.ok m F,yg.ok m F,yQ.ok m F,xa.ok m F,trivial⟩ trivial 0 0 zp zp
def xS.te:TEs:=[(0,.c (.int .u8)),(2,kB)]
def xS.h:SH:=shN xS.te [] [] [(0,1,0,0),(1,2,0,0)]
def xS.X (m:Int) (F:Nat):FX TI (G m) Sg:={hn:={na:=1},N:=9,H:=xS.h}
theorem xS.ok (m:Int) (F:Nat):OKP m 201 xS.sg (xS.sp F) :=
 okp (xS.X m F) Go.Proofs.Tryz.func201 trivial trivial 0 0 zp zp
def wC.te:TEs:=[(0,.c (.sl .str))]
def wC.h:SH:=shN wC.te [] [] [(1,1,0,0)]
def wC.X (m:Int) (F:Nat):FX TI (G m) Sg:={hn:={na:=0},N:=2,H:=wC.h}
theorem wC.ok (m:Int) (F:Nat):OKP m 211 wC.sg (wC.sp F) :=
 okp (wC.X m F) Go.Proofs.Tryz.func211 trivial trivial 0 0 zp zp
def zZ.te:TEs:=[(0,.c .str),(2,kB),(3,.c (.sl .str)),(4,kI),(9,kB),(17,kB)]
def zZ.h:SH:=shN zZ.te [] [] [(0,1,0,0),(1,5,0,0),(2,13,0,0),(3,29,0,0),(4,13,0,0),(5,45,0,0),(6,2,0,0),(7,2,0,0)]
def zZ.hl:SH:=shN zZ.te [] [] [(3,13,0,0)]
def zZ.L3 (F:Nat) (R:Type) (K:KK R) (n:Nat) (x:(ByteArray×(List ByteArray)×Int×Unit)×(Unit)×(Unit)):Option R :=
 zZ.l3 F (fun r2=>K .ret (xl (zZ.h 6) ((r2,()),(),()))) (fun s l i t9=>K (.exit 0) (xl (zZ.h 3) ((s,l,i,t9,()),(),()))) n x.1.1 x.1.2.1 x.1.2.2.1
def zZ.X (m:Int) (F:Nat):FX TI (G m) Sg:={hn:={na:=1},lv:=[⟨211,wC.sp F⟩],N:=18,H:=zZ.h,HL:=zZ.hl,L:=mkL zZ.hl [⟨3,fun x R K=>zZ.L3 F R K F x⟩]}
theorem zZ.ok (m:Int) (F:Nat):OKP m 202 zZ.sg (zZ.sp F) :=
 okp (zZ.X m F) Go.Proofs.Tryz.func202 ⟨wC.ok m F,trivial⟩ trivial 1 0 (yB (FX.loopk 3 F (zZ.L3 F)) zp) zp
def wq.te:TEs:=[(0,.c (.int .u8)),(2,kB)]
def wq.h:SH:=shN wq.te [] [] [(0,1,0,0),(1,2,0,0)]
def wq.X (m:Int) (F:Nat):FX TI (G m) Sg:={hn:={na:=1},N:=9,H:=wq.h}
theorem wq.ok (m:Int) (F:Nat):OKP m 203 wq.sg (wq.sp F) :=
 okp (wq.X m F) Go.Proofs.Tryz.func203 trivial trivial 0 0 zp zp
def yt.te:TEs:=[(0,.c .str),(2,kB),(3,kI),(21,kB),(25,kB),(45,kB)]
def yt.h:SH:=shN yt.te [] [] [(0,1,0,0),(1,9,0,0),(2,2,0,0),(3,5,0,0),(4,21,0,0),(5,5,0,0),(6,37,0,0),(7,2,0,0),(8,2,0,0)]
def yt.hl:SH:=shN yt.te [] [] [(4,5,0,0)]
def yt.L4 (F:Nat) (R:Type) (K:KK R) (n:Nat) (x:(ByteArray×Int×Unit)×(Unit)×(Unit)):Option R :=
 yt.l4 F (fun r2=>K .ret (xl (yt.h 7) ((r2,()),(),()))) (fun s i t25=>K (.exit 0) (xl (yt.h 4) ((s,i,t25,()),(),()))) n x.1.1 x.1.2.1
def yt.X (m:Int) (F:Nat):FX TI (G m) Sg:={hn:={na:=1},lv:=[⟨201,xS.sp F⟩,⟨202,zZ.sp F⟩,⟨203,wq.sp F⟩],N:=46,H:=yt.h,HL:=yt.hl,L:=mkL yt.hl [⟨4,fun x R K=>yt.L4 F R K F x⟩]}
theorem yt.ok (m:Int) (F:Nat):OKP m 174 yt.sg (yt.sp F) :=
 okp (yt.X m F) Go.Proofs.Tryz.func174 ⟨xS.ok m F,zZ.ok m F,wq.ok m F,trivial⟩ trivial 1 0 (yB (FX.loopk 4 F (yt.L4 F)) zp) zp
def zL.te:TEs:=[kL 1,(2,kI),(3,kI),(4,kI),(8,kB),(18,kB),(23,kB),(33,kB),(36,kB),(51,kB),(67,kB),(75,kB)]
def zL.tb:TEs:=[(1,.g yr)]
def zL.h:SH:=shN zL.te zL.tb [] [(0,1,1,0),(1,17,1,0),(2,2,0,0),(3,33,1,0),(4,2,0,0),(5,5,1,0),(6,69,1,0),(7,5,1,0),(8,133,1,0),(9,2,0,0),(10,13,1,0),(11,269,1,0),(12,13,1,0),(13,525,1,0),(14,2,0,0),(15,1029,1,0),(16,2,0,0),(17,2048,0,0),(18,2,0,0),(19,2,0,0)]
def zL.hl:SH:=shN zL.te zL.tb [] [(6,5,1,0),(11,13,1,0)]
def zL.L11 (F:Nat) (R:Type) (K:KK R) (n:Nat) (x:(Unit×Int×Int×Unit)×(yr.T×Unit)×(Unit)):Option R :=
 zL.l11 F (fun r2=>K .ret (xl (zL.h 14) ((r2,()),(),()))) (fun i k t36 p=>K (.exit 2) (xl (zL.h 11) (((),i,k,t36,()),(p,()),()))) n x.1.2.1 x.1.2.2.1 x.2.1.1
def zL.L6 (F:Nat) (R:Type) (K:KK R) (n:Nat) (x:(Unit×Int×Unit)×(yr.T×Unit)×(Unit)):Option R :=
 zL.l6 F (fun r2=>K .ret (xl (zL.h 9) ((r2,()),(),()))) (fun r2=>K .ret (xl (zL.h 14) ((r2,()),(),()))) (fun r2=>K .ret (xl (zL.h 16) ((r2,()),(),()))) (fun i t23 p=>K (.exit 0) (xl (zL.h 6) (((),i,t23,()),(p,()),()))) n x.1.2.1 x.2.1.1
def zL.X (m:Int) (F:Nat):FX TI (G m) Sg:={hn:={na:=1},lv:=[⟨174,yt.sp F⟩],N:=76,H:=zL.h,HL:=zL.hl,L:=mkL zL.hl [⟨11,fun x R K=>zL.L11 F R K F x⟩,⟨6,fun x R K=>zL.L6 F R K F x⟩]}
theorem zL.ok (m:Int) (F:Nat):OKP m 108 zL.sg (zL.sp F) :=
 okp (zL.X m F) Go.Proofs.Tryz.func108 ⟨yt.ok m F,trivial⟩ trivial 2 0 (yB (FX.loopk 11 F (zL.L11 F)) (yB (FX.loopk 6 F (zL.L6 F)) zp)) zp
def zv.te:TEs:=[kL 1,(2,kI),(4,kI),(5,kB),(10,kB),(17,kB),(21,kB),(26,kB)]
def zv.tb:TEs:=[(1,.g zx)]
def zv.h:SH:=shN zv.te zv.tb [] [(0,1,1,0),(1,5,1,0),(2,13,1,0),(3,13,1,0),(4,13,1,0),(5,13,1,0),(6,2,0,0),(7,21,1,0),(8,21,1,0),(9,21,1,0),(10,21,1,0),(11,21,1,0),(12,21,1,0),(13,2,0,0),(14,37,1,0),(15,37,1,0),(16,37,1,0),(17,2,0,0),(18,69,1,0),(19,69,1,0),(20,2,0,0),(21,128,0,0),(22,2,0,0),(23,2,0,0)]
def zv.hj:Nat->Option Shape:=shO zv.te zv.tb [] [(6,13,1,0),(13,21,1,0),(17,37,1,0)]
def zv.J17 (F:Nat) (x:(Unit×Int×Bool×Unit)×(zx.T×Unit)×(Unit)) (R:Type) (K:KK R):Option R :=
 zv.j17 F (fun r2=>K .ret (xl (zv.h 17) ((r2,()),(),()))) (fun r2=>K .ret (xl (zv.h 20) ((r2,()),(),()))) (fun r2=>K .ret (xl (zv.h 22) ((r2,()),(),()))) (fun t26=>K .normal (xl (zv.h 21) ((t26,()),(),()))) x.1.2.1 x.1.2.2.1 x.2.1.1
def zv.J13 (F:Nat) (x:(Unit×Int×Bool×Unit)×(zx.T×Unit)×(Unit)) (R:Type) (K:KK R):Option R :=
 zv.j13 F (fun r2=>K .ret (xl (zv.h 13) ((r2,()),(),()))) (fun r2=>K .ret (xl (zv.h 17) ((r2,()),(),()))) (fun r2=>K .ret (xl (zv.h 20) ((r2,()),(),()))) (fun r2=>K .ret (xl (zv.h 22) ((r2,()),(),()))) (fun t26=>K .normal (xl (zv.h 21) ((t26,()),(),()))) x.1.2.1 x.1.2.2.1 x.2.1.1
def zv.J6 (F:Nat) (x:(Unit×Int×Bool×Unit)×(zx.T×Unit)×(Unit)) (R:Type) (K:KK R):Option R :=
 zv.j6 F (fun r2=>K .ret (xl (zv.h 6) ((r2,()),(),()))) (fun r2=>K .ret (xl (zv.h 13) ((r2,()),(),()))) (fun r2=>K .ret (xl (zv.h 17) ((r2,()),(),()))) (fun r2=>K .ret (xl (zv.h 20) ((r2,()),(),()))) (fun r2=>K .ret (xl (zv.h 22) ((r2,()),(),()))) (fun t26=>K .normal (xl (zv.h 21) ((t26,()),(),()))) x.1.2.1 x.1.2.2.1 x.2.1.1
def zv.X (m:Int) (F:Nat):FX TI (G m) Sg:={hn:={na:=1},N:=28,H:=zv.h,HJ:=zv.hj,J:=mkJ zv.hj [⟨17,zv.J17 F⟩,⟨13,zv.J13 F⟩,⟨6,zv.J6 F⟩]}
theorem zv.ok (m:Int) (F:Nat):OKP m 29 zv.sg (zv.sp F) :=
 okp (zv.X m F) Go.Proofs.Tryz.func29 trivial trivial 0 3 zp (yB (FX.cutk 17) (yB (FX.cutk 13) (yB (FX.cutk 6) zp)))
def yG.te:TEs:=[(0,kI),(1,kI),(4,kI),(5,kI),(6,kB),(12,kB),(17,kB)]
def yG.h:SH:=shN yG.te [] [] [(0,3,0,0),(1,10,0,0),(2,26,0,0),(3,26,0,0),(4,26,0,0),(5,26,0,0),(6,26,0,0),(7,4,0,0),(8,42,0,0),(9,42,0,0),(10,4,0,0),(11,64,0,0),(12,4,0,0),(13,4,0,0)]
def yG.hj:Nat->Option Shape:=shO yG.te [] [] [(7,26,0,0)]
def yG.J7 (F:Nat) (x:(Int×Int×Bool×Unit)×(Unit)×(Unit)) (R:Type) (K:KK R):Option R :=
 yG.j7 F (fun r4=>K .ret (xl (yG.h 7) ((r4,()),(),()))) (fun r4=>K .ret (xl (yG.h 10) ((r4,()),(),()))) (fun r4=>K .ret (xl (yG.h 12) ((r4,()),(),()))) (fun t17=>K .normal (xl (yG.h 11) ((t17,()),(),()))) x.1.1 x.1.2.1 x.1.2.2.1
def yG.X (m:Int) (F:Nat):FX TI (G m) Sg:={hn:={na:=2},N:=19,H:=yG.h,HJ:=yG.hj,J:=mkJ yG.hj [⟨7,yG.J7 F⟩]}
theorem yG.ok (m:Int) (F:Nat):OKP m 175 yG.sg (yG.sp F) :=
 okp (yG.X m F) Go.Proofs.Tryz.func175 trivial trivial 0 1 zp (yB (FX.cutk 7) zp)
def z7.te:TEs:=[(1,kI),kL 2,(4,kB),(16,kB),(19,kB),(27,kB),(30,kB),(38,kB),(46,kB),(49,kB)]
def z7.tb:TEs:=[(2,.g zx)]
def z7.h:SH:=shN z7.te z7.tb [] [(0,3,1,0),(1,10,1,0),(2,4,0,0),(3,18,1,0),(4,34,1,0),(5,4,0,0),(6,66,1,0),(7,4,0,0),(8,130,1,0),(9,258,1,0),(10,4,0,0),(11,514,1,0),(12,4,0,0),(13,4,0,0)]
def z7.hj:Nat->Option Shape:=shO z7.te z7.tb [] [(8,2,1,0),(13,2,1,0)]
def z7.J13 (F:Nat) (x:(Unit×Unit)×(zx.T×Unit)×(Unit)) (R:Type) (K:KK R):Option R :=
 z7.j13 F (fun r4=>K .ret (xl (z7.h 13) ((r4,()),(),()))) x.2.1.1
def z7.J8 (F:Nat) (x:(Unit×Unit)×(zx.T×Unit)×(Unit)) (R:Type) (K:KK R):Option R :=
 z7.j8 F (fun r4=>K .ret (xl (z7.h 10) ((r4,()),(),()))) (fun r4=>K .ret (xl (z7.h 13) ((r4,()),(),()))) (fun r4=>K .ret (xl (z7.h 12) ((r4,()),(),()))) x.2.1.1
def z7.X (m:Int) (F:Nat):FX TI (G m) Sg:={hn:={na:=2},lv:=[⟨175,yG.sp F⟩],N:=64,H:=z7.h,HJ:=z7.hj,J:=mkJ z7.hj [⟨13,z7.J13 F⟩,⟨8,z7.J8 F⟩]}
theorem z7.ok (m:Int) (F:Nat):OKP m 109 z7.sg (z7.sp F) :=
 okp (z7.X m F) Go.Proofs.Tryz.func109 ⟨yG.ok m F,trivial⟩ trivial 0 2 zp (yB (FX.cutk 13) (yB (FX.cutk 8) zp))
def zP.te:TEs:=[(0,.b yp),(2,kB),(3,kI),(18,kB),(22,kB),(40,kB),(62,kB)]
def zP.h:SH:=shN zP.te [] [] [(0,1,0,0),(1,9,0,0),(2,2,0,0),(3,5,0,0),(4,21,0,0),(5,5,0,0),(6,37,0,0),(7,2,0,0),(8,69,0,0),(9,2,0,0),(10,2,0,0)]
def zP.hl:SH:=shN zP.te [] [] [(4,5,0,0)]
def zP.hj:Nat->Option Shape:=shO zP.te [] [] [(8,5,0,0)]
def zP.J8 (F:Nat) (x:((List yp.T)×Int×Unit)×(Unit)×(Unit)) (R:Type) (K:KK R):Option R :=
 zP.j8 F (fun r2=>K .ret (xl (zP.h 9) ((r2,()),(),()))) (fun l i t62=>K .normal (xl (zP.h 8) ((l,i,t62,()),(),()))) x.1.1 x.1.2.1
def zP.L4 (F:Nat) (R:Type) (K:KK R) (n:Nat) (x:((List yp.T)×Int×Unit)×(Unit)×(Unit)):Option R :=
 zP.l4 F (fun r2=>K .ret (xl (zP.h 7) ((r2,()),(),()))) (fun r2=>K .ret (xl (zP.h 9) ((r2,()),(),()))) (fun l i t22=>K (.exit 0) (xl (zP.h 4) ((l,i,t22,()),(),()))) n x.1.1 x.1.2.1
def zP.X (m:Int) (F:Nat):FX TI (G m) Sg:={hn:={na:=1},N:=63,H:=zP.h,HL:=zP.hl,HJ:=zP.hj,L:=mkL zP.hl [⟨4,fun x R K=>zP.L4 F R K F x⟩],J:=mkJ zP.hj [⟨8,zP.J8 F⟩]}
theorem zP.ok (m:Int) (F:Nat):OKP m 110 zP.sg (zP.sp F) :=
 okp (zP.X m F) Go.Proofs.Tryz.func110 trivial trivial 1 1 (yB (FX.loopk 4 F (zP.L4 F)) zp) (yB (FX.cutk 8) zp)
def zX.te:TEs:=[kL 1,(2,kI),(3,kI),(4,kI),(5,kI),(6,kI),kL 7,(8,kI),(12,kB),(17,kB),(22,kB),(46,kB),(61,kB),(68,kB)]
def zX.tb:TEs:=[(1,.g yr),(7,.g zx)]
def zX.h:SH:=shN zX.te zX.tb [] [(0,1,1,0),(1,9,1,0),(2,265,1,0),(3,6,0,0),(4,513,1,0),(5,6,0,0),(6,17,1,0),(7,49,1,0),(8,1073,1,0),(9,49,1,0),(10,113,3,0),(11,241,3,0),(12,2289,3,0),(13,6,0,0),(14,4273,1,0),(15,6,0,0),(16,49,1,0),(17,8193,1,0),(18,6,0,0),(19,6,0,0)]
def zX.hl:SH:=shN zX.te zX.tb [] [(8,49,1,0)]
def zX.L8 (F:Nat) (R:Type) (K:KK R) (n:Nat) (x:(Unit×Int×Int×Unit)×(yr.T×Unit)×(Unit)):Option R :=
 zX.l8 F (fun r2 r3=>K .ret (xl (zX.h 13) ((r2,r3,()),(),()))) (fun r2 r3=>K .ret (xl (zX.h 15) ((r2,r3,()),(),()))) (fun pile i t22 p=>K (.exit 0) (xl (zX.h 8) (((),pile,i,t22,()),(p,()),()))) n x.1.2.1 x.1.2.2.1 x.2.1.1
def zX.X (m:Int) (F:Nat):FX TI (G m) Sg:={hn:={na:=1},lv:=[⟨108,zL.sp F⟩,⟨29,zv.sp F⟩,⟨109,z7.sp F⟩,⟨110,zP.sp F⟩],N:=72,H:=zX.h,HL:=zX.hl,L:=mkL zX.hl [⟨8,fun x R K=>zX.L8 F R K F x⟩]}
theorem zX.ok (m:Int) (F:Nat):OKP m 66 zX.sg (zX.sp F) :=
 okp (zX.X m F) Go.Proofs.Tryz.func66 ⟨zL.ok m F,zv.ok m F,z7.ok m F,zP.ok m F,trivial⟩ trivial 1 0 (yB (FX.loopk 8 F (zX.L8 F)) zp) zp
def zS.te:TEs:=[(1,kI),kL 2,(4,kI),(5,kI),(6,kI),(18,kB)]
def zS.tb:TEs:=[(2,.g yr)]
def zS.h:SH:=shN zS.te zS.tb [] [(0,3,1,0),(1,11,1,0),(2,26,1,0),(3,26,1,0),(4,58,1,0),(5,4,0,0),(6,26,1,0)]
def zS.hl:SH:=shN zS.te zS.tb [] [(3,26,1,0)]
def zS.L3 (F:Nat) (R:Type) (K:KK R) (n:Nat) (x:(Unit×Int×Int×Unit)×(yr.T×Unit)×(Unit)):Option R :=
 zS.l3 F (fun r4=>K .ret (xl (zS.h 5) ((r4,()),(),()))) n x.1.2.1 x.1.2.2.1 x.2.1.1
def zS.X (m:Int) (F:Nat):FX TI (G m) Sg:={hn:={na:=2},lv:=[⟨29,zv.sp F⟩],N:=22,H:=zS.h,HL:=zS.hl,L:=mkL zS.hl [⟨3,fun x R K=>zS.L3 F R K F x⟩]}
theorem zS.ok (m:Int) (F:Nat):OKP m 67 zS.sg (zS.sp F) :=
 okp (zS.X m F) Go.Proofs.Tryz.func67 ⟨zv.ok m F,trivial⟩ trivial 1 0 (yB (FX.loopk 3 F (zS.L3 F)) zp) zp
def zl.te:TEs:=[kL 1,(2,.c (.sl .bool)),(3,kI),(5,kI),(6,.c (.sl .bool)),(6,.ow 6),(7,kI),(8,kB),(9,kI),(16,kB),(22,kB),(30,kB)]
def zl.tb:TEs:=[(1,.g yr)]
def zl.tp:List qF:=[⟨6,.env 6,.bool⟩]
def zl.h:SH:=shN zl.te zl.tb zl.tp [(0,1,1,0),(1,9,1,0),(2,521,1,0),(3,6,0,0),(4,33,1,1),(5,97,1,1),(6,1121,1,1),(7,97,1,1),(8,225,1,1),(9,481,1,1),(10,2529,1,1),(11,481,1,1),(12,481,1,1),(13,97,1,1),(14,6,0,0)]
def zl.hl:SH:=shN zl.te zl.tb zl.tp [(6,97,1,1),(10,481,1,1)]
def zl.hj:Nat->Option Shape:=shO zl.te zl.tb zl.tp [(14,16,0,0)]
def zl.L10 (F:Nat) (R:Type) (K:KK R) (n:Nat) (x:(Unit×Unit×Int×Bool×Int×Unit)×(yr.T×Unit)×((List Bool)×Unit)):Option R :=
 zl.l10 F (fun i is k t30 p out=>K (.exit 2) (xl (zl.h 10) (((),(),i,is,k,t30,()),(p,()),(out,())))) n x.1.2.2.1 x.1.2.2.2.1 x.1.2.2.2.2.1 x.2.1.1 x.2.2.1
def zl.L6 (F:Nat) (R:Type) (K:KK R) (n:Nat) (x:(Unit×Unit×Int×Unit)×(yr.T×Unit)×((List Bool)×Unit)):Option R :=
 zl.l6 F (fun i t22 p out=>K (.exit 0) (xl (zl.h 6) (((),(),i,t22,()),(p,()),(out,())))) n x.1.2.2.1 x.2.1.1 x.2.2.1
def zl.J14 (F:Nat) (x:((List Bool)×Unit)×(Unit)×(Unit)) (R:Type) (K:KK R):Option R :=
 zl.j14 F (fun r2 r3=>K .ret (xl (zl.h 14) ((r2,r3,()),(),()))) x.1.1
def zl.X (m:Int) (F:Nat):FX TI (G m) Sg:={hn:={MU:=fun s=>lk false s [(55,true)],na:=1,fzJ:=fun r=>lk [] r [(14,[6])]},lv:=[⟨66,zX.sp F⟩,⟨67,zS.sp F⟩],N:=57,H:=zl.h,HL:=zl.hl,HJ:=zl.hj,L:=mkL zl.hl [⟨10,fun x R K=>zl.L10 F R K F x⟩,⟨6,fun x R K=>zl.L6 F R K F x⟩],J:=mkJ zl.hj [⟨14,zl.J14 F⟩]}
theorem zl.ok (m:Int) (F:Nat):OKP m 155 zl.sg (zl.sp F) :=
 okp (zl.X m F) Go.Proofs.Tryz.func155 ⟨zX.ok m F,zS.ok m F,trivial⟩ trivial 2 1 (yB (FX.loopk 10 F (zl.L10 F)) (yB (FX.loopk 6 F (zl.L6 F)) zp)) (yB (FX.cutk 14) zp)
def zz.te:TEs:=[(0,.b (.int .i64)),(2,kI),(3,kI),(7,kB),(17,kB)]
def zz.h:SH:=shN zz.te [] [] [(0,1,0,0),(1,5,0,0),(2,13,0,0),(3,5,0,0),(4,21,0,0),(5,2,0,0),(6,2,0,0)]
def zz.hl:SH:=shN zz.te [] [] [(2,5,0,0)]
def zz.L2 (F:Nat) (R:Type) (K:KK R) (n:Nat) (x:((List Int)×Int×Unit)×(Unit)×(Unit)):Option R :=
 zz.l2 F (fun r2=>K .ret (xl (zz.h 5) ((r2,()),(),()))) (fun l i t7=>K (.exit 0) (xl (zz.h 2) ((l,i,t7,()),(),()))) n x.1.1 x.1.2.1
def zz.X (m:Int) (F:Nat):FX TI (G m) Sg:={hn:={na:=1},N:=21,H:=zz.h,HL:=zz.hl,L:=mkL zz.hl [⟨2,fun x R K=>zz.L2 F R K F x⟩]}
theorem zz.ok (m:Int) (F:Nat):OKP m 191 zz.sg (zz.sp F) :=
 okp (zz.X m F) Go.Proofs.Tryz.func191 trivial trivial 1 0 (yB (FX.loopk 2 F (zz.L2 F)) zp) zp
def zB.te:TEs:=[(0,kI),(2,kB)]
def zB.h:SH:=shN zB.te [] [] [(0,1,0,0),(1,2,0,0)]
def zB.X (m:Int) (F:Nat):FX TI (G m) Sg:={hn:={na:=1},N:=5,H:=zB.h}
theorem zB.ok (m:Int) (F:Nat):OKP m 193 zB.sg (zB.sp F) :=
 okp (zB.X m F) Go.Proofs.Tryz.func193 trivial trivial 0 0 zp zp
def xh.te:TEs:=[(0,kI),(1,kI),(4,kI),(6,kB),(9,kB),(24,kB)]
def xh.h:SH:=shN xh.te [] [] [(0,3,0,0),(1,11,0,0),(2,4,0,0),(3,19,0,0),(4,4,0,0),(5,32,0,0),(6,4,0,0),(7,4,0,0)]
def xh.X (m:Int) (F:Nat):FX TI (G m) Sg:={hn:={na:=2},lv:=[⟨193,zB.sp F⟩],N:=25,H:=xh.h}
theorem xh.ok (m:Int) (F:Nat):OKP m 192 xh.sg (xh.sp F) :=
 okp (xh.X m F) Go.Proofs.Tryz.func192 ⟨zB.ok m F,trivial⟩ trivial 0 0 zp zp
def yv.te:TEs:=[(1,.b (.int .i64)),kL 2,(4,kI),(6,kI),(7,kB),(9,kB),(11,kB),(17,kB),(23,kB),(31,kB),(40,kB),(46,kB),(50,kB),(56,kB),(57,kB),(62,kB),(66,kB),(71,kB)]
def yv.tb:TEs:=[(2,.g zx)]
def yv.h:SH:=shN yv.te yv.tb [] [(0,3,1,0),(1,11,1,0),(2,27,1,0),(3,4,0,0),(4,43,1,0),(5,4,0,0),(6,75,1,0),(7,4,0,0),(8,139,1,0),(9,4,0,0),(10,265,0,0),(11,265,0,0),(12,265,0,0),(13,265,0,0),(14,265,0,0),(15,4,0,0),(16,521,0,0),(17,4,0,0),(18,1033,0,0),(19,1033,0,0),(20,2049,0,0),(21,4,0,0),(22,4105,0,0),(23,4105,0,0),(24,8192,0,0),(25,4,0,0),(26,16393,0,0),(27,32769,0,0),(28,4,0,0),(29,65537,0,0),(30,131073,0,0),(31,4,0,0),(32,4,0,0)]
def yv.X (m:Int) (F:Nat):FX TI (G m) Sg:={hn:={na:=2},lv:=[⟨191,zz.sp F⟩,⟨192,xh.sp F⟩,⟨193,zB.sp F⟩],N:=75,H:=yv.h}
theorem yv.ok (m:Int) (F:Nat):OKP m 156 yv.sg (yv.sp F) :=
 okp (yv.X m F) Go.Proofs.Tryz.func156 ⟨zz.ok m F,xh.ok m F,zB.ok m F,trivial⟩ trivial 0 0 zp zp
def zn.te:TEs:=[kL 1,(2,.c (.sl (.int .i64))),(3,kI),(4,kI),(5,kI),(6,kI),(7,.c (.sl .bool)),(9,.c (.sl (.int .i64))),(9,.ow 9),(10,kI),(11,.c (.sl (.int .i64))),(12,.c (.sl (.int .i64))),(12,.ow 12),(13,kI),(14,kI),(15,kI),(22,kB),(34,kB),(46,kB),(72,kB),(98,kB),(110,kB)]
def zn.tb:TEs:=[(1,.g yr)]
def zn.tp:List qF:=[⟨9,.env 9,(.int .i64)⟩,⟨12,.env 12,(.int .i64)⟩]
def zn.h:SH:=shN zn.te zn.tb zn.tp [(0,1,1,0),(1,49,1,0),(2,65585,1,0),(3,14,0,0),(4,65,1,0),(5,321,1,1),(6,833,1,1),(7,131905,1,1),(8,833,1,1),(9,1857,1,1),(10,5953,1,3),(11,14145,1,3),(12,30529,1,3),(13,292673,1,3),(14,30529,1,3),(15,30529,1,3),(16,30529,1,3),(17,30529,1,3),(18,35649,1,1),(19,559937,1,1),(20,14,0,0),(21,1082177,1,1),(22,14,0,0),(23,833,1,1),(24,2097280,0,0),(25,14,0,0),(26,14,0,0)]
def zn.hl:SH:=shN zn.te zn.tb zn.tp [(7,833,1,1),(13,30529,1,3)]
def zn.hj:Nat->Option Shape:=shO zn.te zn.tb zn.tp [(24,128,0,0)]
def zn.L13 (F:Nat) (R:Type) (K:KK R) (n:Nat) (x:(Unit×(List Bool)×Unit×Int×(List Int)×Unit×Int×Int×Unit)×(yr.T×Unit)×((List Int)×(List Int)×Unit)):Option R :=
 zn.l13 F (fun fix i kids place k t46 p out where_=>K (.exit 2) (xl (zn.h 13) (((),fix,(),i,kids,(),place,k,t46,()),(p,()),(out,where_,())))) n x.1.2.1 x.1.2.2.2.1 x.1.2.2.2.2.1 x.1.2.2.2.2.2.2.1 x.1.2.2.2.2.2.2.2.1 x.2.1.1 x.2.2.1 x.2.2.2.1
def zn.L7 (F:Nat) (R:Type) (K:KK R) (n:Nat) (x:(Unit×(List Bool)×Unit×Int×Unit)×(yr.T×Unit)×((List Int)×Unit)):Option R :=
 zn.l7 F (fun r2 r3 r4=>K .ret (xl (zn.h 20) ((r2,r3,r4,()),(),()))) (fun r2 r3 r4=>K .ret (xl (zn.h 22) ((r2,r3,r4,()),(),()))) (fun fix i t34 p out=>K (.exit 0) (xl (zn.h 7) (((),fix,(),i,t34,()),(p,()),(out,())))) n x.1.2.1 x.1.2.2.2.1 x.2.1.1 x.2.2.1
def zn.J24 (F:Nat) (x:((List Int)×Unit)×(Unit)×(Unit)) (R:Type) (K:KK R):Option R :=
 zn.j24 F (fun r2 r3 r4=>K .ret (xl (zn.h 25) ((r2,r3,r4,()),(),()))) (fun r2 r3 r4=>K .ret (xl (zn.h 26) ((r2,r3,r4,()),(),()))) x.1.1
def zn.X (m:Int) (F:Nat):FX TI (G m) Sg:={hn:={MU:=fun s=>lk false s [(53,true),(59,true),(103,true)],na:=1,fz:=fun r=>lk [] r [(15,[55]),(18,[12])],fzJ:=fun r=>lk [] r [(24,[9])]},lv:=[⟨66,zX.sp F⟩,⟨155,zl.sp F⟩,⟨29,zv.sp F⟩,⟨67,zS.sp F⟩,⟨156,yv.sp F⟩],N:=115,H:=zn.h,HL:=zn.hl,HJ:=zn.hj,L:=mkL zn.hl [⟨13,fun x R K=>zn.L13 F R K F x⟩,⟨7,fun x R K=>zn.L7 F R K F x⟩],J:=mkJ zn.hj [⟨24,zn.J24 F⟩]}
theorem zn.ok (m:Int) (F:Nat):OKP m 97 zn.sg (zn.sp F) :=
 okp (zn.X m F) Go.Proofs.Tryz.func97 ⟨zX.ok m F,zl.ok m F,zv.ok m F,zS.ok m F,yv.ok m F,trivial⟩ trivial 2 1 (yB (FX.loopk 13 F (zn.L13 F)) (yB (FX.loopk 7 F (zn.L7 F)) zp)) (yB (FX.cutk 24) zp)
def zm.te:TEs:=[kL 1,(2,kI),(3,kI),(5,kI),(6,.ow 6),(7,kI),(8,kI),(9,kI),(10,kI),(17,kB),(23,kB),(33,kB),(42,kB),(48,kB),(62,kB)]
def zm.tb:TEs:=[(1,.g yr)]
def zm.tp:List qF:=[⟨6,.env 6,(.int .i64)⟩]
def zm.h:SH:=shN zm.te zm.tb zm.tp [(0,1,1,0),(1,9,1,0),(2,521,1,0),(3,6,0,0),(4,17,1,1),(5,49,1,1),(6,1073,1,1),(7,49,1,1),(8,49,1,1),(9,81,1,1),(10,209,1,1),(11,2257,1,1),(12,209,1,1),(13,4305,1,1),(14,465,1,1),(15,8657,1,1),(16,465,1,1),(17,465,1,1),(18,16849,1,1),(19,465,1,1),(20,6,0,0)]
def zm.hl:SH:=shN zm.te zm.tb zm.tp [(6,49,1,1),(11,209,1,1),(15,465,1,1)]
def zm.L6 (F:Nat) (R:Type) (K:KK R) (n:Nat) (x:(Unit×Unit×Int×Unit)×(yr.T×Unit)×((List Int)×Unit)):Option R :=
 zm.l6 F (fun i t23 p wT=>K (.exit 0) (xl (zm.h 6) (((),(),i,t23,()),(p,()),(wT,())))) n x.1.2.2.1 x.2.1.1 x.2.2.1
def zm.L15 (F:Nat) (R:Type) (K:KK R) (n:Nat) (x:(Unit×Unit×Int×Int×Int×Unit)×(yr.T×Unit)×((List Int)×Unit)):Option R :=
 zm.l15 F (fun most i k t48 p wT=>K (.exit 4) (xl (zm.h 15) (((),(),most,i,k,t48,()),(p,()),(wT,())))) n x.1.2.2.1 x.1.2.2.2.1 x.1.2.2.2.2.1 x.2.1.1 x.2.2.1
def zm.L11 (F:Nat) (R:Type) (K:KK R) (n:Nat) (x:(Unit×Unit×Int×Int×Unit)×(yr.T×Unit)×((List Int)×Unit)):Option R :=
 zm.l11 F (fun most i t33 p wT=>K (.exit 2) (xl (zm.h 11) (((),(),most,i,t33,()),(p,()),(wT,())))) n x.1.2.2.1 x.1.2.2.2.1 x.2.1.1 x.2.2.1
def zm.X (m:Int) (F:Nat):FX TI (G m) Sg:={hn:={MU:=fun s=>lk false s [(28,true)],na:=1},lv:=[⟨66,zX.sp F⟩,⟨67,zS.sp F⟩],N:=68,H:=zm.h,HL:=zm.hl,L:=mkL zm.hl [⟨6,fun x R K=>zm.L6 F R K F x⟩,⟨15,fun x R K=>zm.L15 F R K F x⟩,⟨11,fun x R K=>zm.L11 F R K F x⟩]}
theorem zm.ok (m:Int) (F:Nat):OKP m 32 zm.sg (zm.sp F) :=
 okp (zm.X m F) Go.Proofs.Tryz.func32 ⟨zX.ok m F,zS.ok m F,trivial⟩ trivial 3 0 (yB (FX.loopk 15 F (zm.L15 F)) (yB (FX.loopk 11 F (zm.L11 F)) (yB (FX.loopk 6 F (zm.L6 F)) zp))) zp
def zU.te:TEs:=[(0,kI),kL 2,kL 3,(8,kB)]
def zU.tb:TEs:=[(2,.g zh),(3,.g zh)]
def zU.h:SH:=shN zU.te zU.tb [] [(0,3,1,0),(1,7,3,0),(2,14,3,0),(3,6,3,0),(4,2,1,0)]
def zU.X (m:Int) (F:Nat):FX TI (G m) Sg:={hn:={na:=1},N:=11,H:=zU.h}
theorem zU.ok (m:Int) (F:Nat):OKP m 63 zU.sg (zU.sp F) :=
 okp (zU.X m F) Go.Proofs.Tryz.func63 trivial trivial 0 0 zp zp
def zy.te:TEs:=[kL 1,kL 2,kL 3,(4,kI),(5,kI),(7,kB),(32,kB),(34,kB)]
def zy.tb:TEs:=[(1,.g zh),(2,.a .u64),(3,.a .u64)]
def zy.h:SH:=shN zy.te zy.tb [] [(0,3,3,0),(1,7,7,0),(2,15,7,0),(3,47,7,0),(4,15,7,0),(5,15,7,0),(6,15,7,0),(7,70,6,0),(8,22,6,0),(9,150,6,0),(10,22,6,0),(11,22,6,0),(12,2,2,0)]
def zy.hl:SH:=shN zy.te zy.tb [] [(3,15,7,0),(9,22,6,0)]
def zy.L3 (F:Nat) (R:Type) (K:KK R) (n:Nat) (x:(Unit×Unit×Unit×Int×Unit)×(zh.T×(List Int)×(List Int)×Unit)×(Unit)):Option R :=
 zy.l3 F (fun i t7 w r2 l=>K (.exit 0) (xl (zy.h 3) (((),(),(),i,t7,()),(w,r2,l,()),()))) n x.1.2.2.2.1 x.2.1.1 x.2.1.2.1 x.2.1.2.2.1
def zy.L9 (F:Nat) (R:Type) (K:KK R) (n:Nat) (x:(Unit×Unit×Int×Unit)×((List Int)×(List Int)×Unit)×(Unit)):Option R :=
 zy.l9 F (fun i t34 r2 l=>K (.exit 2) (xl (zy.h 9) (((),(),i,t34,()),(r2,l,()),()))) n x.1.2.2.1 x.2.1.1 x.2.1.2.1
def zy.X (m:Int) (F:Nat):FX TI (G m) Sg:={hn:={na:=1},N:=40,H:=zy.h,HL:=zy.hl,L:=mkL zy.hl [⟨3,fun x R K=>zy.L3 F R K F x⟩,⟨9,fun x R K=>zy.L9 F R K F x⟩]}
theorem zy.ok (m:Int) (F:Nat):OKP m 113 zy.sg (zy.sp F) :=
 okp (zy.X m F) Go.Proofs.Tryz.func113 trivial trivial 2 0 (yB (FX.loopk 9 F (zy.L9 F)) (yB (FX.loopk 3 F (zy.L3 F)) zp)) zp
def xm.te:TEs:=[kL 1,(2,kB)]
def xm.tb:TEs:=[(1,.a .u64)]
def xm.h:SH:=shN xm.te xm.tb [] [(0,1,1,0),(1,2,0,0)]
def xm.X (m:Int) (F:Nat):FX TI (G m) Sg:={hn:={na:=1},N:=6,H:=xm.h}
theorem xm.ok (m:Int) (F:Nat):OKP m 160 xm.sg (xm.sp F) :=
 okp (xm.X m F) Go.Proofs.Tryz.func160 trivial trivial 0 0 zp zp
def z6.te:TEs:=[kL 2,kL 3,kL 4,(5,.c (.int .u64)),(6,kI),(8,kB)]
def z6.tb:TEs:=[(2,.a .u64),(3,.a .u64),(4,.a .u64)]
def z6.h:SH:=shN z6.te z6.tb [] [(0,7,7,0),(1,15,7,0),(2,31,7,0),(3,63,7,0),(4,31,7,0),(5,31,7,0),(6,31,7,0),(7,31,7,0),(8,4,4,0)]
def z6.hl:SH:=shN z6.te z6.tb [] [(3,31,7,0)]
def z6.L3 (F:Nat) (R:Type) (K:KK R) (n:Nat) (x:(Unit×Unit×Unit×Int×Int×Unit)×((List Int)×(List Int)×(List Int)×Unit)×(Unit)):Option R :=
 z6.l3 F (fun c i t8 a b r4=>K (.exit 0) (xl (z6.h 3) (((),(),(),c,i,t8,()),(a,b,r4,()),()))) n x.1.2.2.2.1 x.1.2.2.2.2.1 x.2.1.1 x.2.1.2.1 x.2.1.2.2.1
def z6.X (m:Int) (F:Nat):FX TI (G m) Sg:={hn:={na:=2},N:=27,H:=z6.h,HL:=z6.hl,L:=mkL z6.hl [⟨3,fun x R K=>z6.L3 F R K F x⟩]}
theorem z6.ok (m:Int) (F:Nat):OKP m 112 z6.sg (z6.sp F) :=
 okp (z6.X m F) Go.Proofs.Tryz.func112 trivial trivial 1 0 (yB (FX.loopk 3 F (z6.L3 F)) zp) zp
def zM.te:TEs:=[kL 1,kL 2,(3,kI),(5,kB)]
def zM.tb:TEs:=[(1,.a .u64),(2,.a .u64)]
def zM.h:SH:=shN zM.te zM.tb [] [(0,3,3,0),(1,7,3,0),(2,15,3,0),(3,7,3,0),(4,7,3,0),(5,2,2,0)]
def zM.hl:SH:=shN zM.te zM.tb [] [(2,7,3,0)]
def zM.L2 (F:Nat) (R:Type) (K:KK R) (n:Nat) (x:(Unit×Unit×Int×Unit)×((List Int)×(List Int)×Unit)×(Unit)):Option R :=
 zM.l2 F (fun i t5 a r2=>K (.exit 0) (xl (zM.h 2) (((),(),i,t5,()),(a,r2,()),()))) n x.1.2.2.1 x.2.1.1 x.2.1.2.1
def zM.X (m:Int) (F:Nat):FX TI (G m) Sg:={hn:={na:=1},lv:=[⟨112,z6.sp F⟩],N:=17,H:=zM.h,HL:=zM.hl,L:=mkL zM.hl [⟨2,fun x R K=>zM.L2 F R K F x⟩]}
theorem zM.ok (m:Int) (F:Nat):OKP m 159 zM.sg (zM.sp F) :=
 okp (zM.X m F) Go.Proofs.Tryz.func159 ⟨z6.ok m F,trivial⟩ trivial 1 0 (yB (FX.loopk 2 F (zM.L2 F)) zp) zp
def zW.te:TEs:=[kL 1,(2,.c (.int .u64)),(3,.c (.int .u64)),kL 4,(5,.c (.int .u64)),(6,.c (.int .u64)),(7,kI),(11,kB),(15,kB)]
def zW.tb:TEs:=[(1,.g zh),(4,.a .u64)]
def zW.h:SH:=shN zW.te zW.tb [] [(0,1,1,0),(1,8,2,0),(2,136,2,0),(3,8,2,0),(4,24,2,0),(5,56,2,0),(6,120,2,0),(7,376,2,0),(8,120,2,0),(9,120,2,0),(10,120,2,0),(11,6,0,0)]
def zW.hl:SH:=shN zW.te zW.tb [] [(7,120,2,0)]
def zW.hj:Nat->Option Shape:=shO zW.te zW.tb [] [(4,8,2,0)]
def zW.L7 (F:Nat) (R:Type) (K:KK R) (n:Nat) (x:(Unit×Int×Int×Int×Unit)×((List Int)×Unit)×(Unit)):Option R :=
 zW.l7 F (fun hi lo i t15 l=>K (.exit 0) (xl (zW.h 7) (((),hi,lo,i,t15,()),(l,()),()))) n x.1.2.1 x.1.2.2.1 x.1.2.2.2.1 x.2.1.1
def zW.J4 (F:Nat) (x:(Unit×Unit)×((List Int)×Unit)×(Unit)) (R:Type) (K:KK R):Option R :=
 zW.j4 F (fun r2 r3=>K .ret (xl (zW.h 11) ((r2,r3,()),(),()))) x.2.1.1
def zW.X (m:Int) (F:Nat):FX TI (G m) Sg:={hn:={na:=1},lv:=[⟨113,zy.sp F⟩,⟨160,xm.sp F⟩,⟨159,zM.sp F⟩],N:=33,H:=zW.h,HL:=zW.hl,HJ:=zW.hj,L:=mkL zW.hl [⟨7,fun x R K=>zW.L7 F R K F x⟩],J:=mkJ zW.hj [⟨4,zW.J4 F⟩]}
theorem zW.ok (m:Int) (F:Nat):OKP m 104 zW.sg (zW.sp F) :=
 okp (zW.X m F) Go.Proofs.Tryz.func104 ⟨zy.ok m F,xm.ok m F,zM.ok m F,trivial⟩ trivial 1 1 (yB (FX.loopk 7 F (zW.L7 F)) zp) (yB (FX.cutk 4) zp)
def ym.te:TEs:=[(0,.c (.int .u64)),(1,.c (.int .u64)),kL 4,kL 5,(6,kI),(8,kB)]
def ym.tb:TEs:=[(4,.a .u64),(5,.a .u64)]
def ym.h:SH:=shN ym.te ym.tb [] [(0,7,1,0),(1,15,3,0),(2,31,3,0),(3,63,3,0),(4,31,3,0),(5,31,3,0),(6,31,3,0),(7,4,1,0)]
def ym.hl:SH:=shN ym.te ym.tb [] [(3,31,3,0)]
def ym.L3 (F:Nat) (R:Type) (K:KK R) (n:Nat) (x:(Int×Int×Unit×Unit×Int×Unit)×((List Int)×(List Int)×Unit)×(Unit)):Option R :=
 ym.l3 F (fun hi lo i t8 r4 d=>K (.exit 0) (xl (ym.h 3) ((hi,lo,(),(),i,t8,()),(r4,d,()),()))) n x.1.1 x.1.2.1 x.1.2.2.2.2.1 x.2.1.1 x.2.1.2.1
def ym.X (m:Int) (F:Nat):FX TI (G m) Sg:={hn:={na:=2},N:=29,H:=ym.h,HL:=ym.hl,L:=mkL ym.hl [⟨3,fun x R K=>ym.L3 F R K F x⟩]}
theorem ym.ok (m:Int) (F:Nat):OKP m 103 ym.sg (ym.sp F) :=
 okp (ym.X m F) Go.Proofs.Tryz.func103 trivial trivial 1 0 (yB (FX.loopk 3 F (ym.L3 F)) zp) zp
def zH.te:TEs:=[kL 1,kL 2,(3,kB),(4,.c (.int .u64)),(5,kI),(6,.c (.int .u64)),(7,.c (.int .u64)),(8,kI),(11,kB),(13,kB),(20,kB),(23,kB)]
def zH.tb:TEs:=[(1,.a .u64),(2,.g zh)]
def zH.h:SH:=shN zH.te zH.tb [] [(0,3,3,0),(1,11,3,0),(2,267,3,0),(3,11,3,0),(4,27,3,0),(5,539,3,0),(6,27,3,0),(7,1051,3,0),(8,6,2,0),(9,35,3,0),(10,99,3,0),(11,227,3,0),(12,2275,3,0),(13,227,3,0),(14,227,3,0),(15,227,3,0),(16,6,2,0)]
def zH.hl:SH:=shN zH.te zH.tb [] [(5,27,3,0),(12,227,3,0)]
def zH.hj:Nat->Option Shape:=shO zH.te zH.tb [] [(4,11,3,0)]
def zH.L5 (F:Nat) (R:Type) (K:KK R) (n:Nat) (x:(Unit×Unit×Int×Int×Unit)×((List Int)×zh.T×Unit)×(Unit)):Option R :=
 zH.l5 F (fun r3 r2=>K .ret (xl (zH.h 8) (((),r3,()),(r2,()),()))) (fun top i t13 l r2=>K (.exit 0) (xl (zH.h 5) (((),(),top,i,t13,()),(l,r2,()),()))) n x.1.2.2.1 x.1.2.2.2.1 x.2.1.1 x.2.1.2.1
def zH.L12 (F:Nat) (R:Type) (K:KK R) (n:Nat) (x:(Unit×Unit×Int×Int×Int×Unit)×((List Int)×zh.T×Unit)×(Unit)):Option R :=
 zH.l12 F (fun lo hi i t23 l r2=>K (.exit 2) (xl (zH.h 12) (((),(),lo,hi,i,t23,()),(l,r2,()),()))) n x.1.2.2.1 x.1.2.2.2.1 x.1.2.2.2.2.1 x.2.1.1 x.2.1.2.1
def zH.J4 (F:Nat) (x:(Unit×Unit×Int×Unit)×((List Int)×zh.T×Unit)×(Unit)) (R:Type) (K:KK R):Option R :=
 zH.j4 F (fun r3 r2=>K .ret (xl (zH.h 8) (((),r3,()),(r2,()),()))) (fun r3 r2=>K .ret (xl (zH.h 16) (((),r3,()),(r2,()),()))) x.1.2.2.1 x.2.1.1 x.2.1.2.1
def zH.X (m:Int) (F:Nat):FX TI (G m) Sg:={hn:={na:=1},N:=43,H:=zH.h,HL:=zH.hl,HJ:=zH.hj,L:=mkL zH.hl [⟨5,fun x R K=>zH.L5 F R K F x⟩,⟨12,fun x R K=>zH.L12 F R K F x⟩],J:=mkJ zH.hj [⟨4,zH.J4 F⟩]}
theorem zH.ok (m:Int) (F:Nat):OKP m 176 zH.sg (zH.sp F) :=
 okp (zH.X m F) Go.Proofs.Tryz.func176 trivial trivial 2 1 (yB (FX.loopk 12 F (zH.L12 F)) (yB (FX.loopk 5 F (zH.L5 F)) zp)) (yB (FX.cutk 4) zp)
def yH.te:TEs:=[kL 1,kL 2,(3,kI),kL 4,(5,kB),(12,kB)]
def yH.tb:TEs:=[(1,.a .u64),(2,.g zh),(4,.g zh)]
def yH.h:SH:=shN yH.te yH.tb [] [(0,3,3,0),(1,26,6,0),(2,42,6,0),(3,6,2,0),(4,6,2,0)]
def yH.X (m:Int) (F:Nat):FX TI (G m) Sg:={hn:={na:=1},lv:=[⟨176,zH.sp F⟩],N:=15,H:=yH.h}
theorem yH.ok (m:Int) (F:Nat):OKP m 111 yH.sg (yH.sp F) :=
 okp (yH.X m F) Go.Proofs.Tryz.func111 ⟨zH.ok m F,trivial⟩ trivial 0 0 zp zp
def yd.te:TEs:=[(0,kB),(1,.c (.int .u64)),(2,.c (.int .u64)),kL 6,(7,kI),kL 8,(9,kI),(11,kB),(31,kB)]
def yd.tb:TEs:=[(6,.g zh),(8,.a .u64)]
def yd.h:SH:=shN yd.te yd.tb [] [(0,15,1,0),(1,47,3,0),(2,111,3,0),(3,239,3,0),(4,111,3,0),(5,111,3,0),(6,111,3,0),(7,296,3,0),(8,40,3,0),(9,24,1,0)]
def yd.hl:SH:=shN yd.te yd.tb [] [(3,111,3,0)]
def yd.L3 (F:Nat) (R:Type) (K:KK R) (n:Nat) (x:(Bool×Int×Int×Unit×Unit×Int×Unit)×(zh.T×(List Int)×Unit)×(Unit)):Option R :=
 yd.l3 F (fun below hi lo i t11 r6 l=>K (.exit 0) (xl (yd.h 3) ((below,hi,lo,(),(),i,t11,()),(r6,l,()),()))) n x.1.1 x.1.2.1 x.1.2.2.1 x.1.2.2.2.2.2.1 x.2.1.1 x.2.1.2.1
def yd.X (m:Int) (F:Nat):FX TI (G m) Sg:={hn:={na:=3},lv:=[⟨159,zM.sp F⟩,⟨111,yH.sp F⟩],N:=38,H:=yd.h,HL:=yd.hl,L:=mkL yd.hl [⟨3,fun x R K=>yd.L3 F R K F x⟩]}
theorem yd.ok (m:Int) (F:Nat):OKP m 105 yd.sg (yd.sp F) :=
 okp (yd.X m F) Go.Proofs.Tryz.func105 ⟨zM.ok m F,yH.ok m F,trivial⟩ trivial 1 0 (yB (FX.loopk 3 F (yd.L3 F)) zp) zp
def zi.te:TEs:=[kL 2,kL 3,kL 4,(5,kI),kL 6,kL 7,kL 8,(9,kI),(10,.c (.int .u64)),(11,kI),(12,kI),(13,.c (.int .u64)),(14,.c (.int .u64)),(15,kI),(27,kB),(31,kB),(62,kB),(68,kB),(71,kB)]
def zi.tb:TEs:=[(2,.g zh),(3,.g zh),(4,.g zh),(6,.a .u64),(7,.a .u64),(8,.a .u64)]
def zi.h:SH:=shN zi.te zi.tb [] [(0,7,7,0),(1,23,15,0),(2,55,31,0),(3,119,63,0),(4,247,63,0),(5,16631,63,0),(6,247,63,0),(7,503,63,0),(8,1015,63,0),(9,33783,63,0),(10,1015,63,0),(11,1015,63,0),(12,1015,63,0),(13,1015,63,0),(14,247,63,0),(15,1095,39,0),(16,66631,39,0),(17,1095,39,0),(18,132167,39,0),(19,12,4,0),(20,2119,39,0),(21,6215,39,0),(22,14407,39,0),(23,276551,39,0),(24,14407,39,0),(25,14407,39,0),(26,14407,39,0),(27,12,4,0)]
def zi.hl:SH:=shN zi.te zi.tb [] [(5,247,63,0),(9,1015,63,0),(16,1095,39,0),(23,14407,39,0)]
def zi.L9 (F:Nat) (R:Type) (K:KK R) (n:Nat) (x:(Unit×Unit×Unit×Unit×Unit×Unit×Int×Int×Int×Unit)×(zh.T×zh.T×zh.T×(List Int)×(List Int)×(List Int)×Unit)×(Unit)):Option R :=
 zi.l9 F (fun i c j t31 a b r4 x y p=>K (.exit 2) (xl (zi.h 9) (((),(),(),(),(),(),i,c,j,t31,()),(a,b,r4,x,y,p,()),()))) n x.1.2.2.2.2.2.2.1 x.1.2.2.2.2.2.2.2.1 x.1.2.2.2.2.2.2.2.2.1 x.2.1.1 x.2.1.2.1 x.2.1.2.2.1 x.2.1.2.2.2.1 x.2.1.2.2.2.2.1 x.2.1.2.2.2.2.2.1
def zi.L5 (F:Nat) (R:Type) (K:KK R) (n:Nat) (x:(Unit×Unit×Unit×Unit×Unit×Unit×Int×Unit)×(zh.T×zh.T×zh.T×(List Int)×(List Int)×(List Int)×Unit)×(Unit)):Option R :=
 zi.l5 F (fun i t27 a b r4 x y p=>K (.exit 0) (xl (zi.h 5) (((),(),(),(),(),(),i,t27,()),(a,b,r4,x,y,p,()),()))) n x.1.2.2.2.2.2.2.1 x.2.1.1 x.2.1.2.1 x.2.1.2.2.1 x.2.1.2.2.2.1 x.2.1.2.2.2.2.1 x.2.1.2.2.2.2.2.1
def zi.L16 (F:Nat) (R:Type) (K:KK R) (n:Nat) (x:(Unit×Unit×Unit×Unit×Int×Unit)×(zh.T×zh.T×zh.T×(List Int)×Unit)×(Unit)):Option R :=
 zi.l16 F (fun r5 r4=>K .ret (xl (zi.h 19) (((),r5,()),(r4,()),()))) (fun i t62 a b r4 p=>K (.exit 4) (xl (zi.h 16) (((),(),(),(),i,t62,()),(a,b,r4,p,()),()))) n x.1.2.2.2.2.1 x.2.1.1 x.2.1.2.1 x.2.1.2.2.1 x.2.1.2.2.2.1
def zi.L23 (F:Nat) (R:Type) (K:KK R) (n:Nat) (x:(Unit×Unit×Unit×Unit×Int×Int×Int×Unit)×(zh.T×zh.T×zh.T×(List Int)×Unit)×(Unit)):Option R :=
 zi.l23 F (fun hi lo i t71 a b r4 p=>K (.exit 6) (xl (zi.h 23) (((),(),(),(),hi,lo,i,t71,()),(a,b,r4,p,()),()))) n x.1.2.2.2.2.1 x.1.2.2.2.2.2.1 x.1.2.2.2.2.2.2.1 x.2.1.1 x.2.1.2.1 x.2.1.2.2.1 x.2.1.2.2.2.1
def zi.X (m:Int) (F:Nat):FX TI (G m) Sg:={hn:={na:=2},lv:=[⟨104,zW.sp F⟩,⟨103,ym.sp F⟩,⟨105,yd.sp F⟩],N:=99,H:=zi.h,HL:=zi.hl,L:=mkL zi.hl [⟨9,fun x R K=>zi.L9 F R K F x⟩,⟨5,fun x R K=>zi.L5 F R K F x⟩,⟨16,fun x R K=>zi.L16 F R K F x⟩,⟨23,fun x R K=>zi.L23 F R K F x⟩]}
theorem zi.ok (m:Int) (F:Nat):OKP m 64 zi.sg (zi.sp F) :=
 okp (zi.X m F) Go.Proofs.Tryz.func64 ⟨zW.ok m F,ym.ok m F,yd.ok m F,trivial⟩ trivial 4 0 (yB (FX.loopk 23 F (zi.L23 F)) (yB (FX.loopk 16 F (zi.L16 F)) (yB (FX.loopk 9 F (zi.L9 F)) (yB (FX.loopk 5 F (zi.L5 F)) zp)))) zp
def yb.te:TEs:=[(0,kI),kL 2,(3,kI),kL 4,(5,kI),(7,kB),(10,kB),(15,kB)]
def yb.tb:TEs:=[(2,.g zh),(4,.g zh)]
def yb.h:SH:=shN yb.te yb.tb [] [(0,3,1,0),(1,35,1,0),(2,6,1,0),(3,67,1,0),(4,6,1,0),(5,11,3,0),(6,27,3,0),(7,155,3,0),(8,27,3,0),(9,27,3,0),(10,6,1,0)]
def yb.hl:SH:=shN yb.te yb.tb [] [(7,27,3,0)]
def yb.L7 (F:Nat) (R:Type) (K:KK R) (n:Nat) (x:(Int×Unit×Unit×Int×Unit)×(zh.T×zh.T×Unit)×(Unit)):Option R :=
 yb.l7 F (fun k i t15 r2 p=>K (.exit 0) (xl (yb.h 7) ((k,(),(),i,t15,()),(r2,p,()),()))) n x.1.1 x.1.2.2.2.1 x.2.1.1 x.2.1.2.1
def yb.X (m:Int) (F:Nat):FX TI (G m) Sg:={hn:={na:=1},lv:=[⟨63,zU.sp F⟩,⟨64,zi.sp F⟩],N:=25,H:=yb.h,HL:=yb.hl,L:=mkL yb.hl [⟨7,fun x R K=>yb.L7 F R K F x⟩]}
theorem yb.ok (m:Int) (F:Nat):OKP m 62 yb.sg (yb.sp F) :=
 okp (yb.X m F) Go.Proofs.Tryz.func62 ⟨zU.ok m F,zi.ok m F,trivial⟩ trivial 1 0 (yB (FX.loopk 7 F (yb.L7 F)) zp) zp
def yu.te:TEs:=[(0,kI),kL 2]
def yu.tb:TEs:=[(2,.g zj)]
def yu.h:SH:=shN yu.te yu.tb [] [(0,3,1,0),(1,2,1,0)]
def yu.X (m:Int) (F:Nat):FX TI (G m) Sg:={hn:={na:=1},lv:=[⟨63,zU.sp F⟩],N:=6,H:=yu.h}
theorem yu.ok (m:Int) (F:Nat):OKP m 100 yu.sg (yu.sp F) :=
 okp (yu.X m F) Go.Proofs.Tryz.func100 ⟨zU.ok m F,trivial⟩ trivial 0 0 zp zp
def yU.te:TEs:=[kL 2,kL 3,kL 4,kL 5,(6,kI)]
def yU.tb:TEs:=[(2,.g zj),(3,.g zj),(4,.g zj),(5,.g zh)]
def yU.h:SH:=shN yU.te yU.tb [] [(0,7,7,0),(1,31,15,0),(2,4,4,0)]
def yU.X (m:Int) (F:Nat):FX TI (G m) Sg:={hn:={na:=2},lv:=[⟨64,zi.sp F⟩],N:=27,H:=yU.h}
theorem yU.ok (m:Int) (F:Nat):OKP m 99 yU.sg (yU.sp F) :=
 okp (yU.X m F) Go.Proofs.Tryz.func99 ⟨zi.ok m F,trivial⟩ trivial 0 0 zp zp
def yL.te:TEs:=[(0,kI),(1,kI),(4,kI),(5,kI),(12,kB)]
def yL.h:SH:=shN yL.te [] [] [(0,3,0,0),(1,11,0,0),(2,24,0,0),(3,8,0,0),(4,4,0,0)]
def yL.X (m:Int) (F:Nat):FX TI (G m) Sg:={hn:={na:=2},N:=16,H:=yL.h}
theorem yL.ok (m:Int) (F:Nat):OKP m 71 yL.sg (yL.sp F) :=
 okp (yL.X m F) Go.Proofs.Tryz.func71 trivial trivial 0 0 zp zp
def xK.te:TEs:=[(0,kI),(2,kI),(4,kB)]
def xK.h:SH:=shN xK.te [] [] [(0,1,0,0),(1,5,0,0),(2,2,0,0),(3,2,0,0)]
def xK.X (m:Int) (F:Nat):FX TI (G m) Sg:={hn:={na:=1},N:=8,H:=xK.h}
theorem xK.ok (m:Int) (F:Nat):OKP m 194 xK.sg (xK.sp F) :=
 okp (xK.X m F) Go.Proofs.Tryz.func194 trivial trivial 0 0 zp zp
def yP.te:TEs:=[kL 2,kL 3,kL 4,(5,kI)]
def yP.tb:TEs:=[(2,.g zh),(3,.g zh),(4,.g zh)]
def yP.h:SH:=shN yP.te yP.tb [] [(0,7,7,0),(1,12,4,0)]
def yP.X (m:Int) (F:Nat):FX TI (G m) Sg:={hn:={na:=2},lv:=[⟨113,zy.sp F⟩,⟨112,z6.sp F⟩,⟨111,yH.sp F⟩],N:=14,H:=yP.h}
theorem yP.ok (m:Int) (F:Nat):OKP m 72 yP.sg (yP.sp F) :=
 okp (yP.X m F) Go.Proofs.Tryz.func72 ⟨zy.ok m F,z6.ok m F,yH.ok m F,trivial⟩ trivial 0 0 zp zp
def yE.te:TEs:=[kL 2,kL 3,kL 4,kL 5,(6,kI)]
def yE.tb:TEs:=[(2,.g zj),(3,.g zj),(4,.g zj),(5,.g zh)]
def yE.h:SH:=shN yE.te yE.tb [] [(0,7,7,0),(1,31,15,0),(2,4,4,0)]
def yE.X (m:Int) (F:Nat):FX TI (G m) Sg:={hn:={na:=2},lv:=[⟨72,yP.sp F⟩],N:=27,H:=yE.h}
theorem yE.ok (m:Int) (F:Nat):OKP m 158 yE.sg (yE.sp F) :=
 okp (yE.X m F) Go.Proofs.Tryz.func158 ⟨yP.ok m F,trivial⟩ trivial 0 0 zp zp
def zD.te:TEs:=[(2,.b yp),kL 3,kL 4,kL 6,(7,kI),kL 8,(9,kI),(14,kB),(24,kB),(35,kB)]
def zD.tb:TEs:=[(3,.g zj),(4,.g zj),(6,.g zj),(8,.g zj)]
def zD.h:SH:=shN zD.te zD.tb [] [(0,15,7,0),(1,31,7,0),(2,63,15,0),(3,127,15,0),(4,255,15,0),(5,127,15,0),(6,383,15,0),(7,127,15,0),(8,639,15,0),(9,127,15,0),(10,8,4,0)]
def zD.hl:SH:=shN zD.te zD.tb [] [(4,127,15,0)]
def zD.L4 (F:Nat) (R:Type) (K:KK R) (n:Nat) (x:((List yp.T)×Unit×Unit×Unit×Int×Unit×Int×Unit)×(zj.T×zj.T×zj.T×zj.T×Unit)×(Unit)):Option R :=
 zD.l4 F (fun l r i t14 unit x r6 w=>K (.exit 0) (xl (zD.h 4) ((l,(),(),(),r,(),i,t14,()),(unit,x,r6,w,()),()))) n x.1.1 x.1.2.2.2.2.1 x.1.2.2.2.2.2.2.1 x.2.1.1 x.2.1.2.1 x.2.1.2.2.1 x.2.1.2.2.2.1
def zD.X (m:Int) (F:Nat):FX TI (G m) Sg:={hn:={na:=3},lv:=[⟨100,yu.sp F⟩,⟨194,xK.sp F⟩,⟨99,yU.sp F⟩,⟨158,yE.sp F⟩],N:=76,H:=zD.h,HL:=zD.hl,L:=mkL zD.hl [⟨4,fun x R K=>zD.L4 F R K F x⟩]}
theorem zD.ok (m:Int) (F:Nat):OKP m 157 zD.sg (zD.sp F) :=
 okp (zD.X m F) Go.Proofs.Tryz.func157 ⟨yu.ok m F,xK.ok m F,yU.ok m F,yE.ok m F,trivial⟩ trivial 1 0 (yB (FX.loopk 4 F (zD.L4 F)) zp) zp
def zA.te:TEs:=[(3,.b zj),kL 4,kL 5,kL 6,kL 8,kL 9,(10,kI),(12,kI),(13,kB),(18,kB),(25,kB),(28,kB),(39,kB),(45,kB),(54,kB),(68,kB),(89,kB)]
def zA.tb:TEs:=[(4,.g yr),(5,.g zx),(6,.g zj),(8,.g zj),(9,.g zj)]
def zA.h:SH:=shN zA.te zA.tb [] [(0,31,15,0),(1,159,15,0),(2,415,15,0),(3,16,8,0),(4,671,15,0),(5,16,8,0),(6,1183,15,0),(7,16,8,0),(8,2207,15,0),(9,16,8,0),(10,4253,14,0),(11,4253,14,0),(12,16,8,0),(13,8349,14,0),(14,16,8,0),(15,16541,14,0),(16,16413,14,0),(17,16,8,0),(18,53,26,0),(19,117,26,0),(20,32885,26,0),(21,117,26,0),(22,117,26,0),(23,65588,26,0),(24,48,24,0),(25,16,8,0)]
def zA.hl:SH:=shN zA.te zA.tb [] [(20,117,26,0)]
def zA.hj:Nat->Option Shape:=shO zA.te zA.tb [] [(18,21,10,0)]
def zA.L20 (F:Nat) (R:Type) (K:KK R) (n:Nat) (x:((List zj.T)×Unit×Unit×Unit×Int×Unit)×(zx.T×zj.T×zj.T×Unit)×(Unit)):Option R :=
 zA.l20 F (fun l i t68 n r8 s=>K (.exit 1) (xl (zA.h 20) ((l,(),(),(),i,t68,()),(n,r8,s,()),()))) n x.1.1 x.1.2.2.2.2.1 x.2.1.1 x.2.1.2.1 x.2.1.2.2.1
def zA.J18 (F:Nat) (x:((List zj.T)×Unit×Unit×Unit)×(zx.T×zj.T×Unit)×(Unit)) (R:Type) (K:KK R):Option R :=
 zA.j18 F (fun r8=>K .ret (xl (zA.h 25) (((),()),(r8,()),()))) x.1.1 x.2.1.1 x.2.1.2.1
def zA.X (m:Int) (F:Nat):FX TI (G m) Sg:={hn:={na:=4},lv:=[⟨100,yu.sp F⟩,⟨99,yU.sp F⟩,⟨71,yL.sp F⟩,⟨157,zD.sp F⟩,⟨158,yE.sp F⟩],N:=96,H:=zA.h,HL:=zA.hl,HJ:=zA.hj,L:=mkL zA.hl [⟨20,fun x R K=>zA.L20 F R K F x⟩],J:=mkJ zA.hj [⟨18,zA.J18 F⟩]}
theorem zA.ok (m:Int) (F:Nat):OKP m 98 zA.sg (zA.sp F) :=
 okp (zA.X m F) Go.Proofs.Tryz.func98 ⟨yu.ok m F,yU.ok m F,yL.ok m F,zD.ok m F,yE.ok m F,trivial⟩ trivial 1 1 (yB (FX.loopk 20 F (zA.L20 F)) zp) (yB (FX.cutk 18) zp)
def xV.te:TEs:=[kL 0]
def xV.tb:TEs:=[(0,.g zh)]
def xV.h:SH:=shN xV.te xV.tb [] [(0,1,1,0),(1,1,1,0)]
def xV.X (m:Int) (F:Nat):FX TI (G m) Sg:={hn:={na:=0},N:=2,H:=xV.h}
theorem xV.ok (m:Int) (F:Nat):OKP m 102 xV.sg (xV.sp F) :=
 okp (xV.X m F) Go.Proofs.Tryz.func102 trivial trivial 0 0 zp zp
def xu.te:TEs:=[kL 2,kL 3,(4,kI),kL 5,(13,kB),(16,kB)]
def xu.tb:TEs:=[(2,.g zh),(3,.g zh),(5,.a .u64)]
def xu.h:SH:=shN xu.te xu.tb [] [(0,3,3,0),(1,8,4,0),(2,24,4,0),(3,4,0,0),(4,32,0,0),(5,4,0,0),(6,4,0,0)]
def xu.X (m:Int) (F:Nat):FX TI (G m) Sg:={hn:={na:=2},lv:=[⟨113,zy.sp F⟩,⟨159,zM.sp F⟩,⟨112,z6.sp F⟩,⟨160,xm.sp F⟩],N:=17,H:=xu.h}
theorem xu.ok (m:Int) (F:Nat):OKP m 101 xu.sg (xu.sp F) :=
 okp (xu.X m F) Go.Proofs.Tryz.func101 ⟨zy.ok m F,zM.ok m F,z6.ok m F,xm.ok m F,trivial⟩ trivial 0 0 zp zp
def zK.te:TEs:=[kL 1,(2,.c (.sl zh)),(3,kI),(4,kI),(6,kI),(7,kI),(8,kI),kL 10,(12,.c (.sl zh)),(12,.ow 12),(13,.ow 13),(14,kI),(15,kI),kL 16,kL 17,(25,kB),(34,kB),(48,kB),(79,kB),(91,kB)]
def zK.tb:TEs:=[(1,.g yr),(10,.g zh),(16,.g zj),(17,.g zj)]
def zK.tp:List qF:=[⟨12,.env 12,zh⟩,⟨13,.env 13,zj⟩]
def zK.h:SH:=shN zK.te zK.tb zK.tp [(0,1,1,0),(1,49,1,0),(2,32817,1,0),(3,14,0,0),(4,65,1,0),(5,65601,1,0),(6,14,0,0),(7,129,3,0),(8,641,3,1),(9,1665,3,3),(10,3713,3,3),(11,134785,3,3),(12,3713,3,3),(13,7809,3,3),(14,16001,7,3),(15,32385,15,3),(16,294529,15,3),(17,32385,15,3),(18,540289,7,3),(19,14,0,0),(20,16001,7,3),(21,3713,3,3),(22,14,0,0)]
def zK.hl:SH:=shN zK.te zK.tb zK.tp [(11,3713,3,3)]
def zK.hj:Nat->Option Shape:=shO zK.te zK.tb zK.tp [(22,256,0,0)]
def zK.L11 (F:Nat) (R:Type) (K:KK R) (n:Nat) (x:(Unit×Unit×Unit×Unit×Int×Unit)×(yr.T×zh.T×Unit)×((List zh.T)×(List zj.T)×Unit)):Option R :=
 zK.l11 F (fun r2 r3 r4=>K .ret (xl (zK.h 19) ((r2,r3,r4,()),(),()))) (fun i t48 p s out pile=>K (.exit 0) (xl (zK.h 11) (((),(),(),(),i,t48,()),(p,s,()),(out,pile,())))) n x.1.2.2.2.2.1 x.2.1.1 x.2.1.2.1 x.2.2.1 x.2.2.2.1
def zK.J22 (F:Nat) (x:((List zh.T)×Unit)×(Unit)×(Unit)) (R:Type) (K:KK R):Option R :=
 zK.j22 F (fun r2 r3 r4=>K .ret (xl (zK.h 22) ((r2,r3,r4,()),(),()))) x.1.1
def zK.X (m:Int) (F:Nat):FX TI (G m) Sg:={hn:={MU:=fun s=>lk false s [(97,true),(103,true)],na:=1,fzJ:=fun r=>lk [] r [(22,[12])]},lv:=[⟨97,zn.sp F⟩,⟨32,zm.sp F⟩,⟨62,yb.sp F⟩,⟨29,zv.sp F⟩,⟨98,zA.sp F⟩,⟨100,yu.sp F⟩,⟨99,yU.sp F⟩,⟨102,xV.sp F⟩,⟨101,xu.sp F⟩],N:=105,H:=zK.h,HL:=zK.hl,HJ:=zK.hj,L:=mkL zK.hl [⟨11,fun x R K=>zK.L11 F R K F x⟩],J:=mkJ zK.hj [⟨22,zK.J22 F⟩]}
theorem zK.ok (m:Int) (F:Nat):OKP m 61 zK.sg (zK.sp F) :=
 okp (zK.X m F) Go.Proofs.Tryz.func61 ⟨zn.ok m F,zm.ok m F,yb.ok m F,zv.ok m F,zA.ok m F,yu.ok m F,yU.ok m F,xV.ok m F,xu.ok m F,trivial⟩ trivial 1 1 (yB (FX.loopk 11 F (zK.L11 F)) zp) (yB (FX.cutk 22) zp)
def xN.te:TEs:=[kL 1,kL 2,(3,kI),(4,kI),(6,kI),(7,kI),(8,kI),kL 10,(19,kB)]
def xN.tb:TEs:=[(1,.g yr),(2,.g zh),(10,.g zh)]
def xN.h:SH:=shN xN.te xN.tb [] [(0,3,3,0),(1,51,3,0),(2,307,3,0),(3,14,2,0),(4,66,2,0),(5,130,6,0),(6,14,2,0)]
def xN.X (m:Int) (F:Nat):FX TI (G m) Sg:={hn:={na:=1},lv:=[⟨61,zK.sp F⟩,⟨32,zm.sp F⟩,⟨62,yb.sp F⟩],N:=34,H:=xN.h}
theorem xN.ok (m:Int) (F:Nat):OKP m 28 xN.sg (xN.sp F) :=
 okp (xN.X m F) Go.Proofs.Tryz.func28 ⟨zK.ok m F,zm.ok m F,yb.ok m F,trivial⟩ trivial 0 0 zp zp
def wm.te:TEs:=[kL 2,kL 3,(4,.c (.sl zo)),kL 5,kL 6,(10,kI),(11,kB),(17,kB),(29,kB),(33,kB)]
def wm.tb:TEs:=[(2,.g zx),(3,.g zh),(5,.g zf),(6,.g zh)]
def wm.h:SH:=shN wm.te wm.tb [] [(0,3,3,0),(1,11,7,0),(2,43,7,0),(3,107,7,0),(4,8,4,0),(5,171,7,0),(6,24,12,0),(7,8,4,0),(8,296,4,0),(9,8,4,0),(10,520,4,0),(11,8,4,0),(12,4,0,0)]
def wm.X (m:Int) (F:Nat):FX TI (G m) Sg:={hn:={na:=2},lv:=[⟨63,zU.sp F⟩,⟨64,zi.sp F⟩],N:=40,H:=wm.h}
theorem wm.ok (m:Int) (F:Nat):OKP m 30 wm.sg (wm.sp F) :=
 okp (wm.X m F) Go.Proofs.Tryz.func30 ⟨zU.ok m F,zi.ok m F,trivial⟩ trivial 0 0 zp zp
def yw.te:TEs:=[(0,.b zo),(1,kI),(4,kI),(5,kI),(20,kB)]
def yw.h:SH:=shN yw.te [] [] [(0,3,0,0),(1,11,0,0),(2,27,0,0),(3,11,0,0),(4,4,0,0)]
def yw.hl:SH:=shN yw.te [] [] [(2,11,0,0)]
def yw.L2 (F:Nat) (R:Type) (K:KK R) (n:Nat) (x:((List zo.T)×Int×Int×Unit)×(Unit)×(Unit)):Option R :=
 yw.l2 F (fun l q i t20=>K (.exit 0) (xl (yw.h 2) ((l,q,i,t20,()),(),()))) n x.1.1 x.1.2.1 x.1.2.2.1
def yw.X (m:Int) (F:Nat):FX TI (G m) Sg:={hn:={na:=2},N:=24,H:=yw.h,HL:=yw.hl,L:=mkL yw.hl [⟨2,fun x R K=>yw.L2 F R K F x⟩]}
theorem yw.ok (m:Int) (F:Nat):OKP m 37 yw.sg (yw.sp F) :=
 okp (yw.X m F) Go.Proofs.Tryz.func37 trivial trivial 1 0 (yB (FX.loopk 2 F (yw.L2 F)) zp) zp
def yN.te:TEs:=[(3,kB),kL 4,kL 5,kL 6,kL 8,(9,kI),(10,kB)]
def yN.tb:TEs:=[(4,.g zh),(5,.g zh),(6,.g zh),(8,.g zf)]
def yN.h:SH:=shN yN.te yN.tb [] [(0,31,15,0),(1,94,15,0),(2,48,8,0),(3,48,8,0)]
def yN.X (m:Int) (F:Nat):FX TI (G m) Sg:={hn:={na:=4},N:=16,H:=yN.h}
theorem yN.ok (m:Int) (F:Nat):OKP m 196 yN.sg (yN.sp F) :=
 okp (yN.X m F) Go.Proofs.Tryz.func196 trivial trivial 0 0 zp zp
def wa.te:TEs:=[kL 2,kL 3,kL 4,(5,kI),kL 6,(7,kI),kL 8,(9,kI),kL 10,(11,kI)]
def wa.tb:TEs:=[(2,.g zf),(3,.g zh),(4,.g zf),(6,.g zh),(8,.g zh),(10,.g zh)]
def wa.h:SH:=shN wa.te wa.tb [] [(0,7,7,0),(1,55,15,0),(2,247,31,0),(3,1012,60,0),(4,12,4,0)]
def wa.X (m:Int) (F:Nat):FX TI (G m) Sg:={hn:={na:=2},lv:=[⟨64,zi.sp F⟩,⟨196,yN.sp F⟩],N:=49,H:=wa.h}
theorem wa.ok (m:Int) (F:Nat):OKP m 195 wa.sg (wa.sp F) :=
 okp (wa.X m F) Go.Proofs.Tryz.func195 ⟨zi.ok m F,yN.ok m F,trivial⟩ trivial 0 0 zp zp
def xj.te:TEs:=[kL 2,kL 3,kL 4,kL 5]
def xj.tb:TEs:=[(2,.g zf),(3,.g zh),(4,.g zf),(5,.g zf)]
def xj.h:SH:=shN xj.te xj.tb [] [(0,7,7,0),(1,12,12,0),(2,4,4,0)]
def xj.X (m:Int) (F:Nat):FX TI (G m) Sg:={hn:={na:=2},lv:=[⟨195,wa.sp F⟩],N:=14,H:=xj.h}
theorem xj.ok (m:Int) (F:Nat):OKP m 161 xj.sg (xj.sp F) :=
 okp (xj.X m F) Go.Proofs.Tryz.func161 ⟨wa.ok m F,trivial⟩ trivial 0 0 zp zp
def wu.te:TEs:=[kL 2,kL 3,kL 4,(5,kI),kL 6,(7,kI),kL 8,(9,kI),kL 10,(11,kI)]
def wu.tb:TEs:=[(2,.g zf),(3,.g zf),(4,.g zf),(6,.g zh),(8,.g zh),(10,.g zh)]
def wu.h:SH:=shN wu.te wu.tb [] [(0,7,7,0),(1,55,15,0),(2,247,31,0),(3,1012,60,0),(4,12,4,0)]
def wu.X (m:Int) (F:Nat):FX TI (G m) Sg:={hn:={na:=2},lv:=[⟨72,yP.sp F⟩,⟨196,yN.sp F⟩],N:=52,H:=wu.h}
theorem wu.ok (m:Int) (F:Nat):OKP m 162 wu.sg (wu.sp F) :=
 okp (wu.X m F) Go.Proofs.Tryz.func162 ⟨yP.ok m F,yN.ok m F,trivial⟩ trivial 0 0 zp zp
def xO.te:TEs:=[kL 2,kL 3,kL 4,(5,kI)]
def xO.tb:TEs:=[(2,.g zh),(3,.g zh),(4,.g zh)]
def xO.h:SH:=shN xO.te xO.tb [] [(0,7,7,0),(1,12,4,0)]
def xO.X (m:Int) (F:Nat):FX TI (G m) Sg:={hn:={na:=2},lv:=[⟨113,zy.sp F⟩,⟨159,zM.sp F⟩,⟨112,z6.sp F⟩,⟨111,yH.sp F⟩],N:=15,H:=xO.h}
theorem xO.ok (m:Int) (F:Nat):OKP m 197 xO.sg (xO.sp F) :=
 okp (xO.X m F) Go.Proofs.Tryz.func197 ⟨zy.ok m F,zM.ok m F,z6.ok m F,yH.ok m F,trivial⟩ trivial 0 0 zp zp
def xx.te:TEs:=[kL 2,kL 3,kL 4,(5,kI),kL 6,(7,kI),kL 8,(9,kI),kL 10,(11,kI)]
def xx.tb:TEs:=[(2,.g zf),(3,.g zf),(4,.g zf),(6,.g zh),(8,.g zh),(10,.g zh)]
def xx.h:SH:=shN xx.te xx.tb [] [(0,7,7,0),(1,55,15,0),(2,247,31,0),(3,1012,60,0),(4,12,4,0)]
def xx.X (m:Int) (F:Nat):FX TI (G m) Sg:={hn:={na:=2},lv:=[⟨197,xO.sp F⟩,⟨196,yN.sp F⟩],N:=52,H:=xx.h}
theorem xx.ok (m:Int) (F:Nat):OKP m 163 xx.sg (xx.sp F) :=
 okp (xx.X m F) Go.Proofs.Tryz.func163 ⟨xO.ok m F,yN.ok m F,trivial⟩ trivial 0 0 zp zp
def yz.te:TEs:=[kL 1,kL 2]
def yz.tb:TEs:=[(1,.g zh),(2,.g zf)]
def yz.h:SH:=shN yz.te yz.tb [] [(0,3,3,0),(1,2,2,0)]
def yz.X (m:Int) (F:Nat):FX TI (G m) Sg:={hn:={na:=1},N:=5,H:=yz.h}
theorem yz.ok (m:Int) (F:Nat):OKP m 164 yz.sg (yz.sp F) :=
 okp (yz.X m F) Go.Proofs.Tryz.func164 trivial trivial 0 0 zp zp
def xF.te:TEs:=[(0,kI),(1,kI),(4,kB)]
def xF.h:SH:=shN xF.te [] [] [(0,3,0,0),(1,4,0,0)]
def xF.X (m:Int) (F:Nat):FX TI (G m) Sg:={hn:={na:=2},N:=19,H:=xF.h}
theorem xF.ok (m:Int) (F:Nat):OKP m 70 xF.sg (xF.sp F) :=
 okp (xF.X m F) Go.Proofs.Tryz.func70 trivial trivial 0 0 zp zp
def xf.te:TEs:=[(1,kI),(2,kI),kL 3,kL 6,(7,kI),kL 8,(9,kI),kL 10,(11,kI),kL 12,(16,kB),(41,kB),(51,kB)]
def xf.tb:TEs:=[(3,.g zf),(6,.g zh),(8,.g zh),(10,.g zh),(12,.g zh)]
def xf.h:SH:=shN xf.te xf.tb [] [(0,15,3,0),(1,1039,3,0),(2,24,2,0),(3,111,7,0),(4,492,15,0),(5,2220,15,0),(6,24,2,0),(7,712,26,0),(8,4744,26,0),(9,24,2,0),(10,24,2,0)]
def xf.X (m:Int) (F:Nat):FX TI (G m) Sg:={hn:={na:=3},lv:=[⟨70,xF.sp F⟩,⟨63,zU.sp F⟩,⟨64,zi.sp F⟩,⟨71,yL.sp F⟩,⟨72,yP.sp F⟩],N:=58,H:=xf.h}
theorem xf.ok (m:Int) (F:Nat):OKP m 36 xf.sg (xf.sp F) :=
 okp (xf.X m F) Go.Proofs.Tryz.func36 ⟨xF.ok m F,zU.ok m F,zi.ok m F,yL.ok m F,yP.ok m F,trivial⟩ trivial 0 0 zp zp
def wo.te:TEs:=[kL 1,(2,kI),(5,kB),(13,kB)]
def wo.tb:TEs:=[(1,.g zh)]
def wo.h:SH:=shN wo.te wo.tb [] [(0,1,1,0),(1,5,1,0),(2,2,0,0),(3,8,0,0),(4,2,0,0),(5,2,0,0)]
def wo.X (m:Int) (F:Nat):FX TI (G m) Sg:={hn:={na:=1},lv:=[⟨113,zy.sp F⟩,⟨160,xm.sp F⟩],N:=14,H:=wo.h}
theorem wo.ok (m:Int) (F:Nat):OKP m 198 wo.sg (wo.sp F) :=
 okp (wo.X m F) Go.Proofs.Tryz.func198 ⟨zy.ok m F,xm.ok m F,trivial⟩ trivial 0 0 zp zp
def yh.te:TEs:=[(1,kI),(2,kI),kL 3,(6,kB),kL 7]
def yh.tb:TEs:=[(3,.g zf),(7,.g zh)]
def yh.h:SH:=shN yh.te yh.tb [] [(0,7,1,0),(1,16,2,0),(2,8,0,0)]
def yh.X (m:Int) (F:Nat):FX TI (G m) Sg:={hn:={na:=3},lv:=[⟨36,xf.sp F⟩,⟨198,wo.sp F⟩],N:=19,H:=yh.h}
theorem yh.ok (m:Int) (F:Nat):OKP m 165 yh.sg (yh.sp F) :=
 okp (yh.X m F) Go.Proofs.Tryz.func165 ⟨xf.ok m F,wo.ok m F,trivial⟩ trivial 0 0 zp zp
def yD.te:TEs:=[(1,kI),kL 2,kL 4,kL 5]
def yD.tb:TEs:=[(2,.g zf),(4,.g zf),(5,.g zf)]
def yD.h:SH:=shN yD.te yD.tb [] [(0,7,3,0),(1,12,6,0),(2,4,2,0)]
def yD.X (m:Int) (F:Nat):FX TI (G m) Sg:={hn:={na:=2},lv:=[⟨63,zU.sp F⟩,⟨164,yz.sp F⟩,⟨163,xx.sp F⟩],N:=16,H:=yD.h}
theorem yD.ok (m:Int) (F:Nat):OKP m 166 yD.sg (yD.sp F) :=
 okp (yD.X m F) Go.Proofs.Tryz.func166 ⟨zU.ok m F,yz.ok m F,xx.ok m F,trivial⟩ trivial 0 0 zp zp
def ze.te:TEs:=[(2,kI),kL 3,kL 4,kL 6,kL 7,(8,kI),(9,.c (.sl yp)),kL 10,kL 11,(12,kI),kL 13,kL 15,(36,kB),(40,kB),(57,kB),(71,kB),(83,kB),(105,kB)]
def ze.tb:TEs:=[(3,.g za),(4,.g zf),(6,.g (.pair zf (.sl zf))),(7,.g (.pair zf (.sl zf))),(7,.go (.pair zf (.sl zf)) [(6,8006)]),(10,.g zh),(11,.g zf),(13,.g zh),(15,.g zh)]
def ze.tp:List qF:=[⟨8006,.cell 7 6,zf⟩]
def ze.h:SH:=shN ze.te ze.tb ze.tp [(0,15,7,0),(1,31,23,1),(2,63,23,1),(3,127,23,1),(4,4223,23,1),(5,127,23,1),(6,8318,23,1),(7,126,23,1),(8,16510,23,1),(9,126,15,0),(10,32894,15,0),(11,8,4,0),(12,254,47,0),(13,65790,47,0),(14,24,12,0),(15,8,4,0),(16,378,77,0),(17,890,77,0),(18,131962,77,0),(19,890,77,0),(20,1914,205,0),(21,2938,333,0),(22,890,77,0),(23,24,12,0),(24,8,4,0)]
def ze.hl:SH:=shN ze.te ze.tb ze.tp [(4,127,23,1),(18,890,77,0)]
def ze.hj:Nat->Option Shape:=shO ze.te ze.tb ze.tp [(8,126,23,1),(10,126,15,0)]
def ze.L4 (F:Nat) (R:Type) (K:KK R) (n:Nat) (x:(Int×Unit×Unit×Unit×Unit×Int×(List yp.T)×Unit)×(za.T×zf.T×(zf.T×List zf.T)×(zf.T×List zf.T)×Unit)×((List zf.T)×Unit)):Option R :=
 ze.l4 F (fun q k t t36 m x r6 g g_6=>K (.exit 0) (xl (ze.h 4) ((q,(),(),(),(),k,t,t36,()),(m,x,r6,g,()),(g_6,())))) n x.1.1 x.1.2.2.2.2.2.1 x.1.2.2.2.2.2.2.1 x.2.1.1 x.2.1.2.1 x.2.1.2.2.1 x.2.1.2.2.2.1 x.2.2.1
def ze.L18 (F:Nat) (R:Type) (K:KK R) (n:Nat) (x:(Unit×Unit×Unit×Int×(List yp.T)×Unit×Int×Unit)×(za.T×(zf.T×List zf.T)×(zf.T×List zf.T)×zf.T×Unit)×(Unit)):Option R :=
 ze.l18 F (fun k t i t105 m r6 g l=>K (.exit 2) (xl (ze.h 18) (((),(),(),k,t,(),i,t105,()),(m,r6,g,l,()),()))) n x.1.2.2.2.1 x.1.2.2.2.2.1 x.1.2.2.2.2.2.2.1 x.2.1.1 x.2.1.2.1 x.2.1.2.2.1 x.2.1.2.2.2.1
def ze.J10 (F:Nat) (x:(Unit×Unit×Unit×Unit×Int×(List yp.T)×Unit)×(za.T×zf.T×(zf.T×List zf.T)×(zf.T×List zf.T)×Unit)×(Unit)) (R:Type) (K:KK R):Option R :=
 ze.j10 F (fun r6=>K .ret (xl (ze.h 11) (((),()),(r6,()),()))) (fun r6=>K .ret (xl (ze.h 15) (((),()),(r6,()),()))) (fun r6=>K .ret (xl (ze.h 24) (((),()),(r6,()),()))) x.1.2.2.2.2.1 x.1.2.2.2.2.2.1 x.2.1.1 x.2.1.2.1 x.2.1.2.2.1 x.2.1.2.2.2.1
def ze.J8 (F:Nat) (x:(Unit×Unit×Unit×Unit×Int×(List yp.T)×Unit)×(za.T×zf.T×(zf.T×List zf.T)×(zf.T×List zf.T)×Unit)×((List zf.T)×Unit)) (R:Type) (K:KK R):Option R :=
 ze.j8 F (fun r6=>K .ret (xl (ze.h 11) (((),()),(r6,()),()))) (fun r6=>K .ret (xl (ze.h 15) (((),()),(r6,()),()))) (fun r6=>K .ret (xl (ze.h 24) (((),()),(r6,()),()))) x.1.2.2.2.2.1 x.1.2.2.2.2.2.1 x.2.1.1 x.2.1.2.1 x.2.1.2.2.1 x.2.1.2.2.2.1 x.2.2.1
def ze.X (m:Int) (F:Nat):FX TI (G m) Sg:={hn:={na:=3,fz:=fun r=>lk [] r [(9,[68])],fzJ:=fun r=>lk [] r [(10,[8006])]},lv:=[⟨166,yD.sp F⟩,⟨165,yh.sp F⟩,⟨63,zU.sp F⟩,⟨161,xj.sp F⟩,⟨64,zi.sp F⟩,⟨72,yP.sp F⟩],N:=146,H:=ze.h,HL:=ze.hl,HJ:=ze.hj,L:=mkL ze.hl [⟨4,fun x R K=>ze.L4 F R K F x⟩,⟨18,fun x R K=>ze.L18 F R K F x⟩],J:=mkJ ze.hj [⟨10,ze.J10 F⟩,⟨8,ze.J8 F⟩]}
theorem ze.ok (m:Int) (F:Nat):OKP m 167 ze.sg (ze.sp F) :=
 okp (ze.X m F) Go.Proofs.Tryz.func167 ⟨yD.ok m F,yh.ok m F,zU.ok m F,xj.ok m F,zi.ok m F,yP.ok m F,trivial⟩ trivial 2 2 (yB (FX.loopk 18 F (ze.L18 F)) (yB (FX.loopk 4 F (ze.L4 F)) zp)) (yB (FX.cutk 10) (yB (FX.cutk 8) zp))
def yS.te:TEs:=[(0,.c (.int .u64)),(1,.c (.int .u64)),(2,.c (.int .u64)),(6,.c (.int .u64)),(7,.c (.int .u64))]
def yS.h:SH:=shN yS.te [] [] [(0,7,0,0),(1,24,0,0)]
def yS.X (m:Int) (F:Nat):FX TI (G m) Sg:={hn:={na:=3},N:=17,H:=yS.h}
theorem yS.ok (m:Int) (F:Nat):OKP m 214 yS.sg (yS.sp F) :=
 okp (yS.X m F) Go.Proofs.Tryz.func214 trivial trivial 0 0 zp zp
def yT.te:TEs:=[(0,.c (.int .u64)),(1,.c (.int .u64)),(2,.c (.int .u64)),(3,.c (.int .u64)),(8,kB)]
def yT.h:SH:=shN yT.te [] [] [(0,15,0,0),(1,16,0,0)]
def yT.X (m:Int) (F:Nat):FX TI (G m) Sg:={hn:={na:=4},N:=22,H:=yT.h}
theorem yT.ok (m:Int) (F:Nat):OKP m 215 yT.sg (yT.sp F) :=
 okp (yT.X m F) Go.Proofs.Tryz.func215 trivial trivial 0 0 zp zp
def xG.te:TEs:=[(0,.c (.int .u64)),(1,.c (.int .u64)),(2,.c (.int .u64)),(3,.c (.int .u64)),(8,.c (.int .u64)),(9,.c (.int .u64)),(12,kB)]
def xG.h:SH:=shN xG.te [] [] [(0,15,0,0),(1,79,0,0),(2,48,0,0),(3,48,0,0)]
def xG.X (m:Int) (F:Nat):FX TI (G m) Sg:={hn:={na:=4},N:=26,H:=xG.h}
theorem xG.ok (m:Int) (F:Nat):OKP m 216 xG.sg (xG.sp F) :=
 okp (xG.X m F) Go.Proofs.Tryz.func216 trivial trivial 0 0 zp zp
def zG.te:TEs:=[kL 2,kL 3,kL 4,kL 5,(6,kI),(7,.c (.int .u64)),(8,.c (.int .u64)),(9,.c (.int .u64)),(10,.c (.int .u64)),(11,.c (.int .u64)),(12,.c (.int .u64)),(13,.c (.int .u64)),(14,.c (.int .u64)),(15,kI),(16,.c (.int .u64)),kL 17,(18,kI),kL 19,(28,kB),(42,kB),(52,kB),(70,kB),(100,kB)]
def zG.tb:TEs:=[(2,.g zh),(3,.g zh),(4,.g zh),(5,.g zh),(17,.g zh),(19,.g zh)]
def zG.h:SH:=shN zG.te zG.tb [] [(0,15,15,0),(1,262159,15,0),(2,28,12,0),(3,111,15,0),(4,495,15,0),(5,1007,15,0),(6,2031,15,0),(7,4079,15,0),(8,8175,15,0),(9,16367,15,0),(10,540655,15,0),(11,16367,15,0),(12,32751,15,0),(13,1081327,15,0),(14,32751,15,0),(15,16367,15,0),(16,32751,15,0),(17,2129903,15,0),(18,16367,15,0),(19,32751,15,0),(20,16367,15,0),(21,104461,29,0),(22,4298765,29,0),(23,28,12,0),(24,163852,60,0),(25,28,12,0)]
def zG.hl:SH:=shN zG.te zG.tb [] [(10,16367,15,0)]
def zG.hj:Nat->Option Shape:=shO zG.te zG.tb [] [(3,15,15,0)]
def zG.L10 (F:Nat) (R:Type) (K:KK R) (n:Nat) (x:(Unit×Unit×Unit×Unit×Int×Int×Int×Int×Int×Int×Int×Int×Int×Unit)×(zh.T×zh.T×zh.T×zh.T×Unit)×(Unit)):Option R :=
 zG.l10 F (fun ah al bh bl qh ql rh rl i t42 a b r4 r5=>K (.exit 0) (xl (zG.h 10) (((),(),(),(),ah,al,bh,bl,qh,ql,rh,rl,i,t42,()),(a,b,r4,r5,()),()))) n x.1.2.2.2.2.1 x.1.2.2.2.2.2.1 x.1.2.2.2.2.2.2.1 x.1.2.2.2.2.2.2.2.1 x.1.2.2.2.2.2.2.2.2.1 x.1.2.2.2.2.2.2.2.2.2.1 x.1.2.2.2.2.2.2.2.2.2.2.1 x.1.2.2.2.2.2.2.2.2.2.2.2.1 x.1.2.2.2.2.2.2.2.2.2.2.2.2.1 x.2.1.1 x.2.1.2.1 x.2.1.2.2.1 x.2.1.2.2.2.1
def zG.J3 (F:Nat) (x:(Unit×Unit×Unit×Unit×Unit)×(zh.T×zh.T×zh.T×zh.T×Unit)×(Unit)) (R:Type) (K:KK R):Option R :=
 zG.j3 F (fun r6 r4 r5=>K .ret (xl (zG.h 23) (((),(),r6,()),(r4,r5,()),()))) (fun r6 r4 r5=>K .ret (xl (zG.h 25) (((),(),r6,()),(r4,r5,()),()))) x.2.1.1 x.2.1.2.1 x.2.1.2.2.1 x.2.1.2.2.2.1
def zG.X (m:Int) (F:Nat):FX TI (G m) Sg:={hn:={na:=2},lv:=[⟨104,zW.sp F⟩,⟨214,yS.sp F⟩,⟨215,yT.sp F⟩,⟨216,xG.sp F⟩,⟨105,yd.sp F⟩],N:=115,H:=zG.h,HL:=zG.hl,HJ:=zG.hj,L:=mkL zG.hl [⟨10,fun x R K=>zG.L10 F R K F x⟩],J:=mkJ zG.hj [⟨3,zG.J3 F⟩]}
theorem zG.ok (m:Int) (F:Nat):OKP m 208 zG.sg (zG.sp F) :=
 okp (zG.X m F) Go.Proofs.Tryz.func208 ⟨zW.ok m F,yS.ok m F,yT.ok m F,xG.ok m F,yd.ok m F,trivial⟩ trivial 1 1 (yB (FX.loopk 10 F (zG.L10 F)) zp) (yB (FX.cutk 3) zp)
def xC.te:TEs:=[(3,kI),kL 4,kL 5,kL 6,(8,kB),(9,.c (.int .u64)),(10,.c (.int .u64)),(11,.c (.int .u64)),(12,.c (.int .u64)),(13,.c (.int .u64)),(14,.c (.int .u64)),(40,kB)]
def xC.tb:TEs:=[(4,.g zh),(5,.g zh),(6,.g zh)]
def xC.h:SH:=shN xC.te xC.tb [] [(0,15,7,0),(1,107,5,0),(2,483,1,0),(3,1635,1,0),(4,3683,1,0),(5,16,0,0),(6,16,0,0)]
def xC.X (m:Int) (F:Nat):FX TI (G m) Sg:={hn:={na:=4},lv:=[⟨104,zW.sp F⟩,⟨216,xG.sp F⟩,⟨215,yT.sp F⟩],N:=54,H:=xC.h}
theorem xC.ok (m:Int) (F:Nat):OKP m 209 xC.sg (xC.sp F) :=
 okp (xC.X m F) Go.Proofs.Tryz.func209 ⟨zW.ok m F,xG.ok m F,yT.ok m F,trivial⟩ trivial 0 0 zp zp
def yl.te:TEs:=[(2,kI),kL 3,kL 4,kL 6,(7,kI),kL 8,kL 9,(10,kI),(11,kB),(12,kB),(18,kB),(28,kB),(38,kB),(47,kI),(48,kB),(51,kB),(55,kB),(64,kB),(66,kB)]
def yl.tb:TEs:=[(3,.g zh),(4,.g zh),(6,.g zh),(8,.g zh),(9,.g zh)]
def yl.h:SH:=shN yl.te yl.tb [] [(0,15,7,0),(1,1039,7,0),(2,24,4,0),(3,239,31,0),(4,2287,31,0),(5,24,4,0),(6,4207,31,0),(7,24,4,0),(8,365,30,0),(9,877,30,0),(10,9069,30,0),(11,25453,30,0),(12,808,12,0),(13,41837,30,0),(14,808,12,0),(15,74605,30,0),(16,66413,30,0),(17,808,12,0),(18,131368,12,0),(19,24,4,0),(20,262184,12,0),(21,24,4,0),(22,24,4,0)]
def yl.hj:Nat->Option Shape:=shO yl.te yl.tb [] [(8,111,31,0),(18,808,12,0)]
def yl.J18 (F:Nat) (x:(Unit×Unit×Bool×Bool×Unit)×(zh.T×zh.T×Unit)×(Unit)) (R:Type) (K:KK R):Option R :=
 yl.j18 F (fun r7 r6=>K .ret (xl (yl.h 19) (((),r7,()),(r6,()),()))) (fun r7 r6=>K .ret (xl (yl.h 21) (((),r7,()),(r6,()),()))) (fun r7 r6=>K .ret (xl (yl.h 22) (((),r7,()),(r6,()),()))) x.1.2.2.1 x.1.2.2.2.1 x.2.1.1 x.2.1.2.1
def yl.J8 (F:Nat) (x:(Int×Unit×Unit×Unit×Unit×Unit×Unit)×(zh.T×zh.T×zh.T×zh.T×zh.T×Unit)×(Unit)) (R:Type) (K:KK R):Option R :=
 yl.j8 F (fun r7 r6=>K .ret (xl (yl.h 19) (((),r7,()),(r6,()),()))) (fun r7 r6=>K .ret (xl (yl.h 21) (((),r7,()),(r6,()),()))) (fun r7 r6=>K .ret (xl (yl.h 22) (((),r7,()),(r6,()),()))) x.1.1 x.2.1.1 x.2.1.2.1 x.2.1.2.2.1 x.2.1.2.2.2.1 x.2.1.2.2.2.2.1
def yl.X (m:Int) (F:Nat):FX TI (G m) Sg:={hn:={na:=3},lv:=[⟨208,zG.sp F⟩,⟨63,zU.sp F⟩,⟨197,xO.sp F⟩,⟨72,yP.sp F⟩,⟨209,xC.sp F⟩],N:=77,H:=yl.h,HJ:=yl.hj,J:=mkJ yl.hj [⟨18,yl.J18 F⟩,⟨8,yl.J8 F⟩]}
theorem yl.ok (m:Int) (F:Nat):OKP m 199 yl.sg (yl.sp F) :=
 okp (yl.X m F) Go.Proofs.Tryz.func199 ⟨zG.ok m F,zU.ok m F,xO.ok m F,yP.ok m F,xC.ok m F,trivial⟩ trivial 0 2 zp (yB (FX.cutk 18) (yB (FX.cutk 8) zp))
def zT.te:TEs:=[kL 2,kL 3,kL 4]
def zT.tb:TEs:=[(2,.g za),(3,.g zh),(4,.g zh)]
def zT.h:SH:=shN zT.te zT.tb [] [(0,7,7,0),(1,6,6,0),(2,6,6,0),(3,4,4,0)]
def zT.X (m:Int) (F:Nat):FX TI (G m) Sg:={hn:={na:=2},lv:=[⟨63,zU.sp F⟩,⟨64,zi.sp F⟩,⟨199,yl.sp F⟩],N:=22,H:=zT.h}
theorem zT.ok (m:Int) (F:Nat):OKP m 168 zT.sg (zT.sp F) :=
 okp (zT.X m F) Go.Proofs.Tryz.func168 ⟨zU.ok m F,zi.ok m F,yl.ok m F,trivial⟩ trivial 0 0 zp zp
def zR.te:TEs:=[(1,.b zf),(2,kI),kL 3,kL 6,kL 7,(9,kI),(10,kB),kL 11,(30,kI),(31,kB),(35,kB),(39,kB),(43,kB),(47,kB),(51,kB),(75,kB)]
def zR.tb:TEs:=[(3,.g za),(6,.g (.pair zf (.sl zf))),(7,.g zh),(11,.g (.pair zf (.sl zf)))]
def zR.h:SH:=shN zR.te zR.tb [] [(0,15,3,0),(1,29,7,0),(2,45,3,0),(3,109,3,0),(4,365,3,0),(5,877,3,0),(6,77,3,0),(7,1389,3,0),(8,77,3,0),(9,2413,3,0),(10,77,3,0),(11,4461,3,0),(12,77,3,0),(13,8557,3,0),(14,77,3,0),(15,16493,3,0),(16,77,3,0),(17,201,10,0),(18,32905,10,0),(19,136,10,0),(20,8,2,0)]
def zR.hj:Nat->Option Shape:=shO zR.te zR.tb [] [(17,77,3,0)]
def zR.J17 (F:Nat) (x:((List zf.T)×Unit×Unit×Bool×Unit)×(za.T×(zf.T×List zf.T)×Unit)×(Unit)) (R:Type) (K:KK R):Option R :=
 zR.j17 F (fun r6=>K .ret (xl (zR.h 20) (((),()),(r6,()),()))) x.1.1 x.1.2.2.2.1 x.2.1.1 x.2.1.2.1
def zR.X (m:Int) (F:Nat):FX TI (G m) Sg:={hn:={na:=3},lv:=[⟨36,xf.sp F⟩,⟨63,zU.sp F⟩,⟨101,xu.sp F⟩,⟨166,yD.sp F⟩],N:=81,H:=zR.h,HJ:=zR.hj,J:=mkJ zR.hj [⟨17,zR.J17 F⟩]}
theorem zR.ok (m:Int) (F:Nat):OKP m 169 zR.sg (zR.sp F) :=
 okp (zR.X m F) Go.Proofs.Tryz.func169 ⟨xf.ok m F,zU.ok m F,xu.ok m F,yD.ok m F,trivial⟩ trivial 0 1 zp (yB (FX.cutk 17) zp)
def xt.te:TEs:=[(1,.b zf),(2,kI),kL 3,kL 6,kL 7,kL 9,kL 11,kL 13,(14,kB),kL 15,(18,kI),(19,kB),(27,kB),(41,kB),(55,kB),(65,kB),(84,kB),(100,kB),(108,kB),(121,kB),(145,kB),(151,kB),(156,kB),(164,kB),(173,kB)]
def xt.tb:TEs:=[(3,.g za),(6,.g (.pair zf (.sl zf))),(7,.g zf),(9,.g zf),(11,.g zf),(13,.g zf),(15,.g (.pair zf (.sl zf)))]
def xt.h:SH:=shN xt.te xt.tb [] [(0,15,3,0),(1,1039,3,0),(2,3087,3,0),(3,8,2,0),(4,5135,3,0),(5,24,6,0),(6,8,2,0),(7,9231,3,0),(8,40,10,0),(9,8,2,0),(10,17423,3,0),(11,32777,2,0),(12,8,2,0),(13,8,2,0),(14,66575,3,0),(15,66575,3,0),(16,79,19,0),(17,131151,19,0),(18,79,19,0),(19,262217,18,0),(20,8,2,0),(21,8,2,0),(22,525327,3,0),(23,525327,3,0),(24,143,35,0),(25,397,35,0),(26,909,99,0),(27,1049485,99,0),(28,781,67,0),(29,2097933,67,0),(30,780,67,0),(31,4194828,67,0),(32,520,66,0),(33,8,2,0),(34,8389647,3,0),(35,8389647,3,0),(36,8,2,0),(37,16777231,3,0),(38,8,2,0),(39,8,2,0)]
def xt.X (m:Int) (F:Nat):FX TI (G m) Sg:={hn:={na:=3},lv:=[⟨63,zU.sp F⟩,⟨161,xj.sp F⟩,⟨162,wu.sp F⟩,⟨163,xx.sp F⟩,⟨164,yz.sp F⟩,⟨165,yh.sp F⟩,⟨166,yD.sp F⟩,⟨167,ze.sp F⟩,⟨168,zT.sp F⟩,⟨169,zR.sp F⟩],N:=199,H:=xt.h}
theorem xt.ok (m:Int) (F:Nat):OKP m 106 xt.sg (xt.sp F) :=
 okp (xt.X m F) Go.Proofs.Tryz.func106 ⟨zU.ok m F,xj.ok m F,wu.ok m F,xx.ok m F,yz.ok m F,yh.ok m F,yD.ok m F,ze.ok m F,zT.ok m F,zR.ok m F,trivial⟩ trivial 0 0 zp zp
def wE.te:TEs:=[kL 1,kL 2,(3,kI)]
def wE.tb:TEs:=[(1,.g zh),(2,.g zh)]
def wE.h:SH:=shN wE.te wE.tb [] [(0,3,3,0),(1,6,2,0)]
def wE.X (m:Int) (F:Nat):FX TI (G m) Sg:={hn:={na:=1},lv:=[⟨113,zy.sp F⟩,⟨159,zM.sp F⟩,⟨111,yH.sp F⟩],N:=10,H:=wE.h}
theorem wE.ok (m:Int) (F:Nat):OKP m 210 wE.sg (wE.sp F) :=
 okp (wE.X m F) Go.Proofs.Tryz.func210 ⟨zy.ok m F,zM.ok m F,yH.ok m F,trivial⟩ trivial 0 0 zp zp
def wk.te:TEs:=[kL 1,kL 2,(3,kI),(6,kB)]
def wk.tb:TEs:=[(1,.g zh),(2,.g zh)]
def wk.h:SH:=shN wk.te wk.tb [] [(0,3,3,0),(1,11,3,0),(2,6,2,0),(3,6,2,0)]
def wk.X (m:Int) (F:Nat):FX TI (G m) Sg:={hn:={na:=1},lv:=[⟨210,wE.sp F⟩],N:=12,H:=wk.h}
theorem wk.ok (m:Int) (F:Nat):OKP m 200 wk.sg (wk.sp F) :=
 okp (wk.X m F) Go.Proofs.Tryz.func200 ⟨wE.ok m F,trivial⟩ trivial 0 0 zp zp
def wn.te:TEs:=[(1,kI),kL 2,kL 4,(5,kI),kL 6,(7,kI),kL 8,(9,kI),kL 10,(11,kI),(14,kB),(43,kB)]
def wn.tb:TEs:=[(2,.g zf),(4,.g zh),(6,.g zh),(8,.g zh),(10,.g zh)]
def wn.h:SH:=shN wn.te wn.tb [] [(0,7,3,0),(1,1031,3,0),(2,12,2,0),(3,55,7,0),(4,247,15,0),(5,1013,30,0),(6,2389,30,0),(7,12,2,0),(8,12,2,0)]
def wn.X (m:Int) (F:Nat):FX TI (G m) Sg:={hn:={na:=2},lv:=[⟨70,xF.sp F⟩,⟨200,wk.sp F⟩,⟨36,xf.sp F⟩],N:=53,H:=wn.h}
theorem wn.ok (m:Int) (F:Nat):OKP m 170 wn.sg (wn.sp F) :=
 okp (wn.X m F) Go.Proofs.Tryz.func170 ⟨xF.ok m F,wk.ok m F,xf.ok m F,trivial⟩ trivial 0 0 zp zp
def xU.te:TEs:=[(0,kI),(1,kI),(4,kI),(5,kI),(6,kI),(10,kB)]
def xU.h:SH:=shN xU.te [] [] [(0,3,0,0),(1,19,0,0),(2,51,0,0),(3,19,0,0),(4,12,0,0)]
def xU.X (m:Int) (F:Nat):FX TI (G m) Sg:={hn:={na:=2},N:=20,H:=xU.h}
theorem xU.ok (m:Int) (F:Nat):OKP m 171 xU.sg (xU.sp F) :=
 okp (xU.X m F) Go.Proofs.Tryz.func171 trivial trivial 0 0 zp zp
def ye.te:TEs:=[(1,kI),(2,kI),(3,kI),(4,kB),kL 5,(10,kI),(11,kI),(14,kB),(26,kB)]
def ye.tb:TEs:=[(5,.g zf)]
def ye.h:SH:=shN ye.te ye.tb [] [(0,31,1,0),(1,159,1,0),(2,95,1,0),(3,351,1,0),(4,31,1,0),(5,31,1,0),(6,32,0,0)]
def ye.hl:SH:=shN ye.te ye.tb [] [(1,31,1,0)]
def ye.L1 (F:Nat) (R:Type) (K:KK R) (n:Nat) (x:(Int×Int×Int×Bool×Unit×Unit)×(zf.T×Unit)×(Unit)):Option R :=
 ye.l1 F (fun size lo hi was t14 l=>K (.exit 0) (xl (ye.h 1) ((size,lo,hi,was,(),t14,()),(l,()),()))) n x.1.1 x.1.2.1 x.1.2.2.1 x.1.2.2.2.1 x.2.1.1
def ye.X (m:Int) (F:Nat):FX TI (G m) Sg:={hn:={na:=5},lv:=[⟨165,yh.sp F⟩],N:=31,H:=ye.h,HL:=ye.hl,L:=mkL ye.hl [⟨1,fun x R K=>ye.L1 F R K F x⟩]}
theorem ye.ok (m:Int) (F:Nat):OKP m 172 ye.sg (ye.sp F) :=
 okp (ye.X m F) Go.Proofs.Tryz.func172 ⟨yh.ok m F,trivial⟩ trivial 1 0 (yB (FX.loopk 1 F (ye.L1 F)) zp) zp
def xz.te:TEs:=[(1,kI),(2,kI),(3,kB),kL 4,(8,kB),(9,kI),(10,kI)]
def xz.tb:TEs:=[(4,.g zf)]
def xz.h:SH:=shN xz.te xz.tb [] [(0,15,1,0),(1,109,1,0),(2,16,0,0)]
def xz.X (m:Int) (F:Nat):FX TI (G m) Sg:={hn:={na:=4},lv:=[⟨171,xU.sp F⟩,⟨165,yh.sp F⟩],N:=31,H:=xz.h}
theorem xz.ok (m:Int) (F:Nat):OKP m 173 xz.sg (xz.sp F) :=
 okp (xz.X m F) Go.Proofs.Tryz.func173 ⟨xU.ok m F,yh.ok m F,trivial⟩ trivial 0 0 zp zp
def zC.te:TEs:=[(1,kI),(2,kI),kL 3,(6,kI),(7,kI),kL 8,(9,kI),(10,kB),(11,kI),(12,kI),(14,kI),(15,kI),(16,kI),(17,kI),(18,kI),(19,kI),(23,kB),(37,kB),(48,kB),(65,kB),(85,kB),(91,kB),(97,kB),(108,kB),(123,kB),(135,kB)]
def zC.tb:TEs:=[(3,.g zf),(8,.g zh)]
def zC.h:SH:=shN zC.te zC.tb [] [(0,7,1,0),(1,65543,1,0),(2,24,0,0),(3,103,3,0),(4,131079,1,0),(5,24,0,0),(6,135,1,0),(7,391,1,0),(8,903,1,0),(9,263047,1,0),(10,1927,1,0),(11,526215,1,0),(12,24,0,0),(13,2437,1,0),(14,1051013,1,0),(15,2099589,1,0),(16,4485,1,0),(17,6533,1,0),(18,4200837,1,0),(19,14725,1,0),(20,8403333,1,0),(21,6533,1,0),(22,6533,1,0),(23,2437,1,0),(24,16779397,1,0),(25,24,0,0),(26,49285,1,0),(27,33603717,1,0),(28,24,0,0),(29,24,0,0)]
def zC.hl:SH:=shN zC.te zC.tb [] [(18,6533,1,0)]
def zC.hj:Nat->Option Shape:=shO zC.te zC.tb [] [(13,901,1,0),(24,2437,1,0)]
def zC.L18 (F:Nat) (R:Type) (K:KK R) (n:Nat) (x:(Int×Unit×Bool×Int×Int×Int×Unit)×(zf.T×Unit)×(Unit)):Option R :=
 zC.l18 F (fun size was last j lo t97 l=>K (.exit 0) (xl (zC.h 18) ((size,(),was,last,j,lo,t97,()),(l,()),()))) n x.1.1 x.1.2.2.1 x.1.2.2.2.1 x.1.2.2.2.2.1 x.1.2.2.2.2.2.1 x.2.1.1
def zC.J24 (F:Nat) (x:(Int×Unit×Bool×Int×Int×Unit)×(zf.T×Unit)×(Unit)) (R:Type) (K:KK R):Option R :=
 zC.j24 F (fun r6 r7=>K .ret (xl (zC.h 25) ((r6,r7,()),(),()))) (fun r6 r7=>K .ret (xl (zC.h 28) ((r6,r7,()),(),()))) (fun r6 r7=>K .ret (xl (zC.h 29) ((r6,r7,()),(),()))) x.1.1 x.1.2.2.1 x.1.2.2.2.1 x.1.2.2.2.2.1 x.2.1.1
def zC.J13 (F:Nat) (x:(Int×Unit×Bool×Int×Int×Unit)×(zf.T×Unit)×(Unit)) (R:Type) (K:KK R):Option R :=
 zC.j13 F (fun r6 r7=>K .ret (xl (zC.h 25) ((r6,r7,()),(),()))) (fun r6 r7=>K .ret (xl (zC.h 28) ((r6,r7,()),(),()))) (fun r6 r7=>K .ret (xl (zC.h 29) ((r6,r7,()),(),()))) x.1.1 x.1.2.2.1 x.1.2.2.2.1 x.1.2.2.2.2.1 x.2.1.1
def zC.X (m:Int) (F:Nat):FX TI (G m) Sg:={hn:={na:=3},lv:=[⟨70,xF.sp F⟩,⟨170,wn.sp F⟩,⟨101,xu.sp F⟩,⟨165,yh.sp F⟩,⟨71,yL.sp F⟩,⟨171,xU.sp F⟩,⟨172,ye.sp F⟩,⟨173,xz.sp F⟩],N:=143,H:=zC.h,HL:=zC.hl,HJ:=zC.hj,L:=mkL zC.hl [⟨18,fun x R K=>zC.L18 F R K F x⟩],J:=mkJ zC.hj [⟨24,zC.J24 F⟩,⟨13,zC.J13 F⟩]}
theorem zC.ok (m:Int) (F:Nat):OKP m 107 zC.sg (zC.sp F) :=
 okp (zC.X m F) Go.Proofs.Tryz.func107 ⟨xF.ok m F,wn.ok m F,xu.ok m F,yh.ok m F,yL.ok m F,xU.ok m F,ye.ok m F,xz.ok m F,trivial⟩ trivial 1 2 (yB (FX.loopk 18 F (zC.L18 F)) zp) (yB (FX.cutk 24) (yB (FX.cutk 13) zp))
def zd.te:TEs:=[(1,.b (.sl zo)),kL 2,(4,.c (.sl zo)),(5,kB),(6,.c (.sl zo)),(6,.ow 6),(7,kI),(8,kI),(9,kI),(10,.ow 10),(11,kI),(12,kI),kL 13,(14,kI),(15,kI),(18,kB),(22,kB),(62,kB),(80,kB),(97,kB),(115,kB),(129,kB)]
def zd.tb:TEs:=[(2,.g za),(13,.g (.pair zf (.sl zf)))]
def zd.tp:List qF:=[⟨6,.env 6,zo⟩,⟨10,.env 10,zf⟩]
def zd.h:SH:=shN zd.te zd.tb zd.tp [(0,3,1,0),(1,35,1,1),(2,99,1,1),(3,227,1,1),(4,32995,1,1),(5,483,1,1),(6,995,1,3),(7,2019,1,3),(8,67555,1,3),(9,2019,1,3),(10,4067,1,3),(11,4067,1,3),(12,135139,1,3),(13,2019,1,3),(14,4579,3,1),(15,12771,3,1),(16,274915,3,1),(17,12771,3,1),(18,29155,3,1),(19,553443,3,1),(20,12771,3,1),(21,4579,3,1),(22,1053155,3,1),(23,419,1,1),(24,2097571,1,1),(25,12,0,0),(26,227,1,1),(27,12,0,0)]
def zd.hl:SH:=shN zd.te zd.tb zd.tp [(4,227,1,1),(8,2019,1,3),(16,12771,3,1)]
def zd.hj:Nat->Option Shape:=shO zd.te zd.tb zd.tp [(27,16,0,0)]
def zd.L8 (F:Nat) (R:Type) (K:KK R) (n:Nat) (x:((List (List zo.T))×Unit×Unit×Int×Int×Int×Unit×Int×Unit)×(za.T×Unit)×((List zo.T)×(List zf.T)×Unit)):Option R :=
 zd.l8 F (fun kids q runs next i t22 m out k=>K (.exit 2) (xl (zd.h 8) ((kids,(),(),q,runs,next,(),i,t22,()),(m,()),(out,k,())))) n x.1.1 x.1.2.2.2.1 x.1.2.2.2.2.1 x.1.2.2.2.2.2.1 x.1.2.2.2.2.2.2.2.1 x.2.1.1 x.2.2.1 x.2.2.2.1
def zd.L16 (F:Nat) (R:Type) (K:KK R) (n:Nat) (x:((List (List zo.T))×Unit×Unit×Int×Int×Int×Unit×Int×Unit)×(za.T×(zf.T×List zf.T)×Unit)×((List zo.T)×Unit)):Option R :=
 zd.l16 F (fun kids q runs next i t80 m g out=>K (.exit 4) (xl (zd.h 16) ((kids,(),(),q,runs,next,(),i,t80,()),(m,g,()),(out,())))) n x.1.1 x.1.2.2.2.1 x.1.2.2.2.2.1 x.1.2.2.2.2.2.1 x.1.2.2.2.2.2.2.2.1 x.2.1.1 x.2.1.2.1 x.2.2.1
def zd.L4 (F:Nat) (R:Type) (K:KK R) (n:Nat) (x:((List (List zo.T))×Unit×Unit×Int×Int×Unit)×(za.T×Unit)×((List zo.T)×Unit)):Option R :=
 zd.l4 F (fun r4 r5=>K .ret (xl (zd.h 25) ((r4,r5,()),(),()))) (fun kids q runs t18 m out=>K (.exit 0) (xl (zd.h 4) ((kids,(),(),q,runs,t18,()),(m,()),(out,())))) n x.1.1 x.1.2.2.2.1 x.1.2.2.2.2.1 x.2.1.1 x.2.2.1
def zd.J27 (F:Nat) (x:((List zo.T)×Unit)×(Unit)×(Unit)) (R:Type) (K:KK R):Option R :=
 zd.j27 F (fun r4 r5=>K .ret (xl (zd.h 27) ((r4,r5,()),(),()))) x.1.1
def zd.X (m:Int) (F:Nat):FX TI (G m) Sg:={hn:={MU:=fun s=>lk false s [(41,true),(122,true)],na:=2,fzJ:=fun r=>lk [] r [(27,[6])]},lv:=[⟨37,yw.sp F⟩,⟨106,xt.sp F⟩,⟨107,zC.sp F⟩],N:=132,H:=zd.h,HL:=zd.hl,HJ:=zd.hj,L:=mkL zd.hl [⟨8,fun x R K=>zd.L8 F R K F x⟩,⟨16,fun x R K=>zd.L16 F R K F x⟩,⟨4,fun x R K=>zd.L4 F R K F x⟩],J:=mkJ zd.hj [⟨27,zd.J27 F⟩]}
theorem zd.ok (m:Int) (F:Nat):OKP m 65 zd.sg (zd.sp F) :=
 okp (zd.X m F) Go.Proofs.Tryz.func65 ⟨yw.ok m F,xt.ok m F,zC.ok m F,trivial⟩ trivial 3 1 (yB (FX.loopk 16 F (zd.L16 F)) (yB (FX.loopk 8 F (zd.L8 F)) (yB (FX.loopk 4 F (zd.L4 F)) zp))) (yB (FX.cutk 27) zp)
end Go.VS
