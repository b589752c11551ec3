import Derived.Test.YtmkkoenoplginaaDoorQT
set_option linter.unusedVariables false
set_option linter.unusedSimpArgs false
set_option linter.unusedSectionVars false
set_option linter.unusedVariables false
set_option maxRecDepth 100000
namespace Go.VS
open Go
def yC.te:TEs:=[(0,.c (.sl zo)),kL 2]
def yC.tb:TEs:=[(2,.g zI)]
def yC.h:SH:=shN yC.te yC.tb [] [(0,3,1,0),(1,2,1,0)]
def yC.X (m:Int) (F:Nat):FX TI (G m) Sg:={hn:={na:=1},N:=7,H:=yC.h}
theorem yC.ok (m:Int) (F:Nat):OKP m 9 yC.sg (yC.sp F) :=
 okp (yC.X m F) Go.Proofs.Tryd.func9 trivial trivial 0 0 zC zC
def yL.te:TEs:=[(0,.c (.int .u8)),(2,kB)]
def yL.h:SH:=shN yL.te [] [] [(0,1,0,0),(1,2,0,0)]
def yL.X (m:Int) (F:Nat):FX TI (G m) Sg:={hn:={na:=1},N:=9,H:=yL.h}
theorem yL.ok (m:Int) (F:Nat):OKP m 85 yL.sg (yL.sp F) :=
 okp (yL.X m F) Go.Proofs.Tryd.func85 trivial trivial 0 0 zC zC
def xl.te:TEs:=[(0,.c (.int .u8)),(2,kB)]
def xl.h:SH:=shN xl.te [] [] [(0,1,0,0),(1,2,0,0)]
def xl.X (m:Int) (F:Nat):FX TI (G m) Sg:={hn:={na:=1},N:=9,H:=xl.h}
theorem xl.ok (m:Int) (F:Nat):OKP m 91 xl.sg (xl.sp F) :=
 okp (xl.X m F) Go.Proofs.Tryd.func91 trivial trivial 0 0 zC zC
def xd.te:TEs:=[(0,.c (.int .u8)),(2,kB)]
def xd.h:SH:=shN xd.te [] [] [(0,1,0,0),(1,2,0,0)]
def xd.X (m:Int) (F:Nat):FX TI (G m) Sg:={hn:={na:=1},lv:=[⟨85,yL.sp F⟩,⟨91,xl.sp F⟩],N:=13,H:=xd.h}
theorem xd.ok (m:Int) (F:Nat):OKP m 87 xd.sg (xd.sp F) :=
 okp (xd.X m F) Go.Proofs.Tryd.func87 ⟨yL.ok m F,xl.ok m F,trivial⟩ trivial 0 0 zC zC
def ya.te:TEs:=[(0,.c .str),(1,.c .fn),(4,kI),(5,kI),(16,kB)]
def ya.h:SH:=shN ya.te [] [] [(0,3,0,0),(1,11,0,0),(2,27,0,0),(3,11,0,0),(4,4,0,0)]
def ya.hl:SH:=shN ya.te [] [] [(2,11,0,0)]
def ya.L2 (F:Nat) (R:Type) (K:KK R) (n:Nat) (x:(ByteArray×Nat×Int×Unit)×(Unit)×(Unit)):Option R :=
 ya.l2 F (fun s of n t16=>K (.exit 0) (yO (ya.h 2) ((s,of,n,t16,()),(),()))) n x.1.1 x.1.2.1 x.1.2.2.1
def ya.X (m:Int) (F:Nat):FX TI (G m) Sg:={hn:={DS:=fun d=>lk none d [(15,some ya.ds15)],na:=2},ld:=[⟨15,ya.d15 F⟩],N:=20,H:=ya.h,HL:=ya.hl,L:=mkL ya.hl [⟨2,fun x R K=>ya.L2 F R K F x⟩]}
theorem ya.ok (m:Int) (F:Nat):OKP m 86 ya.sg (ya.sp F) :=
 okp (ya.X m F) Go.Proofs.Tryd.func86 trivial ⟨YI ⟨⟨87,by kernel_rfl,xd.ok m F⟩,⟨85,by kernel_rfl,yL.ok m F⟩,trivial⟩,trivial⟩ 1 0 (yT (FX.loopk 2 F (ya.L2 F)) zC) zC
theorem yF.ok (m:Int) (F:Nat):OK Go.Proofs.Tryd.prog (G m) 92 yF.sg (yF.sp F):=yF.ok' F Go.Proofs.Tryd.func92 (by kernel_rfl) (g:=3) (by kernel_rfl) (fun s sub w h1 h2=>Go.Proofs.Tryd.strings_Contains s sub m w h1 h2)
def xC.te:TEs:=[(0,.c .str),(2,kB)]
def xC.h:SH:=shN xC.te [] [] [(0,1,0,0),(1,2,0,0)]
def xC.X (m:Int) (F:Nat):FX TI (G m) Sg:={hn:={na:=1},lv:=[⟨86,ya.sp F⟩,⟨92,yF.sp F⟩],N:=18,H:=xC.h}
theorem xC.ok (m:Int) (F:Nat):OKP m 88 xC.sg (xC.sp F) :=
 okp (xC.X m F) Go.Proofs.Tryd.func88 ⟨ya.ok m F,yF.ok m F,trivial⟩ trivial 0 0 zC zC
def xv.te:TEs:=[(0,.c .str),(2,kB)]
def xv.h:SH:=shN xv.te [] [] [(0,1,0,0),(1,2,0,0)]
def xv.X (m:Int) (F:Nat):FX TI (G m) Sg:={hn:={na:=1},lv:=[⟨85,yL.sp F⟩,⟨86,ya.sp F⟩,⟨88,xC.sp F⟩],N:=27,H:=xv.h}
theorem xv.ok (m:Int) (F:Nat):OKP m 67 xv.sg (xv.sp F) :=
 okp (xv.X m F) Go.Proofs.Tryd.func67 ⟨yL.ok m F,ya.ok m F,xC.ok m F,trivial⟩ trivial 0 0 zC zC
def yU.te:TEs:=[(1,.p yZ),kL 2,(3,kB)]
def yU.tb:TEs:=[(2,.g yZ)]
def yU.h:SH:=shN yU.te yU.tb [] [(0,3,1,0),(1,4,0,0)]
def yU.X (m:Int) (F:Nat):FX TI (G m) Sg:={hn:={na:=2},N:=9,H:=yU.h}
theorem yU.ok (m:Int) (F:Nat):OKP m 68 yU.sg (yU.sp F) :=
 okp (yU.X m F) Go.Proofs.Tryd.func68 trivial trivial 0 0 zC zC
def zf.te:TEs:=[(0,.b yZ),(1,.cl yZ),(4,kI),(5,kI),(7,kI),(8,kI),(9,kB),(16,kB)]
def zf.h:SH:=shN zf.te [] [] [(0,3,0,0),(1,51,0,0),(2,115,0,0),(3,59,0,0),(4,187,0,0),(5,4,0,0),(6,51,0,0),(7,4,0,0)]
def zf.hl:SH:=shN zf.te [] [] [(2,51,0,0)]
def zf.L2 (F:Nat) (R:Type) (K:KK R) (n:Nat) (x:((List yZ.T)×(Nat×yZ.T)×Int×Int×Unit)×(Unit)×(Unit)):Option R :=
 zf.l2 F (fun r4=>K .ret (yO (zf.h 5) ((r4,()),(),()))) (fun s f t7 t8 t9=>K (.exit 0) (yO (zf.h 2) ((s,f,t7,t8,t9,()),(),()))) n x.1.1 x.1.2.1 x.1.2.2.1 x.1.2.2.2.1
def zf.X (m:Int) (F:Nat):FX TI (G m) Sg:={hn:={DS:=fun d=>lk none d [(16,some zf.ds16)],na:=2},ld:=[⟨16,zf.d16 F⟩],N:=19,H:=zf.h,HL:=zf.hl,L:=mkL zf.hl [⟨2,fun x R K=>zf.L2 F R K F x⟩]}
theorem zf.ok (m:Int) (F:Nat):OKP m 89 zf.sg (zf.sp F) :=
 okp (zf.X m F) Go.Proofs.Tryd.func89 trivial ⟨YI ⟨⟨68,by kernel_rfl,yU.ok m F⟩,trivial⟩,trivial⟩ 1 0 (yT (FX.loopk 2 F (zf.L2 F)) zC) zC
def zQ.te:TEs:=[(0,.b yZ),(1,.cl yZ),(4,kB)]
def zQ.h:SH:=shN zQ.te [] [] [(0,3,0,0),(1,4,0,0)]
def zQ.X (m:Int) (F:Nat):FX TI (G m) Sg:={hn:={na:=2},lv:=[⟨89,zf.sp F⟩],N:=9,H:=zQ.h}
theorem zQ.ok (m:Int) (F:Nat):OKP m 69 zQ.sg (zQ.sp F) :=
 okp (zQ.X m F) Go.Proofs.Tryd.func69 ⟨zf.ok m F,trivial⟩ trivial 0 0 zC zC
def zS.te:TEs:=[kL 1,(2,kI),(3,kI),kL 4,(4,.p yZ),(5,.cl yZ),(9,kB),(19,kB),(21,.c (.sl yZ)),(22,kI),(23,kI),(24,kB),(40,kB),(48,kB),(57,kB)]
def zS.tb:TEs:=[(1,.g zI),(4,.g yZ)]
def zS.h:SH:=shN zS.te zS.tb [] [(0,1,1,0),(1,65,1,0),(2,2,0,0),(3,129,1,0),(4,2,0,0),(5,1793,1,0),(6,3841,1,0),(7,1805,3,0),(8,1845,1,0),(9,5905,1,0),(10,2,0,0),(11,9985,1,0),(12,2,0,0),(13,1793,1,0),(14,16384,0,0),(15,2,0,0),(16,2,0,0)]
def zS.hl:SH:=shN zS.te zS.tb [] [(6,1793,1,0)]
def zS.L6 (F:Nat) (R:Type) (K:KK R) (n:Nat) (x:(Unit×(List yZ.T)×Int×Int×Unit)×(zI.T×Unit)×(Unit)):Option R :=
 zS.l6 F (fun r2=>K .ret (yO (zS.h 10) ((r2,()),(),()))) (fun r2=>K .ret (yO (zS.h 12) ((r2,()),(),()))) (fun t21 t22 t23 t24 p=>K (.exit 0) (yO (zS.h 6) (((),t21,t22,t23,t24,()),(p,()),()))) n x.1.2.1 x.1.2.2.1 x.1.2.2.2.1 x.2.1.1
def zS.X (m:Int) (F:Nat):FX TI (G m) Sg:={hn:={CT:=fun d=>lk .unit d [(28,yZ)],na:=1},lv:=[⟨67,xv.sp F⟩,⟨69,zQ.sp F⟩],N:=58,H:=zS.h,HL:=zS.hl,L:=mkL zS.hl [⟨6,fun x R K=>zS.L6 F R K F x⟩]}
theorem zS.ok (m:Int) (F:Nat):OKP m 39 zS.sg (zS.sp F) :=
 okp (zS.X m F) Go.Proofs.Tryd.func39 ⟨xv.ok m F,zQ.ok m F,trivial⟩ trivial 1 0 (yT (FX.loopk 6 F (zS.L6 F)) zC) zC
def yD.te:TEs:=[kL 1,(2,kI),(3,kI),(10,kB)]
def yD.tb:TEs:=[(1,.g zo)]
def yD.h:SH:=shN yD.te yD.tb [] [(0,1,1,0),(1,5,1,0),(2,13,1,0),(3,2,0,0),(4,2,0,0)]
def yD.X (m:Int) (F:Nat):FX TI (G m) Sg:={hn:={na:=1},N:=14,H:=yD.h}
theorem yD.ok (m:Int) (F:Nat):OKP m 29 yD.sg (yD.sp F) :=
 okp (yD.X m F) Go.Proofs.Tryd.func29 trivial trivial 0 0 zC zC
def zF.te:TEs:=[(0,.b zy),(2,kB),(3,kI),kL 4,(19,kB),(20,.b zy),(21,kI),(22,kI),(23,kB),(54,kB)]
def zF.tb:TEs:=[(4,.g zy)]
def zF.h:SH:=shN zF.te zF.tb [] [(0,1,0,0),(1,17,0,0),(2,2,0,0),(3,225,0,0),(4,481,0,0),(5,237,1,0),(6,737,0,0),(7,2,0,0),(8,225,0,0),(9,2,0,0)]
def zF.hl:SH:=shN zF.te zF.tb [] [(4,225,0,0)]
def zF.L4 (F:Nat) (R:Type) (K:KK R) (n:Nat) (x:((List zy.T)×(List zy.T)×Int×Int×Unit)×(Unit)×(Unit)):Option R :=
 zF.l4 F (fun r2=>K .ret (yO (zF.h 7) ((r2,()),(),()))) (fun tiers t20 t21 t22 t23=>K (.exit 0) (yO (zF.h 4) ((tiers,t20,t21,t22,t23,()),(),()))) n x.1.1 x.1.2.1 x.1.2.2.1 x.1.2.2.2.1
def zF.X (m:Int) (F:Nat):FX TI (G m) Sg:={hn:={na:=1},N:=56,H:=zF.h,HL:=zF.hl,L:=mkL zF.hl [⟨4,fun x R K=>zF.L4 F R K F x⟩]}
theorem zF.ok (m:Int) (F:Nat):OKP m 70 zF.sg (zF.sp F) :=
 okp (zF.X m F) Go.Proofs.Tryd.func70 trivial trivial 1 0 (yT (FX.loopk 4 F (zF.L4 F)) zC) zC
def zP.te:TEs:=[(1,kI),(2,kI),kL 3,(6,kI),kL 7,(8,kI),(9,kB),(10,kB),(18,kB),(26,kB),(34,kB),(47,kB),(89,kB),(97,kB)]
def zP.tb:TEs:=[(3,.g zo),(7,.g yE)]
def zP.h:SH:=shN zP.te zP.tb [] [(0,7,1,0),(1,263,1,0),(2,8,0,0),(3,23,3,0),(4,55,3,0),(5,567,3,0),(6,54,3,0),(7,118,3,0),(8,1142,3,0),(9,118,3,0),(10,246,3,0),(11,2294,3,0),(12,246,3,0),(13,4116,3,0),(14,8,0,0),(15,8192,0,0),(16,8,0,0),(17,8,0,0)]
def zP.hj:Nat->Option Shape:=shO zP.te zP.tb [] [(7,54,3,0),(10,118,3,0),(13,246,3,0)]
def zP.J13 (F:Nat) (x:(Int×Unit×Unit×Int×Bool×Bool×Unit)×(zo.T×yE.T×Unit)×(Unit)) (R:Type) (K:KK R):Option R :=
 zP.j13 F (fun r6=>K .ret (yO (zP.h 14) ((r6,()),(),()))) (fun r6=>K .ret (yO (zP.h 16) ((r6,()),(),()))) (fun r6=>K .ret (yO (zP.h 17) ((r6,()),(),()))) x.1.1 x.1.2.2.2.1 x.1.2.2.2.2.1 x.1.2.2.2.2.2.1 x.2.1.1 x.2.1.2.1
def zP.J10 (F:Nat) (x:(Int×Unit×Unit×Int×Bool×Unit)×(zo.T×yE.T×Unit)×(Unit)) (R:Type) (K:KK R):Option R :=
 zP.j10 F (fun r6=>K .ret (yO (zP.h 14) ((r6,()),(),()))) (fun r6=>K .ret (yO (zP.h 16) ((r6,()),(),()))) (fun r6=>K .ret (yO (zP.h 17) ((r6,()),(),()))) x.1.1 x.1.2.2.2.1 x.1.2.2.2.2.1 x.2.1.1 x.2.1.2.1
def zP.J7 (F:Nat) (x:(Int×Unit×Unit×Int×Unit)×(zo.T×yE.T×Unit)×(Unit)) (R:Type) (K:KK R):Option R :=
 zP.j7 F (fun r6=>K .ret (yO (zP.h 14) ((r6,()),(),()))) (fun r6=>K .ret (yO (zP.h 16) ((r6,()),(),()))) (fun r6=>K .ret (yO (zP.h 17) ((r6,()),(),()))) x.1.1 x.1.2.2.2.1 x.2.1.1 x.2.1.2.1
def zP.X (m:Int) (F:Nat):FX TI (G m) Sg:={hn:={na:=3},lv:=[⟨29,yD.sp F⟩,⟨70,zF.sp F⟩],N:=98,H:=zP.h,HJ:=zP.hj,J:=mkJ zP.hj [⟨13,zP.J13 F⟩,⟨10,zP.J10 F⟩,⟨7,zP.J7 F⟩]}
theorem zP.ok (m:Int) (F:Nat):OKP m 40 zP.sg (zP.sp F) :=
 okp (zP.X m F) Go.Proofs.Tryd.func40 ⟨yD.ok m F,zF.ok m F,trivial⟩ trivial 0 3 zC (yT (FX.cutk 13) (yT (FX.cutk 10) (yT (FX.cutk 7) zC)))
def zG.te:TEs:=[kL 1,(2,kI),(3,kI),(4,kI),(5,kI),(6,kI),kL 7,(8,kI),(12,kB),(17,kB),(19,.c (.sl zo)),(20,kI),(21,kI),(22,kB),(33,kB),(43,kB)]
def zG.tb:TEs:=[(1,.g zI),(7,.g zo)]
def zG.h:SH:=shN zG.te zG.tb [] [(0,1,1,0),(1,9,1,0),(2,265,1,0),(3,6,0,0),(4,513,1,0),(5,6,0,0),(6,17,1,0),(7,7185,1,0),(8,15377,1,0),(9,7281,3,0),(10,7409,3,0),(11,23793,3,0),(12,6,0,0),(13,7185,1,0),(14,7185,1,0),(15,32769,1,0),(16,6,0,0),(17,6,0,0)]
def zG.hl:SH:=shN zG.te zG.tb [] [(8,7185,1,0)]
def zG.L8 (F:Nat) (R:Type) (K:KK R) (n:Nat) (x:(Unit×Int×(List zo.T)×Int×Int×Unit)×(zI.T×Unit)×(Unit)):Option R :=
 zG.l8 F (fun r2 r3=>K .ret (yO (zG.h 12) ((r2,r3,()),(),()))) (fun pile t19 t20 t21 t22 p=>K (.exit 0) (yO (zG.h 8) (((),pile,t19,t20,t21,t22,()),(p,()),()))) n x.1.2.1 x.1.2.2.1 x.1.2.2.2.1 x.1.2.2.2.2.1 x.2.1.1
def zG.X (m:Int) (F:Nat):FX TI (G m) Sg:={hn:={na:=1},lv:=[⟨39,zS.sp F⟩,⟨40,zP.sp F⟩,⟨29,yD.sp F⟩],N:=47,H:=zG.h,HL:=zG.hl,L:=mkL zG.hl [⟨8,fun x R K=>zG.L8 F R K F x⟩]}
theorem zG.ok (m:Int) (F:Nat):OKP m 18 zG.sg (zG.sp F) :=
 okp (zG.X m F) Go.Proofs.Tryd.func18 ⟨zS.ok m F,zP.ok m F,yD.ok m F,trivial⟩ trivial 1 0 (yT (FX.loopk 8 F (zG.L8 F)) zC) zC
def zw.te:TEs:=[kL 1,(2,.c (.sl (.int .i64))),(3,.c (.sl (.int .i64))),(3,.ow 3),(4,.ow 4),(5,kI),kL 6,(7,kI),(8,kI),(10,.c (.sl zo)),(11,kI),(12,kI),(13,kB),(21,kB)]
def zw.tb:TEs:=[(1,.g zI),(6,.g zo)]
def zw.tp:List wx:=[⟨3,.env 3,(.int .i64)⟩,⟨4,.env 4,(.int .i64)⟩]
def zw.h:SH:=shN zw.te zw.tb zw.tp [(0,1,1,0),(1,25,1,3),(2,3608,0,3),(3,7704,0,3),(4,3704,2,3),(5,3800,2,3),(6,3992,0,3),(7,12184,0,3),(8,3992,0,3),(9,3736,0,3),(10,3736,0,3),(11,3608,0,3),(12,3608,0,3),(13,2,0,0)]
def zw.hl:SH:=shN zw.te zw.tb zw.tp [(3,3608,0,3)]
def zw.hj:Nat->Option Shape:=shO zw.te zw.tb zw.tp [(13,4,0,0)]
def zw.L3 (F:Nat) (R:Type) (K:KK R) (n:Nat) (x:(Unit×Unit×(List zo.T)×Int×Int×Unit)×(Unit)×((List Int)×(List Int)×Unit)):Option R :=
 zw.l3 F (fun t10 t11 t12 t13 list pile=>K (.exit 0) (yO (zw.h 3) (((),(),t10,t11,t12,t13,()),(),(list,pile,())))) n x.1.2.2.1 x.1.2.2.2.1 x.1.2.2.2.2.1 x.2.2.1 x.2.2.2.1
def zw.J13 (F:Nat) (x:((List Int)×Unit)×(Unit)×(Unit)) (R:Type) (K:KK R):Option R :=
 zw.j13 F (fun r2=>K .ret (yO (zw.h 13) ((r2,()),(),()))) x.1.1
def zw.X (m:Int) (F:Nat):FX TI (G m) Sg:={hn:={MU:=fun s=>lk false s [(38,true),(42,true)],na:=1,fzJ:=fun r=>lk [] r [(13,[3])]},lv:=[⟨29,yD.sp F⟩],N:=45,H:=zw.h,HL:=zw.hl,HJ:=zw.hj,L:=mkL zw.hl [⟨3,fun x R K=>zw.L3 F R K F x⟩],J:=mkJ zw.hj [⟨13,zw.J13 F⟩]}
theorem zw.ok (m:Int) (F:Nat):OKP m 19 zw.sg (zw.sp F) :=
 okp (zw.X m F) Go.Proofs.Tryd.func19 ⟨yD.ok m F,trivial⟩ trivial 1 1 (yT (FX.loopk 3 F (zw.L3 F)) zC) (yT (FX.cutk 13) zC)
def yQ.te:TEs:=[kL 1,(2,.c (.sl (.int .i64))),(3,kI),(5,kI),(12,kB)]
def yQ.tb:TEs:=[(1,.g zI)]
def yQ.h:SH:=shN yQ.te yQ.tb [] [(0,1,1,0),(1,9,1,0),(2,25,1,0),(3,6,0,0),(4,6,0,0)]
def yQ.X (m:Int) (F:Nat):FX TI (G m) Sg:={hn:={na:=1},lv:=[⟨18,zG.sp F⟩,⟨19,zw.sp F⟩],N:=16,H:=yQ.h}
theorem yQ.ok (m:Int) (F:Nat):OKP m 11 yQ.sg (yQ.sp F) :=
 okp (yQ.X m F) Go.Proofs.Tryd.func11 ⟨zG.ok m F,zw.ok m F,trivial⟩ trivial 0 0 zC zC
def zq.te:TEs:=[kL 1,(2,.c (.sl .bool)),(3,kI),(4,.c (.sl (.int .i64))),(5,kI),(6,kI),(7,.c (.sl .bool)),(7,.ow 7),(8,kI),kL 9,(16,kB),(22,.c (.sl zo)),(23,kI),(24,kI),(25,kB),(36,kB)]
def zq.tb:TEs:=[(1,.g zI),(9,.g zo)]
def zq.tp:List wx:=[⟨7,.env 7,.bool⟩]
def zq.h:SH:=shN zq.te zq.tb zq.tp [(0,1,1,0),(1,25,1,0),(2,1049,1,0),(3,6,0,0),(4,41,1,0),(5,169,1,1),(6,14504,0,1),(7,30888,0,1),(8,15272,2,1),(9,47528,0,1),(10,14760,0,1),(11,14504,0,1),(12,14504,0,1),(13,6,0,0)]
def zq.hl:SH:=shN zq.te zq.tb zq.tp [(7,14504,0,1)]
def zq.hj:Nat->Option Shape:=shO zq.te zq.tb zq.tp [(13,64,0,0)]
def zq.L7 (F:Nat) (R:Type) (K:KK R) (n:Nat) (x:((List Int)×Int×Unit×(List zo.T)×Int×Int×Unit)×(Unit)×((List Bool)×Unit)):Option R :=
 zq.l7 F (fun list last t22 t23 t24 t25 out=>K (.exit 0) (yO (zq.h 7) ((list,last,(),t22,t23,t24,t25,()),(),(out,())))) n x.1.1 x.1.2.1 x.1.2.2.2.1 x.1.2.2.2.2.1 x.1.2.2.2.2.2.1 x.2.2.1
def zq.J13 (F:Nat) (x:((List Bool)×Unit)×(Unit)×(Unit)) (R:Type) (K:KK R):Option R :=
 zq.j13 F (fun r2 r3=>K .ret (yO (zq.h 13) ((r2,r3,()),(),()))) x.1.1
def zq.X (m:Int) (F:Nat):FX TI (G m) Sg:={hn:={MU:=fun s=>lk false s [(20,true)],na:=1,fzJ:=fun r=>lk [] r [(13,[7])]},lv:=[⟨11,yQ.sp F⟩],N:=49,H:=zq.h,HL:=zq.hl,HJ:=zq.hj,L:=mkL zq.hl [⟨7,fun x R K=>zq.L7 F R K F x⟩],J:=mkJ zq.hj [⟨13,zq.J13 F⟩]}
theorem zq.ok (m:Int) (F:Nat):OKP m 32 zq.sg (zq.sp F) :=
 okp (zq.X m F) Go.Proofs.Tryd.func32 ⟨yQ.ok m F,trivial⟩ trivial 1 1 (yT (FX.loopk 7 F (zq.L7 F)) zC) (yT (FX.cutk 13) zC)
def y7.te:TEs:=[(0,kI),(2,.c .fn),(3,kI),(4,.c (.sl (.pair .fn (.int .i64))))]
def y7.h:SH:=shN y7.te [] [] [(0,1,0,0),(1,9,0,0),(2,6,0,0)]
def y7.X (m:Int) (F:Nat):FX TI (G m) Sg:={hn:={na:=1},N:=32,H:=y7.h}
theorem y7.ok (m:Int) (F:Nat):OKP m 33 y7.sg (y7.sp F) :=
 okp (y7.X m F) Go.Proofs.Tryd.func33 trivial trivial 0 0 zC zC
def zv.te:TEs:=[(1,kI),kL 2,(4,kI),(6,kI),(10,.b (.int .i64)),(11,kI),(12,kI),(13,kB),(22,kB)]
def zv.tb:TEs:=[(2,.g ym)]
def zv.h:SH:=shN zv.te zv.tb [] [(0,3,1,0),(1,115,1,0),(2,243,1,0),(3,123,1,0),(4,371,1,0),(5,4,0,0),(6,115,1,0),(7,4,0,0)]
def zv.hl:SH:=shN zv.te zv.tb [] [(2,115,1,0)]
def zv.L2 (F:Nat) (R:Type) (K:KK R) (n:Nat) (x:(Int×Unit×(List Int)×Int×Int×Unit)×(ym.T×Unit)×(Unit)):Option R :=
 zv.l2 F (fun r4=>K .ret (yO (zv.h 5) ((r4,()),(),()))) (fun from_ t10 t11 t12 t13 n=>K (.exit 0) (yO (zv.h 2) ((from_,(),t10,t11,t12,t13,()),(n,()),()))) n x.1.1 x.1.2.2.1 x.1.2.2.2.1 x.1.2.2.2.2.1 x.2.1.1
def zv.X (m:Int) (F:Nat):FX TI (G m) Sg:={hn:={na:=2},N:=29,H:=zv.h,HL:=zv.hl,L:=mkL zv.hl [⟨2,fun x R K=>zv.L2 F R K F x⟩]}
theorem zv.ok (m:Int) (F:Nat):OKP m 76 zv.sg (zv.sp F) :=
 okp (zv.X m F) Go.Proofs.Tryd.func76 trivial trivial 1 0 (yT (FX.loopk 2 F (zv.L2 F)) zC) zC
def yg.te:TEs:=[kL 1,(2,kI)]
def yg.tb:TEs:=[(1,.g ym)]
def yg.h:SH:=shN yg.te yg.tb [] [(0,1,1,0),(1,2,0,0)]
def yg.X (m:Int) (F:Nat):FX TI (G m) Sg:={hn:={na:=1},lv:=[⟨76,zv.sp F⟩],N:=5,H:=yg.h}
theorem yg.ok (m:Int) (F:Nat):OKP m 49 yg.sg (yg.sp F) :=
 okp (yg.X m F) Go.Proofs.Tryd.func49 ⟨zv.ok m F,trivial⟩ trivial 0 0 zC zC
def yw.te:TEs:=[kL 1,(2,kI)]
def yw.tb:TEs:=[(1,.g ym)]
def yw.h:SH:=shN yw.te yw.tb [] [(0,1,1,0),(1,2,0,0)]
def yw.X (m:Int) (F:Nat):FX TI (G m) Sg:={hn:={na:=1},N:=8,H:=yw.h}
theorem yw.ok (m:Int) (F:Nat):OKP m 48 yw.sg (yw.sp F) :=
 okp (yw.X m F) Go.Proofs.Tryd.func48 trivial trivial 0 0 zC zC
def yy.te:TEs:=[(0,kI),(2,kB)]
def yy.h:SH:=shN yy.te [] [] [(0,1,0,0),(1,2,0,0)]
def yy.X (m:Int) (F:Nat):FX TI (G m) Sg:={hn:={na:=1},N:=5,H:=yy.h}
theorem yy.ok (m:Int) (F:Nat):OKP m 77 yy.sg (yy.sp F) :=
 okp (yy.X m F) Go.Proofs.Tryd.func77 trivial trivial 0 0 zC zC
def yb.te:TEs:=[kL 1,(2,kI),(7,kB)]
def yb.tb:TEs:=[(1,.g ym)]
def yb.h:SH:=shN yb.te yb.tb [] [(0,1,1,0),(1,5,1,0),(2,2,0,0),(3,2,0,0)]
def yb.X (m:Int) (F:Nat):FX TI (G m) Sg:={hn:={na:=1},lv:=[⟨77,yy.sp F⟩],N:=12,H:=yb.h}
theorem yb.ok (m:Int) (F:Nat):OKP m 51 yb.sg (yb.sp F) :=
 okp (yb.X m F) Go.Proofs.Tryd.func51 ⟨yy.ok m F,trivial⟩ trivial 0 0 zC zC
def yM.te:TEs:=[(2,kI)]
def yM.h:SH:=shN yM.te [] [] [(1,1,0,0)]
def yM.X (m:Int) (F:Nat):FX TI (G m) Sg:={hn:={na:=1},N:=3,H:=yM.h}
theorem yM.ok (m:Int) (F:Nat):OKP m 46 yM.sg (yM.sp F) :=
 okp (yM.X m F) Go.Proofs.Tryd.func46 trivial trivial 0 0 zC zC
def yH.te:TEs:=[(2,kI)]
def yH.h:SH:=shN yH.te [] [] [(1,1,0,0)]
def yH.X (m:Int) (F:Nat):FX TI (G m) Sg:={hn:={na:=1},N:=3,H:=yH.h}
theorem yH.ok (m:Int) (F:Nat):OKP m 45 yH.sg (yH.sp F) :=
 okp (yH.X m F) Go.Proofs.Tryd.func45 trivial trivial 0 0 zC zC
def yG.te:TEs:=[kL 1,(2,kI),(7,kB)]
def yG.tb:TEs:=[(1,.g ym)]
def yG.h:SH:=shN yG.te yG.tb [] [(0,1,1,0),(1,4,0,0),(2,2,0,0),(3,2,0,0)]
def yG.X (m:Int) (F:Nat):FX TI (G m) Sg:={hn:={na:=1},N:=8,H:=yG.h}
theorem yG.ok (m:Int) (F:Nat):OKP m 53 yG.sg (yG.sp F) :=
 okp (yG.X m F) Go.Proofs.Tryd.func53 trivial trivial 0 0 zC zC
def yn.te:TEs:=[kL 1,(2,kI),(7,kB)]
def yn.tb:TEs:=[(1,.g ym)]
def yn.h:SH:=shN yn.te yn.tb [] [(0,1,1,0),(1,4,0,0),(2,2,0,0),(3,2,0,0)]
def yn.X (m:Int) (F:Nat):FX TI (G m) Sg:={hn:={na:=1},lv:=[⟨77,yy.sp F⟩],N:=8,H:=yn.h}
theorem yn.ok (m:Int) (F:Nat):OKP m 52 yn.sg (yn.sp F) :=
 okp (yn.X m F) Go.Proofs.Tryd.func52 ⟨yy.ok m F,trivial⟩ trivial 0 0 zC zC
def yk.te:TEs:=[kL 1,(2,kI),(3,kI),(4,kI),(13,kB),(17,kB),(21,kB)]
def yk.tb:TEs:=[(1,.g ym)]
def yk.h:SH:=shN yk.te yk.tb [] [(0,1,1,0),(1,12,0,0),(2,28,0,0),(3,2,0,0),(4,44,0,0),(5,2,0,0),(6,76,0,0),(7,64,0,0),(8,2,0,0),(9,2,0,0)]
def yk.X (m:Int) (F:Nat):FX TI (G m) Sg:={hn:={na:=1},lv:=[⟨77,yy.sp F⟩],N:=34,H:=yk.h}
theorem yk.ok (m:Int) (F:Nat):OKP m 50 yk.sg (yk.sp F) :=
 okp (yk.X m F) Go.Proofs.Tryd.func50 ⟨yy.ok m F,trivial⟩ trivial 0 0 zC zC
def yh.te:TEs:=[kL 1,(2,kI)]
def yh.tb:TEs:=[(1,.g ym)]
def yh.h:SH:=shN yh.te yh.tb [] [(0,1,1,0),(1,2,0,0)]
def yh.X (m:Int) (F:Nat):FX TI (G m) Sg:={hn:={na:=1},N:=8,H:=yh.h}
theorem yh.ok (m:Int) (F:Nat):OKP m 47 yh.sg (yh.sp F) :=
 okp (yh.X m F) Go.Proofs.Tryd.func47 trivial trivial 0 0 zC zC
def yz.te:TEs:=[kL 1,(2,kI),(7,kB)]
def yz.tb:TEs:=[(1,.g ym)]
def yz.h:SH:=shN yz.te yz.tb [] [(0,1,1,0),(1,5,1,0),(2,2,0,0),(3,2,0,0)]
def yz.X (m:Int) (F:Nat):FX TI (G m) Sg:={hn:={na:=1},lv:=[⟨77,yy.sp F⟩,⟨76,zv.sp F⟩],N:=10,H:=yz.h}
theorem yz.ok (m:Int) (F:Nat):OKP m 54 yz.sg (yz.sp F) :=
 okp (yz.X m F) Go.Proofs.Tryd.func54 ⟨yy.ok m F,zv.ok m F,trivial⟩ trivial 0 0 zC zC
def zh.te:TEs:=[kL 1,(2,.c (.sl (.int .i64))),(3,kI),(4,kI),(5,kI),(6,kI),(7,.c (.sl .bool)),(9,.c (.sl (.int .i64))),(9,.ow 9),(10,.c (.sl (.int .i64))),(10,.ow 10),(11,.ow 11),(12,kI),kL 13,(14,.c .fn),(15,kI),(16,kI),(17,kI),(24,kB),(33,.c (.sl zo)),(34,kI),(35,kI),(36,kB),(47,kB),(65,kB),(84,kB),(109,kB)]
def zh.tb:TEs:=[(1,.g zI),(13,.g zo)]
def zh.tp:List wx:=[⟨9,.env 9,(.int .i64)⟩,⟨10,.env 10,(.int .i64)⟩,⟨11,.env 11,.bool⟩]
def zh.h:SH:=shN zh.te zh.tb zh.tp [(0,1,1,0),(1,49,1,0),(2,262193,1,0),(3,14,0,0),(4,65,1,0),(5,1345,1,3),(6,3393,1,7),(7,3673408,0,7),(8,7867712,0,7),(9,3685696,2,7),(10,3734848,2,7),(11,12123456,2,7),(12,3734848,2,7),(13,3767616,2,7),(14,3882304,2,7),(15,20659520,2,7),(16,14,0,0),(17,37428544,0,7),(18,14,0,0),(19,3874112,0,7),(20,3743040,0,7),(21,3673408,0,7),(22,3673408,0,7),(23,67108992,0,0),(24,14,0,0),(25,14,0,0)]
def zh.hl:SH:=shN zh.te zh.tb zh.tp [(8,3673408,0,7)]
def zh.hj:Nat->Option Shape:=shO zh.te zh.tb zh.tp [(23,640,0,0)]
def zh.L8 (F:Nat) (R:Type) (K:KK R) (n:Nat) (x:((List Bool)×Unit×Unit×Unit×(List zo.T)×Int×Int×Unit)×(Unit)×((List Int)×(List Int)×(List Bool)×Unit)):Option R :=
 zh.l8 F (fun r2 r3 r4=>K .ret (yO (zh.h 16) ((r2,r3,r4,()),(),()))) (fun r2 r3 r4=>K .ret (yO (zh.h 18) ((r2,r3,r4,()),(),()))) (fun fixed t33 t34 t35 t36 types pile fix=>K (.exit 0) (yO (zh.h 8) ((fixed,(),(),(),t33,t34,t35,t36,()),(),(types,pile,fix,())))) n x.1.1 x.1.2.2.2.2.1 x.1.2.2.2.2.2.1 x.1.2.2.2.2.2.2.1 x.2.2.1 x.2.2.2.1 x.2.2.2.2.1
def zh.J23 (F:Nat) (x:((List Int)×(List Int)×Unit)×(Unit)×(Unit)) (R:Type) (K:KK R):Option R :=
 zh.j23 F (fun r2 r3 r4=>K .ret (yO (zh.h 24) ((r2,r3,r4,()),(),()))) (fun r2 r3 r4=>K .ret (yO (zh.h 25) ((r2,r3,r4,()),(),()))) x.1.1 x.1.2.1
def zh.X (m:Int) (F:Nat):FX TI (G m) Sg:={hn:={MU:=fun s=>lk false s [(89,true),(95,true),(104,true)],DS:=fun d=>lk none d [(63,some zh.ds63)],na:=1,fzJ:=fun r=>lk [] r [(23,[9,10])]},lv:=[⟨18,zG.sp F⟩,⟨32,zq.sp F⟩,⟨33,y7.sp F⟩],ld:=[⟨63,zh.d63 F⟩],N:=114,H:=zh.h,HL:=zh.hl,HJ:=zh.hj,L:=mkL zh.hl [⟨8,fun x R K=>zh.L8 F R K F x⟩],J:=mkJ zh.hj [⟨23,zh.J23 F⟩]}
theorem zh.ok (m:Int) (F:Nat):OKP m 15 zh.sg (zh.sp F) :=
 okp (zh.X m F) Go.Proofs.Tryd.func15 ⟨zG.ok m F,zq.ok m F,y7.ok m F,trivial⟩ ⟨YI ⟨⟨49,by kernel_rfl,yg.ok m F⟩,⟨48,by kernel_rfl,yw.ok m F⟩,⟨51,by kernel_rfl,yb.ok m F⟩,⟨46,by kernel_rfl,yM.ok m F⟩,⟨45,by kernel_rfl,yH.ok m F⟩,⟨53,by kernel_rfl,yG.ok m F⟩,⟨52,by kernel_rfl,yn.ok m F⟩,⟨50,by kernel_rfl,yk.ok m F⟩,⟨47,by kernel_rfl,yh.ok m F⟩,⟨54,by kernel_rfl,yz.ok m F⟩,trivial⟩,trivial⟩ 1 1 (yT (FX.loopk 8 F (zh.L8 F)) zC) (yT (FX.cutk 23) zC)
def zx.te:TEs:=[(0,.b (.int .i64)),(2,kI),(3,kI),(4,kI),(7,kB),(15,kB)]
def zx.h:SH:=shN zx.te [] [] [(0,1,0,0),(1,17,0,0),(3,5,0,0),(4,13,0,0),(5,45,0,0),(6,13,0,0),(7,13,0,0),(8,2,0,0)]
def zx.hl:SH:=shN zx.te [] [] [(5,13,0,0)]
def zx.L5 (F:Nat) (R:Type) (K:KK R) (n:Nat) (x:((List Int)×Int×Int×Unit)×(Unit)×(Unit)):Option R :=
 zx.l5 F (fun x m i t15=>K (.exit 0) (yO (zx.h 5) ((x,m,i,t15,()),(),()))) n x.1.1 x.1.2.1 x.1.2.2.1
def zx.X (m:Int) (F:Nat):FX TI (G m) Sg:={hn:={na:=1},N:=25,H:=zx.h,HL:=zx.hl,L:=mkL zx.hl [⟨5,fun x R K=>zx.L5 F R K F x⟩]}
theorem zx.ok (m:Int) (F:Nat):OKP m 30 zx.sg (zx.sp F) :=
 okp (zx.X m F) Go.Proofs.Tryd.func30 trivial trivial 1 0 (yT (FX.loopk 5 F (zx.L5 F)) zC) zC
def zz.te:TEs:=[kL 1,(2,kI),(3,kI),(5,kI),(6,.c (.sl (.int .i64))),(6,.ow 6),kL 8,(9,kI),(10,kI),(17,kB),(20,.c (.sl zo)),(21,kI),(22,kI),(23,kB),(29,kB),(45,kB)]
def zz.tb:TEs:=[(1,.g zI),(8,.g zo)]
def zz.tp:List wx:=[⟨6,.env 6,(.int .i64)⟩]
def zz.h:SH:=shN zz.te zz.tb zz.tp [(0,1,1,0),(1,9,1,0),(2,521,1,0),(3,6,0,0),(4,33,1,1),(5,7200,0,1),(6,15392,0,1),(7,7264,2,1),(8,7392,2,1),(9,7648,2,1),(10,24032,2,1),(11,7648,2,1),(12,7392,2,1),(13,40096,0,1),(14,7328,0,1),(15,7200,0,1),(16,7200,0,1),(17,6,0,0)]
def zz.hl:SH:=shN zz.te zz.tb zz.tp [(6,7200,0,1)]
def zz.hj:Nat->Option Shape:=shO zz.te zz.tb zz.tp [(17,16,0,0)]
def zz.L6 (F:Nat) (R:Type) (K:KK R) (n:Nat) (x:(Unit×(List zo.T)×Int×Int×Unit)×(Unit)×((List Int)×Unit)):Option R :=
 zz.l6 F (fun t20 t21 t22 t23 pile=>K (.exit 0) (yO (zz.h 6) (((),t20,t21,t22,t23,()),(),(pile,())))) n x.1.2.1 x.1.2.2.1 x.1.2.2.2.1 x.2.2.1
def zz.J17 (F:Nat) (x:((List Int)×Unit)×(Unit)×(Unit)) (R:Type) (K:KK R):Option R :=
 zz.j17 F (fun r2 r3=>K .ret (yO (zz.h 17) ((r2,r3,()),(),()))) x.1.1
def zz.X (m:Int) (F:Nat):FX TI (G m) Sg:={hn:={MU:=fun s=>lk false s [(51,true)],na:=1,fzJ:=fun r=>lk [] r [(17,[6])]},lv:=[⟨18,zG.sp F⟩,⟨29,yD.sp F⟩,⟨30,zx.sp F⟩],N:=56,H:=zz.h,HL:=zz.hl,HJ:=zz.hj,L:=mkL zz.hl [⟨6,fun x R K=>zz.L6 F R K F x⟩],J:=mkJ zz.hj [⟨17,zz.J17 F⟩]}
theorem zz.ok (m:Int) (F:Nat):OKP m 13 zz.sg (zz.sp F) :=
 okp (zz.X m F) Go.Proofs.Tryd.func13 ⟨zG.ok m F,yD.ok m F,zx.ok m F,trivial⟩ trivial 1 1 (yT (FX.loopk 6 F (zz.L6 F)) zC) (yT (FX.cutk 17) zC)
def yt.te:TEs:=[(0,kI),kL 2]
def yt.tb:TEs:=[(2,.g zg)]
def yt.h:SH:=shN yt.te yt.tb [] [(0,3,1,0),(1,2,1,0)]
def yt.X (m:Int) (F:Nat):FX TI (G m) Sg:={hn:={na:=1},N:=8,H:=yt.h}
theorem yt.ok (m:Int) (F:Nat):OKP m 34 yt.sg (yt.sp F) :=
 okp (yt.X m F) Go.Proofs.Tryd.func34 trivial trivial 0 0 zC zC
theorem zR.ok (m:Int) (F:Nat):OK Go.Proofs.Tryd.prog (G m) 78 zR.sg (zR.sp F):=zR.ok' F Go.Proofs.Tryd.func78 (by kernel_rfl) (by kernel_rfl) (by kernel_rfl)
def y6.te:TEs:=[kL 1,(2,.c (.int .u64)),(3,.c (.int .u64)),(4,.c (.int .u64)),(5,.c (.int .u64)),(6,.c (.int .u64)),(10,kB)]
def y6.tb:TEs:=[(1,.g zg)]
def y6.h:SH:=shN y6.te y6.tb [] [(0,1,1,0),(1,65,1,0),(2,6,0,0),(3,25,1,0),(4,40,0,0),(5,6,0,0)]
def y6.X (m:Int) (F:Nat):FX TI (G m) Sg:={hn:={na:=1},lv:=[⟨78,zR.sp F⟩],N:=32,H:=y6.h}
theorem y6.ok (m:Int) (F:Nat):OKP m 55 y6.sg (y6.sp F) :=
 okp (y6.X m F) Go.Proofs.Tryd.func55 ⟨zR.ok m F,trivial⟩ trivial 0 0 zC zC
def yA.te:TEs:=[(0,.c (.int .u64)),(1,.c (.int .u64)),(4,.c (.int .u64)),(5,.c (.int .u64)),(6,.c (.int .u64)),(7,.c (.int .u64)),(8,.c (.int .u64)),(9,.c (.int .u64)),(10,.c (.int .u64)),(11,.c (.int .u64)),(12,.c (.int .u64)),(13,.c (.int .u64))]
def yA.h:SH:=shN yA.te [] [] [(0,3,0,0),(1,19,0,0),(2,51,0,0),(3,115,0,0),(4,243,0,0),(5,499,0,0),(6,691,0,0),(7,1715,0,0),(8,3251,0,0),(9,3235,0,0),(10,7,0,0),(11,12,0,0)]
def yA.X (m:Int) (F:Nat):FX TI (G m) Sg:={hn:={na:=2},N:=51,H:=yA.h}
theorem yA.ok (m:Int) (F:Nat):OKP m 56 yA.sg (yA.sp F) :=
 okp (yA.X m F) Go.Proofs.Tryd.func56 trivial trivial 0 0 zC zC
def xk.te:TEs:=[(0,kB),(1,.c (.int .u64)),(2,.c (.int .u64)),(6,.c (.int .u64)),(7,kB)]
def xk.h:SH:=shN xk.te [] [] [(0,7,0,0),(1,22,0,0),(2,8,0,0),(3,8,0,0)]
def xk.X (m:Int) (F:Nat):FX TI (G m) Sg:={hn:={na:=3},N:=10,H:=xk.h}
theorem xk.ok (m:Int) (F:Nat):OKP m 57 xk.sg (xk.sp F) :=
 okp (xk.X m F) Go.Proofs.Tryd.func57 trivial trivial 0 0 zC zC
theorem z8.ok (m:Int) (F:Nat):OK Go.Proofs.Tryd.prog (G m) 58 z8.sg (z8.sp F):=z8.ok' F Go.Proofs.Tryd.func58 (by kernel_rfl) (by kernel_rfl) (by kernel_rfl)
def xy.te:TEs:=[kL 2,kL 3,kL 4,(5,kI),(6,.c (.int .u64)),(7,.c (.int .u64)),(8,.c (.int .u64)),kL 10,(49,kB)]
def xy.tb:TEs:=[(2,.g zg),(3,.g zg),(4,.g zg),(10,.g zg)]
def xy.h:SH:=shN xy.te xy.tb [] [(0,7,7,0),(1,55,7,0),(2,87,7,0),(3,135,15,0),(4,388,12,0),(5,12,4,0),(6,12,4,0)]
def xy.X (m:Int) (F:Nat):FX TI (G m) Sg:={hn:={na:=2},lv:=[⟨78,zR.sp F⟩],N:=52,H:=xy.h}
theorem xy.ok (m:Int) (F:Nat):OKP m 82 xy.sg (xy.sp F) :=
 okp (xy.X m F) Go.Proofs.Tryd.func82 ⟨zR.ok m F,trivial⟩ trivial 0 0 zC zC
def xI.te:TEs:=[kL 1,kL 2,(3,kI)]
def xI.tb:TEs:=[(1,.g zg),(2,.g zg)]
def xI.h:SH:=shN xI.te xI.tb [] [(0,3,3,0),(1,6,2,0)]
def xI.X (m:Int) (F:Nat):FX TI (G m) Sg:={hn:={na:=1},lv:=[⟨82,xy.sp F⟩],N:=9,H:=xI.h}
theorem xI.ok (m:Int) (F:Nat):OKP m 79 xI.sg (xI.sp F) :=
 okp (xI.X m F) Go.Proofs.Tryd.func79 ⟨xy.ok m F,trivial⟩ trivial 0 0 zC zC
def xa.te:TEs:=[(0,kB),(1,.c (.int .u64)),(2,.c (.int .u64)),kL 6,(7,kI),kL 8,(11,kB),(16,kB),(30,kB)]
def xa.tb:TEs:=[(6,.g zg),(8,.g zg)]
def xa.h:SH:=shN xa.te xa.tb [] [(0,15,1,0),(1,79,1,0),(2,41,3,0),(3,168,3,0),(4,24,1,0),(5,24,1,0),(6,264,1,0),(7,24,1,0),(8,24,1,0)]
def xa.X (m:Int) (F:Nat):FX TI (G m) Sg:={hn:={na:=3},lv:=[⟨79,xI.sp F⟩],N:=33,H:=xa.h}
theorem xa.ok (m:Int) (F:Nat):OKP m 59 xa.sg (xa.sp F) :=
 okp (xa.X m F) Go.Proofs.Tryd.func59 ⟨xI.ok m F,trivial⟩ trivial 0 0 zC zC
def yu.te:TEs:=[kL 2,kL 3,kL 4,(5,kI),(6,.c (.int .u64)),(7,.c (.int .u64)),(8,.c (.int .u64)),(9,.c (.int .u64)),(10,.c (.int .u64)),(11,.c (.int .u64)),(12,.c (.int .u64)),(13,.c (.int .u64)),(14,.c (.int .u64)),(30,kB),(61,kB)]
def yu.tb:TEs:=[(2,.g zg),(3,.g zg),(4,.g zg)]
def yu.h:SH:=shN yu.te yu.tb [] [(0,7,7,0),(1,55,7,0),(2,247,7,0),(3,8439,7,0),(4,12,4,0),(5,1015,7,0),(6,3847,7,0),(7,5895,7,0),(8,17159,7,0),(9,12,4,0),(10,12,4,0)]
def yu.hj:Nat->Option Shape:=shO yu.te yu.tb [] [(5,247,7,0)]
def yu.J5 (F:Nat) (x:(Unit×Unit×Unit×Int×Int×Int×Int×Unit)×(zg.T×zg.T×zg.T×Unit)×(Unit)) (R:Type) (K:KK R):Option R :=
 yu.j5 F (fun r5 r4=>K .ret (yO (yu.h 9) (((),r5,()),(r4,()),()))) (fun r5 r4=>K .ret (yO (yu.h 10) (((),r5,()),(r4,()),()))) x.1.2.2.2.1 x.1.2.2.2.2.1 x.1.2.2.2.2.2.1 x.1.2.2.2.2.2.2.1 x.2.1.1 x.2.1.2.1 x.2.1.2.2.1
def yu.X (m:Int) (F:Nat):FX TI (G m) Sg:={hn:={na:=2},lv:=[⟨55,y6.sp F⟩,⟨56,yA.sp F⟩,⟨57,xk.sp F⟩,⟨58,z8.sp F⟩,⟨59,xa.sp F⟩],N:=75,H:=yu.h,HJ:=yu.hj,J:=mkJ yu.hj [⟨5,yu.J5 F⟩]}
theorem yu.ok (m:Int) (F:Nat):OKP m 35 yu.sg (yu.sp F) :=
 okp (yu.X m F) Go.Proofs.Tryd.func35 ⟨y6.ok m F,yA.ok m F,xk.ok m F,z8.ok m F,xa.ok m F,trivial⟩ trivial 0 1 zC (yT (FX.cutk 5) zC)
def zN.te:TEs:=[(0,kI),kL 2,(3,kI),kL 4,(6,kB),(9,kB),(12,kI),(13,kI),(14,kB)]
def zN.tb:TEs:=[(2,.g zg),(4,.g zg)]
def zN.h:SH:=shN zN.te zN.tb [] [(0,3,1,0),(1,19,1,0),(2,6,1,0),(3,35,1,0),(4,6,1,0),(5,11,3,0),(6,202,3,0),(7,458,3,0),(8,202,3,0),(9,202,3,0),(10,6,1,0)]
def zN.hl:SH:=shN zN.te zN.tb [] [(7,202,3,0)]
def zN.L7 (F:Nat) (R:Type) (K:KK R) (n:Nat) (x:(Unit×Unit×Int×Int×Unit)×(zg.T×zg.T×Unit)×(Unit)):Option R :=
 zN.l7 F (fun t12 t13 t14 r2 p=>K (.exit 0) (yO (zN.h 7) (((),(),t12,t13,t14,()),(r2,p,()),()))) n x.1.2.2.1 x.1.2.2.2.1 x.2.1.1 x.2.1.2.1
def zN.X (m:Int) (F:Nat):FX TI (G m) Sg:={hn:={na:=1},lv:=[⟨34,yt.sp F⟩,⟨35,yu.sp F⟩],N:=23,H:=zN.h,HL:=zN.hl,L:=mkL zN.hl [⟨7,fun x R K=>zN.L7 F R K F x⟩]}
theorem zN.ok (m:Int) (F:Nat):OKP m 16 zN.sg (zN.sp F) :=
 okp (zN.X m F) Go.Proofs.Tryd.func16 ⟨yt.ok m F,yu.ok m F,trivial⟩ trivial 1 0 (yT (FX.loopk 7 F (zN.L7 F)) zC) zC
def zO.te:TEs:=[kL 1,(2,kI),(4,kI),(5,kB),(10,kB),(14,kB),(19,kB)]
def zO.tb:TEs:=[(1,.g zo)]
def zO.h:SH:=shN zO.te zO.tb [] [(0,1,1,0),(1,5,1,0),(2,13,1,0),(3,13,1,0),(4,13,1,0),(5,13,1,0),(6,2,0,0),(7,21,1,0),(8,21,1,0),(9,21,1,0),(10,2,0,0),(11,37,1,0),(12,37,1,0),(13,2,0,0),(14,64,0,0),(15,2,0,0),(16,2,0,0)]
def zO.hj:Nat->Option Shape:=shO zO.te zO.tb [] [(6,13,1,0),(10,21,1,0)]
def zO.J10 (F:Nat) (x:(Unit×Int×Bool×Unit)×(zo.T×Unit)×(Unit)) (R:Type) (K:KK R):Option R :=
 zO.j10 F (fun r2=>K .ret (yO (zO.h 10) ((r2,()),(),()))) (fun r2=>K .ret (yO (zO.h 13) ((r2,()),(),()))) (fun r2=>K .ret (yO (zO.h 15) ((r2,()),(),()))) (fun t19=>K .normal (yO (zO.h 14) ((t19,()),(),()))) x.1.2.1 x.1.2.2.1 x.2.1.1
def zO.J6 (F:Nat) (x:(Unit×Int×Bool×Unit)×(zo.T×Unit)×(Unit)) (R:Type) (K:KK R):Option R :=
 zO.j6 F (fun r2=>K .ret (yO (zO.h 6) ((r2,()),(),()))) (fun r2=>K .ret (yO (zO.h 10) ((r2,()),(),()))) (fun r2=>K .ret (yO (zO.h 13) ((r2,()),(),()))) (fun r2=>K .ret (yO (zO.h 15) ((r2,()),(),()))) (fun t19=>K .normal (yO (zO.h 14) ((t19,()),(),()))) x.1.2.1 x.1.2.2.1 x.2.1.1
def zO.X (m:Int) (F:Nat):FX TI (G m) Sg:={hn:={na:=1},N:=21,H:=zO.h,HJ:=zO.hj,J:=mkJ zO.hj [⟨10,zO.J10 F⟩,⟨6,zO.J6 F⟩]}
theorem zO.ok (m:Int) (F:Nat):OKP m 36 zO.sg (zO.sp F) :=
 okp (zO.X m F) Go.Proofs.Tryd.func36 trivial trivial 0 2 zC (yT (FX.cutk 10) (yT (FX.cutk 6) zC))
def zV.te:TEs:=[kL 0,(2,kI),kL 4,kL 6]
def zV.tb:TEs:=[(0,.g yq),(4,.g zg),(6,.g zg)]
def zV.h:SH:=shN zV.te zV.tb [] [(0,15,7,0),(1,12,7,0),(2,8,5,0)]
def zV.X (m:Int) (F:Nat):FX TI (G m) Sg:={hn:={na:=3},N:=19,H:=zV.h}
theorem zV.ok (m:Int) (F:Nat):OKP m 61 zV.sg (zV.sp F) :=
 okp (zV.X m F) Go.Proofs.Tryd.func61 trivial trivial 0 0 zC zC
def zT.te:TEs:=[kL 0,kL 4,kL 5,kL 6]
def zT.tb:TEs:=[(0,.g yq),(4,.g zg),(5,.g zg),(6,.g zg)]
def zT.h:SH:=shN zT.te zT.tb [] [(0,15,15,0),(1,8,9,0)]
def zT.X (m:Int) (F:Nat):FX TI (G m) Sg:={hn:={na:=3},lv:=[⟨35,yu.sp F⟩,⟨61,zV.sp F⟩],N:=14,H:=zT.h}
theorem zT.ok (m:Int) (F:Nat):OKP m 60 zT.sg (zT.sp F) :=
 okp (zT.X m F) Go.Proofs.Tryd.func60 ⟨yu.ok m F,zV.ok m F,trivial⟩ trivial 0 0 zC zC
def zL.te:TEs:=[(0,.c (.int .u64)),(2,kI),(4,kB),(8,kB),(14,kB)]
def zL.h:SH:=shN zL.te [] [] [(0,3,0,0),(1,7,0,0),(2,1,0,0),(3,3,0,0),(4,11,0,0),(5,3,0,0),(6,3,0,0),(7,19,0,0),(8,3,0,0),(9,3,0,0),(10,2,0,0)]
def zL.hj:Nat->Option Shape:=shO zL.te [] [] [(4,3,0,0),(7,3,0,0)]
def zL.J7 (F:Nat) (x:(Int×Int×Unit)×(Unit)×(Unit)) (R:Type) (K:KK R):Option R :=
 zL.j7 F (fun n=>K .ret (yO (zL.h 10) ((n,()),(),()))) x.1.1 x.1.2.1
def zL.J4 (F:Nat) (x:(Int×Int×Unit)×(Unit)×(Unit)) (R:Type) (K:KK R):Option R :=
 zL.j4 F (fun n=>K .ret (yO (zL.h 10) ((n,()),(),()))) x.1.1 x.1.2.1
def zL.X (m:Int) (F:Nat):FX TI (G m) Sg:={hn:={na:=1},N:=25,H:=zL.h,HJ:=zL.hj,J:=mkJ zL.hj [⟨7,zL.J7 F⟩,⟨4,zL.J4 F⟩]}
theorem zL.ok (m:Int) (F:Nat):OKP m 97 zL.sg (zL.sp F) :=
 okp (zL.X m F) Go.Proofs.Tryd.func97 trivial trivial 0 2 zC (yT (FX.cutk 7) (yT (FX.cutk 4) zC))
def zZ.te:TEs:=[(0,.c (.int .u64)),(2,kI)]
def zZ.h:SH:=shN zZ.te [] [] [(0,1,0,0),(1,2,0,0)]
def zZ.X (m:Int) (F:Nat):FX TI (G m) Sg:={hn:={na:=1},lv:=[⟨97,zL.sp F⟩],N:=6,H:=zZ.h}
theorem zZ.ok (m:Int) (F:Nat):OKP m 95 zZ.sg (zZ.sp F) :=
 okp (zZ.X m F) Go.Proofs.Tryd.func95 ⟨zL.ok m F,trivial⟩ trivial 0 0 zC zC
def zj.te:TEs:=[(0,.c (.int .u64)),(1,.c (.int .u64)),(2,.c (.int .u64)),(6,.c (.int .u64)),(7,.c (.int .u64)),(8,.c (.int .u64)),(9,.c (.int .u64)),(10,.c (.int .u64)),(11,.c (.int .u64)),(12,.c (.int .u64)),(13,.c (.int .u64)),(14,.c (.int .u64)),(15,.c (.int .u64)),(16,.c (.int .u64)),(17,.c (.int .u64)),(18,.c (.int .u64)),(20,kB),(24,kB),(27,kB),(78,kB),(85,kB),(113,kB),(120,kB)]
def zj.h:SH:=shN zj.te [] [] [(0,7,0,0),(1,65543,0,0),(3,131079,0,0),(5,262151,0,0),(6,24,0,0),(7,39,0,0),(8,39,0,0),(9,103,0,0),(10,231,0,0),(11,486,0,0),(12,996,0,0),(13,2020,0,0),(14,3556,0,0),(15,7652,0,0),(16,15844,0,0),(17,540132,0,0),(18,15844,0,0),(19,15844,0,0),(20,1064420,0,0),(21,22756,0,0),(22,55524,0,0),(23,63716,0,0),(24,2160868,0,0),(25,63716,0,0),(26,63716,0,0),(27,4258020,0,0),(28,24,0,0)]
def zj.hl:SH:=shN zj.te [] [] [(17,15844,0,0),(24,63716,0,0)]
def zj.hj:Nat->Option Shape:=shO zj.te [] [] [(21,7652,0,0),(28,55332,0,0)]
def zj.L17 (F:Nat) (R:Type) (K:KK R) (n:Nat) (x:(Int×Int×Int×Int×Int×Int×Int×Int×Int×Unit)×(Unit)×(Unit)):Option R :=
 zj.l17 F (fun y s yn1 yn0 un32 un1 un0 q1 rhat t85=>K (.exit 0) (yO (zj.h 20) ((y,s,yn1,yn0,un32,un1,un0,q1,rhat,t85,()),(),()))) (fun y s yn1 yn0 un32 un1 un0 q1 rhat t78=>K (.exit 0) (yO (zj.h 17) ((y,s,yn1,yn0,un32,un1,un0,q1,rhat,t78,()),(),()))) n x.1.1 x.1.2.1 x.1.2.2.1 x.1.2.2.2.1 x.1.2.2.2.2.1 x.1.2.2.2.2.2.1 x.1.2.2.2.2.2.2.1 x.1.2.2.2.2.2.2.2.1 x.1.2.2.2.2.2.2.2.2.1
def zj.L24 (F:Nat) (R:Type) (K:KK R) (n:Nat) (x:(Int×Int×Int×Int×Int×Int×Int×Int×Int×Unit)×(Unit)×(Unit)):Option R :=
 zj.l24 F (fun y s yn1 yn0 un0 q1 rhat un21 q0 t120=>K (.exit 2) (yO (zj.h 27) ((y,s,yn1,yn0,un0,q1,rhat,un21,q0,t120,()),(),()))) (fun y s yn1 yn0 un0 q1 rhat un21 q0 t113=>K (.exit 2) (yO (zj.h 24) ((y,s,yn1,yn0,un0,q1,rhat,un21,q0,t113,()),(),()))) n x.1.1 x.1.2.1 x.1.2.2.1 x.1.2.2.2.1 x.1.2.2.2.2.1 x.1.2.2.2.2.2.1 x.1.2.2.2.2.2.2.1 x.1.2.2.2.2.2.2.2.1 x.1.2.2.2.2.2.2.2.2.1
def zj.J28 (F:Nat) (x:(Int×Int×Int×Int×Int×Int×Unit)×(Unit)×(Unit)) (R:Type) (K:KK R):Option R :=
 zj.j28 F (fun quo rem=>K .ret (yO (zj.h 28) ((quo,rem,()),(),()))) x.1.1 x.1.2.1 x.1.2.2.1 x.1.2.2.2.1 x.1.2.2.2.2.1 x.1.2.2.2.2.2.1
def zj.J21 (F:Nat) (x:(Int×Int×Int×Int×Int×Int×Int×Int×Unit)×(Unit)×(Unit)) (R:Type) (K:KK R):Option R :=
 zj.j21 F (fun quo rem=>K .ret (yO (zj.h 28) ((quo,rem,()),(),()))) x.1.1 x.1.2.1 x.1.2.2.1 x.1.2.2.2.1 x.1.2.2.2.2.1 x.1.2.2.2.2.2.1 x.1.2.2.2.2.2.2.1 x.1.2.2.2.2.2.2.2.1
def zj.X (m:Int) (F:Nat):FX TI (G m) Sg:={hn:={na:=3},lv:=[⟨95,zZ.sp F⟩],N:=135,H:=zj.h,HL:=zj.hl,HJ:=zj.hj,L:=mkL zj.hl [⟨17,fun x R K=>zj.L17 F R K F x⟩,⟨24,fun x R K=>zj.L24 F R K F x⟩],J:=mkJ zj.hj [⟨28,zj.J28 F⟩,⟨21,zj.J21 F⟩]}
theorem zj.ok (m:Int) (F:Nat):OKP m 93 zj.sg (zj.sp F) :=
 okp (zj.X m F) Go.Proofs.Tryd.func93 ⟨zZ.ok m F,trivial⟩ trivial 2 2 (yT (FX.loopk 24 F (zj.L24 F)) (yT (FX.loopk 17 F (zj.L17 F)) zC)) (yT (FX.cutk 28) (yT (FX.cutk 21) zC))
def z7.te:TEs:=[(0,.c (.int .u64)),(1,.c (.int .u64)),(2,.c (.int .u64)),(3,.c (.int .u64)),(8,.c (.int .u64)),(9,.c (.int .u64)),(10,.c (.int .u64)),(11,.c (.int .u64)),(12,kI),(13,.c (.int .u64)),(15,kB),(34,kB),(61,kB)]
def z7.h:SH:=shN z7.te [] [] [(0,47,0,0),(1,1071,0,0),(2,154,0,0),(3,176,0,0),(4,240,0,0),(5,238,0,0),(6,494,0,0),(7,2542,0,0),(8,494,0,0),(9,494,0,0),(10,494,0,0),(11,4590,0,0),(12,494,0,0),(13,1006,0,0),(14,494,0,0),(15,494,0,0),(16,240,0,0)]
def z7.hl:SH:=shN z7.te [] [] [(7,494,0,0)]
def z7.L7 (F:Nat) (R:Type) (K:KK R) (n:Nat) (x:(Int×Int×Int×Int×Int×Int×Int×Unit)×(Unit)×(Unit)):Option R :=
 z7.l7 F (fun al bh bl ql rh rl i t34=>K (.exit 0) (yO (z7.h 7) ((al,bh,bl,ql,rh,rl,i,t34,()),(),()))) n x.1.1 x.1.2.1 x.1.2.2.1 x.1.2.2.2.1 x.1.2.2.2.2.1 x.1.2.2.2.2.2.1 x.1.2.2.2.2.2.2.1
def z7.X (m:Int) (F:Nat):FX TI (G m) Sg:={hn:={na:=4},lv:=[⟨93,zj.sp F⟩,⟨78,zR.sp F⟩],N:=82,H:=z7.h,HL:=z7.hl,L:=mkL z7.hl [⟨7,fun x R K=>z7.L7 F R K F x⟩]}
theorem z7.ok (m:Int) (F:Nat):OKP m 90 z7.sg (z7.sp F) :=
 okp (z7.X m F) Go.Proofs.Tryd.func90 ⟨zj.ok m F,zR.ok m F,trivial⟩ trivial 1 0 (yT (FX.loopk 7 F (z7.L7 F)) zC) zC
def yS.te:TEs:=[kL 2,kL 3,kL 4,kL 5,(6,kI),(7,.c (.int .u64)),(8,.c (.int .u64)),(9,.c (.int .u64)),(10,.c (.int .u64)),(11,.c (.int .u64)),(12,.c (.int .u64)),(13,.c (.int .u64)),(14,.c (.int .u64)),kL 15,(16,kI),kL 17,(20,kB),(57,kB)]
def yS.tb:TEs:=[(2,.g zg),(3,.g zg),(4,.g zg),(5,.g zg),(15,.g zg),(17,.g zg)]
def yS.h:SH:=shN yS.te yS.tb [] [(0,15,15,0),(1,65551,15,0),(2,28,12,0),(3,111,15,0),(4,495,15,0),(5,7695,15,0),(6,30733,29,0),(7,161805,29,0),(8,28,12,0),(9,57356,60,0),(10,28,12,0)]
def yS.X (m:Int) (F:Nat):FX TI (G m) Sg:={hn:={na:=2},lv:=[⟨55,y6.sp F⟩,⟨90,z7.sp F⟩,⟨59,xa.sp F⟩],N:=73,H:=yS.h}
theorem yS.ok (m:Int) (F:Nat):OKP m 80 yS.sg (yS.sp F) :=
 okp (yS.X m F) Go.Proofs.Tryd.func80 ⟨y6.ok m F,z7.ok m F,xa.ok m F,trivial⟩ trivial 0 0 zC zC
def xc.te:TEs:=[(3,kI),kL 4,kL 5,kL 6,(8,kB),(9,kB),(10,.c (.int .u64)),(11,.c (.int .u64)),(12,.c (.int .u64)),(13,.c (.int .u64)),(14,.c (.int .u64)),(15,.c (.int .u64)),(16,.c (.int .u64)),(25,kI),(26,kB),(29,kB),(33,kB),(58,kB),(72,kB)]
def xc.tb:TEs:=[(4,.g zg),(5,.g zg),(6,.g zg)]
def xc.h:SH:=shN xc.te xc.tb [] [(0,15,7,0),(1,47,7,0),(2,8239,7,0),(3,24623,7,0),(4,16,0,0),(5,41007,7,0),(6,16,0,0),(7,65551,7,0),(8,16,0,0),(9,203,5,0),(10,963,1,0),(11,3523,1,0),(12,5315,1,0),(13,136387,1,0),(14,16,0,0),(15,262147,1,0),(16,16,0,0),(17,16,0,0)]
def xc.X (m:Int) (F:Nat):FX TI (G m) Sg:={hn:={na:=4},lv:=[⟨55,y6.sp F⟩,⟨78,zR.sp F⟩],N:=89,H:=xc.h}
theorem xc.ok (m:Int) (F:Nat):OKP m 81 xc.sg (xc.sp F) :=
 okp (xc.X m F) Go.Proofs.Tryd.func81 ⟨y6.ok m F,zR.ok m F,trivial⟩ trivial 0 0 zC zC
def xz.te:TEs:=[kL 2,kL 3,kL 4,(5,kI),(6,.c (.int .u64)),(7,.c (.int .u64)),(8,.c (.int .u64)),kL 10,(49,kB)]
def xz.tb:TEs:=[(2,.g zg),(3,.g zg),(4,.g zg),(10,.g zg)]
def xz.h:SH:=shN xz.te xz.tb [] [(0,7,7,0),(1,55,7,0),(2,87,7,0),(3,135,15,0),(4,388,12,0),(5,12,4,0),(6,12,4,0)]
def xz.X (m:Int) (F:Nat):FX TI (G m) Sg:={hn:={na:=2},lv:=[⟨58,z8.sp F⟩],N:=52,H:=xz.h}
theorem xz.ok (m:Int) (F:Nat):OKP m 83 xz.sg (xz.sp F) :=
 okp (xz.X m F) Go.Proofs.Tryd.func83 ⟨z8.ok m F,trivial⟩ trivial 0 0 zC zC
def xn.te:TEs:=[(2,kI),kL 3,kL 4,kL 6,(7,kI),kL 8,kL 9,(10,kI),(16,kB),(39,kB),(48,kB)]
def xn.tb:TEs:=[(3,.g zg),(4,.g zg),(6,.g zg),(8,.g zg),(9,.g zg)]
def xn.h:SH:=shN xn.te xn.tb [] [(0,15,7,0),(1,271,7,0),(2,24,4,0),(3,239,31,0),(4,686,15,0),(5,24,4,0),(6,1064,12,0),(7,24,4,0),(8,24,4,0)]
def xn.X (m:Int) (F:Nat):FX TI (G m) Sg:={hn:={na:=3},lv:=[⟨80,yS.sp F⟩,⟨81,xc.sp F⟩,⟨34,yt.sp F⟩,⟨82,xy.sp F⟩,⟨83,xz.sp F⟩],N:=59,H:=xn.h}
theorem xn.ok (m:Int) (F:Nat):OKP m 62 xn.sg (xn.sp F) :=
 okp (xn.X m F) Go.Proofs.Tryd.func62 ⟨yS.ok m F,xc.ok m F,yt.ok m F,xy.ok m F,xz.ok m F,trivial⟩ trivial 0 0 zC zC
def xp.te:TEs:=[(0,kI),(2,kI)]
def xp.h:SH:=shN xp.te [] [] [(0,1,0,0),(1,2,0,0)]
def xp.X (m:Int) (F:Nat):FX TI (G m) Sg:={hn:={na:=1},N:=7,H:=xp.h}
theorem xp.ok (m:Int) (F:Nat):OKP m 84 xp.sg (xp.sp F) :=
 okp (xp.X m F) Go.Proofs.Tryd.func84 trivial trivial 0 0 zC zC
def zY.te:TEs:=[kL 0,kL 4,kL 5,kL 6]
def zY.tb:TEs:=[(0,.g yq),(4,.g zg),(5,.g zg),(6,.g zg)]
def zY.h:SH:=shN zY.te zY.tb [] [(0,15,15,0),(1,8,9,0)]
def zY.X (m:Int) (F:Nat):FX TI (G m) Sg:={hn:={na:=3},lv:=[⟨83,xz.sp F⟩,⟨61,zV.sp F⟩],N:=14,H:=zY.h}
theorem zY.ok (m:Int) (F:Nat):OKP m 65 zY.sg (zY.sp F) :=
 okp (zY.X m F) Go.Proofs.Tryd.func65 ⟨xz.ok m F,zV.ok m F,trivial⟩ trivial 0 0 zC zC
def zm.te:TEs:=[kL 0,(2,.b zy),kL 4,kL 6,(7,kI),kL 8,(9,kI),kL 10,kL 11,(13,.b zy),(14,kI),(15,kI),(16,kB),(29,kB)]
def zm.tb:TEs:=[(0,.g yq),(4,.g zg),(6,.g zg),(8,.g zg),(10,.g zy),(11,.g zg)]
def zm.h:SH:=shN zm.te zm.tb [] [(0,15,7,0),(1,63,15,0),(2,3647,15,0),(3,7743,15,0),(4,3839,31,0),(5,3839,31,0),(6,12031,31,0),(7,3647,15,0),(8,3647,15,0),(9,313,45,0),(10,8,5,0)]
def zm.hl:SH:=shN zm.te zm.tb [] [(3,3647,15,0)]
def zm.L3 (F:Nat) (R:Type) (K:KK R) (n:Nat) (x:(Unit×(List zy.T)×Unit×Unit×Int×Unit×(List zy.T)×Int×Int×Unit)×(yq.T×zg.T×zg.T×zg.T×Unit)×(Unit)):Option R :=
 zm.l3 F (fun tiers rate t13 t14 t15 t16 m x r6 ways=>K (.exit 0) (yO (zm.h 3) (((),tiers,(),(),rate,(),t13,t14,t15,t16,()),(m,x,r6,ways,()),()))) n x.1.2.1 x.1.2.2.2.2.1 x.1.2.2.2.2.2.2.1 x.1.2.2.2.2.2.2.2.1 x.1.2.2.2.2.2.2.2.2.1 x.2.1.1 x.2.1.2.1 x.2.1.2.2.1 x.2.1.2.2.2.1
def zm.X (m:Int) (F:Nat):FX TI (G m) Sg:={hn:={na:=3,sp:=fun s=>lk 0 s [(0,2)]},lv:=[⟨84,xp.sp F⟩,⟨34,yt.sp F⟩,⟨60,zT.sp F⟩,⟨65,zY.sp F⟩],N:=75,H:=zm.h,HL:=zm.hl,L:=mkL zm.hl [⟨3,fun x R K=>zm.L3 F R K F x⟩]}
theorem zm.ok (m:Int) (F:Nat):OKP m 63 zm.sg (zm.sp F) :=
 okp (zm.X m F) Go.Proofs.Tryd.func63 ⟨xp.ok m F,yt.ok m F,zT.ok m F,zY.ok m F,trivial⟩ trivial 1 0 (yT (FX.loopk 3 F (zm.L3 F)) zC) zC
def yi.te:TEs:=[(0,.b zg),kL 2,(3,kI),(4,.c (.int .u64)),(5,.c (.int .u64)),(6,kI),kL 8,(9,.c (.int .u64)),kL 10,(11,.b zg),(12,kI),(13,kI),(14,kB),(50,kB)]
def yi.tb:TEs:=[(2,.g zg),(8,.g zg),(10,.g zg)]
def yi.h:SH:=shN yi.te yi.tb [] [(0,3,1,0),(1,27,1,0),(2,59,1,0),(3,3642,1,0),(4,7738,1,0),(5,3706,3,0),(6,3706,3,0),(7,3834,3,0),(8,3834,3,0),(9,3642,1,0),(10,3642,1,0),(11,290,5,0),(12,8450,5,0),(13,6,1,0),(14,6,1,0)]
def yi.hl:SH:=shN yi.te yi.tb [] [(4,3642,1,0)]
def yi.L4 (F:Nat) (R:Type) (K:KK R) (n:Nat) (x:(Unit×Int×Int×Int×(List zg.T)×Int×Int×Unit)×(zg.T×Unit)×(Unit)):Option R :=
 yi.l4 F (fun lo hi top t11 t12 t13 t14 r2=>K (.exit 0) (yO (yi.h 4) (((),lo,hi,top,t11,t12,t13,t14,()),(r2,()),()))) n x.1.2.1 x.1.2.2.1 x.1.2.2.2.1 x.1.2.2.2.2.1 x.1.2.2.2.2.2.1 x.1.2.2.2.2.2.2.1 x.2.1.1
def yi.X (m:Int) (F:Nat):FX TI (G m) Sg:={hn:={na:=1},lv:=[⟨58,z8.sp F⟩],N:=53,H:=yi.h,HL:=yi.hl,L:=mkL yi.hl [⟨4,fun x R K=>yi.L4 F R K F x⟩]}
theorem yi.ok (m:Int) (F:Nat):OKP m 64 yi.sg (yi.sp F) :=
 okp (yi.X m F) Go.Proofs.Tryd.func64 ⟨z8.ok m F,trivial⟩ trivial 1 0 (yT (FX.loopk 4 F (yi.L4 F)) zC) zC
def zu.te:TEs:=[kL 0,(3,.b zg),kL 5,kL 6,kL 8,kL 9,(11,kI),(12,kB),(17,kB),(28,kB),(31,kB),(47,kB),(57,kB),(67,kB),(96,kB)]
def zu.tb:TEs:=[(0,.g yq),(5,.g zI),(6,.g zo),(8,.g zg),(9,.g zg)]
def zu.h:SH:=shN zu.te zu.tb [] [(0,31,15,0),(1,95,15,0),(2,223,15,0),(3,16,9,0),(4,351,15,0),(5,16,9,0),(6,607,15,0),(7,16,9,0),(8,1119,15,0),(9,16,9,0),(10,2139,13,0),(11,16,9,0),(12,4187,13,0),(13,4187,13,0),(14,16,9,0),(15,8219,13,0),(16,18,9,0),(17,16,9,0),(18,57,29,0),(19,16441,29,0),(20,48,25,0),(21,16,9,0)]
def zu.hj:Nat->Option Shape:=shO zu.te zu.tb [] [(18,27,13,0)]
def zu.J18 (F:Nat) (x:(Unit×(List zg.T)×Unit×Unit×Unit)×(yq.T×zo.T×zg.T×Unit)×(Unit)) (R:Type) (K:KK R):Option R :=
 zu.j18 F (fun m r8=>K .ret (yO (zu.h 21) (((),()),(m,r8,()),()))) x.1.2.1 x.2.1.1 x.2.1.2.1 x.2.1.2.2.1
def zu.X (m:Int) (F:Nat):FX TI (G m) Sg:={hn:={na:=4},lv:=[⟨34,yt.sp F⟩,⟨60,zT.sp F⟩,⟨62,xn.sp F⟩,⟨61,zV.sp F⟩,⟨63,zm.sp F⟩,⟨64,yi.sp F⟩,⟨65,zY.sp F⟩],N:=104,H:=zu.h,HJ:=zu.hj,J:=mkJ zu.hj [⟨18,zu.J18 F⟩]}
theorem zu.ok (m:Int) (F:Nat):OKP m 37 zu.sg (zu.sp F) :=
 okp (zu.X m F) Go.Proofs.Tryd.func37 ⟨yt.ok m F,zT.ok m F,xn.ok m F,zV.ok m F,zm.ok m F,yi.ok m F,zY.ok m F,trivial⟩ trivial 0 1 zC (yT (FX.cutk 18) zC)
def xH.te:TEs:=[kL 2,kL 3,(4,kI),(5,kB),(9,kB)]
def xH.tb:TEs:=[(2,.g zg),(3,.g zg)]
def xH.h:SH:=shN xH.te xH.tb [] [(0,3,3,0),(1,11,3,0),(2,4,0,0),(3,19,3,0),(4,16,0,0),(5,4,0,0),(6,4,0,0)]
def xH.X (m:Int) (F:Nat):FX TI (G m) Sg:={hn:={na:=2},N:=27,H:=xH.h}
theorem xH.ok (m:Int) (F:Nat):OKP m 66 xH.sg (xH.sp F) :=
 okp (xH.X m F) Go.Proofs.Tryd.func66 trivial trivial 0 0 zC zC
def yW.te:TEs:=[kL 2,kL 3,(4,kB),kL 5,(9,kB)]
def yW.tb:TEs:=[(2,.g zo),(3,.g zg),(5,.g zg)]
def yW.h:SH:=shN yW.te yW.tb [] [(0,3,3,0),(1,11,7,0),(2,26,6,0),(3,10,6,0),(4,4,0,0)]
def yW.X (m:Int) (F:Nat):FX TI (G m) Sg:={hn:={na:=2},lv:=[⟨34,yt.sp F⟩,⟨35,yu.sp F⟩,⟨66,xH.sp F⟩],N:=20,H:=yW.h}
theorem yW.ok (m:Int) (F:Nat):OKP m 38 yW.sg (yW.sp F) :=
 okp (yW.X m F) Go.Proofs.Tryd.func38 ⟨yt.ok m F,yu.ok m F,xH.ok m F,trivial⟩ trivial 0 0 zC zC
def zl.te:TEs:=[kL 2,kL 3,(4,.c (.sl zg)),(5,kI),(6,.c (.sl zg)),(6,.ow 6),(7,.ow 7),(8,.loc 15),(9,kI),kL 10,(11,kI),kL 12,(17,.c (.sl zo)),(18,kI),(19,kI),(20,kB),(44,kB)]
def zl.tb:TEs:=[(2,.g zI),(3,.g zg),(10,.g zo),(12,.g zg),(15,.g yq)]
def zl.tp:List wx:=[⟨6,.env 6,zg⟩,⟨7,.env 7,zg⟩]
def zl.h:SH:=shN zl.te zl.tb zl.tp [(0,3,3,0),(1,99,3,3),(2,225,17,3),(3,28897,17,3),(4,61665,17,3),(5,29665,21,3),(6,30689,21,3),(7,32737,29,3),(8,97761,25,3),(9,12,0,0),(10,31969,25,3),(11,28897,17,3),(12,28897,17,3),(13,12,0,0)]
def zl.hl:SH:=shN zl.te zl.tb zl.tp [(4,28897,17,3)]
def zl.hj:Nat->Option Shape:=shO zl.te zl.tb zl.tp [(13,16,0,0)]
def zl.L4 (F:Nat) (R:Type) (K:KK R) (n:Nat) (x:(Unit×Unit×Unit×Unit×(List zo.T)×Int×Int×Unit)×(zI.T×yq.T×Unit)×((List zg.T)×(List zg.T)×Unit)):Option R :=
 zl.l4 F (fun r4 r5=>K .ret (yO (zl.h 9) ((r4,r5,()),(),()))) (fun t17 t18 t19 t20 p m mags pile=>K (.exit 0) (yO (zl.h 4) (((),(),(),(),t17,t18,t19,t20,()),(p,m,()),(mags,pile,())))) n x.1.2.2.2.2.1 x.1.2.2.2.2.2.1 x.1.2.2.2.2.2.2.1 x.2.1.1 x.2.1.2.1 x.2.2.1 x.2.2.2.1
def zl.J13 (F:Nat) (x:((List zg.T)×Unit)×(Unit)×(Unit)) (R:Type) (K:KK R):Option R :=
 zl.j13 F (fun r4 r5=>K .ret (yO (zl.h 13) ((r4,r5,()),(),()))) x.1.1
def zl.X (m:Int) (F:Nat):FX TI (G m) Sg:={hn:={MU:=fun s=>lk false s [(49,true),(55,true)],na:=2,fzJ:=fun r=>lk [] r [(13,[6])]},lv:=[⟨36,zO.sp F⟩,⟨37,zu.sp F⟩,⟨38,yW.sp F⟩],N:=58,H:=zl.h,HL:=zl.hl,HJ:=zl.hj,L:=mkL zl.hl [⟨4,fun x R K=>zl.L4 F R K F x⟩],J:=mkJ zl.hj [⟨13,zl.J13 F⟩]}
theorem zl.ok (m:Int) (F:Nat):OKP m 17 zl.sg (zl.sp F) :=
 okp (zl.X m F) Go.Proofs.Tryd.func17 ⟨zO.ok m F,zu.ok m F,yW.ok m F,trivial⟩ trivial 1 1 (yT (FX.loopk 4 F (zl.L4 F)) zC) (yT (FX.cutk 13) zC)
def yX.te:TEs:=[kL 1,kL 2,(3,kI),(4,kI),(6,kI),(7,kI),(8,kI),kL 10,(11,kI),(13,kI),(21,kB),(31,kB),(49,kB)]
def yX.tb:TEs:=[(1,.g zI),(2,.g zg),(10,.g zg)]
def yX.h:SH:=shN yX.te yX.tb [] [(0,3,3,0),(1,51,3,0),(2,1075,3,0),(3,14,2,0),(4,67,3,0),(5,2115,3,0),(6,14,2,0),(7,387,7,0),(8,898,6,0),(9,4994,6,0),(10,14,2,0),(11,14,2,0)]
def yX.X (m:Int) (F:Nat):FX TI (G m) Sg:={hn:={na:=1},lv:=[⟨15,zh.sp F⟩,⟨13,zz.sp F⟩,⟨16,zN.sp F⟩,⟨17,zl.sp F⟩],N:=54,H:=yX.h}
theorem yX.ok (m:Int) (F:Nat):OKP m 10 yX.sg (yX.sp F) :=
 okp (yX.X m F) Go.Proofs.Tryd.func10 ⟨zh.ok m F,zz.ok m F,zN.ok m F,zl.ok m F,trivial⟩ trivial 0 0 zC zC
def yd.te:TEs:=[kL 0,(2,.c (.sl .fnb))]
def yd.tb:TEs:=[(0,.go (.pair zI (.pair (.sl (.int .i64)) (.pair zg (.pair zD (.sl .fnb))))) [(9,1009),(10,1010),(11,1011),(12,1012)])]
def yd.tp:List wx:=[⟨1009,.cell 0 9,(.int .i64)⟩,⟨1010,.cell 0 10,zg⟩,⟨1011,.cell 0 11,(.sl zy)⟩,⟨1012,.cell 0 12,zK⟩]
def yd.h:SH:=shN yd.te yd.tb yd.tp [(0,1,1,15),(1,2,1,15)]
def yd.X (m:Int) (F:Nat):FX TI (G m) Sg:={hn:={na:=1,me:=some 0},N:=36,H:=yd.h}
theorem yd.ok (m:Int) (F:Nat):OKP m 12 yd.sg (yd.sp F) :=
 okp (yd.X m F) Go.Proofs.Tryd.func12 trivial trivial 0 0 zC zC
def zt.te:TEs:=[(0,.ow 1000000),(2,kI),(3,kI),(9,kB)]
def zt.tp:List wx:=[⟨1000000,.env 0,(.int .i64)⟩]
def zt.h:SH:=shN zt.te [] zt.tp [(0,7,0,1),(1,15,0,1),(2,7,0,1),(3,7,0,1)]
def zt.hl:SH:=shN zt.te [] zt.tp [(1,7,0,1)]
def zt.L1 (F:Nat) (R:Type) (K:KK R) (n:Nat) (x:(Unit×Int×Int×Unit)×(Unit)×((List Int)×Unit)):Option R :=
 zt.l1 F (fun i j t9 s=>K (.exit 0) (yO (zt.h 1) (((),i,j,t9,()),(),(s,())))) n x.1.2.1 x.1.2.2.1 x.2.2.1
def zt.X (m:Int) (F:Nat):FX TI (G m) Sg:={hn:={MU:=fun s=>lk false s [(0,true)],na:=1},N:=28,H:=zt.h,HL:=zt.hl,L:=mkL zt.hl [⟨1,fun x R K=>zt.L1 F R K F x⟩]}
theorem zt.ok (m:Int) (F:Nat):OKP m 31 zt.sg (zt.sp F) :=
 okp (zt.X m F) Go.Proofs.Tryd.func31 trivial trivial 1 0 (yT (FX.loopk 1 F (zt.L1 F)) zC) zC
def zk.te:TEs:=[kL 0,(5,kI),(6,.b (.int .i64)),(7,kI),(8,kI),(9,kB)]
def zk.tb:TEs:=[(0,.go (.pair zI (.pair (.sl (.int .i64)) (.pair zg (.pair zD (.sl .fnb))))) [(9,1009),(10,1010),(11,1011),(12,1012)])]
def zk.tp:List wx:=[⟨1009,.cell 0 9,(.int .i64)⟩,⟨1010,.cell 0 10,zg⟩,⟨1011,.cell 0 11,(.sl zy)⟩,⟨1012,.cell 0 12,zK⟩]
def zk.h:SH:=shN zk.te zk.tb zk.tp [(0,29,1,15),(1,61,1,15),(2,31,1,15),(3,29,1,15),(4,29,1,15)]
def zk.hl:SH:=shN zk.te zk.tb zk.tp [(1,29,1,15)]
def zk.L1 (mz:Nat) (F:Nat) (R:Type) (K:KK R) (n:Nat) (x:(Unit×(List Int)×Int×Int×Unit)×((zI.T×(List Int)×zg.T×zD.T×List Nat)×Unit)×((List Int)×(List zg.T)×(List (List zy.T))×(List zK.T)×Unit)):Option R :=
 zk.l1 (za.it F mz) F (fun t6 t7 t8 t9 m m_9 m_10 m_11 m_12=>K (.exit 0) (yO (zk.h 1) (((),t6,t7,t8,t9,()),(m,()),(m_9,m_10,m_11,m_12,())))) n x.1.2.1 x.1.2.2.1 x.1.2.2.2.1 x.2.1.1 x.2.2.1 x.2.2.2.1 x.2.2.2.2.1 x.2.2.2.2.2.1
def zk.X (m:Int) (mz:Nat) (F:Nat):FX TI (G m) Sg:={hn:={na:=2,me:=some 0},lv:=[⟨14,za.itp F mz⟩],N:=16,H:=zk.h,HL:=zk.hl,L:=mkL zk.hl [⟨1,fun x R K=>zk.L1 mz F R K F x⟩]}
theorem zk.ok (m:Int) (F mz:Nat) (hme:OKP m 14 za.sg (za.itp F mz)):OKP m 43 zk.sg (zk.sp (za.it F mz) F) :=
 okp (zk.X m mz F) Go.Proofs.Tryd.func43 ⟨hme,trivial⟩ trivial 1 0 (yT (FX.loopk 1 F (zk.L1 mz F)) zC) zC
def zp.te:TEs:=[(0,.b zy),(1,.b zy),(4,kB),(5,kI),(10,kB),(12,kI),(13,kI),(14,kB),(24,kB)]
def zp.h:SH:=shN zp.te [] [] [(0,3,0,0),(1,19,0,0),(2,4,0,0),(3,99,0,0),(4,227,0,0),(5,107,0,0),(6,355,0,0),(7,4,0,0),(8,99,0,0),(9,4,0,0)]
def zp.hl:SH:=shN zp.te [] [] [(4,99,0,0)]
def zp.L4 (F:Nat) (R:Type) (K:KK R) (n:Nat) (x:((List zy.T)×(List zy.T)×Int×Int×Unit)×(Unit)×(Unit)):Option R :=
 zp.l4 F (fun r4=>K .ret (yO (zp.h 7) ((r4,()),(),()))) (fun s1 s2 t12 t13 t14=>K (.exit 0) (yO (zp.h 4) ((s1,s2,t12,t13,t14,()),(),()))) n x.1.1 x.1.2.1 x.1.2.2.1 x.1.2.2.2.1
def zp.X (m:Int) (F:Nat):FX TI (G m) Sg:={hn:={na:=2},N:=26,H:=zp.h,HL:=zp.hl,L:=mkL zp.hl [⟨4,fun x R K=>zp.L4 F R K F x⟩]}
theorem zp.ok (m:Int) (F:Nat):OKP m 73 zp.sg (zp.sp F) :=
 okp (zp.X m F) Go.Proofs.Tryd.func73 trivial trivial 1 0 (yT (FX.loopk 4 F (zp.L4 F)) zC) zC
def yf.te:TEs:=[(0,.b zy),(1,.p (.bsl zy)),(3,kB)]
def yf.h:SH:=shN yf.te [] [] [(0,3,0,0),(1,4,0,0)]
def yf.X (m:Int) (F:Nat):FX TI (G m) Sg:={hn:={na:=2},lv:=[⟨73,zp.sp F⟩],N:=7,H:=yf.h}
theorem yf.ok (m:Int) (F:Nat):OKP m 72 yf.sg (yf.sp F) :=
 okp (yf.X m F) Go.Proofs.Tryd.func72 ⟨zp.ok m F,trivial⟩ trivial 0 0 zC zC
def zd.te:TEs:=[(0,.b (.sl zy)),(1,.cl (.bsl zy)),(4,kI),(5,kI),(7,kI),(8,kI),(9,kB),(16,kB)]
def zd.h:SH:=shN zd.te [] [] [(0,3,0,0),(1,51,0,0),(2,115,0,0),(3,59,0,0),(4,187,0,0),(5,4,0,0),(6,51,0,0),(7,4,0,0)]
def zd.hl:SH:=shN zd.te [] [] [(2,51,0,0)]
def zd.L2 (F:Nat) (R:Type) (K:KK R) (n:Nat) (x:((List (List zy.T))×(Nat×(List zy.T))×Int×Int×Unit)×(Unit)×(Unit)):Option R :=
 zd.l2 F (fun r4=>K .ret (yO (zd.h 5) ((r4,()),(),()))) (fun s f t7 t8 t9=>K (.exit 0) (yO (zd.h 2) ((s,f,t7,t8,t9,()),(),()))) n x.1.1 x.1.2.1 x.1.2.2.1 x.1.2.2.2.1
def zd.X (m:Int) (F:Nat):FX TI (G m) Sg:={hn:={DS:=fun d=>lk none d [(16,some zd.ds16)],na:=2},ld:=[⟨16,zd.d16 F⟩],N:=19,H:=zd.h,HL:=zd.hl,L:=mkL zd.hl [⟨2,fun x R K=>zd.L2 F R K F x⟩]}
theorem zd.ok (m:Int) (F:Nat):OKP m 74 zd.sg (zd.sp F) :=
 okp (zd.X m F) Go.Proofs.Tryd.func74 trivial ⟨YI ⟨⟨72,by kernel_rfl,yf.ok m F⟩,trivial⟩,trivial⟩ 1 0 (yT (FX.loopk 2 F (zd.L2 F)) zC) zC
theorem yK.lay:Go.Proofs.SlLaysE0.n41 Go.Proofs.Tryd.prog ⟨fun | 41=>75 | n=>n,fun | 22=>41 | 23=>43 | 4=>4 | n=>n,fun n=>n⟩:={mixed:=mixed,f41:=⟨Go.Proofs.Tryd.f75.name,by decide,Go.Proofs.Tryd.func75.trans (congrArg some (by kernel_rfl))⟩,t4:=Go.Proofs.Tryd.underlying4,a4:=Go.Proofs.Tryd.isAgg4,z4:=Go.Proofs.Tryd.sizeOf4,v4:=Go.Proofs.Tryd.zeroValue4,t22:=Go.Proofs.Tryd.underlying41,a22:=Go.Proofs.Tryd.isAgg41,z22:=Go.Proofs.Tryd.sizeOf41,v22:=Go.Proofs.Tryd.zeroValue41}
theorem yK.ok (m:Int) (F:Nat):OK Go.Proofs.Tryd.prog (G m) 75 yK.sg (yK.sp F):=Sa rfl Go.Proofs.Tryd.func75 (by kernel_rfl) (tsOK 41) (by kernel_rfl) yK.lay rfl rfl
def zU.te:TEs:=[kL 0,kL 3,(3,.p (.bsl zy)),(4,kI),(5,.cl (.bsl zy)),(6,kI),(16,kB)]
def zU.tb:TEs:=[(0,.go (.pair zI (.pair (.sl (.int .i64)) (.pair zg (.pair zD (.sl .fnb))))) [(9,1009),(10,1010),(11,1011),(12,1012)]),(3,.c (.bsl zy))]
def zU.tp:List wx:=[⟨1009,.cell 0 9,(.int .i64)⟩,⟨1010,.cell 0 10,zg⟩,⟨1011,.cell 0 11,(.sl zy)⟩,⟨1012,.cell 0 12,zK⟩]
def zU.h:SH:=shN zU.te zU.tb zU.tp [(0,3,3,15),(1,21,1,15),(2,37,1,15),(3,101,1,15),(4,8,1,15),(5,1,1,15),(6,8,1,15)]
def zU.X (m:Int) (F:Nat):FX TI (G m) Sg:={hn:={CT:=fun d=>lk .unit d [(7,(.bsl zy))],na:=2,me:=some 0},lv:=[⟨74,zd.sp F⟩,⟨75,yK.sp F⟩],N:=38,H:=zU.h}
theorem zU.ok (m:Int) (F:Nat):OKP m 44 zU.sg (zU.sp F) :=
 okp (zU.X m F) Go.Proofs.Tryd.func44 ⟨zd.ok m F,yK.ok m F,trivial⟩ trivial 0 0 zC zC
def zr.te:TEs:=[]
def zr.tb:TEs:=[(0,.go (.pair zI (.pair (.sl (.int .i64)) (.pair zg (.pair zD (.sl .fnb))))) [(9,1009),(10,1010),(11,1011),(12,1012)])]
def zr.tp:List wx:=[⟨1009,.cell 0 9,(.int .i64)⟩,⟨1010,.cell 0 10,zg⟩,⟨1011,.cell 0 11,(.sl zy)⟩,⟨1012,.cell 0 12,zK⟩]
def zr.h:SH:=shN zr.te zr.tb zr.tp [(0,0,1,15)]
def zr.X (m:Int) (F:Nat):FX TI (G m) Sg:={hn:={na:=3,me:=some 0},N:=20,H:=zr.h}
theorem zr.ok (m:Int) (F:Nat):OKP m 41 zr.sg (zr.sp F) :=
 okp (zr.X m F) Go.Proofs.Tryd.func41 trivial trivial 0 0 zC zC
def zX.te:TEs:=[kL 0,(2,.b (.int .i64)),kL 4,(6,kI),(12,kB)]
def zX.tb:TEs:=[(0,.go (.pair zI (.pair (.sl (.int .i64)) (.pair zg (.pair zD (.sl .fnb))))) [(9,1009),(10,1010),(11,1011),(12,1012)]),(4,.g zo)]
def zX.tp:List wx:=[⟨1009,.cell 0 9,(.int .i64)⟩,⟨1010,.cell 0 10,zg⟩,⟨1011,.cell 0 11,(.sl zy)⟩,⟨1012,.cell 0 12,zK⟩]
def zX.h:SH:=shN zX.te zX.tb zX.tp [(0,7,3,15),(1,5,3,15),(2,13,3,15),(3,29,3,15),(4,13,3,15),(5,0,1,15)]
def zX.X (m:Int) (mz:Nat) (F:Nat):FX TI (G m) Sg:={hn:={na:=3,me:=some 0},lv:=[⟨43,zk.sp (za.it F mz) F⟩,⟨44,zU.sp F⟩,⟨41,zr.sp F⟩],N:=20,H:=zX.h}
theorem zX.ok (m:Int) (F mz:Nat) (hme:OKP m 14 za.sg (za.itp F mz)):OKP m 26 zX.sg (zX.sp (za.it F mz) F) :=
 okp (zX.X m mz F) Go.Proofs.Tryd.func26 ⟨(zk.ok m F mz hme),zU.ok m F,zr.ok m F,trivial⟩ trivial 0 0 zC zC
def zn.te:TEs:=[(0,.b zg),kL 3,(4,kI),(5,kI),(7,kI),(8,kI),(9,kB),(16,kB)]
def zn.tb:TEs:=[(3,.g zg)]
def zn.h:SH:=shN zn.te zn.tb [] [(0,3,1,0),(1,51,1,0),(2,115,1,0),(3,59,1,0),(4,187,1,0),(5,4,0,0),(6,51,1,0),(7,4,0,0)]
def zn.hl:SH:=shN zn.te zn.tb [] [(2,51,1,0)]
def zn.L2 (F:Nat) (R:Type) (K:KK R) (n:Nat) (x:((List zg.T)×Unit×Int×Int×Unit)×(zg.T×Unit)×(Unit)):Option R :=
 zn.l2 F (fun r4=>K .ret (yO (zn.h 5) ((r4,()),(),()))) (fun s t7 t8 t9 v=>K (.exit 0) (yO (zn.h 2) ((s,(),t7,t8,t9,()),(v,()),()))) n x.1.1 x.1.2.2.1 x.1.2.2.2.1 x.2.1.1
def zn.X (m:Int) (F:Nat):FX TI (G m) Sg:={hn:={na:=2},N:=19,H:=zn.h,HL:=zn.hl,L:=mkL zn.hl [⟨2,fun x R K=>zn.L2 F R K F x⟩]}
theorem zn.ok (m:Int) (F:Nat):OKP m 71 zn.sg (zn.sp F) :=
 okp (zn.X m F) Go.Proofs.Tryd.func71 trivial trivial 1 0 (yT (FX.loopk 2 F (zn.L2 F)) zC) zC
def zA.te:TEs:=[kL 0,kL 3,(4,kI),(5,kI),(14,kB)]
def zA.tb:TEs:=[(0,.go (.pair zI (.pair (.sl (.int .i64)) (.pair zg (.pair zD (.sl .fnb))))) [(9,1009),(10,1010),(11,1011),(12,1012)]),(3,.g zg)]
def zA.tp:List wx:=[⟨1009,.cell 0 9,(.int .i64)⟩,⟨1010,.cell 0 10,zg⟩,⟨1011,.cell 0 11,(.sl zy)⟩,⟨1012,.cell 0 12,zK⟩]
def zA.h:SH:=shN zA.te zA.tb zA.tp [(0,3,3,15),(1,11,3,15),(2,27,3,15),(3,4,1,15),(4,1,1,15),(5,4,1,15)]
def zA.X (m:Int) (F:Nat):FX TI (G m) Sg:={hn:={na:=2,me:=some 0},lv:=[⟨71,zn.sp F⟩],N:=35,H:=zA.h}
theorem zA.ok (m:Int) (F:Nat):OKP m 42 zA.sg (zA.sp F) :=
 okp (zA.X m F) Go.Proofs.Tryd.func42 ⟨zn.ok m F,trivial⟩ trivial 0 0 zC zC
def yp.te:TEs:=[kL 0,(2,.b (.int .i64)),kL 4,(6,kI),(12,kB)]
def yp.tb:TEs:=[(0,.go (.pair zI (.pair (.sl (.int .i64)) (.pair zg (.pair zD (.sl .fnb))))) [(9,1009),(10,1010),(11,1011),(12,1012)]),(4,.g zo)]
def yp.tp:List wx:=[⟨1009,.cell 0 9,(.int .i64)⟩,⟨1010,.cell 0 10,zg⟩,⟨1011,.cell 0 11,(.sl zy)⟩,⟨1012,.cell 0 12,zK⟩]
def yp.h:SH:=shN yp.te yp.tb yp.tp [(0,7,3,15),(1,5,3,15),(2,13,3,15),(3,29,3,15),(4,13,3,15),(5,0,1,15)]
def yp.X (m:Int) (mz:Nat) (F:Nat):FX TI (G m) Sg:={hn:={na:=3,me:=some 0},lv:=[⟨43,zk.sp (za.it F mz) F⟩,⟨34,yt.sp F⟩,⟨42,zA.sp F⟩,⟨41,zr.sp F⟩],N:=21,H:=yp.h}
theorem yp.ok (m:Int) (F mz:Nat) (hme:OKP m 14 za.sg (za.itp F mz)):OKP m 25 yp.sg (yp.sp (za.it F mz) F) :=
 okp (yp.X m mz F) Go.Proofs.Tryd.func25 ⟨(zk.ok m F mz hme),yt.ok m F,zA.ok m F,zr.ok m F,trivial⟩ trivial 0 0 zC zC
def ye.te:TEs:=[kL 0,kL 4,kL 6]
def ye.tb:TEs:=[(0,.go (.pair zI (.pair (.sl (.int .i64)) (.pair zg (.pair zD (.sl .fnb))))) [(9,1009),(10,1010),(11,1011),(12,1012)]),(4,.g zo),(6,.g zg)]
def ye.tp:List wx:=[⟨1009,.cell 0 9,(.int .i64)⟩,⟨1010,.cell 0 10,zg⟩,⟨1011,.cell 0 11,(.sl zy)⟩,⟨1012,.cell 0 12,zK⟩]
def ye.h:SH:=shN ye.te ye.tb ye.tp [(0,3,3,15),(1,5,5,15),(2,0,1,15)]
def ye.X (m:Int) (F:Nat):FX TI (G m) Sg:={hn:={na:=3,me:=some 0},lv:=[⟨34,yt.sp F⟩,⟨35,yu.sp F⟩,⟨42,zA.sp F⟩,⟨41,zr.sp F⟩],N:=24,H:=ye.h}
theorem ye.ok (m:Int) (F:Nat):OKP m 21 ye.sg (ye.sp F) :=
 okp (ye.X m F) Go.Proofs.Tryd.func21 ⟨yt.ok m F,yu.ok m F,zA.ok m F,zr.ok m F,trivial⟩ trivial 0 0 zC zC
def z6.te:TEs:=[kL 0,kL 4]
def z6.tb:TEs:=[(0,.go (.pair zI (.pair (.sl (.int .i64)) (.pair zg (.pair zD (.sl .fnb))))) [(9,1009),(10,1010),(11,1011),(12,1012)]),(4,.g zo)]
def z6.tp:List wx:=[⟨1009,.cell 0 9,(.int .i64)⟩,⟨1010,.cell 0 10,zg⟩,⟨1011,.cell 0 11,(.sl zy)⟩,⟨1012,.cell 0 12,zK⟩]
def z6.h:SH:=shN z6.te z6.tb z6.tp [(0,3,3,15),(1,0,1,15)]
def z6.X (m:Int) (F:Nat):FX TI (G m) Sg:={hn:={na:=3,me:=some 0},lv:=[⟨34,yt.sp F⟩,⟨42,zA.sp F⟩,⟨41,zr.sp F⟩],N:=13,H:=z6.h}
theorem z6.ok (m:Int) (F:Nat):OKP m 20 z6.sg (z6.sp F) :=
 okp (z6.X m F) Go.Proofs.Tryd.func20 ⟨yt.ok m F,zA.ok m F,zr.ok m F,trivial⟩ trivial 0 0 zC zC
def yv.te:TEs:=[kL 0,(2,.b (.int .i64)),kL 4]
def yv.tb:TEs:=[(0,.go (.pair zI (.pair (.sl (.int .i64)) (.pair zg (.pair zD (.sl .fnb))))) [(9,1009),(10,1010),(11,1011),(12,1012)]),(4,.g zo)]
def yv.tp:List wx:=[⟨1009,.cell 0 9,(.int .i64)⟩,⟨1010,.cell 0 10,zg⟩,⟨1011,.cell 0 11,(.sl zy)⟩,⟨1012,.cell 0 12,zK⟩]
def yv.h:SH:=shN yv.te yv.tb yv.tp [(0,7,3,15),(1,5,3,15),(2,0,1,15)]
def yv.X (m:Int) (mz:Nat) (F:Nat):FX TI (G m) Sg:={hn:={na:=3,me:=some 0},lv:=[⟨43,zk.sp (za.it F mz) F⟩,⟨41,zr.sp F⟩],N:=13,H:=yv.h}
theorem yv.ok (m:Int) (F mz:Nat) (hme:OKP m 14 za.sg (za.itp F mz)):OKP m 27 yv.sg (yv.sp (za.it F mz) F) :=
 okp (yv.X m mz F) Go.Proofs.Tryd.func27 ⟨(zk.ok m F mz hme),zr.ok m F,trivial⟩ trivial 0 0 zC zC
def zM.te:TEs:=[kL 0,kL 4,(6,kI),(9,kB)]
def zM.tb:TEs:=[(0,.go (.pair zI (.pair (.sl (.int .i64)) (.pair zg (.pair zD (.sl .fnb))))) [(9,1009),(10,1010),(11,1011),(12,1012)]),(4,.g zo)]
def zM.tp:List wx:=[⟨1009,.cell 0 9,(.int .i64)⟩,⟨1010,.cell 0 10,zg⟩,⟨1011,.cell 0 11,(.sl zy)⟩,⟨1012,.cell 0 12,zK⟩]
def zM.h:SH:=shN zM.te zM.tb zM.tp [(0,3,3,15),(1,7,3,15),(2,15,3,15),(3,7,3,15),(4,0,1,15)]
def zM.X (m:Int) (F:Nat):FX TI (G m) Sg:={hn:={na:=3,me:=some 0},lv:=[⟨41,zr.sp F⟩],N:=15,H:=zM.h}
theorem zM.ok (m:Int) (F:Nat):OKP m 22 zM.sg (zM.sp F) :=
 okp (zM.X m F) Go.Proofs.Tryd.func22 ⟨zr.ok m F,trivial⟩ trivial 0 0 zC zC
def zb.te:TEs:=[kL 0,(2,.b (.int .i64)),kL 4,(6,kI),(8,kI),(11,kB),(18,.b (.int .i64)),(19,kI),(20,kI),(21,kB)]
def zb.tb:TEs:=[(0,.go (.pair zI (.pair (.sl (.int .i64)) (.pair zg (.pair zD (.sl .fnb))))) [(9,1009),(10,1010),(11,1011),(12,1012)]),(4,.g zo)]
def zb.tp:List wx:=[⟨1009,.cell 0 9,(.int .i64)⟩,⟨1010,.cell 0 10,zg⟩,⟨1011,.cell 0 11,(.sl zy)⟩,⟨1012,.cell 0 12,zK⟩]
def zb.h:SH:=shN zb.te zb.tb zb.tp [(0,7,3,15),(1,15,3,15),(2,43,1,15),(3,11,1,15),(4,11,1,15),(5,457,1,15),(6,969,1,15),(7,473,1,15),(8,457,1,15),(9,457,1,15),(10,457,1,15)]
def zb.hl:SH:=shN zb.te zb.tb zb.tp [(6,457,1,15)]
def zb.hj:Nat->Option Shape:=shO zb.te zb.tb zb.tp [(4,11,1,15)]
def zb.L6 (mz:Nat) (F:Nat) (R:Type) (K:KK R) (n:Nat) (x:(Unit×Int×(List Int)×Int×Int×Unit)×((zI.T×(List Int)×zg.T×zD.T×List Nat)×Unit)×((List Int)×(List zg.T)×(List (List zy.T))×(List zK.T)×Unit)):Option R :=
 zb.l6 (za.it F mz) F (fun op t18 t19 t20 t21 m m_9 m_10 m_11 m_12=>K (.exit 0) (yO (zb.h 6) (((),op,t18,t19,t20,t21,()),(m,()),(m_9,m_10,m_11,m_12,())))) n x.1.2.1 x.1.2.2.1 x.1.2.2.2.1 x.1.2.2.2.2.1 x.2.1.1 x.2.2.1 x.2.2.2.1 x.2.2.2.2.1 x.2.2.2.2.2.1
def zb.J4 (mz:Nat) (F:Nat) (x:(Unit×(List Int)×Int×Unit)×((zI.T×(List Int)×zg.T×zD.T×List Nat)×Unit)×((List Int)×(List zg.T)×(List (List zy.T))×(List zK.T)×Unit)) (R:Type) (K:KK R):Option R :=
 zb.j4 (za.it F mz) F (fun op t18 t19 t20 t21 m m_9 m_10 m_11 m_12=>K .normal (yO (zb.h 6) (((),op,t18,t19,t20,t21,()),(m,()),(m_9,m_10,m_11,m_12,())))) x.1.2.1 x.1.2.2.1 x.2.1.1 x.2.2.1 x.2.2.2.1 x.2.2.2.2.1 x.2.2.2.2.2.1
def zb.X (m:Int) (mz:Nat) (F:Nat):FX TI (G m) Sg:={hn:={na:=3,me:=some 0},lv:=[⟨14,za.itp F mz⟩,⟨41,zr.sp F⟩],N:=31,H:=zb.h,HL:=zb.hl,HJ:=zb.hj,L:=mkL zb.hl [⟨6,fun x R K=>zb.L6 mz F R K F x⟩],J:=mkJ zb.hj [⟨4,zb.J4 mz F⟩]}
theorem zb.ok (m:Int) (F mz:Nat) (hme:OKP m 14 za.sg (za.itp F mz)):OKP m 24 zb.sg (zb.sp (za.it F mz) F) :=
 okp (zb.X m mz F) Go.Proofs.Tryd.func24 ⟨hme,zr.ok m F,trivial⟩ trivial 1 1 (yT (FX.loopk 6 F (zb.L6 mz F)) zC) (yT (FX.cutk 4) zC)
def zW.te:TEs:=[kL 0,(2,.b (.int .i64)),kL 4]
def zW.tb:TEs:=[(0,.go (.pair zI (.pair (.sl (.int .i64)) (.pair zg (.pair zD (.sl .fnb))))) [(9,1009),(10,1010),(11,1011),(12,1012)]),(4,.g zo)]
def zW.tp:List wx:=[⟨1009,.cell 0 9,(.int .i64)⟩,⟨1010,.cell 0 10,zg⟩,⟨1011,.cell 0 11,(.sl zy)⟩,⟨1012,.cell 0 12,zK⟩]
def zW.h:SH:=shN zW.te zW.tb zW.tp [(0,7,3,15),(1,5,3,15),(2,0,1,15)]
def zW.X (m:Int) (mz:Nat) (F:Nat):FX TI (G m) Sg:={hn:={na:=3,me:=some 0},lv:=[⟨43,zk.sp (za.it F mz) F⟩,⟨41,zr.sp F⟩],N:=16,H:=zW.h}
theorem zW.ok (m:Int) (F mz:Nat) (hme:OKP m 14 za.sg (za.itp F mz)):OKP m 23 zW.sg (zW.sp (za.it F mz) F) :=
 okp (zW.X m mz F) Go.Proofs.Tryd.func23 ⟨(zk.ok m F mz hme),zr.ok m F,trivial⟩ trivial 0 0 zC zC
def yj.te:TEs:=[kL 0,(2,.b (.int .i64)),kL 4,(6,kI),(7,kI)]
def yj.tb:TEs:=[(0,.go (.pair zI (.pair (.sl (.int .i64)) (.pair zg (.pair zD (.sl .fnb))))) [(9,1009),(10,1010),(11,1011),(12,1012)]),(4,.g zo)]
def yj.tp:List wx:=[⟨1009,.cell 0 9,(.int .i64)⟩,⟨1010,.cell 0 10,zg⟩,⟨1011,.cell 0 11,(.sl zy)⟩,⟨1012,.cell 0 12,zK⟩]
def yj.h:SH:=shN yj.te yj.tb yj.tp [(0,7,3,15),(1,7,3,15),(2,15,3,15),(3,11,1,15),(4,11,1,15),(5,27,1,15),(6,27,1,15),(7,25,1,15),(8,17,1,15),(9,0,1,15)]
def yj.X (m:Int) (mz:Nat) (F:Nat):FX TI (G m) Sg:={hn:={na:=3,me:=some 0},lv:=[⟨14,za.itp F mz⟩,⟨34,yt.sp F⟩,⟨42,zA.sp F⟩,⟨41,zr.sp F⟩],N:=75,H:=yj.h}
theorem yj.ok (m:Int) (F mz:Nat) (hme:OKP m 14 za.sg (za.itp F mz)):OKP m 28 yj.sg (yj.sp (za.it F mz) F) :=
 okp (yj.X m mz F) Go.Proofs.Tryd.func28 ⟨hme,yt.ok m F,zA.ok m F,zr.ok m F,trivial⟩ trivial 0 0 zC zC
def za.te:TEs:=[kL 0,(1,kI),(4,.c (.sl (.int .i64))),(4,.ow 4),(5,kI),kL 6,(17,kB)]
def za.tb:TEs:=[(0,.go (.pair zI (.pair (.sl (.int .i64)) (.pair zg (.pair zD (.sl .fnb))))) [(9,1009),(10,1010),(11,1011),(12,1012)]),(6,.g zo)]
def za.tp:List wx:=[⟨4,.env 4,(.int .i64)⟩,⟨1009,.cell 0 9,(.int .i64)⟩,⟨1010,.cell 0 10,zg⟩,⟨1011,.cell 0 11,(.sl zy)⟩,⟨1012,.cell 0 12,zK⟩]
def za.h:SH:=shN za.te za.tb za.tp [(0,11,1,31),(1,27,1,31),(2,91,1,31),(3,27,1,31),(4,27,1,31),(5,7,1,30),(6,37,3,30),(7,0,1,30)]
def za.hl:SH:=shN za.te za.tb za.tp [(2,27,1,31)]
def za.L2 (mz:Nat) (F:Nat) (R:Type) (K:KK R) (n:Nat) (x:(Unit×Int×Unit×Int×Unit)×((zI.T×(List Int)×zg.T×zD.T×List Nat)×Unit)×((List Int)×(List Int)×(List zg.T)×(List (List zy.T))×(List zK.T)×Unit)):Option R :=
 za.l2 (za.it F mz) F (fun i at_ t17 m kids m_9 m_10 m_11 m_12=>K (.exit 0) (yO (za.h 2) (((),i,(),at_,t17,()),(m,()),(kids,m_9,m_10,m_11,m_12,())))) n x.1.2.1 x.1.2.2.2.1 x.2.1.1 x.2.2.1 x.2.2.2.1 x.2.2.2.2.1 x.2.2.2.2.2.1 x.2.2.2.2.2.2.1
def za.X (m:Int) (mz:Nat) (F:Nat):FX TI (G m) Sg:={hn:={MU:=fun s=>lk false s [(29,true)],DS:=fun d=>lk none d [(50,some za.ds50)],na:=2,fz:=fun r=>lk [] r [(5,[4])],me:=some 0},lv:=[⟨31,zt.sp F⟩],ld:=[⟨50,za.d50 (za.it F mz) F⟩],N:=51,H:=za.h,HL:=za.hl,L:=mkL za.hl [⟨2,fun x R K=>za.L2 mz F R K F x⟩]}
theorem za.ok1 (m:Int) (F mz:Nat) (hme:OKP m 14 za.sg (za.itp F mz)):OKP m 14 za.sg (za.itp F (mz+1)) :=
 okp (za.X m mz F) Go.Proofs.Tryd.func14 ⟨zt.ok m F,trivial⟩ ⟨YI ⟨⟨26,by kernel_rfl,(zX.ok m F mz hme)⟩,⟨25,by kernel_rfl,(yp.ok m F mz hme)⟩,⟨21,by kernel_rfl,ye.ok m F⟩,⟨20,by kernel_rfl,z6.ok m F⟩,⟨27,by kernel_rfl,(yv.ok m F mz hme)⟩,⟨22,by kernel_rfl,zM.ok m F⟩,⟨24,by kernel_rfl,(zb.ok m F mz hme)⟩,⟨23,by kernel_rfl,(zW.ok m F mz hme)⟩,⟨28,by kernel_rfl,(yj.ok m F mz hme)⟩,trivial⟩,trivial⟩ 1 0 (yT (FX.loopk 2 F (za.L2 mz F)) zC) zC
theorem za.ok (m:Int) (F:Nat):OKP m 14 za.sg (za.sp F):=R4 (it:=za.itp F) (fun _=>rfl) (fun n h=>za.ok1 m F n h) F
def zJ.te:TEs:=[kL 1,kL 2,(3,kI),(4,kI),kL 5,(6,kI),(7,kI),(8,.loc 25),kL 10,(18,kB),(55,.c (.sl yZ)),(56,kI),(57,kI),(58,kB)]
def zJ.tb:TEs:=[(1,.g zI),(2,.g zD),(5,.g zg),(10,.g yZ),(25,.g (.pair zI (.pair (.sl (.int .i64)) (.pair zg (.pair zD (.sl .fnb)))))),(25,.go (.pair zI (.pair (.sl (.int .i64)) (.pair zg (.pair zD (.sl .fnb))))) [(9,26009),(10,26010),(11,26011),(12,26012)])]
def zJ.tp:List wx:=[⟨26009,.cell 25 9,(.int .i64)⟩,⟨26010,.cell 25 10,zg⟩,⟨26011,.cell 25 11,(.sl zy)⟩,⟨26012,.cell 25 12,zK⟩]
def zJ.h:SH:=shN zJ.te zJ.tb zJ.tp [(0,3,3,0),(1,115,7,0),(2,627,7,0),(3,14,2,0),(4,131,35,15),(5,131,35,15),(6,131,35,15),(7,131,35,15),(8,131,35,15),(9,7299,35,15),(10,15491,35,15),(11,7555,43,15),(12,7299,35,15),(13,7299,35,15),(14,130,18,0),(15,14,18,0)]
def zJ.hl:SH:=shN zJ.te zJ.tb zJ.tp [(10,7299,35,15)]
def zJ.L10 (F:Nat) (R:Type) (K:KK R) (n:Nat) (x:(Unit×Unit×Unit×(List yZ.T)×Int×Int×Unit)×(zI.T×zD.T×(zI.T×(List Int)×zg.T×zD.T×List Nat)×Unit)×((List Int)×(List zg.T)×(List (List zy.T))×(List zK.T)×Unit)):Option R :=
 zJ.l10 F (fun t55 t56 t57 t58 p r2 m m_9 m_10 m_11 m_12=>K (.exit 0) (yO (zJ.h 10) (((),(),(),t55,t56,t57,t58,()),(p,r2,m,()),(m_9,m_10,m_11,m_12,())))) n x.1.2.2.2.1 x.1.2.2.2.2.1 x.1.2.2.2.2.2.1 x.2.1.1 x.2.1.2.1 x.2.1.2.2.1 x.2.2.1 x.2.2.2.1 x.2.2.2.2.1 x.2.2.2.2.2.1
def zJ.X (m:Int) (F:Nat):FX TI (G m) Sg:={hn:={na:=1,fz:=fun r=>lk [] r [(14,[103200,103201,103202,103203])],me:=some 25},lv:=[⟨10,yX.sp F⟩,⟨11,yQ.sp F⟩,⟨12,yd.sp F⟩,⟨13,zz.sp F⟩,⟨14,za.sp F⟩],N:=85,H:=zJ.h,HL:=zJ.hl,L:=mkL zJ.hl [⟨10,fun x R K=>zJ.L10 F R K F x⟩]}
theorem zJ.ok (m:Int) (F:Nat):OKP m 6 zJ.sg (zJ.sp F) :=
 okp (zJ.X m F) Go.Proofs.Tryd.func6 ⟨yX.ok m F,yQ.ok m F,yd.ok m F,zz.ok m F,za.ok m F,trivial⟩ trivial 1 0 (yT (FX.loopk 10 F (zJ.L10 F)) zC) zC
def yr.te:TEs:=[(0,kB),kL 1,(2,kI),(3,kI),(5,kI),(6,kI)]
def yr.tb:TEs:=[(1,.g zD)]
def yr.h:SH:=shN yr.te yr.tb [] [(1,14,1,0),(2,62,1,0),(3,1,0,0)]
def yr.X (m:Int) (F:Nat):FX TI (G m) Sg:={hn:={na:=0},lv:=[⟨9,yC.sp F⟩,⟨6,zJ.sp F⟩],N:=66,H:=yr.h}
theorem yr.ok (m:Int) (F:Nat):OKP m 5 yr.sg (yr.sp F) :=
 okp (yr.X m F) Go.Proofs.Tryd.func5 ⟨yC.ok m F,zJ.ok m F,trivial⟩ trivial 0 0 zC zC
def ze.te:TEs:=[kL 2,kL 3,(4,kB),(6,kI),(7,kB),(23,kB),(32,kB),(41,kB),(46,kB)]
def ze.tb:TEs:=[(2,.g zD),(3,.g zK)]
def ze.h:SH:=shN ze.te ze.tb [] [(0,3,3,0),(1,11,3,0),(2,27,3,0),(3,27,3,0),(4,27,3,0),(5,27,3,0),(6,27,3,0),(7,27,3,0),(8,27,3,0),(9,27,3,0),(10,27,3,0),(11,4,0,0),(12,43,3,0),(13,43,3,0),(14,4,0,0),(15,75,3,0),(16,75,3,0),(17,4,0,0),(18,138,2,0),(19,4,0,0),(20,266,2,0),(21,266,2,0),(22,266,2,0),(23,266,2,0),(24,266,2,0),(25,266,2,0),(26,258,2,0),(27,4,0,0),(28,4,0,0)]
def ze.hj:Nat->Option Shape:=shO ze.te ze.tb [] [(11,27,3,0),(14,43,3,0),(17,75,3,0)]
def ze.J17 (F:Nat) (x:(Unit×Unit×Int×Bool×Unit)×(zD.T×zK.T×Unit)×(Unit)) (R:Type) (K:KK R):Option R :=
 ze.j17 F (fun r4=>K .ret (yO (ze.h 17) ((r4,()),(),()))) (fun r4=>K .ret (yO (ze.h 19) ((r4,()),(),()))) (fun r4=>K .ret (yO (ze.h 27) ((r4,()),(),()))) (fun t6 t46 c=>K .normal (yO (ze.h 20) (((),t6,t46,()),(c,()),()))) (fun t6 t46 c=>K .normal (yO (ze.h 21) (((),t6,t46,()),(c,()),()))) (fun t6 t46 c=>K .normal (yO (ze.h 22) (((),t6,t46,()),(c,()),()))) (fun t6 t46 c=>K .normal (yO (ze.h 23) (((),t6,t46,()),(c,()),()))) (fun t6 t46 c=>K .normal (yO (ze.h 24) (((),t6,t46,()),(c,()),()))) (fun t6 t46 c=>K .normal (yO (ze.h 25) (((),t6,t46,()),(c,()),()))) (fun t46 c=>K .normal (yO (ze.h 26) (((),t46,()),(c,()),()))) x.1.2.2.1 x.1.2.2.2.1 x.2.1.1 x.2.1.2.1
def ze.J14 (F:Nat) (x:(Unit×Unit×Int×Bool×Unit)×(zD.T×zK.T×Unit)×(Unit)) (R:Type) (K:KK R):Option R :=
 ze.j14 F (fun r4=>K .ret (yO (ze.h 14) ((r4,()),(),()))) (fun r4=>K .ret (yO (ze.h 17) ((r4,()),(),()))) (fun r4=>K .ret (yO (ze.h 19) ((r4,()),(),()))) (fun r4=>K .ret (yO (ze.h 27) ((r4,()),(),()))) (fun t6 t46 c=>K .normal (yO (ze.h 20) (((),t6,t46,()),(c,()),()))) (fun t6 t46 c=>K .normal (yO (ze.h 21) (((),t6,t46,()),(c,()),()))) (fun t6 t46 c=>K .normal (yO (ze.h 22) (((),t6,t46,()),(c,()),()))) (fun t6 t46 c=>K .normal (yO (ze.h 23) (((),t6,t46,()),(c,()),()))) (fun t6 t46 c=>K .normal (yO (ze.h 24) (((),t6,t46,()),(c,()),()))) (fun t6 t46 c=>K .normal (yO (ze.h 25) (((),t6,t46,()),(c,()),()))) (fun t46 c=>K .normal (yO (ze.h 26) (((),t46,()),(c,()),()))) x.1.2.2.1 x.1.2.2.2.1 x.2.1.1 x.2.1.2.1
def ze.J11 (F:Nat) (x:(Unit×Unit×Int×Bool×Unit)×(zD.T×zK.T×Unit)×(Unit)) (R:Type) (K:KK R):Option R :=
 ze.j11 F (fun r4=>K .ret (yO (ze.h 11) ((r4,()),(),()))) (fun r4=>K .ret (yO (ze.h 14) ((r4,()),(),()))) (fun r4=>K .ret (yO (ze.h 17) ((r4,()),(),()))) (fun r4=>K .ret (yO (ze.h 19) ((r4,()),(),()))) (fun r4=>K .ret (yO (ze.h 27) ((r4,()),(),()))) (fun t6 t46 c=>K .normal (yO (ze.h 20) (((),t6,t46,()),(c,()),()))) (fun t6 t46 c=>K .normal (yO (ze.h 21) (((),t6,t46,()),(c,()),()))) (fun t6 t46 c=>K .normal (yO (ze.h 22) (((),t6,t46,()),(c,()),()))) (fun t6 t46 c=>K .normal (yO (ze.h 23) (((),t6,t46,()),(c,()),()))) (fun t6 t46 c=>K .normal (yO (ze.h 24) (((),t6,t46,()),(c,()),()))) (fun t6 t46 c=>K .normal (yO (ze.h 25) (((),t6,t46,()),(c,()),()))) (fun t46 c=>K .normal (yO (ze.h 26) (((),t46,()),(c,()),()))) x.1.2.2.1 x.1.2.2.2.1 x.2.1.1 x.2.1.2.1
def ze.X (m:Int) (F:Nat):FX TI (G m) Sg:={hn:={na:=2},N:=57,H:=ze.h,HJ:=ze.hj,J:=mkJ ze.hj [⟨17,ze.J17 F⟩,⟨14,ze.J14 F⟩,⟨11,ze.J11 F⟩]}
theorem ze.ok (m:Int) (F:Nat):OKP m 7 ze.sg (ze.sp F) :=
 okp (ze.X m F) Go.Proofs.Tryd.func7 trivial trivial 0 3 zC (yT (FX.cutk 17) (yT (FX.cutk 14) (yT (FX.cutk 11) zC)))
def zi.te:TEs:=[kL 1,(2,kB),kL 3,(5,kI),(6,kI),kL 7,(9,kB),(17,kB),(26,kB),(68,kB)]
def zi.tb:TEs:=[(1,.g zI),(3,.g zD),(7,.g zK)]
def zi.h:SH:=shN zi.te zi.tb [] [(0,1,1,0),(1,65,1,0),(2,2,0,0),(3,12,2,0),(4,132,2,0),(5,2,0,0),(6,20,2,0),(7,276,2,0),(8,20,2,0),(9,52,6,0),(10,532,2,0),(11,2,0,0),(12,2,0,0)]
def zi.hl:SH:=shN zi.te zi.tb [] [(7,20,2,0)]
def zi.L7 (F:Nat) (R:Type) (K:KK R) (n:Nat) (x:(Unit×Int×Unit)×(zD.T×Unit)×(Unit)):Option R :=
 zi.l7 F (fun r2=>K .ret (yO (zi.h 11) ((r2,()),(),()))) (fun i t26 q=>K (.exit 0) (yO (zi.h 7) (((),i,t26,()),(q,()),()))) n x.1.2.1 x.2.1.1
def zi.X (m:Int) (F:Nat):FX TI (G m) Sg:={hn:={na:=1},lv:=[⟨5,yr.sp F⟩,⟨6,zJ.sp F⟩,⟨7,ze.sp F⟩],N:=73,H:=zi.h,HL:=zi.hl,L:=mkL zi.hl [⟨7,fun x R K=>zi.L7 F R K F x⟩]}
theorem zi.ok (m:Int) (F:Nat):OKP m 3 zi.sg (zi.sp F) :=
 okp (zi.X m F) Go.Proofs.Tryd.func3 ⟨yr.ok m F,zJ.ok m F,ze.ok m F,trivial⟩ trivial 1 0 (yT (FX.loopk 7 F (zi.L7 F)) zC) zC
end Go.VS
