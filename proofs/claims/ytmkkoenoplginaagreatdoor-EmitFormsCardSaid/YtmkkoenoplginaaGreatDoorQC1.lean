import Derived.Test.YtmkkoenoplginaaGreatDoorQT
set_option linter.unusedVariables false
set_option linter.unusedSimpArgs false
set_option linter.unusedSectionVars false
set_option linter.unusedVariables false
set_option maxRecDepth 100000
namespace Go.VS
open Go
def yI.te:TEs:=[(0,.c (.sl zr)),kL 2]
def yI.tb:TEs:=[(2,.g zI)]
def yI.h:SH:=shN yI.te yI.tb [] [(0,3,1,0),(1,2,1,0)]
def yI.X (m:Int) (F:Nat):FX TI (G m) Sg:={hn:={na:=1},N:=7,H:=yI.h}
theorem yI.ok (m:Int) (F:Nat):OKP m 10 yI.sg (yI.sp F) :=
 okp (yI.X m F) Go.Proofs.Tryz.func10 trivial trivial 0 0 zC zC
def yQ.te:TEs:=[(0,.c (.int .u8)),(2,kB)]
def yQ.h:SH:=shN yQ.te [] [] [(0,1,0,0),(1,2,0,0)]
def yQ.X (m:Int) (F:Nat):FX TI (G m) Sg:={hn:={na:=1},N:=9,H:=yQ.h}
theorem yQ.ok (m:Int) (F:Nat):OKP m 84 yQ.sg (yQ.sp F) :=
 okp (yQ.X m F) Go.Proofs.Tryz.func84 trivial trivial 0 0 zC zC
def xu.te:TEs:=[(0,.c (.int .u8)),(2,kB)]
def xu.h:SH:=shN xu.te [] [] [(0,1,0,0),(1,2,0,0)]
def xu.X (m:Int) (F:Nat):FX TI (G m) Sg:={hn:={na:=1},N:=9,H:=xu.h}
theorem xu.ok (m:Int) (F:Nat):OKP m 94 xu.sg (xu.sp F) :=
 okp (xu.X m F) Go.Proofs.Tryz.func94 trivial trivial 0 0 zC zC
def xl.te:TEs:=[(0,.c (.int .u8)),(2,kB)]
def xl.h:SH:=shN xl.te [] [] [(0,1,0,0),(1,2,0,0)]
def xl.X (m:Int) (F:Nat):FX TI (G m) Sg:={hn:={na:=1},lv:=[⟨84,yQ.sp F⟩,⟨94,xu.sp F⟩],N:=13,H:=xl.h}
theorem xl.ok (m:Int) (F:Nat):OKP m 86 xl.sg (xl.sp F) :=
 okp (xl.X m F) Go.Proofs.Tryz.func86 ⟨yQ.ok m F,xu.ok m F,trivial⟩ trivial 0 0 zC zC
def yf.te:TEs:=[(0,.c .str),(1,.c .fn),(4,kI),(5,kI),(16,kB)]
def yf.h:SH:=shN yf.te [] [] [(0,3,0,0),(1,11,0,0),(2,27,0,0),(3,11,0,0),(4,4,0,0)]
def yf.hl:SH:=shN yf.te [] [] [(2,11,0,0)]
def yf.L2 (F:Nat) (R:Type) (K:KK R) (n:Nat) (x:(ByteArray×Nat×Int×Unit)×(Unit)×(Unit)):Option R :=
 yf.l2 F (fun s of n t16=>K (.exit 0) (yW (yf.h 2) ((s,of,n,t16,()),(),()))) n x.1.1 x.1.2.1 x.1.2.2.1
def yf.X (m:Int) (F:Nat):FX TI (G m) Sg:={hn:={DS:=fun d=>lk none d [(15,some yf.ds15)],na:=2},ld:=[⟨15,yf.d15 F⟩],N:=20,H:=yf.h,HL:=yf.hl,L:=mkL yf.hl [⟨2,fun x R K=>yf.L2 F R K F x⟩]}
theorem yf.ok (m:Int) (F:Nat):OKP m 85 yf.sg (yf.sp F) :=
 okp (yf.X m F) Go.Proofs.Tryz.func85 trivial ⟨YW ⟨⟨86,by kernel_rfl,xl.ok m F⟩,⟨84,by kernel_rfl,yQ.ok m F⟩,trivial⟩,trivial⟩ 1 0 (yF (FX.loopk 2 F (yf.L2 F)) zC) zC
theorem yK.ok (m:Int) (F:Nat):OK Go.Proofs.Tryz.prog (G m) 95 yK.sg (yK.sp F):=yK.ok' F Go.Proofs.Tryz.func95 (by kernel_rfl) (g:=3) (by kernel_rfl) (fun s sub w h1 h2=>Go.Proofs.Tryz.strings_Contains s sub m w h1 h2)
def xI.te:TEs:=[(0,.c .str),(2,kB)]
def xI.h:SH:=shN xI.te [] [] [(0,1,0,0),(1,2,0,0)]
def xI.X (m:Int) (F:Nat):FX TI (G m) Sg:={hn:={na:=1},lv:=[⟨85,yf.sp F⟩,⟨95,yK.sp F⟩],N:=18,H:=xI.h}
theorem xI.ok (m:Int) (F:Nat):OKP m 87 xI.sg (xI.sp F) :=
 okp (xI.X m F) Go.Proofs.Tryz.func87 ⟨yf.ok m F,yK.ok m F,trivial⟩ trivial 0 0 zC zC
def xB.te:TEs:=[(0,.c .str),(2,kB)]
def xB.h:SH:=shN xB.te [] [] [(0,1,0,0),(1,2,0,0)]
def xB.X (m:Int) (F:Nat):FX TI (G m) Sg:={hn:={na:=1},lv:=[⟨84,yQ.sp F⟩,⟨85,yf.sp F⟩,⟨87,xI.sp F⟩],N:=27,H:=xB.h}
theorem xB.ok (m:Int) (F:Nat):OKP m 55 xB.sg (xB.sp F) :=
 okp (xB.X m F) Go.Proofs.Tryz.func55 ⟨yQ.ok m F,yf.ok m F,xI.ok m F,trivial⟩ trivial 0 0 zC zC
def y6.te:TEs:=[(1,.p xd),kL 2,(3,kB)]
def y6.tb:TEs:=[(2,.g xd)]
def y6.h:SH:=shN y6.te y6.tb [] [(0,3,1,0),(1,4,0,0)]
def y6.X (m:Int) (F:Nat):FX TI (G m) Sg:={hn:={na:=2},N:=9,H:=y6.h}
theorem y6.ok (m:Int) (F:Nat):OKP m 56 y6.sg (y6.sp F) :=
 okp (y6.X m F) Go.Proofs.Tryz.func56 trivial trivial 0 0 zC zC
def zh.te:TEs:=[(0,.b xd),(1,.cl xd),(4,kI),(5,kI),(7,kI),(8,kI),(9,kB),(16,kB)]
def zh.h:SH:=shN zh.te [] [] [(0,3,0,0),(1,51,0,0),(2,115,0,0),(3,59,0,0),(4,187,0,0),(5,4,0,0),(6,51,0,0),(7,4,0,0)]
def zh.hl:SH:=shN zh.te [] [] [(2,51,0,0)]
def zh.L2 (F:Nat) (R:Type) (K:KK R) (n:Nat) (x:((List xd.T)×(Nat×xd.T)×Int×Int×Unit)×(Unit)×(Unit)):Option R :=
 zh.l2 F (fun r4=>K .ret (yW (zh.h 5) ((r4,()),(),()))) (fun s f t7 t8 t9=>K (.exit 0) (yW (zh.h 2) ((s,f,t7,t8,t9,()),(),()))) n x.1.1 x.1.2.1 x.1.2.2.1 x.1.2.2.2.1
def zh.X (m:Int) (F:Nat):FX TI (G m) Sg:={hn:={DS:=fun d=>lk none d [(16,some zh.ds16)],na:=2},ld:=[⟨16,zh.d16 F⟩],N:=19,H:=zh.h,HL:=zh.hl,L:=mkL zh.hl [⟨2,fun x R K=>zh.L2 F R K F x⟩]}
theorem zh.ok (m:Int) (F:Nat):OKP m 88 zh.sg (zh.sp F) :=
 okp (zh.X m F) Go.Proofs.Tryz.func88 trivial ⟨YW ⟨⟨56,by kernel_rfl,y6.ok m F⟩,trivial⟩,trivial⟩ 1 0 (yF (FX.loopk 2 F (zh.L2 F)) zC) zC
def zS.te:TEs:=[(0,.b xd),(1,.cl xd),(4,kB)]
def zS.h:SH:=shN zS.te [] [] [(0,3,0,0),(1,4,0,0)]
def zS.X (m:Int) (F:Nat):FX TI (G m) Sg:={hn:={na:=2},lv:=[⟨88,zh.sp F⟩],N:=9,H:=zS.h}
theorem zS.ok (m:Int) (F:Nat):OKP m 57 zS.sg (zS.sp F) :=
 okp (zS.X m F) Go.Proofs.Tryz.func57 ⟨zh.ok m F,trivial⟩ trivial 0 0 zC zC
def zV.te:TEs:=[kL 1,(2,kI),(3,kI),kL 4,(4,.p xd),(5,.cl xd),(9,kB),(19,kB),(21,.c (.sl xd)),(22,kI),(23,kI),(24,kB),(40,kB),(48,kB),(57,kB)]
def zV.tb:TEs:=[(1,.g zI),(4,.g xd)]
def zV.h:SH:=shN zV.te zV.tb [] [(0,1,1,0),(1,65,1,0),(2,2,0,0),(3,129,1,0),(4,2,0,0),(5,1793,1,0),(6,3841,1,0),(7,1805,3,0),(8,1845,1,0),(9,5905,1,0),(10,2,0,0),(11,9985,1,0),(12,2,0,0),(13,1793,1,0),(14,16384,0,0),(15,2,0,0),(16,2,0,0)]
def zV.hl:SH:=shN zV.te zV.tb [] [(6,1793,1,0)]
def zV.L6 (F:Nat) (R:Type) (K:KK R) (n:Nat) (x:(Unit×(List xd.T)×Int×Int×Unit)×(zI.T×Unit)×(Unit)):Option R :=
 zV.l6 F (fun r2=>K .ret (yW (zV.h 10) ((r2,()),(),()))) (fun r2=>K .ret (yW (zV.h 12) ((r2,()),(),()))) (fun t21 t22 t23 t24 p=>K (.exit 0) (yW (zV.h 6) (((),t21,t22,t23,t24,()),(p,()),()))) n x.1.2.1 x.1.2.2.1 x.1.2.2.2.1 x.2.1.1
def zV.X (m:Int) (F:Nat):FX TI (G m) Sg:={hn:={CT:=fun d=>lk .unit d [(28,xd)],na:=1},lv:=[⟨55,xB.sp F⟩,⟨57,zS.sp F⟩],N:=58,H:=zV.h,HL:=zV.hl,L:=mkL zV.hl [⟨6,fun x R K=>zV.L6 F R K F x⟩]}
theorem zV.ok (m:Int) (F:Nat):OKP m 37 zV.sg (zV.sp F) :=
 okp (zV.X m F) Go.Proofs.Tryz.func37 ⟨xB.ok m F,zS.ok m F,trivial⟩ trivial 1 0 (yF (FX.loopk 6 F (zV.L6 F)) zC) zC
def yJ.te:TEs:=[kL 1,(2,kI),(3,kI),(10,kB)]
def yJ.tb:TEs:=[(1,.g zr)]
def yJ.h:SH:=shN yJ.te yJ.tb [] [(0,1,1,0),(1,5,1,0),(2,13,1,0),(3,2,0,0),(4,2,0,0)]
def yJ.X (m:Int) (F:Nat):FX TI (G m) Sg:={hn:={na:=1},N:=14,H:=yJ.h}
theorem yJ.ok (m:Int) (F:Nat):OKP m 17 yJ.sg (yJ.sp F) :=
 okp (yJ.X m F) Go.Proofs.Tryz.func17 trivial trivial 0 0 zC zC
def zH.te:TEs:=[(0,.b zo),(2,kB),(3,kI),kL 4,(19,kB),(20,.b zo),(21,kI),(22,kI),(23,kB),(54,kB)]
def zH.tb:TEs:=[(4,.g zo)]
def zH.h:SH:=shN zH.te zH.tb [] [(0,1,0,0),(1,17,0,0),(2,2,0,0),(3,225,0,0),(4,481,0,0),(5,237,1,0),(6,737,0,0),(7,2,0,0),(8,225,0,0),(9,2,0,0)]
def zH.hl:SH:=shN zH.te zH.tb [] [(4,225,0,0)]
def zH.L4 (F:Nat) (R:Type) (K:KK R) (n:Nat) (x:((List zo.T)×(List zo.T)×Int×Int×Unit)×(Unit)×(Unit)):Option R :=
 zH.l4 F (fun r2=>K .ret (yW (zH.h 7) ((r2,()),(),()))) (fun tiers t20 t21 t22 t23=>K (.exit 0) (yW (zH.h 4) ((tiers,t20,t21,t22,t23,()),(),()))) n x.1.1 x.1.2.1 x.1.2.2.1 x.1.2.2.2.1
def zH.X (m:Int) (F:Nat):FX TI (G m) Sg:={hn:={na:=1},N:=56,H:=zH.h,HL:=zH.hl,L:=mkL zH.hl [⟨4,fun x R K=>zH.L4 F R K F x⟩]}
theorem zH.ok (m:Int) (F:Nat):OKP m 58 zH.sg (zH.sp F) :=
 okp (zH.X m F) Go.Proofs.Tryz.func58 trivial trivial 1 0 (yF (FX.loopk 4 F (zH.L4 F)) zC) zC
def zR.te:TEs:=[(1,kI),(2,kI),kL 3,(6,kI),kL 7,(8,kI),(9,kB),(10,kB),(18,kB),(26,kB),(34,kB),(47,kB),(89,kB),(97,kB)]
def zR.tb:TEs:=[(3,.g zr),(7,.g yG)]
def zR.h:SH:=shN zR.te zR.tb [] [(0,7,1,0),(1,263,1,0),(2,8,0,0),(3,23,3,0),(4,55,3,0),(5,567,3,0),(6,54,3,0),(7,118,3,0),(8,1142,3,0),(9,118,3,0),(10,246,3,0),(11,2294,3,0),(12,246,3,0),(13,4116,3,0),(14,8,0,0),(15,8192,0,0),(16,8,0,0),(17,8,0,0)]
def zR.hj:Nat->Option Shape:=shO zR.te zR.tb [] [(7,54,3,0),(10,118,3,0),(13,246,3,0)]
def zR.J13 (F:Nat) (x:(Int×Unit×Unit×Int×Bool×Bool×Unit)×(zr.T×yG.T×Unit)×(Unit)) (R:Type) (K:KK R):Option R :=
 zR.j13 F (fun r6=>K .ret (yW (zR.h 14) ((r6,()),(),()))) (fun r6=>K .ret (yW (zR.h 16) ((r6,()),(),()))) (fun r6=>K .ret (yW (zR.h 17) ((r6,()),(),()))) x.1.1 x.1.2.2.2.1 x.1.2.2.2.2.1 x.1.2.2.2.2.2.1 x.2.1.1 x.2.1.2.1
def zR.J10 (F:Nat) (x:(Int×Unit×Unit×Int×Bool×Unit)×(zr.T×yG.T×Unit)×(Unit)) (R:Type) (K:KK R):Option R :=
 zR.j10 F (fun r6=>K .ret (yW (zR.h 14) ((r6,()),(),()))) (fun r6=>K .ret (yW (zR.h 16) ((r6,()),(),()))) (fun r6=>K .ret (yW (zR.h 17) ((r6,()),(),()))) x.1.1 x.1.2.2.2.1 x.1.2.2.2.2.1 x.2.1.1 x.2.1.2.1
def zR.J7 (F:Nat) (x:(Int×Unit×Unit×Int×Unit)×(zr.T×yG.T×Unit)×(Unit)) (R:Type) (K:KK R):Option R :=
 zR.j7 F (fun r6=>K .ret (yW (zR.h 14) ((r6,()),(),()))) (fun r6=>K .ret (yW (zR.h 16) ((r6,()),(),()))) (fun r6=>K .ret (yW (zR.h 17) ((r6,()),(),()))) x.1.1 x.1.2.2.2.1 x.2.1.1 x.2.1.2.1
def zR.X (m:Int) (F:Nat):FX TI (G m) Sg:={hn:={na:=3},lv:=[⟨17,yJ.sp F⟩,⟨58,zH.sp F⟩],N:=98,H:=zR.h,HJ:=zR.hj,J:=mkJ zR.hj [⟨13,zR.J13 F⟩,⟨10,zR.J10 F⟩,⟨7,zR.J7 F⟩]}
theorem zR.ok (m:Int) (F:Nat):OKP m 38 zR.sg (zR.sp F) :=
 okp (zR.X m F) Go.Proofs.Tryz.func38 ⟨yJ.ok m F,zH.ok m F,trivial⟩ trivial 0 3 zC (yF (FX.cutk 13) (yF (FX.cutk 10) (yF (FX.cutk 7) zC)))
def zJ.te:TEs:=[kL 1,(2,kI),(3,kI),(4,kI),(5,kI),(6,kI),kL 7,(8,kI),(12,kB),(17,kB),(19,.c (.sl zr)),(20,kI),(21,kI),(22,kB),(33,kB),(43,kB)]
def zJ.tb:TEs:=[(1,.g zI),(7,.g zr)]
def zJ.h:SH:=shN zJ.te zJ.tb [] [(0,1,1,0),(1,9,1,0),(2,265,1,0),(3,6,0,0),(4,513,1,0),(5,6,0,0),(6,17,1,0),(7,7185,1,0),(8,15377,1,0),(9,7281,3,0),(10,7409,3,0),(11,23793,3,0),(12,6,0,0),(13,7185,1,0),(14,7185,1,0),(15,32769,1,0),(16,6,0,0),(17,6,0,0)]
def zJ.hl:SH:=shN zJ.te zJ.tb [] [(8,7185,1,0)]
def zJ.L8 (F:Nat) (R:Type) (K:KK R) (n:Nat) (x:(Unit×Int×(List zr.T)×Int×Int×Unit)×(zI.T×Unit)×(Unit)):Option R :=
 zJ.l8 F (fun r2 r3=>K .ret (yW (zJ.h 12) ((r2,r3,()),(),()))) (fun pile t19 t20 t21 t22 p=>K (.exit 0) (yW (zJ.h 8) (((),pile,t19,t20,t21,t22,()),(p,()),()))) n x.1.2.1 x.1.2.2.1 x.1.2.2.2.1 x.1.2.2.2.2.1 x.2.1.1
def zJ.X (m:Int) (F:Nat):FX TI (G m) Sg:={hn:={na:=1},lv:=[⟨37,zV.sp F⟩,⟨38,zR.sp F⟩,⟨17,yJ.sp F⟩],N:=47,H:=zJ.h,HL:=zJ.hl,L:=mkL zJ.hl [⟨8,fun x R K=>zJ.L8 F R K F x⟩]}
theorem zJ.ok (m:Int) (F:Nat):OKP m 16 zJ.sg (zJ.sp F) :=
 okp (zJ.X m F) Go.Proofs.Tryz.func16 ⟨zV.ok m F,zR.ok m F,yJ.ok m F,trivial⟩ trivial 1 0 (yF (FX.loopk 8 F (zJ.L8 F)) zC) zC
def zA.te:TEs:=[kL 1,(2,.c (.sl (.int .i64))),(3,.c (.sl (.int .i64))),(3,.ow 3),(4,.ow 4),(5,kI),kL 6,(7,kI),(8,kI),(10,.c (.sl zr)),(11,kI),(12,kI),(13,kB),(21,kB)]
def zA.tb:TEs:=[(1,.g zI),(6,.g zr)]
def zA.tp:List wx:=[⟨3,.env 3,(.int .i64)⟩,⟨4,.env 4,(.int .i64)⟩]
def zA.h:SH:=shN zA.te zA.tb zA.tp [(0,1,1,0),(1,25,1,3),(2,3608,0,3),(3,7704,0,3),(4,3704,2,3),(5,3800,2,3),(6,3992,0,3),(7,12184,0,3),(8,3992,0,3),(9,3736,0,3),(10,3736,0,3),(11,3608,0,3),(12,3608,0,3),(13,2,0,0)]
def zA.hl:SH:=shN zA.te zA.tb zA.tp [(3,3608,0,3)]
def zA.hj:Nat->Option Shape:=shO zA.te zA.tb zA.tp [(13,4,0,0)]
def zA.L3 (F:Nat) (R:Type) (K:KK R) (n:Nat) (x:(Unit×Unit×(List zr.T)×Int×Int×Unit)×(Unit)×((List Int)×(List Int)×Unit)):Option R :=
 zA.l3 F (fun t10 t11 t12 t13 list pile=>K (.exit 0) (yW (zA.h 3) (((),(),t10,t11,t12,t13,()),(),(list,pile,())))) n x.1.2.2.1 x.1.2.2.2.1 x.1.2.2.2.2.1 x.2.2.1 x.2.2.2.1
def zA.J13 (F:Nat) (x:((List Int)×Unit)×(Unit)×(Unit)) (R:Type) (K:KK R):Option R :=
 zA.j13 F (fun r2=>K .ret (yW (zA.h 13) ((r2,()),(),()))) x.1.1
def zA.X (m:Int) (F:Nat):FX TI (G m) Sg:={hn:={MU:=fun s=>lk false s [(38,true),(42,true)],na:=1,fzJ:=fun r=>lk [] r [(13,[3])]},lv:=[⟨17,yJ.sp F⟩],N:=45,H:=zA.h,HL:=zA.hl,HJ:=zA.hj,L:=mkL zA.hl [⟨3,fun x R K=>zA.L3 F R K F x⟩],J:=mkJ zA.hj [⟨13,zA.J13 F⟩]}
theorem zA.ok (m:Int) (F:Nat):OKP m 23 zA.sg (zA.sp F) :=
 okp (zA.X m F) Go.Proofs.Tryz.func23 ⟨yJ.ok m F,trivial⟩ trivial 1 1 (yF (FX.loopk 3 F (zA.L3 F)) zC) (yF (FX.cutk 13) zC)
def yX.te:TEs:=[kL 1,(2,.c (.sl (.int .i64))),(3,kI),(5,kI),(12,kB)]
def yX.tb:TEs:=[(1,.g zI)]
def yX.h:SH:=shN yX.te yX.tb [] [(0,1,1,0),(1,9,1,0),(2,25,1,0),(3,6,0,0),(4,6,0,0)]
def yX.X (m:Int) (F:Nat):FX TI (G m) Sg:={hn:={na:=1},lv:=[⟨16,zJ.sp F⟩,⟨23,zA.sp F⟩],N:=16,H:=yX.h}
theorem yX.ok (m:Int) (F:Nat):OKP m 12 yX.sg (yX.sp F) :=
 okp (yX.X m F) Go.Proofs.Tryz.func12 ⟨zJ.ok m F,zA.ok m F,trivial⟩ trivial 0 0 zC zC
def zv.te:TEs:=[kL 1,(2,.c (.sl .bool)),(3,kI),(4,.c (.sl (.int .i64))),(5,kI),(6,kI),(7,.c (.sl .bool)),(7,.ow 7),(8,kI),kL 9,(16,kB),(22,.c (.sl zr)),(23,kI),(24,kI),(25,kB),(36,kB)]
def zv.tb:TEs:=[(1,.g zI),(9,.g zr)]
def zv.tp:List wx:=[⟨7,.env 7,.bool⟩]
def zv.h:SH:=shN zv.te zv.tb zv.tp [(0,1,1,0),(1,25,1,0),(2,1049,1,0),(3,6,0,0),(4,41,1,0),(5,169,1,1),(6,14504,0,1),(7,30888,0,1),(8,15272,2,1),(9,47528,0,1),(10,14760,0,1),(11,14504,0,1),(12,14504,0,1),(13,6,0,0)]
def zv.hl:SH:=shN zv.te zv.tb zv.tp [(7,14504,0,1)]
def zv.hj:Nat->Option Shape:=shO zv.te zv.tb zv.tp [(13,64,0,0)]
def zv.L7 (F:Nat) (R:Type) (K:KK R) (n:Nat) (x:((List Int)×Int×Unit×(List zr.T)×Int×Int×Unit)×(Unit)×((List Bool)×Unit)):Option R :=
 zv.l7 F (fun list last t22 t23 t24 t25 out=>K (.exit 0) (yW (zv.h 7) ((list,last,(),t22,t23,t24,t25,()),(),(out,())))) n x.1.1 x.1.2.1 x.1.2.2.2.1 x.1.2.2.2.2.1 x.1.2.2.2.2.2.1 x.2.2.1
def zv.J13 (F:Nat) (x:((List Bool)×Unit)×(Unit)×(Unit)) (R:Type) (K:KK R):Option R :=
 zv.j13 F (fun r2 r3=>K .ret (yW (zv.h 13) ((r2,r3,()),(),()))) x.1.1
def zv.X (m:Int) (F:Nat):FX TI (G m) Sg:={hn:={MU:=fun s=>lk false s [(20,true)],na:=1,fzJ:=fun r=>lk [] r [(13,[7])]},lv:=[⟨12,yX.sp F⟩],N:=49,H:=zv.h,HL:=zv.hl,HJ:=zv.hj,L:=mkL zv.hl [⟨7,fun x R K=>zv.L7 F R K F x⟩],J:=mkJ zv.hj [⟨13,zv.J13 F⟩]}
theorem zv.ok (m:Int) (F:Nat):OKP m 40 zv.sg (zv.sp F) :=
 okp (zv.X m F) Go.Proofs.Tryz.func40 ⟨yX.ok m F,trivial⟩ trivial 1 1 (yF (FX.loopk 7 F (zv.L7 F)) zC) (yF (FX.cutk 13) zC)
def xh.te:TEs:=[(0,kI),(2,.c .fn),(3,kI),(4,.c (.sl (.pair .fn (.int .i64))))]
def xh.h:SH:=shN xh.te [] [] [(0,1,0,0),(1,9,0,0),(2,6,0,0)]
def xh.X (m:Int) (F:Nat):FX TI (G m) Sg:={hn:={na:=1},N:=32,H:=xh.h}
theorem xh.ok (m:Int) (F:Nat):OKP m 41 xh.sg (xh.sp F) :=
 okp (xh.X m F) Go.Proofs.Tryz.func41 trivial trivial 0 0 zC zC
def zz.te:TEs:=[(1,kI),kL 2,(4,kI),(6,kI),(10,.b (.int .i64)),(11,kI),(12,kI),(13,kB),(22,kB)]
def zz.tb:TEs:=[(2,.g yq)]
def zz.h:SH:=shN zz.te zz.tb [] [(0,3,1,0),(1,115,1,0),(2,243,1,0),(3,123,1,0),(4,371,1,0),(5,4,0,0),(6,115,1,0),(7,4,0,0)]
def zz.hl:SH:=shN zz.te zz.tb [] [(2,115,1,0)]
def zz.L2 (F:Nat) (R:Type) (K:KK R) (n:Nat) (x:(Int×Unit×(List Int)×Int×Int×Unit)×(yq.T×Unit)×(Unit)):Option R :=
 zz.l2 F (fun r4=>K .ret (yW (zz.h 5) ((r4,()),(),()))) (fun from_ t10 t11 t12 t13 n=>K (.exit 0) (yW (zz.h 2) ((from_,(),t10,t11,t12,t13,()),(n,()),()))) n x.1.1 x.1.2.2.1 x.1.2.2.2.1 x.1.2.2.2.2.1 x.2.1.1
def zz.X (m:Int) (F:Nat):FX TI (G m) Sg:={hn:={na:=2},N:=29,H:=zz.h,HL:=zz.hl,L:=mkL zz.hl [⟨2,fun x R K=>zz.L2 F R K F x⟩]}
theorem zz.ok (m:Int) (F:Nat):OKP m 89 zz.sg (zz.sp F) :=
 okp (zz.X m F) Go.Proofs.Tryz.func89 trivial trivial 1 0 (yF (FX.loopk 2 F (zz.L2 F)) zC) zC
def yk.te:TEs:=[kL 1,(2,kI)]
def yk.tb:TEs:=[(1,.g yq)]
def yk.h:SH:=shN yk.te yk.tb [] [(0,1,1,0),(1,2,0,0)]
def yk.X (m:Int) (F:Nat):FX TI (G m) Sg:={hn:={na:=1},lv:=[⟨89,zz.sp F⟩],N:=5,H:=yk.h}
theorem yk.ok (m:Int) (F:Nat):OKP m 63 yk.sg (yk.sp F) :=
 okp (yk.X m F) Go.Proofs.Tryz.func63 ⟨zz.ok m F,trivial⟩ trivial 0 0 zC zC
def yB.te:TEs:=[kL 1,(2,kI)]
def yB.tb:TEs:=[(1,.g yq)]
def yB.h:SH:=shN yB.te yB.tb [] [(0,1,1,0),(1,2,0,0)]
def yB.X (m:Int) (F:Nat):FX TI (G m) Sg:={hn:={na:=1},N:=8,H:=yB.h}
theorem yB.ok (m:Int) (F:Nat):OKP m 62 yB.sg (yB.sp F) :=
 okp (yB.X m F) Go.Proofs.Tryz.func62 trivial trivial 0 0 zC zC
def yC.te:TEs:=[(0,kI),(2,kB)]
def yC.h:SH:=shN yC.te [] [] [(0,1,0,0),(1,2,0,0)]
def yC.X (m:Int) (F:Nat):FX TI (G m) Sg:={hn:={na:=1},N:=5,H:=yC.h}
theorem yC.ok (m:Int) (F:Nat):OKP m 90 yC.sg (yC.sp F) :=
 okp (yC.X m F) Go.Proofs.Tryz.func90 trivial trivial 0 0 zC zC
def yg.te:TEs:=[kL 1,(2,kI),(7,kB)]
def yg.tb:TEs:=[(1,.g yq)]
def yg.h:SH:=shN yg.te yg.tb [] [(0,1,1,0),(1,5,1,0),(2,2,0,0),(3,2,0,0)]
def yg.X (m:Int) (F:Nat):FX TI (G m) Sg:={hn:={na:=1},lv:=[⟨90,yC.sp F⟩],N:=12,H:=yg.h}
theorem yg.ok (m:Int) (F:Nat):OKP m 65 yg.sg (yg.sp F) :=
 okp (yg.X m F) Go.Proofs.Tryz.func65 ⟨yC.ok m F,trivial⟩ trivial 0 0 zC zC
def yR.te:TEs:=[(2,kI)]
def yR.h:SH:=shN yR.te [] [] [(1,1,0,0)]
def yR.X (m:Int) (F:Nat):FX TI (G m) Sg:={hn:={na:=1},N:=3,H:=yR.h}
theorem yR.ok (m:Int) (F:Nat):OKP m 60 yR.sg (yR.sp F) :=
 okp (yR.X m F) Go.Proofs.Tryz.func60 trivial trivial 0 0 zC zC
def yM.te:TEs:=[(2,kI)]
def yM.h:SH:=shN yM.te [] [] [(1,1,0,0)]
def yM.X (m:Int) (F:Nat):FX TI (G m) Sg:={hn:={na:=1},N:=3,H:=yM.h}
theorem yM.ok (m:Int) (F:Nat):OKP m 59 yM.sg (yM.sp F) :=
 okp (yM.X m F) Go.Proofs.Tryz.func59 trivial trivial 0 0 zC zC
def yL.te:TEs:=[kL 1,(2,kI),(7,kB)]
def yL.tb:TEs:=[(1,.g yq)]
def yL.h:SH:=shN yL.te yL.tb [] [(0,1,1,0),(1,4,0,0),(2,2,0,0),(3,2,0,0)]
def yL.X (m:Int) (F:Nat):FX TI (G m) Sg:={hn:={na:=1},N:=8,H:=yL.h}
theorem yL.ok (m:Int) (F:Nat):OKP m 67 yL.sg (yL.sp F) :=
 okp (yL.X m F) Go.Proofs.Tryz.func67 trivial trivial 0 0 zC zC
def yr.te:TEs:=[kL 1,(2,kI),(7,kB)]
def yr.tb:TEs:=[(1,.g yq)]
def yr.h:SH:=shN yr.te yr.tb [] [(0,1,1,0),(1,4,0,0),(2,2,0,0),(3,2,0,0)]
def yr.X (m:Int) (F:Nat):FX TI (G m) Sg:={hn:={na:=1},lv:=[⟨90,yC.sp F⟩],N:=8,H:=yr.h}
theorem yr.ok (m:Int) (F:Nat):OKP m 66 yr.sg (yr.sp F) :=
 okp (yr.X m F) Go.Proofs.Tryz.func66 ⟨yC.ok m F,trivial⟩ trivial 0 0 zC zC
def yo.te:TEs:=[kL 1,(2,kI),(3,kI),(4,kI),(13,kB),(17,kB),(21,kB)]
def yo.tb:TEs:=[(1,.g yq)]
def yo.h:SH:=shN yo.te yo.tb [] [(0,1,1,0),(1,12,0,0),(2,28,0,0),(3,2,0,0),(4,44,0,0),(5,2,0,0),(6,76,0,0),(7,64,0,0),(8,2,0,0),(9,2,0,0)]
def yo.X (m:Int) (F:Nat):FX TI (G m) Sg:={hn:={na:=1},lv:=[⟨90,yC.sp F⟩],N:=34,H:=yo.h}
theorem yo.ok (m:Int) (F:Nat):OKP m 64 yo.sg (yo.sp F) :=
 okp (yo.X m F) Go.Proofs.Tryz.func64 ⟨yC.ok m F,trivial⟩ trivial 0 0 zC zC
def yl.te:TEs:=[kL 1,(2,kI)]
def yl.tb:TEs:=[(1,.g yq)]
def yl.h:SH:=shN yl.te yl.tb [] [(0,1,1,0),(1,2,0,0)]
def yl.X (m:Int) (F:Nat):FX TI (G m) Sg:={hn:={na:=1},N:=8,H:=yl.h}
theorem yl.ok (m:Int) (F:Nat):OKP m 61 yl.sg (yl.sp F) :=
 okp (yl.X m F) Go.Proofs.Tryz.func61 trivial trivial 0 0 zC zC
def yD.te:TEs:=[kL 1,(2,kI),(7,kB)]
def yD.tb:TEs:=[(1,.g yq)]
def yD.h:SH:=shN yD.te yD.tb [] [(0,1,1,0),(1,5,1,0),(2,2,0,0),(3,2,0,0)]
def yD.X (m:Int) (F:Nat):FX TI (G m) Sg:={hn:={na:=1},lv:=[⟨90,yC.sp F⟩,⟨89,zz.sp F⟩],N:=10,H:=yD.h}
theorem yD.ok (m:Int) (F:Nat):OKP m 68 yD.sg (yD.sp F) :=
 okp (yD.X m F) Go.Proofs.Tryz.func68 ⟨yC.ok m F,zz.ok m F,trivial⟩ trivial 0 0 zC zC
def zj.te:TEs:=[kL 1,(2,.c (.sl (.int .i64))),(3,kI),(4,kI),(5,kI),(6,kI),(7,.c (.sl .bool)),(9,.c (.sl (.int .i64))),(9,.ow 9),(10,.c (.sl (.int .i64))),(10,.ow 10),(11,.ow 11),(12,kI),kL 13,(14,.c .fn),(15,kI),(16,kI),(17,kI),(24,kB),(33,.c (.sl zr)),(34,kI),(35,kI),(36,kB),(47,kB),(65,kB),(84,kB),(109,kB)]
def zj.tb:TEs:=[(1,.g zI),(13,.g zr)]
def zj.tp:List wx:=[⟨9,.env 9,(.int .i64)⟩,⟨10,.env 10,(.int .i64)⟩,⟨11,.env 11,.bool⟩]
def zj.h:SH:=shN zj.te zj.tb zj.tp [(0,1,1,0),(1,49,1,0),(2,262193,1,0),(3,14,0,0),(4,65,1,0),(5,1345,1,3),(6,3393,1,7),(7,3673408,0,7),(8,7867712,0,7),(9,3685696,2,7),(10,3734848,2,7),(11,12123456,2,7),(12,3734848,2,7),(13,3767616,2,7),(14,3882304,2,7),(15,20659520,2,7),(16,14,0,0),(17,37428544,0,7),(18,14,0,0),(19,3874112,0,7),(20,3743040,0,7),(21,3673408,0,7),(22,3673408,0,7),(23,67108992,0,0),(24,14,0,0),(25,14,0,0)]
def zj.hl:SH:=shN zj.te zj.tb zj.tp [(8,3673408,0,7)]
def zj.hj:Nat->Option Shape:=shO zj.te zj.tb zj.tp [(23,640,0,0)]
def zj.L8 (F:Nat) (R:Type) (K:KK R) (n:Nat) (x:((List Bool)×Unit×Unit×Unit×(List zr.T)×Int×Int×Unit)×(Unit)×((List Int)×(List Int)×(List Bool)×Unit)):Option R :=
 zj.l8 F (fun r2 r3 r4=>K .ret (yW (zj.h 16) ((r2,r3,r4,()),(),()))) (fun r2 r3 r4=>K .ret (yW (zj.h 18) ((r2,r3,r4,()),(),()))) (fun fixed t33 t34 t35 t36 types pile fix=>K (.exit 0) (yW (zj.h 8) ((fixed,(),(),(),t33,t34,t35,t36,()),(),(types,pile,fix,())))) n x.1.1 x.1.2.2.2.2.1 x.1.2.2.2.2.2.1 x.1.2.2.2.2.2.2.1 x.2.2.1 x.2.2.2.1 x.2.2.2.2.1
def zj.J23 (F:Nat) (x:((List Int)×(List Int)×Unit)×(Unit)×(Unit)) (R:Type) (K:KK R):Option R :=
 zj.j23 F (fun r2 r3 r4=>K .ret (yW (zj.h 24) ((r2,r3,r4,()),(),()))) (fun r2 r3 r4=>K .ret (yW (zj.h 25) ((r2,r3,r4,()),(),()))) x.1.1 x.1.2.1
def zj.X (m:Int) (F:Nat):FX TI (G m) Sg:={hn:={MU:=fun s=>lk false s [(89,true),(95,true),(104,true)],DS:=fun d=>lk none d [(63,some zj.ds63)],na:=1,fzJ:=fun r=>lk [] r [(23,[9,10])]},lv:=[⟨16,zJ.sp F⟩,⟨40,zv.sp F⟩,⟨41,xh.sp F⟩],ld:=[⟨63,zj.d63 F⟩],N:=114,H:=zj.h,HL:=zj.hl,HJ:=zj.hj,L:=mkL zj.hl [⟨8,fun x R K=>zj.L8 F R K F x⟩],J:=mkJ zj.hj [⟨23,zj.J23 F⟩]}
theorem zj.ok (m:Int) (F:Nat):OKP m 21 zj.sg (zj.sp F) :=
 okp (zj.X m F) Go.Proofs.Tryz.func21 ⟨zJ.ok m F,zv.ok m F,xh.ok m F,trivial⟩ ⟨YW ⟨⟨63,by kernel_rfl,yk.ok m F⟩,⟨62,by kernel_rfl,yB.ok m F⟩,⟨65,by kernel_rfl,yg.ok m F⟩,⟨60,by kernel_rfl,yR.ok m F⟩,⟨59,by kernel_rfl,yM.ok m F⟩,⟨67,by kernel_rfl,yL.ok m F⟩,⟨66,by kernel_rfl,yr.ok m F⟩,⟨64,by kernel_rfl,yo.ok m F⟩,⟨61,by kernel_rfl,yl.ok m F⟩,⟨68,by kernel_rfl,yD.ok m F⟩,trivial⟩,trivial⟩ 1 1 (yF (FX.loopk 8 F (zj.L8 F)) zC) (yF (FX.cutk 23) zC)
def zB.te:TEs:=[(0,.b (.int .i64)),(2,kI),(3,kI),(4,kI),(7,kB),(15,kB)]
def zB.h:SH:=shN zB.te [] [] [(0,1,0,0),(1,17,0,0),(3,5,0,0),(4,13,0,0),(5,45,0,0),(6,13,0,0),(7,13,0,0),(8,2,0,0)]
def zB.hl:SH:=shN zB.te [] [] [(5,13,0,0)]
def zB.L5 (F:Nat) (R:Type) (K:KK R) (n:Nat) (x:((List Int)×Int×Int×Unit)×(Unit)×(Unit)):Option R :=
 zB.l5 F (fun x m i t15=>K (.exit 0) (yW (zB.h 5) ((x,m,i,t15,()),(),()))) n x.1.1 x.1.2.1 x.1.2.2.1
def zB.X (m:Int) (F:Nat):FX TI (G m) Sg:={hn:={na:=1},N:=25,H:=zB.h,HL:=zB.hl,L:=mkL zB.hl [⟨5,fun x R K=>zB.L5 F R K F x⟩]}
theorem zB.ok (m:Int) (F:Nat):OKP m 18 zB.sg (zB.sp F) :=
 okp (zB.X m F) Go.Proofs.Tryz.func18 trivial trivial 1 0 (yF (FX.loopk 5 F (zB.L5 F)) zC) zC
def zE.te:TEs:=[kL 1,(2,kI),(3,kI),(5,kI),(6,.c (.sl (.int .i64))),(6,.ow 6),kL 8,(9,kI),(10,kI),(17,kB),(20,.c (.sl zr)),(21,kI),(22,kI),(23,kB),(29,kB),(45,kB)]
def zE.tb:TEs:=[(1,.g zI),(8,.g zr)]
def zE.tp:List wx:=[⟨6,.env 6,(.int .i64)⟩]
def zE.h:SH:=shN zE.te zE.tb zE.tp [(0,1,1,0),(1,9,1,0),(2,521,1,0),(3,6,0,0),(4,33,1,1),(5,7200,0,1),(6,15392,0,1),(7,7264,2,1),(8,7392,2,1),(9,7648,2,1),(10,24032,2,1),(11,7648,2,1),(12,7392,2,1),(13,40096,0,1),(14,7328,0,1),(15,7200,0,1),(16,7200,0,1),(17,6,0,0)]
def zE.hl:SH:=shN zE.te zE.tb zE.tp [(6,7200,0,1)]
def zE.hj:Nat->Option Shape:=shO zE.te zE.tb zE.tp [(17,16,0,0)]
def zE.L6 (F:Nat) (R:Type) (K:KK R) (n:Nat) (x:(Unit×(List zr.T)×Int×Int×Unit)×(Unit)×((List Int)×Unit)):Option R :=
 zE.l6 F (fun t20 t21 t22 t23 pile=>K (.exit 0) (yW (zE.h 6) (((),t20,t21,t22,t23,()),(),(pile,())))) n x.1.2.1 x.1.2.2.1 x.1.2.2.2.1 x.2.2.1
def zE.J17 (F:Nat) (x:((List Int)×Unit)×(Unit)×(Unit)) (R:Type) (K:KK R):Option R :=
 zE.j17 F (fun r2 r3=>K .ret (yW (zE.h 17) ((r2,r3,()),(),()))) x.1.1
def zE.X (m:Int) (F:Nat):FX TI (G m) Sg:={hn:={MU:=fun s=>lk false s [(51,true)],na:=1,fzJ:=fun r=>lk [] r [(17,[6])]},lv:=[⟨16,zJ.sp F⟩,⟨17,yJ.sp F⟩,⟨18,zB.sp F⟩],N:=56,H:=zE.h,HL:=zE.hl,HJ:=zE.hj,L:=mkL zE.hl [⟨6,fun x R K=>zE.L6 F R K F x⟩],J:=mkJ zE.hj [⟨17,zE.J17 F⟩]}
theorem zE.ok (m:Int) (F:Nat):OKP m 8 zE.sg (zE.sp F) :=
 okp (zE.X m F) Go.Proofs.Tryz.func8 ⟨zJ.ok m F,yJ.ok m F,zB.ok m F,trivial⟩ trivial 1 1 (yF (FX.loopk 6 F (zE.L6 F)) zC) (yF (FX.cutk 17) zC)
def yy.te:TEs:=[(0,kI),kL 2]
def yy.tb:TEs:=[(2,.g zf)]
def yy.h:SH:=shN yy.te yy.tb [] [(0,3,1,0),(1,2,1,0)]
def yy.X (m:Int) (F:Nat):FX TI (G m) Sg:={hn:={na:=1},N:=8,H:=yy.h}
theorem yy.ok (m:Int) (F:Nat):OKP m 42 yy.sg (yy.sp F) :=
 okp (yy.X m F) Go.Proofs.Tryz.func42 trivial trivial 0 0 zC zC
theorem zT.ok (m:Int) (F:Nat):OK Go.Proofs.Tryz.prog (G m) 91 zT.sg (zT.sp F):=zT.ok' F Go.Proofs.Tryz.func91 (by kernel_rfl) (by kernel_rfl) (by kernel_rfl)
def xg.te:TEs:=[kL 1,(2,.c (.int .u64)),(3,.c (.int .u64)),(4,.c (.int .u64)),(5,.c (.int .u64)),(6,.c (.int .u64)),(10,kB)]
def xg.tb:TEs:=[(1,.g zf)]
def xg.h:SH:=shN xg.te xg.tb [] [(0,1,1,0),(1,65,1,0),(2,6,0,0),(3,25,1,0),(4,40,0,0),(5,6,0,0)]
def xg.X (m:Int) (F:Nat):FX TI (G m) Sg:={hn:={na:=1},lv:=[⟨91,zT.sp F⟩],N:=32,H:=xg.h}
theorem xg.ok (m:Int) (F:Nat):OKP m 69 xg.sg (xg.sp F) :=
 okp (xg.X m F) Go.Proofs.Tryz.func69 ⟨zT.ok m F,trivial⟩ trivial 0 0 zC zC
def yE.te:TEs:=[(0,.c (.int .u64)),(1,.c (.int .u64)),(4,.c (.int .u64)),(5,.c (.int .u64)),(6,.c (.int .u64)),(7,.c (.int .u64)),(8,.c (.int .u64)),(9,.c (.int .u64)),(10,.c (.int .u64)),(11,.c (.int .u64)),(12,.c (.int .u64)),(13,.c (.int .u64))]
def yE.h:SH:=shN yE.te [] [] [(0,3,0,0),(1,19,0,0),(2,51,0,0),(3,115,0,0),(4,243,0,0),(5,499,0,0),(6,691,0,0),(7,1715,0,0),(8,3251,0,0),(9,3235,0,0),(10,7,0,0),(11,12,0,0)]
def yE.X (m:Int) (F:Nat):FX TI (G m) Sg:={hn:={na:=2},N:=51,H:=yE.h}
theorem yE.ok (m:Int) (F:Nat):OKP m 70 yE.sg (yE.sp F) :=
 okp (yE.X m F) Go.Proofs.Tryz.func70 trivial trivial 0 0 zC zC
def xt.te:TEs:=[(0,kB),(1,.c (.int .u64)),(2,.c (.int .u64)),(6,.c (.int .u64)),(7,kB)]
def xt.h:SH:=shN xt.te [] [] [(0,7,0,0),(1,22,0,0),(2,8,0,0),(3,8,0,0)]
def xt.X (m:Int) (F:Nat):FX TI (G m) Sg:={hn:={na:=3},N:=10,H:=xt.h}
theorem xt.ok (m:Int) (F:Nat):OKP m 71 xt.sg (xt.sp F) :=
 okp (xt.X m F) Go.Proofs.Tryz.func71 trivial trivial 0 0 zC zC
theorem ye.ok (m:Int) (F:Nat):OK Go.Proofs.Tryz.prog (G m) 72 ye.sg (ye.sp F):=ye.ok' F Go.Proofs.Tryz.func72 (by kernel_rfl) (by kernel_rfl) (by kernel_rfl)
def xE.te:TEs:=[kL 2,kL 3,kL 4,(5,kI),(6,.c (.int .u64)),(7,.c (.int .u64)),(8,.c (.int .u64)),kL 10,(49,kB)]
def xE.tb:TEs:=[(2,.g zf),(3,.g zf),(4,.g zf),(10,.g zf)]
def xE.h:SH:=shN xE.te xE.tb [] [(0,7,7,0),(1,55,7,0),(2,87,7,0),(3,135,15,0),(4,388,12,0),(5,12,4,0),(6,12,4,0)]
def xE.X (m:Int) (F:Nat):FX TI (G m) Sg:={hn:={na:=2},lv:=[⟨91,zT.sp F⟩],N:=52,H:=xE.h}
theorem xE.ok (m:Int) (F:Nat):OKP m 81 xE.sg (xE.sp F) :=
 okp (xE.X m F) Go.Proofs.Tryz.func81 ⟨zT.ok m F,trivial⟩ trivial 0 0 zC zC
def xP.te:TEs:=[kL 1,kL 2,(3,kI)]
def xP.tb:TEs:=[(1,.g zf),(2,.g zf)]
def xP.h:SH:=shN xP.te xP.tb [] [(0,3,3,0),(1,6,2,0)]
def xP.X (m:Int) (F:Nat):FX TI (G m) Sg:={hn:={na:=1},lv:=[⟨81,xE.sp F⟩],N:=9,H:=xP.h}
theorem xP.ok (m:Int) (F:Nat):OKP m 92 xP.sg (xP.sp F) :=
 okp (xP.X m F) Go.Proofs.Tryz.func92 ⟨xE.ok m F,trivial⟩ trivial 0 0 zC zC
def xj.te:TEs:=[(0,kB),(1,.c (.int .u64)),(2,.c (.int .u64)),kL 6,(7,kI),kL 8,(11,kB),(16,kB),(30,kB)]
def xj.tb:TEs:=[(6,.g zf),(8,.g zf)]
def xj.h:SH:=shN xj.te xj.tb [] [(0,15,1,0),(1,79,1,0),(2,41,3,0),(3,168,3,0),(4,24,1,0),(5,24,1,0),(6,264,1,0),(7,24,1,0),(8,24,1,0)]
def xj.X (m:Int) (F:Nat):FX TI (G m) Sg:={hn:={na:=3},lv:=[⟨92,xP.sp F⟩],N:=33,H:=xj.h}
theorem xj.ok (m:Int) (F:Nat):OKP m 73 xj.sg (xj.sp F) :=
 okp (xj.X m F) Go.Proofs.Tryz.func73 ⟨xP.ok m F,trivial⟩ trivial 0 0 zC zC
def yz.te:TEs:=[kL 2,kL 3,kL 4,(5,kI),(6,.c (.int .u64)),(7,.c (.int .u64)),(8,.c (.int .u64)),(9,.c (.int .u64)),(10,.c (.int .u64)),(11,.c (.int .u64)),(12,.c (.int .u64)),(13,.c (.int .u64)),(14,.c (.int .u64)),(30,kB),(61,kB)]
def yz.tb:TEs:=[(2,.g zf),(3,.g zf),(4,.g zf)]
def yz.h:SH:=shN yz.te yz.tb [] [(0,7,7,0),(1,55,7,0),(2,247,7,0),(3,8439,7,0),(4,12,4,0),(5,1015,7,0),(6,3847,7,0),(7,5895,7,0),(8,17159,7,0),(9,12,4,0),(10,12,4,0)]
def yz.hj:Nat->Option Shape:=shO yz.te yz.tb [] [(5,247,7,0)]
def yz.J5 (F:Nat) (x:(Unit×Unit×Unit×Int×Int×Int×Int×Unit)×(zf.T×zf.T×zf.T×Unit)×(Unit)) (R:Type) (K:KK R):Option R :=
 yz.j5 F (fun r5 r4=>K .ret (yW (yz.h 9) (((),r5,()),(r4,()),()))) (fun r5 r4=>K .ret (yW (yz.h 10) (((),r5,()),(r4,()),()))) x.1.2.2.2.1 x.1.2.2.2.2.1 x.1.2.2.2.2.2.1 x.1.2.2.2.2.2.2.1 x.2.1.1 x.2.1.2.1 x.2.1.2.2.1
def yz.X (m:Int) (F:Nat):FX TI (G m) Sg:={hn:={na:=2},lv:=[⟨69,xg.sp F⟩,⟨70,yE.sp F⟩,⟨71,xt.sp F⟩,⟨72,ye.sp F⟩,⟨73,xj.sp F⟩],N:=75,H:=yz.h,HJ:=yz.hj,J:=mkJ yz.hj [⟨5,yz.J5 F⟩]}
theorem yz.ok (m:Int) (F:Nat):OKP m 43 yz.sg (yz.sp F) :=
 okp (yz.X m F) Go.Proofs.Tryz.func43 ⟨xg.ok m F,yE.ok m F,xt.ok m F,ye.ok m F,xj.ok m F,trivial⟩ trivial 0 1 zC (yF (FX.cutk 5) zC)
def zP.te:TEs:=[(0,kI),kL 2,(3,kI),kL 4,(6,kB),(9,kB),(12,kI),(13,kI),(14,kB)]
def zP.tb:TEs:=[(2,.g zf),(4,.g zf)]
def zP.h:SH:=shN zP.te zP.tb [] [(0,3,1,0),(1,19,1,0),(2,6,1,0),(3,35,1,0),(4,6,1,0),(5,11,3,0),(6,202,3,0),(7,458,3,0),(8,202,3,0),(9,202,3,0),(10,6,1,0)]
def zP.hl:SH:=shN zP.te zP.tb [] [(7,202,3,0)]
def zP.L7 (F:Nat) (R:Type) (K:KK R) (n:Nat) (x:(Unit×Unit×Int×Int×Unit)×(zf.T×zf.T×Unit)×(Unit)):Option R :=
 zP.l7 F (fun t12 t13 t14 r2 p=>K (.exit 0) (yW (zP.h 7) (((),(),t12,t13,t14,()),(r2,p,()),()))) n x.1.2.2.1 x.1.2.2.2.1 x.2.1.1 x.2.1.2.1
def zP.X (m:Int) (F:Nat):FX TI (G m) Sg:={hn:={na:=1},lv:=[⟨42,yy.sp F⟩,⟨43,yz.sp F⟩],N:=23,H:=zP.h,HL:=zP.hl,L:=mkL zP.hl [⟨7,fun x R K=>zP.L7 F R K F x⟩]}
theorem zP.ok (m:Int) (F:Nat):OKP m 22 zP.sg (zP.sp F) :=
 okp (zP.X m F) Go.Proofs.Tryz.func22 ⟨yy.ok m F,yz.ok m F,trivial⟩ trivial 1 0 (yF (FX.loopk 7 F (zP.L7 F)) zC) zC
def zQ.te:TEs:=[kL 1,(2,kI),(4,kI),(5,kB),(10,kB),(14,kB),(19,kB)]
def zQ.tb:TEs:=[(1,.g zr)]
def zQ.h:SH:=shN zQ.te zQ.tb [] [(0,1,1,0),(1,5,1,0),(2,13,1,0),(3,13,1,0),(4,13,1,0),(5,13,1,0),(6,2,0,0),(7,21,1,0),(8,21,1,0),(9,21,1,0),(10,2,0,0),(11,37,1,0),(12,37,1,0),(13,2,0,0),(14,64,0,0),(15,2,0,0),(16,2,0,0)]
def zQ.hj:Nat->Option Shape:=shO zQ.te zQ.tb [] [(6,13,1,0),(10,21,1,0)]
def zQ.J10 (F:Nat) (x:(Unit×Int×Bool×Unit)×(zr.T×Unit)×(Unit)) (R:Type) (K:KK R):Option R :=
 zQ.j10 F (fun r2=>K .ret (yW (zQ.h 10) ((r2,()),(),()))) (fun r2=>K .ret (yW (zQ.h 13) ((r2,()),(),()))) (fun r2=>K .ret (yW (zQ.h 15) ((r2,()),(),()))) (fun t19=>K .normal (yW (zQ.h 14) ((t19,()),(),()))) x.1.2.1 x.1.2.2.1 x.2.1.1
def zQ.J6 (F:Nat) (x:(Unit×Int×Bool×Unit)×(zr.T×Unit)×(Unit)) (R:Type) (K:KK R):Option R :=
 zQ.j6 F (fun r2=>K .ret (yW (zQ.h 6) ((r2,()),(),()))) (fun r2=>K .ret (yW (zQ.h 10) ((r2,()),(),()))) (fun r2=>K .ret (yW (zQ.h 13) ((r2,()),(),()))) (fun r2=>K .ret (yW (zQ.h 15) ((r2,()),(),()))) (fun t19=>K .normal (yW (zQ.h 14) ((t19,()),(),()))) x.1.2.1 x.1.2.2.1 x.2.1.1
def zQ.X (m:Int) (F:Nat):FX TI (G m) Sg:={hn:={na:=1},N:=21,H:=zQ.h,HJ:=zQ.hj,J:=mkJ zQ.hj [⟨10,zQ.J10 F⟩,⟨6,zQ.J6 F⟩]}
theorem zQ.ok (m:Int) (F:Nat):OKP m 34 zQ.sg (zQ.sp F) :=
 okp (zQ.X m F) Go.Proofs.Tryz.func34 trivial trivial 0 2 zC (yF (FX.cutk 10) (yF (FX.cutk 6) zC))
def zY.te:TEs:=[kL 0,(2,kI),kL 4,kL 6]
def zY.tb:TEs:=[(0,.g yv),(4,.g zf),(6,.g zf)]
def zY.h:SH:=shN zY.te zY.tb [] [(0,15,7,0),(1,12,7,0),(2,8,5,0)]
def zY.X (m:Int) (F:Nat):FX TI (G m) Sg:={hn:={na:=3},N:=19,H:=zY.h}
theorem zY.ok (m:Int) (F:Nat):OKP m 49 zY.sg (zY.sp F) :=
 okp (zY.X m F) Go.Proofs.Tryz.func49 trivial trivial 0 0 zC zC
def zW.te:TEs:=[kL 0,kL 4,kL 5,kL 6]
def zW.tb:TEs:=[(0,.g yv),(4,.g zf),(5,.g zf),(6,.g zf)]
def zW.h:SH:=shN zW.te zW.tb [] [(0,15,15,0),(1,8,9,0)]
def zW.X (m:Int) (F:Nat):FX TI (G m) Sg:={hn:={na:=3},lv:=[⟨43,yz.sp F⟩,⟨49,zY.sp F⟩],N:=14,H:=zW.h}
theorem zW.ok (m:Int) (F:Nat):OKP m 48 zW.sg (zW.sp F) :=
 okp (zW.X m F) Go.Proofs.Tryz.func48 ⟨yz.ok m F,zY.ok m F,trivial⟩ trivial 0 0 zC zC
def zN.te:TEs:=[(0,.c (.int .u64)),(2,kI),(4,kB),(8,kB),(14,kB)]
def zN.h:SH:=shN zN.te [] [] [(0,3,0,0),(1,7,0,0),(2,1,0,0),(3,3,0,0),(4,11,0,0),(5,3,0,0),(6,3,0,0),(7,19,0,0),(8,3,0,0),(9,3,0,0),(10,2,0,0)]
def zN.hj:Nat->Option Shape:=shO zN.te [] [] [(4,3,0,0),(7,3,0,0)]
def zN.J7 (F:Nat) (x:(Int×Int×Unit)×(Unit)×(Unit)) (R:Type) (K:KK R):Option R :=
 zN.j7 F (fun n=>K .ret (yW (zN.h 10) ((n,()),(),()))) x.1.1 x.1.2.1
def zN.J4 (F:Nat) (x:(Int×Int×Unit)×(Unit)×(Unit)) (R:Type) (K:KK R):Option R :=
 zN.j4 F (fun n=>K .ret (yW (zN.h 10) ((n,()),(),()))) x.1.1 x.1.2.1
def zN.X (m:Int) (F:Nat):FX TI (G m) Sg:={hn:={na:=1},N:=25,H:=zN.h,HJ:=zN.hj,J:=mkJ zN.hj [⟨7,zN.J7 F⟩,⟨4,zN.J4 F⟩]}
theorem zN.ok (m:Int) (F:Nat):OKP m 100 zN.sg (zN.sp F) :=
 okp (zN.X m F) Go.Proofs.Tryz.func100 trivial trivial 0 2 zC (yF (FX.cutk 7) (yF (FX.cutk 4) zC))
def z8.te:TEs:=[(0,.c (.int .u64)),(2,kI)]
def z8.h:SH:=shN z8.te [] [] [(0,1,0,0),(1,2,0,0)]
def z8.X (m:Int) (F:Nat):FX TI (G m) Sg:={hn:={na:=1},lv:=[⟨100,zN.sp F⟩],N:=6,H:=z8.h}
theorem z8.ok (m:Int) (F:Nat):OKP m 98 z8.sg (z8.sp F) :=
 okp (z8.X m F) Go.Proofs.Tryz.func98 ⟨zN.ok m F,trivial⟩ trivial 0 0 zC zC
def zl.te:TEs:=[(0,.c (.int .u64)),(1,.c (.int .u64)),(2,.c (.int .u64)),(6,.c (.int .u64)),(7,.c (.int .u64)),(8,.c (.int .u64)),(9,.c (.int .u64)),(10,.c (.int .u64)),(11,.c (.int .u64)),(12,.c (.int .u64)),(13,.c (.int .u64)),(14,.c (.int .u64)),(15,.c (.int .u64)),(16,.c (.int .u64)),(17,.c (.int .u64)),(18,.c (.int .u64)),(20,kB),(24,kB),(27,kB),(78,kB),(85,kB),(113,kB),(120,kB)]
def zl.h:SH:=shN zl.te [] [] [(0,7,0,0),(1,65543,0,0),(3,131079,0,0),(5,262151,0,0),(6,24,0,0),(7,39,0,0),(8,39,0,0),(9,103,0,0),(10,231,0,0),(11,486,0,0),(12,996,0,0),(13,2020,0,0),(14,3556,0,0),(15,7652,0,0),(16,15844,0,0),(17,540132,0,0),(18,15844,0,0),(19,15844,0,0),(20,1064420,0,0),(21,22756,0,0),(22,55524,0,0),(23,63716,0,0),(24,2160868,0,0),(25,63716,0,0),(26,63716,0,0),(27,4258020,0,0),(28,24,0,0)]
def zl.hl:SH:=shN zl.te [] [] [(17,15844,0,0),(24,63716,0,0)]
def zl.hj:Nat->Option Shape:=shO zl.te [] [] [(21,7652,0,0),(28,55332,0,0)]
def zl.L17 (F:Nat) (R:Type) (K:KK R) (n:Nat) (x:(Int×Int×Int×Int×Int×Int×Int×Int×Int×Unit)×(Unit)×(Unit)):Option R :=
 zl.l17 F (fun y s yn1 yn0 un32 un1 un0 q1 rhat t85=>K (.exit 0) (yW (zl.h 20) ((y,s,yn1,yn0,un32,un1,un0,q1,rhat,t85,()),(),()))) (fun y s yn1 yn0 un32 un1 un0 q1 rhat t78=>K (.exit 0) (yW (zl.h 17) ((y,s,yn1,yn0,un32,un1,un0,q1,rhat,t78,()),(),()))) n x.1.1 x.1.2.1 x.1.2.2.1 x.1.2.2.2.1 x.1.2.2.2.2.1 x.1.2.2.2.2.2.1 x.1.2.2.2.2.2.2.1 x.1.2.2.2.2.2.2.2.1 x.1.2.2.2.2.2.2.2.2.1
def zl.L24 (F:Nat) (R:Type) (K:KK R) (n:Nat) (x:(Int×Int×Int×Int×Int×Int×Int×Int×Int×Unit)×(Unit)×(Unit)):Option R :=
 zl.l24 F (fun y s yn1 yn0 un0 q1 rhat un21 q0 t120=>K (.exit 2) (yW (zl.h 27) ((y,s,yn1,yn0,un0,q1,rhat,un21,q0,t120,()),(),()))) (fun y s yn1 yn0 un0 q1 rhat un21 q0 t113=>K (.exit 2) (yW (zl.h 24) ((y,s,yn1,yn0,un0,q1,rhat,un21,q0,t113,()),(),()))) n x.1.1 x.1.2.1 x.1.2.2.1 x.1.2.2.2.1 x.1.2.2.2.2.1 x.1.2.2.2.2.2.1 x.1.2.2.2.2.2.2.1 x.1.2.2.2.2.2.2.2.1 x.1.2.2.2.2.2.2.2.2.1
def zl.J28 (F:Nat) (x:(Int×Int×Int×Int×Int×Int×Unit)×(Unit)×(Unit)) (R:Type) (K:KK R):Option R :=
 zl.j28 F (fun quo rem=>K .ret (yW (zl.h 28) ((quo,rem,()),(),()))) x.1.1 x.1.2.1 x.1.2.2.1 x.1.2.2.2.1 x.1.2.2.2.2.1 x.1.2.2.2.2.2.1
def zl.J21 (F:Nat) (x:(Int×Int×Int×Int×Int×Int×Int×Int×Unit)×(Unit)×(Unit)) (R:Type) (K:KK R):Option R :=
 zl.j21 F (fun quo rem=>K .ret (yW (zl.h 28) ((quo,rem,()),(),()))) x.1.1 x.1.2.1 x.1.2.2.1 x.1.2.2.2.1 x.1.2.2.2.2.1 x.1.2.2.2.2.2.1 x.1.2.2.2.2.2.2.1 x.1.2.2.2.2.2.2.2.1
def zl.X (m:Int) (F:Nat):FX TI (G m) Sg:={hn:={na:=3},lv:=[⟨98,z8.sp F⟩],N:=135,H:=zl.h,HL:=zl.hl,HJ:=zl.hj,L:=mkL zl.hl [⟨17,fun x R K=>zl.L17 F R K F x⟩,⟨24,fun x R K=>zl.L24 F R K F x⟩],J:=mkJ zl.hj [⟨28,zl.J28 F⟩,⟨21,zl.J21 F⟩]}
theorem zl.ok (m:Int) (F:Nat):OKP m 96 zl.sg (zl.sp F) :=
 okp (zl.X m F) Go.Proofs.Tryz.func96 ⟨z8.ok m F,trivial⟩ trivial 2 2 (yF (FX.loopk 24 F (zl.L24 F)) (yF (FX.loopk 17 F (zl.L17 F)) zC)) (yF (FX.cutk 28) (yF (FX.cutk 21) zC))
def yd.te:TEs:=[(0,.c (.int .u64)),(1,.c (.int .u64)),(2,.c (.int .u64)),(3,.c (.int .u64)),(8,.c (.int .u64)),(9,.c (.int .u64)),(10,.c (.int .u64)),(11,.c (.int .u64)),(12,kI),(13,.c (.int .u64)),(15,kB),(34,kB),(61,kB)]
def yd.h:SH:=shN yd.te [] [] [(0,47,0,0),(1,1071,0,0),(2,154,0,0),(3,176,0,0),(4,240,0,0),(5,238,0,0),(6,494,0,0),(7,2542,0,0),(8,494,0,0),(9,494,0,0),(10,494,0,0),(11,4590,0,0),(12,494,0,0),(13,1006,0,0),(14,494,0,0),(15,494,0,0),(16,240,0,0)]
def yd.hl:SH:=shN yd.te [] [] [(7,494,0,0)]
def yd.L7 (F:Nat) (R:Type) (K:KK R) (n:Nat) (x:(Int×Int×Int×Int×Int×Int×Int×Unit)×(Unit)×(Unit)):Option R :=
 yd.l7 F (fun al bh bl ql rh rl i t34=>K (.exit 0) (yW (yd.h 7) ((al,bh,bl,ql,rh,rl,i,t34,()),(),()))) n x.1.1 x.1.2.1 x.1.2.2.1 x.1.2.2.2.1 x.1.2.2.2.2.1 x.1.2.2.2.2.2.1 x.1.2.2.2.2.2.2.1
def yd.X (m:Int) (F:Nat):FX TI (G m) Sg:={hn:={na:=4},lv:=[⟨96,zl.sp F⟩,⟨91,zT.sp F⟩],N:=82,H:=yd.h,HL:=yd.hl,L:=mkL yd.hl [⟨7,fun x R K=>yd.L7 F R K F x⟩]}
theorem yd.ok (m:Int) (F:Nat):OKP m 93 yd.sg (yd.sp F) :=
 okp (yd.X m F) Go.Proofs.Tryz.func93 ⟨zl.ok m F,zT.ok m F,trivial⟩ trivial 1 0 (yF (FX.loopk 7 F (yd.L7 F)) zC) zC
def yY.te:TEs:=[kL 2,kL 3,kL 4,kL 5,(6,kI),(7,.c (.int .u64)),(8,.c (.int .u64)),(9,.c (.int .u64)),(10,.c (.int .u64)),(11,.c (.int .u64)),(12,.c (.int .u64)),(13,.c (.int .u64)),(14,.c (.int .u64)),kL 15,(16,kI),kL 17,(20,kB),(57,kB)]
def yY.tb:TEs:=[(2,.g zf),(3,.g zf),(4,.g zf),(5,.g zf),(15,.g zf),(17,.g zf)]
def yY.h:SH:=shN yY.te yY.tb [] [(0,15,15,0),(1,65551,15,0),(2,28,12,0),(3,111,15,0),(4,495,15,0),(5,7695,15,0),(6,30733,29,0),(7,161805,29,0),(8,28,12,0),(9,57356,60,0),(10,28,12,0)]
def yY.X (m:Int) (F:Nat):FX TI (G m) Sg:={hn:={na:=2},lv:=[⟨69,xg.sp F⟩,⟨93,yd.sp F⟩,⟨73,xj.sp F⟩],N:=73,H:=yY.h}
theorem yY.ok (m:Int) (F:Nat):OKP m 79 yY.sg (yY.sp F) :=
 okp (yY.X m F) Go.Proofs.Tryz.func79 ⟨xg.ok m F,yd.ok m F,xj.ok m F,trivial⟩ trivial 0 0 zC zC
def xk.te:TEs:=[(3,kI),kL 4,kL 5,kL 6,(8,kB),(9,kB),(10,.c (.int .u64)),(11,.c (.int .u64)),(12,.c (.int .u64)),(13,.c (.int .u64)),(14,.c (.int .u64)),(15,.c (.int .u64)),(16,.c (.int .u64)),(25,kI),(26,kB),(29,kB),(33,kB),(58,kB),(72,kB)]
def xk.tb:TEs:=[(4,.g zf),(5,.g zf),(6,.g zf)]
def xk.h:SH:=shN xk.te xk.tb [] [(0,15,7,0),(1,47,7,0),(2,8239,7,0),(3,24623,7,0),(4,16,0,0),(5,41007,7,0),(6,16,0,0),(7,65551,7,0),(8,16,0,0),(9,203,5,0),(10,963,1,0),(11,3523,1,0),(12,5315,1,0),(13,136387,1,0),(14,16,0,0),(15,262147,1,0),(16,16,0,0),(17,16,0,0)]
def xk.X (m:Int) (F:Nat):FX TI (G m) Sg:={hn:={na:=4},lv:=[⟨69,xg.sp F⟩,⟨91,zT.sp F⟩],N:=89,H:=xk.h}
theorem xk.ok (m:Int) (F:Nat):OKP m 80 xk.sg (xk.sp F) :=
 okp (xk.X m F) Go.Proofs.Tryz.func80 ⟨xg.ok m F,zT.ok m F,trivial⟩ trivial 0 0 zC zC
def xF.te:TEs:=[kL 2,kL 3,kL 4,(5,kI),(6,.c (.int .u64)),(7,.c (.int .u64)),(8,.c (.int .u64)),kL 10,(49,kB)]
def xF.tb:TEs:=[(2,.g zf),(3,.g zf),(4,.g zf),(10,.g zf)]
def xF.h:SH:=shN xF.te xF.tb [] [(0,7,7,0),(1,55,7,0),(2,87,7,0),(3,135,15,0),(4,388,12,0),(5,12,4,0),(6,12,4,0)]
def xF.X (m:Int) (F:Nat):FX TI (G m) Sg:={hn:={na:=2},lv:=[⟨72,ye.sp F⟩],N:=52,H:=xF.h}
theorem xF.ok (m:Int) (F:Nat):OKP m 82 xF.sg (xF.sp F) :=
 okp (xF.X m F) Go.Proofs.Tryz.func82 ⟨ye.ok m F,trivial⟩ trivial 0 0 zC zC
def xw.te:TEs:=[(2,kI),kL 3,kL 4,kL 6,(7,kI),kL 8,kL 9,(10,kI),(16,kB),(39,kB),(48,kB)]
def xw.tb:TEs:=[(3,.g zf),(4,.g zf),(6,.g zf),(8,.g zf),(9,.g zf)]
def xw.h:SH:=shN xw.te xw.tb [] [(0,15,7,0),(1,271,7,0),(2,24,4,0),(3,239,31,0),(4,686,15,0),(5,24,4,0),(6,1064,12,0),(7,24,4,0),(8,24,4,0)]
def xw.X (m:Int) (F:Nat):FX TI (G m) Sg:={hn:={na:=3},lv:=[⟨79,yY.sp F⟩,⟨80,xk.sp F⟩,⟨42,yy.sp F⟩,⟨81,xE.sp F⟩,⟨82,xF.sp F⟩],N:=59,H:=xw.h}
theorem xw.ok (m:Int) (F:Nat):OKP m 50 xw.sg (xw.sp F) :=
 okp (xw.X m F) Go.Proofs.Tryz.func50 ⟨yY.ok m F,xk.ok m F,yy.ok m F,xE.ok m F,xF.ok m F,trivial⟩ trivial 0 0 zC zC
def xx.te:TEs:=[(0,kI),(2,kI)]
def xx.h:SH:=shN xx.te [] [] [(0,1,0,0),(1,2,0,0)]
def xx.X (m:Int) (F:Nat):FX TI (G m) Sg:={hn:={na:=1},N:=7,H:=xx.h}
theorem xx.ok (m:Int) (F:Nat):OKP m 83 xx.sg (xx.sp F) :=
 okp (xx.X m F) Go.Proofs.Tryz.func83 trivial trivial 0 0 zC zC
def z7.te:TEs:=[kL 0,kL 4,kL 5,kL 6]
def z7.tb:TEs:=[(0,.g yv),(4,.g zf),(5,.g zf),(6,.g zf)]
def z7.h:SH:=shN z7.te z7.tb [] [(0,15,15,0),(1,8,9,0)]
def z7.X (m:Int) (F:Nat):FX TI (G m) Sg:={hn:={na:=3},lv:=[⟨82,xF.sp F⟩,⟨49,zY.sp F⟩],N:=14,H:=z7.h}
theorem z7.ok (m:Int) (F:Nat):OKP m 53 z7.sg (z7.sp F) :=
 okp (z7.X m F) Go.Proofs.Tryz.func53 ⟨xF.ok m F,zY.ok m F,trivial⟩ trivial 0 0 zC zC
def zp.te:TEs:=[kL 0,(2,.b zo),kL 4,kL 6,(7,kI),kL 8,(9,kI),kL 10,kL 11,(13,.b zo),(14,kI),(15,kI),(16,kB),(29,kB)]
def zp.tb:TEs:=[(0,.g yv),(4,.g zf),(6,.g zf),(8,.g zf),(10,.g zo),(11,.g zf)]
def zp.h:SH:=shN zp.te zp.tb [] [(0,15,7,0),(1,63,15,0),(2,3647,15,0),(3,7743,15,0),(4,3839,31,0),(5,3839,31,0),(6,12031,31,0),(7,3647,15,0),(8,3647,15,0),(9,313,45,0),(10,8,5,0)]
def zp.hl:SH:=shN zp.te zp.tb [] [(3,3647,15,0)]
def zp.L3 (F:Nat) (R:Type) (K:KK R) (n:Nat) (x:(Unit×(List zo.T)×Unit×Unit×Int×Unit×(List zo.T)×Int×Int×Unit)×(yv.T×zf.T×zf.T×zf.T×Unit)×(Unit)):Option R :=
 zp.l3 F (fun tiers rate t13 t14 t15 t16 m x r6 ways=>K (.exit 0) (yW (zp.h 3) (((),tiers,(),(),rate,(),t13,t14,t15,t16,()),(m,x,r6,ways,()),()))) n x.1.2.1 x.1.2.2.2.2.1 x.1.2.2.2.2.2.2.1 x.1.2.2.2.2.2.2.2.1 x.1.2.2.2.2.2.2.2.2.1 x.2.1.1 x.2.1.2.1 x.2.1.2.2.1 x.2.1.2.2.2.1
def zp.X (m:Int) (F:Nat):FX TI (G m) Sg:={hn:={na:=3,sp:=fun s=>lk 0 s [(0,2)]},lv:=[⟨83,xx.sp F⟩,⟨42,yy.sp F⟩,⟨48,zW.sp F⟩,⟨53,z7.sp F⟩],N:=75,H:=zp.h,HL:=zp.hl,L:=mkL zp.hl [⟨3,fun x R K=>zp.L3 F R K F x⟩]}
theorem zp.ok (m:Int) (F:Nat):OKP m 51 zp.sg (zp.sp F) :=
 okp (zp.X m F) Go.Proofs.Tryz.func51 ⟨xx.ok m F,yy.ok m F,zW.ok m F,z7.ok m F,trivial⟩ trivial 1 0 (yF (FX.loopk 3 F (zp.L3 F)) zC) zC
def ym.te:TEs:=[(0,.b zf),kL 2,(3,kI),(4,.c (.int .u64)),(5,.c (.int .u64)),(6,kI),kL 8,(9,.c (.int .u64)),kL 10,(11,.b zf),(12,kI),(13,kI),(14,kB),(50,kB)]
def ym.tb:TEs:=[(2,.g zf),(8,.g zf),(10,.g zf)]
def ym.h:SH:=shN ym.te ym.tb [] [(0,3,1,0),(1,27,1,0),(2,59,1,0),(3,3642,1,0),(4,7738,1,0),(5,3706,3,0),(6,3706,3,0),(7,3834,3,0),(8,3834,3,0),(9,3642,1,0),(10,3642,1,0),(11,290,5,0),(12,8450,5,0),(13,6,1,0),(14,6,1,0)]
def ym.hl:SH:=shN ym.te ym.tb [] [(4,3642,1,0)]
def ym.L4 (F:Nat) (R:Type) (K:KK R) (n:Nat) (x:(Unit×Int×Int×Int×(List zf.T)×Int×Int×Unit)×(zf.T×Unit)×(Unit)):Option R :=
 ym.l4 F (fun lo hi top t11 t12 t13 t14 r2=>K (.exit 0) (yW (ym.h 4) (((),lo,hi,top,t11,t12,t13,t14,()),(r2,()),()))) n x.1.2.1 x.1.2.2.1 x.1.2.2.2.1 x.1.2.2.2.2.1 x.1.2.2.2.2.2.1 x.1.2.2.2.2.2.2.1 x.2.1.1
def ym.X (m:Int) (F:Nat):FX TI (G m) Sg:={hn:={na:=1},lv:=[⟨72,ye.sp F⟩],N:=53,H:=ym.h,HL:=ym.hl,L:=mkL ym.hl [⟨4,fun x R K=>ym.L4 F R K F x⟩]}
theorem ym.ok (m:Int) (F:Nat):OKP m 52 ym.sg (ym.sp F) :=
 okp (ym.X m F) Go.Proofs.Tryz.func52 ⟨ye.ok m F,trivial⟩ trivial 1 0 (yF (FX.loopk 4 F (ym.L4 F)) zC) zC
def zy.te:TEs:=[kL 0,(3,.b zf),kL 5,kL 6,kL 8,kL 9,(11,kI),(12,kB),(17,kB),(28,kB),(31,kB),(47,kB),(57,kB),(67,kB),(96,kB)]
def zy.tb:TEs:=[(0,.g yv),(5,.g zI),(6,.g zr),(8,.g zf),(9,.g zf)]
def zy.h:SH:=shN zy.te zy.tb [] [(0,31,15,0),(1,95,15,0),(2,223,15,0),(3,16,9,0),(4,351,15,0),(5,16,9,0),(6,607,15,0),(7,16,9,0),(8,1119,15,0),(9,16,9,0),(10,2139,13,0),(11,16,9,0),(12,4187,13,0),(13,4187,13,0),(14,16,9,0),(15,8219,13,0),(16,18,9,0),(17,16,9,0),(18,57,29,0),(19,16441,29,0),(20,48,25,0),(21,16,9,0)]
def zy.hj:Nat->Option Shape:=shO zy.te zy.tb [] [(18,27,13,0)]
def zy.J18 (F:Nat) (x:(Unit×(List zf.T)×Unit×Unit×Unit)×(yv.T×zr.T×zf.T×Unit)×(Unit)) (R:Type) (K:KK R):Option R :=
 zy.j18 F (fun m r8=>K .ret (yW (zy.h 21) (((),()),(m,r8,()),()))) x.1.2.1 x.2.1.1 x.2.1.2.1 x.2.1.2.2.1
def zy.X (m:Int) (F:Nat):FX TI (G m) Sg:={hn:={na:=4},lv:=[⟨42,yy.sp F⟩,⟨48,zW.sp F⟩,⟨50,xw.sp F⟩,⟨49,zY.sp F⟩,⟨51,zp.sp F⟩,⟨52,ym.sp F⟩,⟨53,z7.sp F⟩],N:=104,H:=zy.h,HJ:=zy.hj,J:=mkJ zy.hj [⟨18,zy.J18 F⟩]}
theorem zy.ok (m:Int) (F:Nat):OKP m 35 zy.sg (zy.sp F) :=
 okp (zy.X m F) Go.Proofs.Tryz.func35 ⟨yy.ok m F,zW.ok m F,xw.ok m F,zY.ok m F,zp.ok m F,ym.ok m F,z7.ok m F,trivial⟩ trivial 0 1 zC (yF (FX.cutk 18) zC)
def xN.te:TEs:=[kL 2,kL 3,(4,kI),(5,kB),(9,kB)]
def xN.tb:TEs:=[(2,.g zf),(3,.g zf)]
def xN.h:SH:=shN xN.te xN.tb [] [(0,3,3,0),(1,11,3,0),(2,4,0,0),(3,19,3,0),(4,16,0,0),(5,4,0,0),(6,4,0,0)]
def xN.X (m:Int) (F:Nat):FX TI (G m) Sg:={hn:={na:=2},N:=27,H:=xN.h}
theorem xN.ok (m:Int) (F:Nat):OKP m 54 xN.sg (xN.sp F) :=
 okp (xN.X m F) Go.Proofs.Tryz.func54 trivial trivial 0 0 zC zC
def y9.te:TEs:=[kL 2,kL 3,(4,kB),kL 5,(9,kB)]
def y9.tb:TEs:=[(2,.g zr),(3,.g zf),(5,.g zf)]
def y9.h:SH:=shN y9.te y9.tb [] [(0,3,3,0),(1,11,7,0),(2,26,6,0),(3,10,6,0),(4,4,0,0)]
def y9.X (m:Int) (F:Nat):FX TI (G m) Sg:={hn:={na:=2},lv:=[⟨42,yy.sp F⟩,⟨43,yz.sp F⟩,⟨54,xN.sp F⟩],N:=20,H:=y9.h}
theorem y9.ok (m:Int) (F:Nat):OKP m 36 y9.sg (y9.sp F) :=
 okp (y9.X m F) Go.Proofs.Tryz.func36 ⟨yy.ok m F,yz.ok m F,xN.ok m F,trivial⟩ trivial 0 0 zC zC
def zk.te:TEs:=[kL 2,kL 3,(4,.c (.sl zf)),(5,kI),(6,.c (.sl zf)),(6,.ow 6),(7,.ow 7),(8,.loc 15),(9,kI),kL 10,(11,kI),kL 12,(17,.c (.sl zr)),(18,kI),(19,kI),(20,kB),(44,kB)]
def zk.tb:TEs:=[(2,.g zI),(3,.g zf),(10,.g zr),(12,.g zf),(15,.g yv)]
def zk.tp:List wx:=[⟨6,.env 6,zf⟩,⟨7,.env 7,zf⟩]
def zk.h:SH:=shN zk.te zk.tb zk.tp [(0,3,3,0),(1,99,3,3),(2,225,17,3),(3,28897,17,3),(4,61665,17,3),(5,29665,21,3),(6,30689,21,3),(7,32737,29,3),(8,97761,25,3),(9,12,0,0),(10,31969,25,3),(11,28897,17,3),(12,28897,17,3),(13,12,0,0)]
def zk.hl:SH:=shN zk.te zk.tb zk.tp [(4,28897,17,3)]
def zk.hj:Nat->Option Shape:=shO zk.te zk.tb zk.tp [(13,16,0,0)]
def zk.L4 (F:Nat) (R:Type) (K:KK R) (n:Nat) (x:(Unit×Unit×Unit×Unit×(List zr.T)×Int×Int×Unit)×(zI.T×yv.T×Unit)×((List zf.T)×(List zf.T)×Unit)):Option R :=
 zk.l4 F (fun r4 r5=>K .ret (yW (zk.h 9) ((r4,r5,()),(),()))) (fun t17 t18 t19 t20 p m mags pile=>K (.exit 0) (yW (zk.h 4) (((),(),(),(),t17,t18,t19,t20,()),(p,m,()),(mags,pile,())))) n x.1.2.2.2.2.1 x.1.2.2.2.2.2.1 x.1.2.2.2.2.2.2.1 x.2.1.1 x.2.1.2.1 x.2.2.1 x.2.2.2.1
def zk.J13 (F:Nat) (x:((List zf.T)×Unit)×(Unit)×(Unit)) (R:Type) (K:KK R):Option R :=
 zk.j13 F (fun r4 r5=>K .ret (yW (zk.h 13) ((r4,r5,()),(),()))) x.1.1
def zk.X (m:Int) (F:Nat):FX TI (G m) Sg:={hn:={MU:=fun s=>lk false s [(49,true),(55,true)],na:=2,fzJ:=fun r=>lk [] r [(13,[6])]},lv:=[⟨34,zQ.sp F⟩,⟨35,zy.sp F⟩,⟨36,y9.sp F⟩],N:=58,H:=zk.h,HL:=zk.hl,HJ:=zk.hj,L:=mkL zk.hl [⟨4,fun x R K=>zk.L4 F R K F x⟩],J:=mkJ zk.hj [⟨13,zk.J13 F⟩]}
theorem zk.ok (m:Int) (F:Nat):OKP m 15 zk.sg (zk.sp F) :=
 okp (zk.X m F) Go.Proofs.Tryz.func15 ⟨zQ.ok m F,zy.ok m F,y9.ok m F,trivial⟩ trivial 1 1 (yF (FX.loopk 4 F (zk.L4 F)) zC) (yF (FX.cutk 13) zC)
def yV.te:TEs:=[kL 1,kL 2,(3,kI),(4,kI),(6,kI),(7,kI),(8,kI),kL 10,(11,kI),(13,kI),(21,kB),(31,kB),(49,kB)]
def yV.tb:TEs:=[(1,.g zI),(2,.g zf),(10,.g zf)]
def yV.h:SH:=shN yV.te yV.tb [] [(0,3,3,0),(1,51,3,0),(2,1075,3,0),(3,14,2,0),(4,67,3,0),(5,2115,3,0),(6,14,2,0),(7,387,7,0),(8,898,6,0),(9,4994,6,0),(10,14,2,0),(11,14,2,0)]
def yV.X (m:Int) (F:Nat):FX TI (G m) Sg:={hn:={na:=1},lv:=[⟨21,zj.sp F⟩,⟨8,zE.sp F⟩,⟨22,zP.sp F⟩,⟨15,zk.sp F⟩],N:=54,H:=yV.h}
theorem yV.ok (m:Int) (F:Nat):OKP m 11 yV.sg (yV.sp F) :=
 okp (yV.X m F) Go.Proofs.Tryz.func11 ⟨zj.ok m F,zE.ok m F,zP.ok m F,zk.ok m F,trivial⟩ trivial 0 0 zC zC
def yh.te:TEs:=[kL 0,(2,.c (.sl .fnb))]
def yh.tb:TEs:=[(0,.go (.pair zI (.pair (.sl (.int .i64)) (.pair zf (.pair zi (.sl .fnb))))) [(9,1009),(10,1010),(11,1011),(12,1012)])]
def yh.tp:List wx:=[⟨1009,.cell 0 9,(.int .i64)⟩,⟨1010,.cell 0 10,zf⟩,⟨1011,.cell 0 11,(.sl zo)⟩,⟨1012,.cell 0 12,zM⟩]
def yh.h:SH:=shN yh.te yh.tb yh.tp [(0,1,1,15),(1,2,1,15)]
def yh.X (m:Int) (F:Nat):FX TI (G m) Sg:={hn:={na:=1,me:=some 0},N:=36,H:=yh.h}
theorem yh.ok (m:Int) (F:Nat):OKP m 13 yh.sg (yh.sp F) :=
 okp (yh.X m F) Go.Proofs.Tryz.func13 trivial trivial 0 0 zC zC
def zx.te:TEs:=[(0,.ow 1000000),(2,kI),(3,kI),(9,kB)]
def zx.tp:List wx:=[⟨1000000,.env 0,(.int .i64)⟩]
def zx.h:SH:=shN zx.te [] zx.tp [(0,7,0,1),(1,15,0,1),(2,7,0,1),(3,7,0,1)]
def zx.hl:SH:=shN zx.te [] zx.tp [(1,7,0,1)]
def zx.L1 (F:Nat) (R:Type) (K:KK R) (n:Nat) (x:(Unit×Int×Int×Unit)×(Unit)×((List Int)×Unit)):Option R :=
 zx.l1 F (fun i j t9 s=>K (.exit 0) (yW (zx.h 1) (((),i,j,t9,()),(),(s,())))) n x.1.2.1 x.1.2.2.1 x.2.2.1
def zx.X (m:Int) (F:Nat):FX TI (G m) Sg:={hn:={MU:=fun s=>lk false s [(0,true)],na:=1},N:=28,H:=zx.h,HL:=zx.hl,L:=mkL zx.hl [⟨1,fun x R K=>zx.L1 F R K F x⟩]}
theorem zx.ok (m:Int) (F:Nat):OKP m 33 zx.sg (zx.sp F) :=
 okp (zx.X m F) Go.Proofs.Tryz.func33 trivial trivial 1 0 (yF (FX.loopk 1 F (zx.L1 F)) zC) zC
def zn.te:TEs:=[kL 0,(5,kI),(6,.b (.int .i64)),(7,kI),(8,kI),(9,kB)]
def zn.tb:TEs:=[(0,.go (.pair zI (.pair (.sl (.int .i64)) (.pair zf (.pair zi (.sl .fnb))))) [(9,1009),(10,1010),(11,1011),(12,1012)])]
def zn.tp:List wx:=[⟨1009,.cell 0 9,(.int .i64)⟩,⟨1010,.cell 0 10,zf⟩,⟨1011,.cell 0 11,(.sl zo)⟩,⟨1012,.cell 0 12,zM⟩]
def zn.h:SH:=shN zn.te zn.tb zn.tp [(0,29,1,15),(1,61,1,15),(2,31,1,15),(3,29,1,15),(4,29,1,15)]
def zn.hl:SH:=shN zn.te zn.tb zn.tp [(1,29,1,15)]
def zn.L1 (mz:Nat) (F:Nat) (R:Type) (K:KK R) (n:Nat) (x:(Unit×(List Int)×Int×Int×Unit)×((zI.T×(List Int)×zf.T×zi.T×List Nat)×Unit)×((List Int)×(List zf.T)×(List (List zo.T))×(List zM.T)×Unit)):Option R :=
 zn.l1 (za.it F mz) F (fun t6 t7 t8 t9 m m_9 m_10 m_11 m_12=>K (.exit 0) (yW (zn.h 1) (((),t6,t7,t8,t9,()),(m,()),(m_9,m_10,m_11,m_12,())))) n x.1.2.1 x.1.2.2.1 x.1.2.2.2.1 x.2.1.1 x.2.2.1 x.2.2.2.1 x.2.2.2.2.1 x.2.2.2.2.2.1
def zn.X (m:Int) (mz:Nat) (F:Nat):FX TI (G m) Sg:={hn:={na:=2,me:=some 0},lv:=[⟨14,za.itp F mz⟩],N:=16,H:=zn.h,HL:=zn.hl,L:=mkL zn.hl [⟨1,fun x R K=>zn.L1 mz F R K F x⟩]}
theorem zn.ok (m:Int) (F mz:Nat) (hme:OKP m 14 za.sg (za.itp F mz)):OKP m 46 zn.sg (zn.sp (za.it F mz) F) :=
 okp (zn.X m mz F) Go.Proofs.Tryz.func46 ⟨hme,trivial⟩ trivial 1 0 (yF (FX.loopk 1 F (zn.L1 mz F)) zC) zC
def zu.te:TEs:=[(0,.b zo),(1,.b zo),(4,kB),(5,kI),(10,kB),(12,kI),(13,kI),(14,kB),(24,kB)]
def zu.h:SH:=shN zu.te [] [] [(0,3,0,0),(1,19,0,0),(2,4,0,0),(3,99,0,0),(4,227,0,0),(5,107,0,0),(6,355,0,0),(7,4,0,0),(8,99,0,0),(9,4,0,0)]
def zu.hl:SH:=shN zu.te [] [] [(4,99,0,0)]
def zu.L4 (F:Nat) (R:Type) (K:KK R) (n:Nat) (x:((List zo.T)×(List zo.T)×Int×Int×Unit)×(Unit)×(Unit)):Option R :=
 zu.l4 F (fun r4=>K .ret (yW (zu.h 7) ((r4,()),(),()))) (fun s1 s2 t12 t13 t14=>K (.exit 0) (yW (zu.h 4) ((s1,s2,t12,t13,t14,()),(),()))) n x.1.1 x.1.2.1 x.1.2.2.1 x.1.2.2.2.1
def zu.X (m:Int) (F:Nat):FX TI (G m) Sg:={hn:={na:=2},N:=26,H:=zu.h,HL:=zu.hl,L:=mkL zu.hl [⟨4,fun x R K=>zu.L4 F R K F x⟩]}
theorem zu.ok (m:Int) (F:Nat):OKP m 76 zu.sg (zu.sp F) :=
 okp (zu.X m F) Go.Proofs.Tryz.func76 trivial trivial 1 0 (yF (FX.loopk 4 F (zu.L4 F)) zC) zC
def yj.te:TEs:=[(0,.b zo),(1,.p (.bsl zo)),(3,kB)]
def yj.h:SH:=shN yj.te [] [] [(0,3,0,0),(1,4,0,0)]
def yj.X (m:Int) (F:Nat):FX TI (G m) Sg:={hn:={na:=2},lv:=[⟨76,zu.sp F⟩],N:=7,H:=yj.h}
theorem yj.ok (m:Int) (F:Nat):OKP m 75 yj.sg (yj.sp F) :=
 okp (yj.X m F) Go.Proofs.Tryz.func75 ⟨zu.ok m F,trivial⟩ trivial 0 0 zC zC
def zg.te:TEs:=[(0,.b (.sl zo)),(1,.cl (.bsl zo)),(4,kI),(5,kI),(7,kI),(8,kI),(9,kB),(16,kB)]
def zg.h:SH:=shN zg.te [] [] [(0,3,0,0),(1,51,0,0),(2,115,0,0),(3,59,0,0),(4,187,0,0),(5,4,0,0),(6,51,0,0),(7,4,0,0)]
def zg.hl:SH:=shN zg.te [] [] [(2,51,0,0)]
def zg.L2 (F:Nat) (R:Type) (K:KK R) (n:Nat) (x:((List (List zo.T))×(Nat×(List zo.T))×Int×Int×Unit)×(Unit)×(Unit)):Option R :=
 zg.l2 F (fun r4=>K .ret (yW (zg.h 5) ((r4,()),(),()))) (fun s f t7 t8 t9=>K (.exit 0) (yW (zg.h 2) ((s,f,t7,t8,t9,()),(),()))) n x.1.1 x.1.2.1 x.1.2.2.1 x.1.2.2.2.1
def zg.X (m:Int) (F:Nat):FX TI (G m) Sg:={hn:={DS:=fun d=>lk none d [(16,some zg.ds16)],na:=2},ld:=[⟨16,zg.d16 F⟩],N:=19,H:=zg.h,HL:=zg.hl,L:=mkL zg.hl [⟨2,fun x R K=>zg.L2 F R K F x⟩]}
theorem zg.ok (m:Int) (F:Nat):OKP m 77 zg.sg (zg.sp F) :=
 okp (zg.X m F) Go.Proofs.Tryz.func77 trivial ⟨YW ⟨⟨75,by kernel_rfl,yj.ok m F⟩,trivial⟩,trivial⟩ 1 0 (yF (FX.loopk 2 F (zg.L2 F)) zC) zC
theorem yP.lay:Go.Proofs.SlLaysE0.n41 Go.Proofs.Tryz.prog ⟨fun | 41=>78 | n=>n,fun | 22=>48 | 23=>68 | 4=>4 | n=>n,fun n=>n⟩:={mixed:=mixed,f41:=⟨Go.Proofs.Tryz.f78.name,by decide,Go.Proofs.Tryz.func78.trans (congrArg some (by kernel_rfl))⟩,t4:=Go.Proofs.Tryz.underlying4,a4:=Go.Proofs.Tryz.isAgg4,z4:=Go.Proofs.Tryz.sizeOf4,v4:=Go.Proofs.Tryz.zeroValue4,t22:=Go.Proofs.Tryz.underlying48,a22:=Go.Proofs.Tryz.isAgg48,z22:=Go.Proofs.Tryz.sizeOf48,v22:=Go.Proofs.Tryz.zeroValue48}
theorem yP.ok (m:Int) (F:Nat):OK Go.Proofs.Tryz.prog (G m) 78 yP.sg (yP.sp F):=SI rfl Go.Proofs.Tryz.func78 (by kernel_rfl) (tsOK 48) (by kernel_rfl) yP.lay rfl rfl
def zX.te:TEs:=[kL 0,kL 3,(3,.p (.bsl zo)),(4,kI),(5,.cl (.bsl zo)),(6,kI),(16,kB)]
def zX.tb:TEs:=[(0,.go (.pair zI (.pair (.sl (.int .i64)) (.pair zf (.pair zi (.sl .fnb))))) [(9,1009),(10,1010),(11,1011),(12,1012)]),(3,.c (.bsl zo))]
def zX.tp:List wx:=[⟨1009,.cell 0 9,(.int .i64)⟩,⟨1010,.cell 0 10,zf⟩,⟨1011,.cell 0 11,(.sl zo)⟩,⟨1012,.cell 0 12,zM⟩]
def zX.h:SH:=shN zX.te zX.tb zX.tp [(0,3,3,15),(1,21,1,15),(2,37,1,15),(3,101,1,15),(4,8,1,15),(5,1,1,15),(6,8,1,15)]
def zX.X (m:Int) (F:Nat):FX TI (G m) Sg:={hn:={CT:=fun d=>lk .unit d [(7,(.bsl zo))],na:=2,me:=some 0},lv:=[⟨77,zg.sp F⟩,⟨78,yP.sp F⟩],N:=38,H:=zX.h}
theorem zX.ok (m:Int) (F:Nat):OKP m 47 zX.sg (zX.sp F) :=
 okp (zX.X m F) Go.Proofs.Tryz.func47 ⟨zg.ok m F,yP.ok m F,trivial⟩ trivial 0 0 zC zC
def zw.te:TEs:=[]
def zw.tb:TEs:=[(0,.go (.pair zI (.pair (.sl (.int .i64)) (.pair zf (.pair zi (.sl .fnb))))) [(9,1009),(10,1010),(11,1011),(12,1012)])]
def zw.tp:List wx:=[⟨1009,.cell 0 9,(.int .i64)⟩,⟨1010,.cell 0 10,zf⟩,⟨1011,.cell 0 11,(.sl zo)⟩,⟨1012,.cell 0 12,zM⟩]
def zw.h:SH:=shN zw.te zw.tb zw.tp [(0,0,1,15)]
def zw.X (m:Int) (F:Nat):FX TI (G m) Sg:={hn:={na:=3,me:=some 0},N:=20,H:=zw.h}
theorem zw.ok (m:Int) (F:Nat):OKP m 44 zw.sg (zw.sp F) :=
 okp (zw.X m F) Go.Proofs.Tryz.func44 trivial trivial 0 0 zC zC
def z6.te:TEs:=[kL 0,(2,.b (.int .i64)),kL 4,(6,kI),(12,kB)]
def z6.tb:TEs:=[(0,.go (.pair zI (.pair (.sl (.int .i64)) (.pair zf (.pair zi (.sl .fnb))))) [(9,1009),(10,1010),(11,1011),(12,1012)]),(4,.g zr)]
def z6.tp:List wx:=[⟨1009,.cell 0 9,(.int .i64)⟩,⟨1010,.cell 0 10,zf⟩,⟨1011,.cell 0 11,(.sl zo)⟩,⟨1012,.cell 0 12,zM⟩]
def z6.h:SH:=shN z6.te z6.tb z6.tp [(0,7,3,15),(1,5,3,15),(2,13,3,15),(3,29,3,15),(4,13,3,15),(5,0,1,15)]
def z6.X (m:Int) (mz:Nat) (F:Nat):FX TI (G m) Sg:={hn:={na:=3,me:=some 0},lv:=[⟨46,zn.sp (za.it F mz) F⟩,⟨47,zX.sp F⟩,⟨44,zw.sp F⟩],N:=20,H:=z6.h}
theorem z6.ok (m:Int) (F mz:Nat) (hme:OKP m 14 za.sg (za.itp F mz)):OKP m 30 z6.sg (z6.sp (za.it F mz) F) :=
 okp (z6.X m mz F) Go.Proofs.Tryz.func30 ⟨(zn.ok m F mz hme),zX.ok m F,zw.ok m F,trivial⟩ trivial 0 0 zC zC
def zq.te:TEs:=[(0,.b zf),kL 3,(4,kI),(5,kI),(7,kI),(8,kI),(9,kB),(16,kB)]
def zq.tb:TEs:=[(3,.g zf)]
def zq.h:SH:=shN zq.te zq.tb [] [(0,3,1,0),(1,51,1,0),(2,115,1,0),(3,59,1,0),(4,187,1,0),(5,4,0,0),(6,51,1,0),(7,4,0,0)]
def zq.hl:SH:=shN zq.te zq.tb [] [(2,51,1,0)]
def zq.L2 (F:Nat) (R:Type) (K:KK R) (n:Nat) (x:((List zf.T)×Unit×Int×Int×Unit)×(zf.T×Unit)×(Unit)):Option R :=
 zq.l2 F (fun r4=>K .ret (yW (zq.h 5) ((r4,()),(),()))) (fun s t7 t8 t9 v=>K (.exit 0) (yW (zq.h 2) ((s,(),t7,t8,t9,()),(v,()),()))) n x.1.1 x.1.2.2.1 x.1.2.2.2.1 x.2.1.1
def zq.X (m:Int) (F:Nat):FX TI (G m) Sg:={hn:={na:=2},N:=19,H:=zq.h,HL:=zq.hl,L:=mkL zq.hl [⟨2,fun x R K=>zq.L2 F R K F x⟩]}
theorem zq.ok (m:Int) (F:Nat):OKP m 74 zq.sg (zq.sp F) :=
 okp (zq.X m F) Go.Proofs.Tryz.func74 trivial trivial 1 0 (yF (FX.loopk 2 F (zq.L2 F)) zC) zC
def zF.te:TEs:=[kL 0,kL 3,(4,kI),(5,kI),(14,kB)]
def zF.tb:TEs:=[(0,.go (.pair zI (.pair (.sl (.int .i64)) (.pair zf (.pair zi (.sl .fnb))))) [(9,1009),(10,1010),(11,1011),(12,1012)]),(3,.g zf)]
def zF.tp:List wx:=[⟨1009,.cell 0 9,(.int .i64)⟩,⟨1010,.cell 0 10,zf⟩,⟨1011,.cell 0 11,(.sl zo)⟩,⟨1012,.cell 0 12,zM⟩]
def zF.h:SH:=shN zF.te zF.tb zF.tp [(0,3,3,15),(1,11,3,15),(2,27,3,15),(3,4,1,15),(4,1,1,15),(5,4,1,15)]
def zF.X (m:Int) (F:Nat):FX TI (G m) Sg:={hn:={na:=2,me:=some 0},lv:=[⟨74,zq.sp F⟩],N:=35,H:=zF.h}
theorem zF.ok (m:Int) (F:Nat):OKP m 45 zF.sg (zF.sp F) :=
 okp (zF.X m F) Go.Proofs.Tryz.func45 ⟨zq.ok m F,trivial⟩ trivial 0 0 zC zC
def yu.te:TEs:=[kL 0,(2,.b (.int .i64)),kL 4,(6,kI),(12,kB)]
def yu.tb:TEs:=[(0,.go (.pair zI (.pair (.sl (.int .i64)) (.pair zf (.pair zi (.sl .fnb))))) [(9,1009),(10,1010),(11,1011),(12,1012)]),(4,.g zr)]
def yu.tp:List wx:=[⟨1009,.cell 0 9,(.int .i64)⟩,⟨1010,.cell 0 10,zf⟩,⟨1011,.cell 0 11,(.sl zo)⟩,⟨1012,.cell 0 12,zM⟩]
def yu.h:SH:=shN yu.te yu.tb yu.tp [(0,7,3,15),(1,5,3,15),(2,13,3,15),(3,29,3,15),(4,13,3,15),(5,0,1,15)]
def yu.X (m:Int) (mz:Nat) (F:Nat):FX TI (G m) Sg:={hn:={na:=3,me:=some 0},lv:=[⟨46,zn.sp (za.it F mz) F⟩,⟨42,yy.sp F⟩,⟨45,zF.sp F⟩,⟨44,zw.sp F⟩],N:=21,H:=yu.h}
theorem yu.ok (m:Int) (F mz:Nat) (hme:OKP m 14 za.sg (za.itp F mz)):OKP m 29 yu.sg (yu.sp (za.it F mz) F) :=
 okp (yu.X m mz F) Go.Proofs.Tryz.func29 ⟨(zn.ok m F mz hme),yy.ok m F,zF.ok m F,zw.ok m F,trivial⟩ trivial 0 0 zC zC
def yi.te:TEs:=[kL 0,kL 4,kL 6]
def yi.tb:TEs:=[(0,.go (.pair zI (.pair (.sl (.int .i64)) (.pair zf (.pair zi (.sl .fnb))))) [(9,1009),(10,1010),(11,1011),(12,1012)]),(4,.g zr),(6,.g zf)]
def yi.tp:List wx:=[⟨1009,.cell 0 9,(.int .i64)⟩,⟨1010,.cell 0 10,zf⟩,⟨1011,.cell 0 11,(.sl zo)⟩,⟨1012,.cell 0 12,zM⟩]
def yi.h:SH:=shN yi.te yi.tb yi.tp [(0,3,3,15),(1,5,5,15),(2,0,1,15)]
def yi.X (m:Int) (F:Nat):FX TI (G m) Sg:={hn:={na:=3,me:=some 0},lv:=[⟨42,yy.sp F⟩,⟨43,yz.sp F⟩,⟨45,zF.sp F⟩,⟨44,zw.sp F⟩],N:=24,H:=yi.h}
theorem yi.ok (m:Int) (F:Nat):OKP m 25 yi.sg (yi.sp F) :=
 okp (yi.X m F) Go.Proofs.Tryz.func25 ⟨yy.ok m F,yz.ok m F,zF.ok m F,zw.ok m F,trivial⟩ trivial 0 0 zC zC
def yb.te:TEs:=[kL 0,kL 4]
def yb.tb:TEs:=[(0,.go (.pair zI (.pair (.sl (.int .i64)) (.pair zf (.pair zi (.sl .fnb))))) [(9,1009),(10,1010),(11,1011),(12,1012)]),(4,.g zr)]
def yb.tp:List wx:=[⟨1009,.cell 0 9,(.int .i64)⟩,⟨1010,.cell 0 10,zf⟩,⟨1011,.cell 0 11,(.sl zo)⟩,⟨1012,.cell 0 12,zM⟩]
def yb.h:SH:=shN yb.te yb.tb yb.tp [(0,3,3,15),(1,0,1,15)]
def yb.X (m:Int) (F:Nat):FX TI (G m) Sg:={hn:={na:=3,me:=some 0},lv:=[⟨42,yy.sp F⟩,⟨45,zF.sp F⟩,⟨44,zw.sp F⟩],N:=13,H:=yb.h}
theorem yb.ok (m:Int) (F:Nat):OKP m 24 yb.sg (yb.sp F) :=
 okp (yb.X m F) Go.Proofs.Tryz.func24 ⟨yy.ok m F,zF.ok m F,zw.ok m F,trivial⟩ trivial 0 0 zC zC
def yA.te:TEs:=[kL 0,(2,.b (.int .i64)),kL 4]
def yA.tb:TEs:=[(0,.go (.pair zI (.pair (.sl (.int .i64)) (.pair zf (.pair zi (.sl .fnb))))) [(9,1009),(10,1010),(11,1011),(12,1012)]),(4,.g zr)]
def yA.tp:List wx:=[⟨1009,.cell 0 9,(.int .i64)⟩,⟨1010,.cell 0 10,zf⟩,⟨1011,.cell 0 11,(.sl zo)⟩,⟨1012,.cell 0 12,zM⟩]
def yA.h:SH:=shN yA.te yA.tb yA.tp [(0,7,3,15),(1,5,3,15),(2,0,1,15)]
def yA.X (m:Int) (mz:Nat) (F:Nat):FX TI (G m) Sg:={hn:={na:=3,me:=some 0},lv:=[⟨46,zn.sp (za.it F mz) F⟩,⟨44,zw.sp F⟩],N:=13,H:=yA.h}
theorem yA.ok (m:Int) (F mz:Nat) (hme:OKP m 14 za.sg (za.itp F mz)):OKP m 31 yA.sg (yA.sp (za.it F mz) F) :=
 okp (yA.X m mz F) Go.Proofs.Tryz.func31 ⟨(zn.ok m F mz hme),zw.ok m F,trivial⟩ trivial 0 0 zC zC
def zO.te:TEs:=[kL 0,kL 4,(6,kI),(9,kB)]
def zO.tb:TEs:=[(0,.go (.pair zI (.pair (.sl (.int .i64)) (.pair zf (.pair zi (.sl .fnb))))) [(9,1009),(10,1010),(11,1011),(12,1012)]),(4,.g zr)]
def zO.tp:List wx:=[⟨1009,.cell 0 9,(.int .i64)⟩,⟨1010,.cell 0 10,zf⟩,⟨1011,.cell 0 11,(.sl zo)⟩,⟨1012,.cell 0 12,zM⟩]
def zO.h:SH:=shN zO.te zO.tb zO.tp [(0,3,3,15),(1,7,3,15),(2,15,3,15),(3,7,3,15),(4,0,1,15)]
def zO.X (m:Int) (F:Nat):FX TI (G m) Sg:={hn:={na:=3,me:=some 0},lv:=[⟨44,zw.sp F⟩],N:=15,H:=zO.h}
theorem zO.ok (m:Int) (F:Nat):OKP m 26 zO.sg (zO.sp F) :=
 okp (zO.X m F) Go.Proofs.Tryz.func26 ⟨zw.ok m F,trivial⟩ trivial 0 0 zC zC
def ze.te:TEs:=[kL 0,(2,.b (.int .i64)),kL 4,(6,kI),(8,kI),(11,kB),(18,.b (.int .i64)),(19,kI),(20,kI),(21,kB)]
def ze.tb:TEs:=[(0,.go (.pair zI (.pair (.sl (.int .i64)) (.pair zf (.pair zi (.sl .fnb))))) [(9,1009),(10,1010),(11,1011),(12,1012)]),(4,.g zr)]
def ze.tp:List wx:=[⟨1009,.cell 0 9,(.int .i64)⟩,⟨1010,.cell 0 10,zf⟩,⟨1011,.cell 0 11,(.sl zo)⟩,⟨1012,.cell 0 12,zM⟩]
def ze.h:SH:=shN ze.te ze.tb ze.tp [(0,7,3,15),(1,15,3,15),(2,43,1,15),(3,11,1,15),(4,11,1,15),(5,457,1,15),(6,969,1,15),(7,473,1,15),(8,457,1,15),(9,457,1,15),(10,457,1,15)]
def ze.hl:SH:=shN ze.te ze.tb ze.tp [(6,457,1,15)]
def ze.hj:Nat->Option Shape:=shO ze.te ze.tb ze.tp [(4,11,1,15)]
def ze.L6 (mz:Nat) (F:Nat) (R:Type) (K:KK R) (n:Nat) (x:(Unit×Int×(List Int)×Int×Int×Unit)×((zI.T×(List Int)×zf.T×zi.T×List Nat)×Unit)×((List Int)×(List zf.T)×(List (List zo.T))×(List zM.T)×Unit)):Option R :=
 ze.l6 (za.it F mz) F (fun op t18 t19 t20 t21 m m_9 m_10 m_11 m_12=>K (.exit 0) (yW (ze.h 6) (((),op,t18,t19,t20,t21,()),(m,()),(m_9,m_10,m_11,m_12,())))) n x.1.2.1 x.1.2.2.1 x.1.2.2.2.1 x.1.2.2.2.2.1 x.2.1.1 x.2.2.1 x.2.2.2.1 x.2.2.2.2.1 x.2.2.2.2.2.1
def ze.J4 (mz:Nat) (F:Nat) (x:(Unit×(List Int)×Int×Unit)×((zI.T×(List Int)×zf.T×zi.T×List Nat)×Unit)×((List Int)×(List zf.T)×(List (List zo.T))×(List zM.T)×Unit)) (R:Type) (K:KK R):Option R :=
 ze.j4 (za.it F mz) F (fun op t18 t19 t20 t21 m m_9 m_10 m_11 m_12=>K .normal (yW (ze.h 6) (((),op,t18,t19,t20,t21,()),(m,()),(m_9,m_10,m_11,m_12,())))) x.1.2.1 x.1.2.2.1 x.2.1.1 x.2.2.1 x.2.2.2.1 x.2.2.2.2.1 x.2.2.2.2.2.1
def ze.X (m:Int) (mz:Nat) (F:Nat):FX TI (G m) Sg:={hn:={na:=3,me:=some 0},lv:=[⟨14,za.itp F mz⟩,⟨44,zw.sp F⟩],N:=31,H:=ze.h,HL:=ze.hl,HJ:=ze.hj,L:=mkL ze.hl [⟨6,fun x R K=>ze.L6 mz F R K F x⟩],J:=mkJ ze.hj [⟨4,ze.J4 mz F⟩]}
theorem ze.ok (m:Int) (F mz:Nat) (hme:OKP m 14 za.sg (za.itp F mz)):OKP m 28 ze.sg (ze.sp (za.it F mz) F) :=
 okp (ze.X m mz F) Go.Proofs.Tryz.func28 ⟨hme,zw.ok m F,trivial⟩ trivial 1 1 (yF (FX.loopk 6 F (ze.L6 mz F)) zC) (yF (FX.cutk 4) zC)
def zZ.te:TEs:=[kL 0,(2,.b (.int .i64)),kL 4]
def zZ.tb:TEs:=[(0,.go (.pair zI (.pair (.sl (.int .i64)) (.pair zf (.pair zi (.sl .fnb))))) [(9,1009),(10,1010),(11,1011),(12,1012)]),(4,.g zr)]
def zZ.tp:List wx:=[⟨1009,.cell 0 9,(.int .i64)⟩,⟨1010,.cell 0 10,zf⟩,⟨1011,.cell 0 11,(.sl zo)⟩,⟨1012,.cell 0 12,zM⟩]
def zZ.h:SH:=shN zZ.te zZ.tb zZ.tp [(0,7,3,15),(1,5,3,15),(2,0,1,15)]
def zZ.X (m:Int) (mz:Nat) (F:Nat):FX TI (G m) Sg:={hn:={na:=3,me:=some 0},lv:=[⟨46,zn.sp (za.it F mz) F⟩,⟨44,zw.sp F⟩],N:=16,H:=zZ.h}
theorem zZ.ok (m:Int) (F mz:Nat) (hme:OKP m 14 za.sg (za.itp F mz)):OKP m 27 zZ.sg (zZ.sp (za.it F mz) F) :=
 okp (zZ.X m mz F) Go.Proofs.Tryz.func27 ⟨(zn.ok m F mz hme),zw.ok m F,trivial⟩ trivial 0 0 zC zC
def yn.te:TEs:=[kL 0,(2,.b (.int .i64)),kL 4,(6,kI),(7,kI)]
def yn.tb:TEs:=[(0,.go (.pair zI (.pair (.sl (.int .i64)) (.pair zf (.pair zi (.sl .fnb))))) [(9,1009),(10,1010),(11,1011),(12,1012)]),(4,.g zr)]
def yn.tp:List wx:=[⟨1009,.cell 0 9,(.int .i64)⟩,⟨1010,.cell 0 10,zf⟩,⟨1011,.cell 0 11,(.sl zo)⟩,⟨1012,.cell 0 12,zM⟩]
def yn.h:SH:=shN yn.te yn.tb yn.tp [(0,7,3,15),(1,7,3,15),(2,15,3,15),(3,11,1,15),(4,11,1,15),(5,27,1,15),(6,27,1,15),(7,25,1,15),(8,17,1,15),(9,0,1,15)]
def yn.X (m:Int) (mz:Nat) (F:Nat):FX TI (G m) Sg:={hn:={na:=3,me:=some 0},lv:=[⟨14,za.itp F mz⟩,⟨42,yy.sp F⟩,⟨45,zF.sp F⟩,⟨44,zw.sp F⟩],N:=75,H:=yn.h}
theorem yn.ok (m:Int) (F mz:Nat) (hme:OKP m 14 za.sg (za.itp F mz)):OKP m 32 yn.sg (yn.sp (za.it F mz) F) :=
 okp (yn.X m mz F) Go.Proofs.Tryz.func32 ⟨hme,yy.ok m F,zF.ok m F,zw.ok m F,trivial⟩ trivial 0 0 zC zC
def za.te:TEs:=[kL 0,(1,kI),(4,.c (.sl (.int .i64))),(4,.ow 4),(5,kI),kL 6,(17,kB)]
def za.tb:TEs:=[(0,.go (.pair zI (.pair (.sl (.int .i64)) (.pair zf (.pair zi (.sl .fnb))))) [(9,1009),(10,1010),(11,1011),(12,1012)]),(6,.g zr)]
def za.tp:List wx:=[⟨4,.env 4,(.int .i64)⟩,⟨1009,.cell 0 9,(.int .i64)⟩,⟨1010,.cell 0 10,zf⟩,⟨1011,.cell 0 11,(.sl zo)⟩,⟨1012,.cell 0 12,zM⟩]
def za.h:SH:=shN za.te za.tb za.tp [(0,11,1,31),(1,27,1,31),(2,91,1,31),(3,27,1,31),(4,27,1,31),(5,7,1,30),(6,37,3,30),(7,0,1,30)]
def za.hl:SH:=shN za.te za.tb za.tp [(2,27,1,31)]
def za.L2 (mz:Nat) (F:Nat) (R:Type) (K:KK R) (n:Nat) (x:(Unit×Int×Unit×Int×Unit)×((zI.T×(List Int)×zf.T×zi.T×List Nat)×Unit)×((List Int)×(List Int)×(List zf.T)×(List (List zo.T))×(List zM.T)×Unit)):Option R :=
 za.l2 (za.it F mz) F (fun i at_ t17 m kids m_9 m_10 m_11 m_12=>K (.exit 0) (yW (za.h 2) (((),i,(),at_,t17,()),(m,()),(kids,m_9,m_10,m_11,m_12,())))) n x.1.2.1 x.1.2.2.2.1 x.2.1.1 x.2.2.1 x.2.2.2.1 x.2.2.2.2.1 x.2.2.2.2.2.1 x.2.2.2.2.2.2.1
def za.X (m:Int) (mz:Nat) (F:Nat):FX TI (G m) Sg:={hn:={MU:=fun s=>lk false s [(29,true)],DS:=fun d=>lk none d [(50,some za.ds50)],na:=2,fz:=fun r=>lk [] r [(5,[4])],me:=some 0},lv:=[⟨33,zx.sp F⟩],ld:=[⟨50,za.d50 (za.it F mz) F⟩],N:=51,H:=za.h,HL:=za.hl,L:=mkL za.hl [⟨2,fun x R K=>za.L2 mz F R K F x⟩]}
theorem za.ok1 (m:Int) (F mz:Nat) (hme:OKP m 14 za.sg (za.itp F mz)):OKP m 14 za.sg (za.itp F (mz+1)) :=
 okp (za.X m mz F) Go.Proofs.Tryz.func14 ⟨zx.ok m F,trivial⟩ ⟨YW ⟨⟨30,by kernel_rfl,(z6.ok m F mz hme)⟩,⟨29,by kernel_rfl,(yu.ok m F mz hme)⟩,⟨25,by kernel_rfl,yi.ok m F⟩,⟨24,by kernel_rfl,yb.ok m F⟩,⟨31,by kernel_rfl,(yA.ok m F mz hme)⟩,⟨26,by kernel_rfl,zO.ok m F⟩,⟨28,by kernel_rfl,(ze.ok m F mz hme)⟩,⟨27,by kernel_rfl,(zZ.ok m F mz hme)⟩,⟨32,by kernel_rfl,(yn.ok m F mz hme)⟩,trivial⟩,trivial⟩ 1 0 (yF (FX.loopk 2 F (za.L2 mz F)) zC) zC
theorem za.ok (m:Int) (F:Nat):OKP m 14 za.sg (za.sp F):=QQ (it:=za.itp F) (fun _=>rfl) (fun n h=>za.ok1 m F n h) F
def zL.te:TEs:=[kL 1,kL 2,(3,kI),(4,kI),kL 5,(6,kI),(7,kI),(8,.loc 25),kL 10,(18,kB),(55,.c (.sl xd)),(56,kI),(57,kI),(58,kB)]
def zL.tb:TEs:=[(1,.g zI),(2,.g zi),(5,.g zf),(10,.g xd),(25,.g (.pair zI (.pair (.sl (.int .i64)) (.pair zf (.pair zi (.sl .fnb)))))),(25,.go (.pair zI (.pair (.sl (.int .i64)) (.pair zf (.pair zi (.sl .fnb))))) [(9,26009),(10,26010),(11,26011),(12,26012)])]
def zL.tp:List wx:=[⟨26009,.cell 25 9,(.int .i64)⟩,⟨26010,.cell 25 10,zf⟩,⟨26011,.cell 25 11,(.sl zo)⟩,⟨26012,.cell 25 12,zM⟩]
def zL.h:SH:=shN zL.te zL.tb zL.tp [(0,3,3,0),(1,115,7,0),(2,627,7,0),(3,14,2,0),(4,131,35,15),(5,131,35,15),(6,131,35,15),(7,131,35,15),(8,131,35,15),(9,7299,35,15),(10,15491,35,15),(11,7555,43,15),(12,7299,35,15),(13,7299,35,15),(14,130,18,0),(15,14,18,0)]
def zL.hl:SH:=shN zL.te zL.tb zL.tp [(10,7299,35,15)]
def zL.L10 (F:Nat) (R:Type) (K:KK R) (n:Nat) (x:(Unit×Unit×Unit×(List xd.T)×Int×Int×Unit)×(zI.T×zi.T×(zI.T×(List Int)×zf.T×zi.T×List Nat)×Unit)×((List Int)×(List zf.T)×(List (List zo.T))×(List zM.T)×Unit)):Option R :=
 zL.l10 F (fun t55 t56 t57 t58 p r2 m m_9 m_10 m_11 m_12=>K (.exit 0) (yW (zL.h 10) (((),(),(),t55,t56,t57,t58,()),(p,r2,m,()),(m_9,m_10,m_11,m_12,())))) n x.1.2.2.2.1 x.1.2.2.2.2.1 x.1.2.2.2.2.2.1 x.2.1.1 x.2.1.2.1 x.2.1.2.2.1 x.2.2.1 x.2.2.2.1 x.2.2.2.2.1 x.2.2.2.2.2.1
def zL.X (m:Int) (F:Nat):FX TI (G m) Sg:={hn:={na:=1,fz:=fun r=>lk [] r [(14,[103200,103201,103202,103203])],me:=some 25},lv:=[⟨11,yV.sp F⟩,⟨12,yX.sp F⟩,⟨13,yh.sp F⟩,⟨8,zE.sp F⟩,⟨14,za.sp F⟩],N:=85,H:=zL.h,HL:=zL.hl,L:=mkL zL.hl [⟨10,fun x R K=>zL.L10 F R K F x⟩]}
theorem zL.ok (m:Int) (F:Nat):OKP m 5 zL.sg (zL.sp F) :=
 okp (zL.X m F) Go.Proofs.Tryz.func5 ⟨yV.ok m F,yX.ok m F,yh.ok m F,zE.ok m F,za.ok m F,trivial⟩ trivial 1 0 (yF (FX.loopk 10 F (zL.L10 F)) zC) zC
def yw.te:TEs:=[(0,kB),kL 1,(2,kI),(3,kI),(5,kI),(6,kI)]
def yw.tb:TEs:=[(1,.g zi)]
def yw.h:SH:=shN yw.te yw.tb [] [(1,14,1,0),(2,62,1,0),(3,1,0,0)]
def yw.X (m:Int) (F:Nat):FX TI (G m) Sg:={hn:={na:=0},lv:=[⟨10,yI.sp F⟩,⟨5,zL.sp F⟩],N:=66,H:=yw.h}
theorem yw.ok (m:Int) (F:Nat):OKP m 4 yw.sg (yw.sp F) :=
 okp (yw.X m F) Go.Proofs.Tryz.func4 ⟨yI.ok m F,zL.ok m F,trivial⟩ trivial 0 0 zC zC
def xa.te:TEs:=[kL 1,(2,.c (.sl zf)),(3,kI),(4,kI),kL 5,(6,kI),(7,kI),(8,.c (.sl zf)),(16,kB),(26,kB)]
def xa.tb:TEs:=[(1,.g zI),(5,.g zf)]
def xa.h:SH:=shN xa.te xa.tb [] [(0,1,1,0),(1,113,3,0),(2,369,3,0),(3,14,0,0),(4,160,0,0),(5,672,0,0),(6,14,0,0),(7,14,0,0)]
def xa.X (m:Int) (F:Nat):FX TI (G m) Sg:={hn:={na:=1},lv:=[⟨11,yV.sp F⟩,⟨15,zk.sp F⟩],N:=29,H:=xa.h}
theorem xa.ok (m:Int) (F:Nat):OKP m 6 xa.sg (xa.sp F) :=
 okp (xa.X m F) Go.Proofs.Tryz.func6 ⟨yV.ok m F,zk.ok m F,trivial⟩ trivial 0 0 zC zC
def zd.te:TEs:=[kL 2,kL 3,(4,kB),(5,kI),(6,kI),(7,kI),(8,kI),(9,kI),(57,kB),(62,kB),(75,kB),(80,kB),(93,kB),(98,kB),(113,kB),(121,kB),(140,kB),(145,kB),(158,kB)]
def zd.tb:TEs:=[(2,.g zi),(3,.g zi)]
def zd.h:SH:=shN zd.te zd.tb [] [(0,3,3,0),(1,259,3,0),(2,4,0,0),(3,11,3,0),(4,523,3,0),(5,11,3,0),(6,1035,3,0),(7,4,0,0),(8,19,3,0),(9,2067,3,0),(10,19,3,0),(11,4115,3,0),(12,4,0,0),(13,35,3,0),(14,8227,3,0),(15,35,3,0),(16,16419,3,0),(17,4,0,0),(18,99,3,0),(19,32867,3,0),(20,99,3,0),(21,65635,3,0),(22,4,0,0),(23,131,3,0),(24,131203,3,0),(25,131,3,0),(26,262275,3,0),(27,4,0,0),(28,4,0,0)]
def zd.hl:SH:=shN zd.te zd.tb [] [(4,11,3,0),(9,19,3,0),(14,35,3,0),(19,99,3,0),(24,131,3,0)]
def zd.L4 (F:Nat) (R:Type) (K:KK R) (n:Nat) (x:(Unit×Unit×Int×Unit)×(zi.T×zi.T×Unit)×(Unit)):Option R :=
 zd.l4 F (fun r4=>K .ret (yW (zd.h 7) ((r4,()),(),()))) (fun i t62 a b=>K (.exit 0) (yW (zd.h 4) (((),(),i,t62,()),(a,b,()),()))) n x.1.2.2.1 x.2.1.1 x.2.1.2.1
def zd.L9 (F:Nat) (R:Type) (K:KK R) (n:Nat) (x:(Unit×Unit×Int×Unit)×(zi.T×zi.T×Unit)×(Unit)):Option R :=
 zd.l9 F (fun r4=>K .ret (yW (zd.h 12) ((r4,()),(),()))) (fun i t80 a b=>K (.exit 2) (yW (zd.h 9) (((),(),i,t80,()),(a,b,()),()))) n x.1.2.2.1 x.2.1.1 x.2.1.2.1
def zd.L19 (F:Nat) (R:Type) (K:KK R) (n:Nat) (x:(Unit×Unit×Int×Int×Unit)×(zi.T×zi.T×Unit)×(Unit)):Option R :=
 zd.l19 F (fun r4=>K .ret (yW (zd.h 22) ((r4,()),(),()))) (fun i k t121 a b=>K (.exit 6) (yW (zd.h 19) (((),(),i,k,t121,()),(a,b,()),()))) n x.1.2.2.1 x.1.2.2.2.1 x.2.1.1 x.2.1.2.1
def zd.L14 (F:Nat) (R:Type) (K:KK R) (n:Nat) (x:(Unit×Unit×Int×Unit)×(zi.T×zi.T×Unit)×(Unit)):Option R :=
 zd.l14 F (fun r4=>K .ret (yW (zd.h 17) ((r4,()),(),()))) (fun r4=>K .ret (yW (zd.h 22) ((r4,()),(),()))) (fun i t98 a b=>K (.exit 4) (yW (zd.h 14) (((),(),i,t98,()),(a,b,()),()))) n x.1.2.2.1 x.2.1.1 x.2.1.2.1
def zd.L24 (F:Nat) (R:Type) (K:KK R) (n:Nat) (x:(Unit×Unit×Int×Unit)×(zi.T×zi.T×Unit)×(Unit)):Option R :=
 zd.l24 F (fun r4=>K .ret (yW (zd.h 27) ((r4,()),(),()))) (fun i t145 a b=>K (.exit 8) (yW (zd.h 24) (((),(),i,t145,()),(a,b,()),()))) n x.1.2.2.1 x.2.1.1 x.2.1.2.1
def zd.X (m:Int) (F:Nat):FX TI (G m) Sg:={hn:={na:=2},N:=159,H:=zd.h,HL:=zd.hl,L:=mkL zd.hl [⟨4,fun x R K=>zd.L4 F R K F x⟩,⟨9,fun x R K=>zd.L9 F R K F x⟩,⟨19,fun x R K=>zd.L19 F R K F x⟩,⟨14,fun x R K=>zd.L14 F R K F x⟩,⟨24,fun x R K=>zd.L24 F R K F x⟩]}
theorem zd.ok (m:Int) (F:Nat):OKP m 7 zd.sg (zd.sp F) :=
 okp (zd.X m F) Go.Proofs.Tryz.func7 trivial trivial 5 0 (yF (FX.loopk 24 F (zd.L24 F)) (yF (FX.loopk 19 F (zd.L19 F)) (yF (FX.loopk 14 F (zd.L14 F)) (yF (FX.loopk 9 F (zd.L9 F)) (yF (FX.loopk 4 F (zd.L4 F)) zC))))) zC
def zU.te:TEs:=[(0,.b zo),(2,kB),(3,kI),kL 4,(19,kB),(20,.b zo),(21,kI),(22,kI),(23,kB),(54,kB)]
def zU.tb:TEs:=[(4,.g zo)]
def zU.h:SH:=shN zU.te zU.tb [] [(0,1,0,0),(1,17,0,0),(2,2,0,0),(3,225,0,0),(4,481,0,0),(5,237,1,0),(6,737,0,0),(7,2,0,0),(8,225,0,0),(9,2,0,0)]
def zU.hl:SH:=shN zU.te zU.tb [] [(4,225,0,0)]
def zU.L4 (F:Nat) (R:Type) (K:KK R) (n:Nat) (x:((List zo.T)×(List zo.T)×Int×Int×Unit)×(Unit)×(Unit)):Option R :=
 zU.l4 F (fun r2=>K .ret (yW (zU.h 7) ((r2,()),(),()))) (fun tiers t20 t21 t22 t23=>K (.exit 0) (yW (zU.h 4) ((tiers,t20,t21,t22,t23,()),(),()))) n x.1.1 x.1.2.1 x.1.2.2.1 x.1.2.2.2.1
def zU.X (m:Int) (F:Nat):FX TI (G m) Sg:={hn:={na:=1},N:=56,H:=zU.h,HL:=zU.hl,L:=mkL zU.hl [⟨4,fun x R K=>zU.L4 F R K F x⟩]}
theorem zU.ok (m:Int) (F:Nat):OKP m 39 zU.sg (zU.sp F) :=
 okp (zU.X m F) Go.Proofs.Tryz.func39 trivial trivial 1 0 (yF (FX.loopk 4 F (zU.L4 F)) zC) zC
def zt.te:TEs:=[kL 1,(2,kI),(4,kI),(6,.c (.sl zo)),kL 8,(38,kB),(40,.c (.sl (.int .i64))),(41,kI),(42,kI),(43,kB),(51,kB),(68,kB),(70,.c (.sl (.sl zo))),(71,kI),(72,kI),(73,kB),(78,kB),(81,.c (.sl zM)),(82,kI),(83,kI),(84,kB),(114,kB)]
def zt.tb:TEs:=[(1,.g zi),(8,.g zM)]
def zt.h:SH:=shN zt.te zt.tb [] [(0,1,1,0),(1,33,1,0),(2,2,0,0),(3,449,1,0),(4,961,1,0),(5,453,1,0),(6,1473,1,0),(7,2,0,0),(8,449,1,0),(9,2049,1,0),(10,2,0,0),(11,28673,1,0),(12,61441,1,0),(13,28681,1,0),(14,94209,1,0),(15,2,0,0),(16,28673,1,0),(17,917504,0,0),(18,1966080,0,0),(19,917520,2,0),(20,3014656,0,0),(21,2,0,0),(22,917504,0,0),(23,2,0,0)]
def zt.hl:SH:=shN zt.te zt.tb [] [(4,449,1,0),(12,28673,1,0),(18,917504,0,0)]
def zt.L4 (F:Nat) (R:Type) (K:KK R) (n:Nat) (x:(Unit×(List Int)×Int×Int×Unit)×(zi.T×Unit)×(Unit)):Option R :=
 zt.l4 F (fun r2=>K .ret (yW (zt.h 7) ((r2,()),(),()))) (fun t40 t41 t42 t43 p=>K (.exit 0) (yW (zt.h 4) (((),t40,t41,t42,t43,()),(p,()),()))) n x.1.2.1 x.1.2.2.1 x.1.2.2.2.1 x.2.1.1
def zt.L12 (F:Nat) (R:Type) (K:KK R) (n:Nat) (x:(Unit×(List (List zo.T))×Int×Int×Unit)×(zi.T×Unit)×(Unit)):Option R :=
 zt.l12 F (fun r2=>K .ret (yW (zt.h 15) ((r2,()),(),()))) (fun t70 t71 t72 t73 p=>K (.exit 2) (yW (zt.h 12) (((),t70,t71,t72,t73,()),(p,()),()))) n x.1.2.1 x.1.2.2.1 x.1.2.2.2.1 x.2.1.1
def zt.L18 (F:Nat) (R:Type) (K:KK R) (n:Nat) (x:((List zM.T)×Int×Int×Unit)×(Unit)×(Unit)):Option R :=
 zt.l18 F (fun r2=>K .ret (yW (zt.h 21) ((r2,()),(),()))) (fun t81 t82 t83 t84=>K (.exit 4) (yW (zt.h 18) ((t81,t82,t83,t84,()),(),()))) n x.1.1 x.1.2.1 x.1.2.2.1
def zt.X (m:Int) (F:Nat):FX TI (G m) Sg:={hn:={na:=1},lv:=[⟨39,zU.sp F⟩],N:=116,H:=zt.h,HL:=zt.hl,L:=mkL zt.hl [⟨4,fun x R K=>zt.L4 F R K F x⟩,⟨12,fun x R K=>zt.L12 F R K F x⟩,⟨18,fun x R K=>zt.L18 F R K F x⟩]}
theorem zt.ok (m:Int) (F:Nat):OKP m 19 zt.sg (zt.sp F) :=
 okp (zt.X m F) Go.Proofs.Tryz.func19 ⟨zU.ok m F,trivial⟩ trivial 3 0 (yF (FX.loopk 18 F (zt.L18 F)) (yF (FX.loopk 12 F (zt.L12 F)) (yF (FX.loopk 4 F (zt.L4 F)) zC))) zC
def ya.te:TEs:=[(0,.ow 0),(1,.c (.int .u64)),(2,kI),(6,.ow 6),(7,kI),(8,kI),(9,kB)]
def ya.tp:List wx:=[⟨0,.env 0,(.int .u8)⟩,⟨6,.env 6,(.int .u8)⟩]
def ya.h:SH:=shN ya.te [] ya.tp [(0,7,0,1),(1,51,0,1),(2,115,0,1),(3,51,0,1),(4,51,0,1),(5,51,0,1),(6,8,0,2)]
def ya.hl:SH:=shN ya.te [] ya.tp [(2,51,0,1)]
def ya.L2 (F:Nat) (R:Type) (K:KK R) (n:Nat) (x:(Unit×Int×Int×Int×Unit)×(Unit)×((List Int)×Unit)):Option R :=
 ya.l2 F (fun n t7 t8 t9 b=>K (.exit 0) (yW (ya.h 2) (((),n,t7,t8,t9,()),(),(b,())))) n x.1.2.1 x.1.2.2.1 x.1.2.2.2.1 x.2.2.1
def ya.X (m:Int) (F:Nat):FX TI (G m) Sg:={hn:={MU:=fun s=>lk false s [(0,true),(14,true)],na:=3},N:=19,H:=ya.h,HL:=ya.hl,L:=mkL ya.hl [⟨2,fun x R K=>ya.L2 F R K F x⟩]}
theorem ya.ok (m:Int) (F:Nat):OKP m 20 ya.sg (ya.sp F) :=
 okp (ya.X m F) Go.Proofs.Tryz.func20 trivial trivial 1 0 (yF (FX.loopk 2 F (ya.L2 F)) zC) zC
def zb.te:TEs:=[kL 1,(2,.c (.sl (.int .u8))),(3,kI),(4,kI),(5,.c (.sl (.int .u8))),(5,.ow 5),(7,kI),kL 9,(11,.c (.sl zo)),kL 13,kL 15,(19,kB),(36,.c (.sl (.int .i64))),(37,kI),(38,kI),(39,kB),(54,.c (.sl zf)),(55,kI),(56,kI),(57,kB),(76,.c (.sl (.sl zo))),(77,kI),(78,kI),(79,kB),(88,.c (.sl zo)),(89,kI),(90,kI),(91,kB),(112,.c (.sl zM)),(113,kI),(114,kI),(115,kB)]
def zb.tb:TEs:=[(1,.g zi),(9,.g zf),(13,.g zo),(15,.g zM)]
def zb.tp:List wx:=[⟨5,.env 5,(.int .u8)⟩]
def zb.h:SH:=shN zb.te zb.tb zb.tp [(0,1,1,0),(1,9,1,0),(2,2057,1,0),(3,6,0,0),(4,33,1,1),(5,28705,1,1),(6,61473,1,1),(7,28769,1,1),(8,28705,1,1),(9,28705,1,1),(10,33,1,1),(11,458785,1,1),(12,983073,1,1),(13,458913,3,1),(14,458785,1,1),(15,458785,1,1),(16,33,1,1),(17,7340065,1,1),(18,15728673,1,1),(19,7340321,1,1),(20,7340321,1,1),(21,124780577,1,1),(22,258998305,1,1),(23,124781089,5,1),(24,124780577,1,1),(25,124780577,1,1),(26,7340065,1,1),(27,33,1,1),(28,1879048224,0,1),(29,4026531872,0,1),(30,1879049248,8,1),(31,1879048224,0,1),(32,1879048224,0,1),(33,6,0,0)]
def zb.hl:SH:=shN zb.te zb.tb zb.tp [(6,28705,1,1),(12,458785,1,1),(18,7340065,1,1),(22,124780577,1,1),(29,1879048224,0,1)]
def zb.hj:Nat->Option Shape:=shO zb.te zb.tb zb.tp [(33,16,0,0)]
def zb.L6 (F:Nat) (R:Type) (K:KK R) (n:Nat) (x:(Unit×Unit×(List Int)×Int×Int×Unit)×(zi.T×Unit)×((List Int)×Unit)):Option R :=
 zb.l6 F (fun t36 t37 t38 t39 p b=>K (.exit 0) (yW (zb.h 6) (((),(),t36,t37,t38,t39,()),(p,()),(b,())))) n x.1.2.2.1 x.1.2.2.2.1 x.1.2.2.2.2.1 x.2.1.1 x.2.2.1
def zb.L12 (F:Nat) (R:Type) (K:KK R) (n:Nat) (x:(Unit×Unit×(List zf.T)×Int×Int×Unit)×(zi.T×Unit)×((List Int)×Unit)):Option R :=
 zb.l12 F (fun t54 t55 t56 t57 p b=>K (.exit 2) (yW (zb.h 12) (((),(),t54,t55,t56,t57,()),(p,()),(b,())))) n x.1.2.2.1 x.1.2.2.2.1 x.1.2.2.2.2.1 x.2.1.1 x.2.2.1
def zb.L22 (F:Nat) (R:Type) (K:KK R) (n:Nat) (x:(Unit×Unit×(List (List zo.T))×Int×Int×(List zo.T)×Int×Int×Unit)×(zi.T×Unit)×((List Int)×Unit)):Option R :=
 zb.l22 F (fun t76 t77 t78 t88 t89 t90 t91 p b=>K (.exit 6) (yW (zb.h 22) (((),(),t76,t77,t78,t88,t89,t90,t91,()),(p,()),(b,())))) n x.1.2.2.1 x.1.2.2.2.1 x.1.2.2.2.2.1 x.1.2.2.2.2.2.1 x.1.2.2.2.2.2.2.1 x.1.2.2.2.2.2.2.2.1 x.2.1.1 x.2.2.1
def zb.L18 (F:Nat) (R:Type) (K:KK R) (n:Nat) (x:(Unit×Unit×(List (List zo.T))×Int×Int×Unit)×(zi.T×Unit)×((List Int)×Unit)):Option R :=
 zb.l18 F (fun t76 t77 t78 t79 p b=>K (.exit 4) (yW (zb.h 18) (((),(),t76,t77,t78,t79,()),(p,()),(b,())))) n x.1.2.2.1 x.1.2.2.2.1 x.1.2.2.2.2.1 x.2.1.1 x.2.2.1
def zb.L29 (F:Nat) (R:Type) (K:KK R) (n:Nat) (x:(Unit×(List zM.T)×Int×Int×Unit)×(Unit)×((List Int)×Unit)):Option R :=
 zb.l29 F (fun t112 t113 t114 t115 b=>K (.exit 8) (yW (zb.h 29) (((),t112,t113,t114,t115,()),(),(b,())))) n x.1.2.1 x.1.2.2.1 x.1.2.2.2.1 x.2.2.1
def zb.J33 (F:Nat) (x:((List Int)×Unit)×(Unit)×(Unit)) (R:Type) (K:KK R):Option R :=
 zb.j33 F (fun r2 r3=>K .ret (yW (zb.h 33) ((r2,r3,()),(),()))) x.1.1
def zb.X (m:Int) (F:Nat):FX TI (G m) Sg:={hn:={LS:=fun s=>lk false s [(21,true)],MU:=fun s=>lk false s [(34,true),(45,true),(52,true),(67,true),(74,true),(87,true),(102,true),(110,true),(130,true)],na:=1,fzJ:=fun r=>lk [] r [(33,[5])]},lv:=[⟨19,zt.sp F⟩,⟨20,ya.sp F⟩],N:=133,H:=zb.h,HL:=zb.hl,HJ:=zb.hj,L:=mkL zb.hl [⟨6,fun x R K=>zb.L6 F R K F x⟩,⟨12,fun x R K=>zb.L12 F R K F x⟩,⟨22,fun x R K=>zb.L22 F R K F x⟩,⟨18,fun x R K=>zb.L18 F R K F x⟩,⟨29,fun x R K=>zb.L29 F R K F x⟩],J:=mkJ zb.hj [⟨33,zb.J33 F⟩]}
theorem zb.ok (m:Int) (F:Nat):OKP m 9 zb.sg (zb.sp F) :=
 okp (zb.X m F) Go.Proofs.Tryz.func9 ⟨zt.ok m F,ya.ok m F,trivial⟩ trivial 5 1 (yF (FX.loopk 29 F (zb.L29 F)) (yF (FX.loopk 22 F (zb.L22 F)) (yF (FX.loopk 18 F (zb.L18 F)) (yF (FX.loopk 12 F (zb.L12 F)) (yF (FX.loopk 6 F (zb.L6 F)) zC))))) (yF (FX.cutk 33) zC)
def zm.te:TEs:=[kL 1,(2,kB),kL 3,(4,kI),(5,kI),(7,kI),(8,kI),(9,kI),(10,kI),(12,kI),(13,kI),(15,kB),(35,kB),(37,kB),(88,kB),(93,kB),(107,kB)]
def zm.tb:TEs:=[(1,.g zI),(3,.g zi)]
def zm.h:SH:=shN zm.te zm.tb [] [(0,1,1,0),(1,2049,1,0),(2,2,0,0),(3,29,3,0),(4,125,3,0),(5,4117,3,0),(6,2,0,0),(7,8197,3,0),(8,2,0,0),(9,389,3,0),(10,901,3,0),(11,16389,3,0),(12,2,0,0),(13,1029,3,0),(14,33797,3,0),(15,1029,3,0),(16,66565,3,0),(17,2,0,0),(18,2,0,0)]
def zm.hl:SH:=shN zm.te zm.tb [] [(14,1029,3,0)]
def zm.L14 (F:Nat) (R:Type) (K:KK R) (n:Nat) (x:(Unit×Unit×Int×Unit)×(zI.T×zi.T×Unit)×(Unit)):Option R :=
 zm.l14 F (fun r2=>K .ret (yW (zm.h 17) ((r2,()),(),()))) (fun i t93 p q=>K (.exit 0) (yW (zm.h 14) (((),(),i,t93,()),(p,q,()),()))) n x.1.2.2.1 x.2.1.1 x.2.1.2.1
def zm.X (m:Int) (F:Nat):FX TI (G m) Sg:={hn:={na:=1},lv:=[⟨4,yw.sp F⟩,⟨5,zL.sp F⟩,⟨6,xa.sp F⟩,⟨7,zd.sp F⟩,⟨8,zE.sp F⟩,⟨9,zb.sp F⟩],N:=108,H:=zm.h,HL:=zm.hl,L:=mkL zm.hl [⟨14,fun x R K=>zm.L14 F R K F x⟩]}
theorem zm.ok (m:Int) (F:Nat):OKP m 3 zm.sg (zm.sp F) :=
 okp (zm.X m F) Go.Proofs.Tryz.func3 ⟨yw.ok m F,zL.ok m F,xa.ok m F,zd.ok m F,zE.ok m F,zb.ok m F,trivial⟩ trivial 1 0 (yF (FX.loopk 14 F (zm.L14 F)) zC) zC
end Go.VS
