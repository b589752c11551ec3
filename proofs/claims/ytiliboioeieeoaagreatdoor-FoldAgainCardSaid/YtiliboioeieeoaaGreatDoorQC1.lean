import Derived.Test.YtiliboioeieeoaaGreatDoorQT
set_option linter.unusedVariables false
set_option linter.unusedSimpArgs false
set_option linter.unusedSectionVars false
set_option linter.unusedVariables false
set_option maxRecDepth 100000
namespace Go.VS
open Go
def yU.te:TEs:=[(0,.c (.int .u8)),(2,kB)]
def yU.h:SH:=shN yU.te [] [] [(0,1,0,0),(1,2,0,0)]
def yU.X (m:Int) (F:Nat):FX TI (G m) Sg:={hn:={na:=1},N:=9,H:=yU.h}
theorem yU.ok (m:Int) (F:Nat):OKP m 172 yU.sg (yU.sp F) :=
 okp (yU.X m F) Go.Proofs.Tryz.func172 trivial trivial 0 0 zz zz
def xF.te:TEs:=[(0,.c (.int .u8)),(2,kB)]
def xF.h:SH:=shN xF.te [] [] [(0,1,0,0),(1,2,0,0)]
def xF.X (m:Int) (F:Nat):FX TI (G m) Sg:={hn:={na:=1},N:=9,H:=xF.h}
theorem xF.ok (m:Int) (F:Nat):OKP m 187 xF.sg (xF.sp F) :=
 okp (xF.X m F) Go.Proofs.Tryz.func187 trivial trivial 0 0 zz zz
def xA.te:TEs:=[(0,.c (.int .u8)),(2,kB)]
def xA.h:SH:=shN xA.te [] [] [(0,1,0,0),(1,2,0,0)]
def xA.X (m:Int) (F:Nat):FX TI (G m) Sg:={hn:={na:=1},lv:=[⟨172,yU.sp F⟩,⟨187,xF.sp F⟩],N:=13,H:=xA.h}
theorem xA.ok (m:Int) (F:Nat):OKP m 174 xA.sg (xA.sp F) :=
 okp (xA.X m F) Go.Proofs.Tryz.func174 ⟨yU.ok m F,xF.ok m F,trivial⟩ trivial 0 0 zz zz
def yi.te:TEs:=[(0,.c .str),(1,.c .fn),(4,kI),(5,kI),(16,kB)]
def yi.h:SH:=shN yi.te [] [] [(0,3,0,0),(1,11,0,0),(2,27,0,0),(3,11,0,0),(4,4,0,0)]
def yi.hl:SH:=shN yi.te [] [] [(2,11,0,0)]
def yi.L2 (F:Nat) (R:Type) (K:KK R) (n:Nat) (x:(ByteArray×Nat×Int×Unit)×(Unit)×(Unit)):Option R :=
 yi.l2 F (fun s of n t16=>K (.exit 0) (yZ (yi.h 2) ((s,of,n,t16,()),(),()))) n x.1.1 x.1.2.1 x.1.2.2.1
def yi.X (m:Int) (F:Nat):FX TI (G m) Sg:={hn:={DS:=fun d=>lk none d [(15,some yi.ds15)],na:=2},ld:=[⟨15,yi.d15 F⟩],N:=20,H:=yi.h,HL:=yi.hl,L:=mkL yi.hl [⟨2,fun x R K=>yi.L2 F R K F x⟩]}
theorem yi.ok (m:Int) (F:Nat):OKP m 173 yi.sg (yi.sp F) :=
 okp (yi.X m F) Go.Proofs.Tryz.func173 trivial ⟨qF ⟨⟨174,by kernel_rfl,xA.ok m F⟩,⟨172,by kernel_rfl,yU.ok m F⟩,trivial⟩,trivial⟩ 1 0 (yH (FX.loopk 2 F (yi.L2 F)) zz) zz
theorem yL.ok (m:Int) (F:Nat):OK Go.Proofs.Tryz.prog (G m) 188 yL.sg (yL.sp F):=yL.ok' F Go.Proofs.Tryz.func188 (by kernel_rfl) (g:=3) (by kernel_rfl) (fun s sub w h1 h2=>Go.Proofs.Tryz.strings_Contains s sub m w h1 h2)
def xS.te:TEs:=[(0,.c .str),(2,kB)]
def xS.h:SH:=shN xS.te [] [] [(0,1,0,0),(1,2,0,0)]
def xS.X (m:Int) (F:Nat):FX TI (G m) Sg:={hn:={na:=1},lv:=[⟨173,yi.sp F⟩,⟨188,yL.sp F⟩],N:=18,H:=xS.h}
theorem xS.ok (m:Int) (F:Nat):OKP m 175 xS.sg (xS.sp F) :=
 okp (xS.X m F) Go.Proofs.Tryz.func175 ⟨yi.ok m F,yL.ok m F,trivial⟩ trivial 0 0 zz zz
def xM.te:TEs:=[(0,.c .str),(2,kB)]
def xM.h:SH:=shN xM.te [] [] [(0,1,0,0),(1,2,0,0)]
def xM.X (m:Int) (F:Nat):FX TI (G m) Sg:={hn:={na:=1},lv:=[⟨172,yU.sp F⟩,⟨173,yi.sp F⟩,⟨175,xS.sp F⟩],N:=27,H:=xM.h}
theorem xM.ok (m:Int) (F:Nat):OKP m 130 xM.sg (xM.sp F) :=
 okp (xM.X m F) Go.Proofs.Tryz.func130 ⟨yU.ok m F,yi.ok m F,xS.ok m F,trivial⟩ trivial 0 0 zz zz
def xd.te:TEs:=[(1,.p yr),kL 2,(3,kB)]
def xd.tb:TEs:=[(2,.g yr)]
def xd.h:SH:=shN xd.te xd.tb [] [(0,3,1,0),(1,4,0,0)]
def xd.X (m:Int) (F:Nat):FX TI (G m) Sg:={hn:={na:=2},N:=9,H:=xd.h}
theorem xd.ok (m:Int) (F:Nat):OKP m 131 xd.sg (xd.sp F) :=
 okp (xd.X m F) Go.Proofs.Tryz.func131 trivial trivial 0 0 zz zz
def zi.te:TEs:=[(0,.b yr),(1,.cl yr),(4,kI),(5,kI),(7,kI),(8,kI),(9,kB),(16,kB)]
def zi.h:SH:=shN zi.te [] [] [(0,3,0,0),(1,51,0,0),(2,115,0,0),(3,59,0,0),(4,187,0,0),(5,4,0,0),(6,51,0,0),(7,4,0,0)]
def zi.hl:SH:=shN zi.te [] [] [(2,51,0,0)]
def zi.L2 (F:Nat) (R:Type) (K:KK R) (n:Nat) (x:((List yr.T)×(Nat×yr.T)×Int×Int×Unit)×(Unit)×(Unit)):Option R :=
 zi.l2 F (fun r4=>K .ret (yZ (zi.h 5) ((r4,()),(),()))) (fun s f t7 t8 t9=>K (.exit 0) (yZ (zi.h 2) ((s,f,t7,t8,t9,()),(),()))) n x.1.1 x.1.2.1 x.1.2.2.1 x.1.2.2.2.1
def zi.X (m:Int) (F:Nat):FX TI (G m) Sg:={hn:={DS:=fun d=>lk none d [(16,some zi.ds16)],na:=2},ld:=[⟨16,zi.d16 F⟩],N:=19,H:=zi.h,HL:=zi.hl,L:=mkL zi.hl [⟨2,fun x R K=>zi.L2 F R K F x⟩]}
theorem zi.ok (m:Int) (F:Nat):OKP m 176 zi.sg (zi.sp F) :=
 okp (zi.X m F) Go.Proofs.Tryz.func176 trivial ⟨qF ⟨⟨131,by kernel_rfl,xd.ok m F⟩,trivial⟩,trivial⟩ 1 0 (yH (FX.loopk 2 F (zi.L2 F)) zz) zz
def zW.te:TEs:=[(0,.b yr),(1,.cl yr),(4,kB)]
def zW.h:SH:=shN zW.te [] [] [(0,3,0,0),(1,4,0,0)]
def zW.X (m:Int) (F:Nat):FX TI (G m) Sg:={hn:={na:=2},lv:=[⟨176,zi.sp F⟩],N:=9,H:=zW.h}
theorem zW.ok (m:Int) (F:Nat):OKP m 132 zW.sg (zW.sp F) :=
 okp (zW.X m F) Go.Proofs.Tryz.func132 ⟨zi.ok m F,trivial⟩ trivial 0 0 zz zz
def z7.te:TEs:=[kL 1,(2,kI),(3,kI),kL 4,(4,.p yr),(5,.cl yr),(9,kB),(19,kB),(21,.c (.sl yr)),(22,kI),(23,kI),(24,kB),(40,kB),(48,kB),(57,kB)]
def z7.tb:TEs:=[(1,.g zZ),(4,.g yr)]
def z7.h:SH:=shN z7.te z7.tb [] [(0,1,1,0),(1,65,1,0),(2,2,0,0),(3,129,1,0),(4,2,0,0),(5,1793,1,0),(6,3841,1,0),(7,1805,3,0),(8,1845,1,0),(9,5905,1,0),(10,2,0,0),(11,9985,1,0),(12,2,0,0),(13,1793,1,0),(14,16384,0,0),(15,2,0,0),(16,2,0,0)]
def z7.hl:SH:=shN z7.te z7.tb [] [(6,1793,1,0)]
def z7.L6 (F:Nat) (R:Type) (K:KK R) (n:Nat) (x:(Unit×(List yr.T)×Int×Int×Unit)×(zZ.T×Unit)×(Unit)):Option R :=
 z7.l6 F (fun r2=>K .ret (yZ (z7.h 10) ((r2,()),(),()))) (fun r2=>K .ret (yZ (z7.h 12) ((r2,()),(),()))) (fun t21 t22 t23 t24 p=>K (.exit 0) (yZ (z7.h 6) (((),t21,t22,t23,t24,()),(p,()),()))) n x.1.2.1 x.1.2.2.1 x.1.2.2.2.1 x.2.1.1
def z7.X (m:Int) (F:Nat):FX TI (G m) Sg:={hn:={CT:=fun d=>lk .unit d [(28,yr)],na:=1},lv:=[⟨130,xM.sp F⟩,⟨132,zW.sp F⟩],N:=58,H:=z7.h,HL:=z7.hl,L:=mkL z7.hl [⟨6,fun x R K=>z7.L6 F R K F x⟩]}
theorem z7.ok (m:Int) (F:Nat):OKP m 77 z7.sg (z7.sp F) :=
 okp (z7.X m F) Go.Proofs.Tryz.func77 ⟨xM.ok m F,zW.ok m F,trivial⟩ trivial 1 0 (yH (FX.loopk 6 F (z7.L6 F)) zz) zz
def yK.te:TEs:=[kL 1,(2,kI),(3,kI),(10,kB)]
def yK.tb:TEs:=[(1,.g zb)]
def yK.h:SH:=shN yK.te yK.tb [] [(0,1,1,0),(1,5,1,0),(2,13,1,0),(3,2,0,0),(4,2,0,0)]
def yK.X (m:Int) (F:Nat):FX TI (G m) Sg:={hn:={na:=1},N:=14,H:=yK.h}
theorem yK.ok (m:Int) (F:Nat):OKP m 36 yK.sg (yK.sp F) :=
 okp (yK.X m F) Go.Proofs.Tryz.func36 trivial trivial 0 0 zz zz
def zI.te:TEs:=[(0,.b zN),(2,kB),(3,kI),kL 4,(19,kB),(20,.b zN),(21,kI),(22,kI),(23,kB),(54,kB)]
def zI.tb:TEs:=[(4,.g zN)]
def zI.h:SH:=shN zI.te zI.tb [] [(0,1,0,0),(1,17,0,0),(2,2,0,0),(3,225,0,0),(4,481,0,0),(5,237,1,0),(6,737,0,0),(7,2,0,0),(8,225,0,0),(9,2,0,0)]
def zI.hl:SH:=shN zI.te zI.tb [] [(4,225,0,0)]
def zI.L4 (F:Nat) (R:Type) (K:KK R) (n:Nat) (x:((List zN.T)×(List zN.T)×Int×Int×Unit)×(Unit)×(Unit)):Option R :=
 zI.l4 F (fun r2=>K .ret (yZ (zI.h 7) ((r2,()),(),()))) (fun tiers t20 t21 t22 t23=>K (.exit 0) (yZ (zI.h 4) ((tiers,t20,t21,t22,t23,()),(),()))) n x.1.1 x.1.2.1 x.1.2.2.1 x.1.2.2.2.1
def zI.X (m:Int) (F:Nat):FX TI (G m) Sg:={hn:={na:=1},N:=56,H:=zI.h,HL:=zI.hl,L:=mkL zI.hl [⟨4,fun x R K=>zI.L4 F R K F x⟩]}
theorem zI.ok (m:Int) (F:Nat):OKP m 133 zI.sg (zI.sp F) :=
 okp (zI.X m F) Go.Proofs.Tryz.func133 trivial trivial 1 0 (yH (FX.loopk 4 F (zI.L4 F)) zz) zz
def zV.te:TEs:=[(1,kI),(2,kI),kL 3,(6,kI),kL 7,(8,kI),(9,kB),(10,kB),(18,kB),(26,kB),(34,kB),(47,kB),(89,kB),(97,kB)]
def zV.tb:TEs:=[(3,.g zb),(7,.g yS)]
def zV.h:SH:=shN zV.te zV.tb [] [(0,7,1,0),(1,263,1,0),(2,8,0,0),(3,23,3,0),(4,55,3,0),(5,567,3,0),(6,54,3,0),(7,118,3,0),(8,1142,3,0),(9,118,3,0),(10,246,3,0),(11,2294,3,0),(12,246,3,0),(13,4116,3,0),(14,8,0,0),(15,8192,0,0),(16,8,0,0),(17,8,0,0)]
def zV.hj:Nat->Option Shape:=shO zV.te zV.tb [] [(7,54,3,0),(10,118,3,0),(13,246,3,0)]
def zV.J13 (F:Nat) (x:(Int×Unit×Unit×Int×Bool×Bool×Unit)×(zb.T×yS.T×Unit)×(Unit)) (R:Type) (K:KK R):Option R :=
 zV.j13 F (fun r6=>K .ret (yZ (zV.h 14) ((r6,()),(),()))) (fun r6=>K .ret (yZ (zV.h 16) ((r6,()),(),()))) (fun r6=>K .ret (yZ (zV.h 17) ((r6,()),(),()))) x.1.1 x.1.2.2.2.1 x.1.2.2.2.2.1 x.1.2.2.2.2.2.1 x.2.1.1 x.2.1.2.1
def zV.J10 (F:Nat) (x:(Int×Unit×Unit×Int×Bool×Unit)×(zb.T×yS.T×Unit)×(Unit)) (R:Type) (K:KK R):Option R :=
 zV.j10 F (fun r6=>K .ret (yZ (zV.h 14) ((r6,()),(),()))) (fun r6=>K .ret (yZ (zV.h 16) ((r6,()),(),()))) (fun r6=>K .ret (yZ (zV.h 17) ((r6,()),(),()))) x.1.1 x.1.2.2.2.1 x.1.2.2.2.2.1 x.2.1.1 x.2.1.2.1
def zV.J7 (F:Nat) (x:(Int×Unit×Unit×Int×Unit)×(zb.T×yS.T×Unit)×(Unit)) (R:Type) (K:KK R):Option R :=
 zV.j7 F (fun r6=>K .ret (yZ (zV.h 14) ((r6,()),(),()))) (fun r6=>K .ret (yZ (zV.h 16) ((r6,()),(),()))) (fun r6=>K .ret (yZ (zV.h 17) ((r6,()),(),()))) x.1.1 x.1.2.2.2.1 x.2.1.1 x.2.1.2.1
def zV.X (m:Int) (F:Nat):FX TI (G m) Sg:={hn:={na:=3},lv:=[⟨36,yK.sp F⟩,⟨133,zI.sp F⟩],N:=98,H:=zV.h,HJ:=zV.hj,J:=mkJ zV.hj [⟨13,zV.J13 F⟩,⟨10,zV.J10 F⟩,⟨7,zV.J7 F⟩]}
theorem zV.ok (m:Int) (F:Nat):OKP m 78 zV.sg (zV.sp F) :=
 okp (zV.X m F) Go.Proofs.Tryz.func78 ⟨yK.ok m F,zI.ok m F,trivial⟩ trivial 0 3 zz (yH (FX.cutk 13) (yH (FX.cutk 10) (yH (FX.cutk 7) zz)))
def zK.te:TEs:=[kL 1,(2,kI),(3,kI),(4,kI),(5,kI),(6,kI),kL 7,(8,kI),(12,kB),(17,kB),(19,.c (.sl zb)),(20,kI),(21,kI),(22,kB),(33,kB),(43,kB)]
def zK.tb:TEs:=[(1,.g zZ),(7,.g zb)]
def zK.h:SH:=shN zK.te zK.tb [] [(0,1,1,0),(1,9,1,0),(2,265,1,0),(3,6,0,0),(4,513,1,0),(5,6,0,0),(6,17,1,0),(7,7185,1,0),(8,15377,1,0),(9,7281,3,0),(10,7409,3,0),(11,23793,3,0),(12,6,0,0),(13,7185,1,0),(14,7185,1,0),(15,32769,1,0),(16,6,0,0),(17,6,0,0)]
def zK.hl:SH:=shN zK.te zK.tb [] [(8,7185,1,0)]
def zK.L8 (F:Nat) (R:Type) (K:KK R) (n:Nat) (x:(Unit×Int×(List zb.T)×Int×Int×Unit)×(zZ.T×Unit)×(Unit)):Option R :=
 zK.l8 F (fun r2 r3=>K .ret (yZ (zK.h 12) ((r2,r3,()),(),()))) (fun pile t19 t20 t21 t22 p=>K (.exit 0) (yZ (zK.h 8) (((),pile,t19,t20,t21,t22,()),(p,()),()))) n x.1.2.1 x.1.2.2.1 x.1.2.2.2.1 x.1.2.2.2.2.1 x.2.1.1
def zK.X (m:Int) (F:Nat):FX TI (G m) Sg:={hn:={na:=1},lv:=[⟨77,z7.sp F⟩,⟨78,zV.sp F⟩,⟨36,yK.sp F⟩],N:=47,H:=zK.h,HL:=zK.hl,L:=mkL zK.hl [⟨8,fun x R K=>zK.L8 F R K F x⟩]}
theorem zK.ok (m:Int) (F:Nat):OKP m 35 zK.sg (zK.sp F) :=
 okp (zK.X m F) Go.Proofs.Tryz.func35 ⟨z7.ok m F,zV.ok m F,yK.ok m F,trivial⟩ trivial 1 0 (yH (FX.loopk 8 F (zK.L8 F)) zz) zz
def zA.te:TEs:=[kL 1,(2,.c (.sl (.int .i64))),(3,.c (.sl (.int .i64))),(3,.ow 3),(4,.ow 4),(5,kI),kL 6,(7,kI),(8,kI),(10,.c (.sl zb)),(11,kI),(12,kI),(13,kB),(21,kB)]
def zA.tb:TEs:=[(1,.g zZ),(6,.g zb)]
def zA.tp:List v8:=[⟨3,.env 3,(.int .i64)⟩,⟨4,.env 4,(.int .i64)⟩]
def zA.h:SH:=shN zA.te zA.tb zA.tp [(0,1,1,0),(1,25,1,3),(2,3608,0,3),(3,7704,0,3),(4,3704,2,3),(5,3800,2,3),(6,3992,0,3),(7,12184,0,3),(8,3992,0,3),(9,3736,0,3),(10,3736,0,3),(11,3608,0,3),(12,3608,0,3),(13,2,0,0)]
def zA.hl:SH:=shN zA.te zA.tb zA.tp [(3,3608,0,3)]
def zA.hj:Nat->Option Shape:=shO zA.te zA.tb zA.tp [(13,4,0,0)]
def zA.L3 (F:Nat) (R:Type) (K:KK R) (n:Nat) (x:(Unit×Unit×(List zb.T)×Int×Int×Unit)×(Unit)×((List Int)×(List Int)×Unit)):Option R :=
 zA.l3 F (fun t10 t11 t12 t13 list pile=>K (.exit 0) (yZ (zA.h 3) (((),(),t10,t11,t12,t13,()),(),(list,pile,())))) n x.1.2.2.1 x.1.2.2.2.1 x.1.2.2.2.2.1 x.2.2.1 x.2.2.2.1
def zA.J13 (F:Nat) (x:((List Int)×Unit)×(Unit)×(Unit)) (R:Type) (K:KK R):Option R :=
 zA.j13 F (fun r2=>K .ret (yZ (zA.h 13) ((r2,()),(),()))) x.1.1
def zA.X (m:Int) (F:Nat):FX TI (G m) Sg:={hn:={MU:=fun s=>lk false s [(38,true),(42,true)],na:=1,fzJ:=fun r=>lk [] r [(13,[3])]},lv:=[⟨36,yK.sp F⟩],N:=45,H:=zA.h,HL:=zA.hl,HJ:=zA.hj,L:=mkL zA.hl [⟨3,fun x R K=>zA.L3 F R K F x⟩],J:=mkJ zA.hj [⟨13,zA.J13 F⟩]}
theorem zA.ok (m:Int) (F:Nat):OKP m 179 zA.sg (zA.sp F) :=
 okp (zA.X m F) Go.Proofs.Tryz.func179 ⟨yK.ok m F,trivial⟩ trivial 1 1 (yH (FX.loopk 3 F (zA.L3 F)) zz) (yH (FX.cutk 13) zz)
def xj.te:TEs:=[kL 1,(2,.c (.sl (.int .i64))),(3,kI),(5,kI),(12,kB)]
def xj.tb:TEs:=[(1,.g zZ)]
def xj.h:SH:=shN xj.te xj.tb [] [(0,1,1,0),(1,9,1,0),(2,25,1,0),(3,6,0,0),(4,6,0,0)]
def xj.X (m:Int) (F:Nat):FX TI (G m) Sg:={hn:={na:=1},lv:=[⟨35,zK.sp F⟩,⟨179,zA.sp F⟩],N:=16,H:=xj.h}
theorem xj.ok (m:Int) (F:Nat):OKP m 143 xj.sg (xj.sp F) :=
 okp (xj.X m F) Go.Proofs.Tryz.func143 ⟨zK.ok m F,zA.ok m F,trivial⟩ trivial 0 0 zz zz
def zu.te:TEs:=[kL 1,(2,.c (.sl .bool)),(3,kI),(4,.c (.sl (.int .i64))),(5,kI),(6,kI),(7,.c (.sl .bool)),(7,.ow 7),(8,kI),kL 9,(16,kB),(22,.c (.sl zb)),(23,kI),(24,kI),(25,kB),(36,kB)]
def zu.tb:TEs:=[(1,.g zZ),(9,.g zb)]
def zu.tp:List v8:=[⟨7,.env 7,.bool⟩]
def zu.h:SH:=shN zu.te zu.tb zu.tp [(0,1,1,0),(1,25,1,0),(2,1049,1,0),(3,6,0,0),(4,41,1,0),(5,169,1,1),(6,14504,0,1),(7,30888,0,1),(8,15272,2,1),(9,47528,0,1),(10,14760,0,1),(11,14504,0,1),(12,14504,0,1),(13,6,0,0)]
def zu.hl:SH:=shN zu.te zu.tb zu.tp [(7,14504,0,1)]
def zu.hj:Nat->Option Shape:=shO zu.te zu.tb zu.tp [(13,64,0,0)]
def zu.L7 (F:Nat) (R:Type) (K:KK R) (n:Nat) (x:((List Int)×Int×Unit×(List zb.T)×Int×Int×Unit)×(Unit)×((List Bool)×Unit)):Option R :=
 zu.l7 F (fun list last t22 t23 t24 t25 out=>K (.exit 0) (yZ (zu.h 7) ((list,last,(),t22,t23,t24,t25,()),(),(out,())))) n x.1.1 x.1.2.1 x.1.2.2.2.1 x.1.2.2.2.2.1 x.1.2.2.2.2.2.1 x.2.2.1
def zu.J13 (F:Nat) (x:((List Bool)×Unit)×(Unit)×(Unit)) (R:Type) (K:KK R):Option R :=
 zu.j13 F (fun r2 r3=>K .ret (yZ (zu.h 13) ((r2,r3,()),(),()))) x.1.1
def zu.X (m:Int) (F:Nat):FX TI (G m) Sg:={hn:={MU:=fun s=>lk false s [(20,true)],na:=1,fzJ:=fun r=>lk [] r [(13,[7])]},lv:=[⟨143,xj.sp F⟩],N:=49,H:=zu.h,HL:=zu.hl,HJ:=zu.hj,L:=mkL zu.hl [⟨7,fun x R K=>zu.L7 F R K F x⟩],J:=mkJ zu.hj [⟨13,zu.J13 F⟩]}
theorem zu.ok (m:Int) (F:Nat):OKP m 88 zu.sg (zu.sp F) :=
 okp (zu.X m F) Go.Proofs.Tryz.func88 ⟨xj.ok m F,trivial⟩ trivial 1 1 (yH (FX.loopk 7 F (zu.L7 F)) zz) (yH (FX.cutk 13) zz)
def xv.te:TEs:=[(0,kI),(2,.c .fn),(3,kI),(4,.c (.sl (.pair .fn (.int .i64))))]
def xv.h:SH:=shN xv.te [] [] [(0,1,0,0),(1,9,0,0),(2,6,0,0)]
def xv.X (m:Int) (F:Nat):FX TI (G m) Sg:={hn:={na:=1},N:=32,H:=xv.h}
theorem xv.ok (m:Int) (F:Nat):OKP m 89 xv.sg (xv.sp F) :=
 okp (xv.X m F) Go.Proofs.Tryz.func89 trivial trivial 0 0 zz zz
def zx.te:TEs:=[(1,kI),kL 2,(4,kI),(6,kI),(10,.b (.int .i64)),(11,kI),(12,kI),(13,kB),(22,kB)]
def zx.tb:TEs:=[(2,.g yt)]
def zx.h:SH:=shN zx.te zx.tb [] [(0,3,1,0),(1,115,1,0),(2,243,1,0),(3,123,1,0),(4,371,1,0),(5,4,0,0),(6,115,1,0),(7,4,0,0)]
def zx.hl:SH:=shN zx.te zx.tb [] [(2,115,1,0)]
def zx.L2 (F:Nat) (R:Type) (K:KK R) (n:Nat) (x:(Int×Unit×(List Int)×Int×Int×Unit)×(yt.T×Unit)×(Unit)):Option R :=
 zx.l2 F (fun r4=>K .ret (yZ (zx.h 5) ((r4,()),(),()))) (fun from_ t10 t11 t12 t13 n=>K (.exit 0) (yZ (zx.h 2) ((from_,(),t10,t11,t12,t13,()),(n,()),()))) n x.1.1 x.1.2.2.1 x.1.2.2.2.1 x.1.2.2.2.2.1 x.2.1.1
def zx.X (m:Int) (F:Nat):FX TI (G m) Sg:={hn:={na:=2},N:=29,H:=zx.h,HL:=zx.hl,L:=mkL zx.hl [⟨2,fun x R K=>zx.L2 F R K F x⟩]}
theorem zx.ok (m:Int) (F:Nat):OKP m 180 zx.sg (zx.sp F) :=
 okp (zx.X m F) Go.Proofs.Tryz.func180 trivial trivial 1 0 (yH (FX.loopk 2 F (zx.L2 F)) zz) zz
def yk.te:TEs:=[kL 1,(2,kI)]
def yk.tb:TEs:=[(1,.g yt)]
def yk.h:SH:=shN yk.te yk.tb [] [(0,1,1,0),(1,2,0,0)]
def yk.X (m:Int) (F:Nat):FX TI (G m) Sg:={hn:={na:=1},lv:=[⟨180,zx.sp F⟩],N:=5,H:=yk.h}
theorem yk.ok (m:Int) (F:Nat):OKP m 148 yk.sg (yk.sp F) :=
 okp (yk.X m F) Go.Proofs.Tryz.func148 ⟨zx.ok m F,trivial⟩ trivial 0 0 zz zz
def yx.te:TEs:=[kL 1,(2,kI)]
def yx.tb:TEs:=[(1,.g yt)]
def yx.h:SH:=shN yx.te yx.tb [] [(0,1,1,0),(1,2,0,0)]
def yx.X (m:Int) (F:Nat):FX TI (G m) Sg:={hn:={na:=1},N:=8,H:=yx.h}
theorem yx.ok (m:Int) (F:Nat):OKP m 147 yx.sg (yx.sp F) :=
 okp (yx.X m F) Go.Proofs.Tryz.func147 trivial trivial 0 0 zz zz
def yB.te:TEs:=[(0,kI),(2,kB)]
def yB.h:SH:=shN yB.te [] [] [(0,1,0,0),(1,2,0,0)]
def yB.X (m:Int) (F:Nat):FX TI (G m) Sg:={hn:={na:=1},N:=5,H:=yB.h}
theorem yB.ok (m:Int) (F:Nat):OKP m 181 yB.sg (yB.sp F) :=
 okp (yB.X m F) Go.Proofs.Tryz.func181 trivial trivial 0 0 zz zz
def yj.te:TEs:=[kL 1,(2,kI),(7,kB)]
def yj.tb:TEs:=[(1,.g yt)]
def yj.h:SH:=shN yj.te yj.tb [] [(0,1,1,0),(1,5,1,0),(2,2,0,0),(3,2,0,0)]
def yj.X (m:Int) (F:Nat):FX TI (G m) Sg:={hn:={na:=1},lv:=[⟨181,yB.sp F⟩],N:=12,H:=yj.h}
theorem yj.ok (m:Int) (F:Nat):OKP m 150 yj.sg (yj.sp F) :=
 okp (yj.X m F) Go.Proofs.Tryz.func150 ⟨yB.ok m F,trivial⟩ trivial 0 0 zz zz
def yW.te:TEs:=[(2,kI)]
def yW.h:SH:=shN yW.te [] [] [(1,1,0,0)]
def yW.X (m:Int) (F:Nat):FX TI (G m) Sg:={hn:={na:=1},N:=3,H:=yW.h}
theorem yW.ok (m:Int) (F:Nat):OKP m 145 yW.sg (yW.sp F) :=
 okp (yW.X m F) Go.Proofs.Tryz.func145 trivial trivial 0 0 zz zz
def yQ.te:TEs:=[(2,kI)]
def yQ.h:SH:=shN yQ.te [] [] [(1,1,0,0)]
def yQ.X (m:Int) (F:Nat):FX TI (G m) Sg:={hn:={na:=1},N:=3,H:=yQ.h}
theorem yQ.ok (m:Int) (F:Nat):OKP m 144 yQ.sg (yQ.sp F) :=
 okp (yQ.X m F) Go.Proofs.Tryz.func144 trivial trivial 0 0 zz zz
def yN.te:TEs:=[kL 1,(2,kI),(7,kB)]
def yN.tb:TEs:=[(1,.g yt)]
def yN.h:SH:=shN yN.te yN.tb [] [(0,1,1,0),(1,4,0,0),(2,2,0,0),(3,2,0,0)]
def yN.X (m:Int) (F:Nat):FX TI (G m) Sg:={hn:={na:=1},N:=8,H:=yN.h}
theorem yN.ok (m:Int) (F:Nat):OKP m 152 yN.sg (yN.sp F) :=
 okp (yN.X m F) Go.Proofs.Tryz.func152 trivial trivial 0 0 zz zz
def yu.te:TEs:=[kL 1,(2,kI),(7,kB)]
def yu.tb:TEs:=[(1,.g yt)]
def yu.h:SH:=shN yu.te yu.tb [] [(0,1,1,0),(1,4,0,0),(2,2,0,0),(3,2,0,0)]
def yu.X (m:Int) (F:Nat):FX TI (G m) Sg:={hn:={na:=1},lv:=[⟨181,yB.sp F⟩],N:=8,H:=yu.h}
theorem yu.ok (m:Int) (F:Nat):OKP m 151 yu.sg (yu.sp F) :=
 okp (yu.X m F) Go.Proofs.Tryz.func151 ⟨yB.ok m F,trivial⟩ trivial 0 0 zz zz
def yq.te:TEs:=[kL 1,(2,kI),(3,kI),(4,kI),(13,kB),(17,kB),(21,kB)]
def yq.tb:TEs:=[(1,.g yt)]
def yq.h:SH:=shN yq.te yq.tb [] [(0,1,1,0),(1,12,0,0),(2,28,0,0),(3,2,0,0),(4,44,0,0),(5,2,0,0),(6,76,0,0),(7,64,0,0),(8,2,0,0),(9,2,0,0)]
def yq.X (m:Int) (F:Nat):FX TI (G m) Sg:={hn:={na:=1},lv:=[⟨181,yB.sp F⟩],N:=34,H:=yq.h}
theorem yq.ok (m:Int) (F:Nat):OKP m 149 yq.sg (yq.sp F) :=
 okp (yq.X m F) Go.Proofs.Tryz.func149 ⟨yB.ok m F,trivial⟩ trivial 0 0 zz zz
def yl.te:TEs:=[kL 1,(2,kI)]
def yl.tb:TEs:=[(1,.g yt)]
def yl.h:SH:=shN yl.te yl.tb [] [(0,1,1,0),(1,2,0,0)]
def yl.X (m:Int) (F:Nat):FX TI (G m) Sg:={hn:={na:=1},N:=8,H:=yl.h}
theorem yl.ok (m:Int) (F:Nat):OKP m 146 yl.sg (yl.sp F) :=
 okp (yl.X m F) Go.Proofs.Tryz.func146 trivial trivial 0 0 zz zz
def yC.te:TEs:=[kL 1,(2,kI),(7,kB)]
def yC.tb:TEs:=[(1,.g yt)]
def yC.h:SH:=shN yC.te yC.tb [] [(0,1,1,0),(1,5,1,0),(2,2,0,0),(3,2,0,0)]
def yC.X (m:Int) (F:Nat):FX TI (G m) Sg:={hn:={na:=1},lv:=[⟨181,yB.sp F⟩,⟨180,zx.sp F⟩],N:=10,H:=yC.h}
theorem yC.ok (m:Int) (F:Nat):OKP m 153 yC.sg (yC.sp F) :=
 okp (yC.X m F) Go.Proofs.Tryz.func153 ⟨yB.ok m F,zx.ok m F,trivial⟩ trivial 0 0 zz zz
def zo.te:TEs:=[kL 1,(2,.c (.sl (.int .i64))),(3,kI),(4,kI),(5,kI),(6,kI),(7,.c (.sl .bool)),(9,.c (.sl (.int .i64))),(9,.ow 9),(10,.c (.sl (.int .i64))),(10,.ow 10),(11,.ow 11),(12,kI),kL 13,(14,.c .fn),(15,kI),(16,kI),(17,kI),(24,kB),(33,.c (.sl zb)),(34,kI),(35,kI),(36,kB),(47,kB),(65,kB),(84,kB),(109,kB)]
def zo.tb:TEs:=[(1,.g zZ),(13,.g zb)]
def zo.tp:List v8:=[⟨9,.env 9,(.int .i64)⟩,⟨10,.env 10,(.int .i64)⟩,⟨11,.env 11,.bool⟩]
def zo.h:SH:=shN zo.te zo.tb zo.tp [(0,1,1,0),(1,49,1,0),(2,262193,1,0),(3,14,0,0),(4,65,1,0),(5,1345,1,3),(6,3393,1,7),(7,3673408,0,7),(8,7867712,0,7),(9,3685696,2,7),(10,3734848,2,7),(11,12123456,2,7),(12,3734848,2,7),(13,3767616,2,7),(14,3882304,2,7),(15,20659520,2,7),(16,14,0,0),(17,37428544,0,7),(18,14,0,0),(19,3874112,0,7),(20,3743040,0,7),(21,3673408,0,7),(22,3673408,0,7),(23,67108992,0,0),(24,14,0,0),(25,14,0,0)]
def zo.hl:SH:=shN zo.te zo.tb zo.tp [(8,3673408,0,7)]
def zo.hj:Nat->Option Shape:=shO zo.te zo.tb zo.tp [(23,640,0,0)]
def zo.L8 (F:Nat) (R:Type) (K:KK R) (n:Nat) (x:((List Bool)×Unit×Unit×Unit×(List zb.T)×Int×Int×Unit)×(Unit)×((List Int)×(List Int)×(List Bool)×Unit)):Option R :=
 zo.l8 F (fun r2 r3 r4=>K .ret (yZ (zo.h 16) ((r2,r3,r4,()),(),()))) (fun r2 r3 r4=>K .ret (yZ (zo.h 18) ((r2,r3,r4,()),(),()))) (fun fixed t33 t34 t35 t36 types pile fix=>K (.exit 0) (yZ (zo.h 8) ((fixed,(),(),(),t33,t34,t35,t36,()),(),(types,pile,fix,())))) n x.1.1 x.1.2.2.2.2.1 x.1.2.2.2.2.2.1 x.1.2.2.2.2.2.2.1 x.2.2.1 x.2.2.2.1 x.2.2.2.2.1
def zo.J23 (F:Nat) (x:((List Int)×(List Int)×Unit)×(Unit)×(Unit)) (R:Type) (K:KK R):Option R :=
 zo.j23 F (fun r2 r3 r4=>K .ret (yZ (zo.h 24) ((r2,r3,r4,()),(),()))) (fun r2 r3 r4=>K .ret (yZ (zo.h 25) ((r2,r3,r4,()),(),()))) x.1.1 x.1.2.1
def zo.X (m:Int) (F:Nat):FX TI (G m) Sg:={hn:={MU:=fun s=>lk false s [(89,true),(95,true),(104,true)],DS:=fun d=>lk none d [(63,some zo.ds63)],na:=1,fzJ:=fun r=>lk [] r [(23,[9,10])]},lv:=[⟨35,zK.sp F⟩,⟨88,zu.sp F⟩,⟨89,xv.sp F⟩],ld:=[⟨63,zo.d63 F⟩],N:=114,H:=zo.h,HL:=zo.hl,HJ:=zo.hj,L:=mkL zo.hl [⟨8,fun x R K=>zo.L8 F R K F x⟩],J:=mkJ zo.hj [⟨23,zo.J23 F⟩]}
theorem zo.ok (m:Int) (F:Nat):OKP m 48 zo.sg (zo.sp F) :=
 okp (zo.X m F) Go.Proofs.Tryz.func48 ⟨zK.ok m F,zu.ok m F,xv.ok m F,trivial⟩ ⟨qF ⟨⟨148,by kernel_rfl,yk.ok m F⟩,⟨147,by kernel_rfl,yx.ok m F⟩,⟨150,by kernel_rfl,yj.ok m F⟩,⟨145,by kernel_rfl,yW.ok m F⟩,⟨144,by kernel_rfl,yQ.ok m F⟩,⟨152,by kernel_rfl,yN.ok m F⟩,⟨151,by kernel_rfl,yu.ok m F⟩,⟨149,by kernel_rfl,yq.ok m F⟩,⟨146,by kernel_rfl,yl.ok m F⟩,⟨153,by kernel_rfl,yC.ok m F⟩,trivial⟩,trivial⟩ 1 1 (yH (FX.loopk 8 F (zo.L8 F)) zz) (yH (FX.cutk 23) zz)
def zC.te:TEs:=[(0,.b (.int .i64)),(2,kI),(3,kI),(4,kI),(7,kB),(15,kB)]
def zC.h:SH:=shN zC.te [] [] [(0,1,0,0),(1,17,0,0),(3,5,0,0),(4,13,0,0),(5,45,0,0),(6,13,0,0),(7,13,0,0),(8,2,0,0)]
def zC.hl:SH:=shN zC.te [] [] [(5,13,0,0)]
def zC.L5 (F:Nat) (R:Type) (K:KK R) (n:Nat) (x:((List Int)×Int×Int×Unit)×(Unit)×(Unit)):Option R :=
 zC.l5 F (fun x m i t15=>K (.exit 0) (yZ (zC.h 5) ((x,m,i,t15,()),(),()))) n x.1.1 x.1.2.1 x.1.2.2.1
def zC.X (m:Int) (F:Nat):FX TI (G m) Sg:={hn:={na:=1},N:=25,H:=zC.h,HL:=zC.hl,L:=mkL zC.hl [⟨5,fun x R K=>zC.L5 F R K F x⟩]}
theorem zC.ok (m:Int) (F:Nat):OKP m 37 zC.sg (zC.sp F) :=
 okp (zC.X m F) Go.Proofs.Tryz.func37 trivial trivial 1 0 (yH (FX.loopk 5 F (zC.L5 F)) zz) zz
def zE.te:TEs:=[kL 1,(2,kI),(3,kI),(5,kI),(6,.c (.sl (.int .i64))),(6,.ow 6),kL 8,(9,kI),(10,kI),(17,kB),(20,.c (.sl zb)),(21,kI),(22,kI),(23,kB),(29,kB),(45,kB)]
def zE.tb:TEs:=[(1,.g zZ),(8,.g zb)]
def zE.tp:List v8:=[⟨6,.env 6,(.int .i64)⟩]
def zE.h:SH:=shN zE.te zE.tb zE.tp [(0,1,1,0),(1,9,1,0),(2,521,1,0),(3,6,0,0),(4,33,1,1),(5,7200,0,1),(6,15392,0,1),(7,7264,2,1),(8,7392,2,1),(9,7648,2,1),(10,24032,2,1),(11,7648,2,1),(12,7392,2,1),(13,40096,0,1),(14,7328,0,1),(15,7200,0,1),(16,7200,0,1),(17,6,0,0)]
def zE.hl:SH:=shN zE.te zE.tb zE.tp [(6,7200,0,1)]
def zE.hj:Nat->Option Shape:=shO zE.te zE.tb zE.tp [(17,16,0,0)]
def zE.L6 (F:Nat) (R:Type) (K:KK R) (n:Nat) (x:(Unit×(List zb.T)×Int×Int×Unit)×(Unit)×((List Int)×Unit)):Option R :=
 zE.l6 F (fun t20 t21 t22 t23 pile=>K (.exit 0) (yZ (zE.h 6) (((),t20,t21,t22,t23,()),(),(pile,())))) n x.1.2.1 x.1.2.2.1 x.1.2.2.2.1 x.2.2.1
def zE.J17 (F:Nat) (x:((List Int)×Unit)×(Unit)×(Unit)) (R:Type) (K:KK R):Option R :=
 zE.j17 F (fun r2 r3=>K .ret (yZ (zE.h 17) ((r2,r3,()),(),()))) x.1.1
def zE.X (m:Int) (F:Nat):FX TI (G m) Sg:={hn:={MU:=fun s=>lk false s [(51,true)],na:=1,fzJ:=fun r=>lk [] r [(17,[6])]},lv:=[⟨35,zK.sp F⟩,⟨36,yK.sp F⟩,⟨37,zC.sp F⟩],N:=56,H:=zE.h,HL:=zE.hl,HJ:=zE.hj,L:=mkL zE.hl [⟨6,fun x R K=>zE.L6 F R K F x⟩],J:=mkJ zE.hj [⟨17,zE.J17 F⟩]}
theorem zE.ok (m:Int) (F:Nat):OKP m 12 zE.sg (zE.sp F) :=
 okp (zE.X m F) Go.Proofs.Tryz.func12 ⟨zK.ok m F,yK.ok m F,zC.ok m F,trivial⟩ trivial 1 1 (yH (FX.loopk 6 F (zE.L6 F)) zz) (yH (FX.cutk 17) zz)
def z6.te:TEs:=[(0,kI),kL 2]
def z6.tb:TEs:=[(2,.g zd)]
def z6.h:SH:=shN z6.te z6.tb [] [(0,3,1,0),(1,2,1,0)]
def z6.X (m:Int) (F:Nat):FX TI (G m) Sg:={hn:={na:=1},N:=8,H:=z6.h}
theorem z6.ok (m:Int) (F:Nat):OKP m 38 z6.sg (z6.sp F) :=
 okp (z6.X m F) Go.Proofs.Tryz.func38 trivial trivial 0 0 zz zz
theorem zY.ok (m:Int) (F:Nat):OK Go.Proofs.Tryz.prog (G m) 86 zY.sg (zY.sp F):=zY.ok' F Go.Proofs.Tryz.func86 (by kernel_rfl) (by kernel_rfl) (by kernel_rfl)
def xu.te:TEs:=[kL 1,(2,.c (.int .u64)),(3,.c (.int .u64)),(4,.c (.int .u64)),(5,.c (.int .u64)),(6,.c (.int .u64)),(10,kB)]
def xu.tb:TEs:=[(1,.g zd)]
def xu.h:SH:=shN xu.te xu.tb [] [(0,1,1,0),(1,65,1,0),(2,6,0,0),(3,25,1,0),(4,40,0,0),(5,6,0,0)]
def xu.X (m:Int) (F:Nat):FX TI (G m) Sg:={hn:={na:=1},lv:=[⟨86,zY.sp F⟩],N:=32,H:=xu.h}
theorem xu.ok (m:Int) (F:Nat):OKP m 42 xu.sg (xu.sp F) :=
 okp (xu.X m F) Go.Proofs.Tryz.func42 ⟨zY.ok m F,trivial⟩ trivial 0 0 zz zz
def yD.te:TEs:=[(0,.c (.int .u64)),(1,.c (.int .u64)),(4,.c (.int .u64)),(5,.c (.int .u64)),(6,.c (.int .u64)),(7,.c (.int .u64)),(8,.c (.int .u64)),(9,.c (.int .u64)),(10,.c (.int .u64)),(11,.c (.int .u64)),(12,.c (.int .u64)),(13,.c (.int .u64))]
def yD.h:SH:=shN yD.te [] [] [(0,3,0,0),(1,19,0,0),(2,51,0,0),(3,115,0,0),(4,243,0,0),(5,499,0,0),(6,691,0,0),(7,1715,0,0),(8,3251,0,0),(9,3235,0,0),(10,7,0,0),(11,12,0,0)]
def yD.X (m:Int) (F:Nat):FX TI (G m) Sg:={hn:={na:=2},N:=51,H:=yD.h}
theorem yD.ok (m:Int) (F:Nat):OKP m 43 yD.sg (yD.sp F) :=
 okp (yD.X m F) Go.Proofs.Tryz.func43 trivial trivial 0 0 zz zz
def xE.te:TEs:=[(0,kB),(1,.c (.int .u64)),(2,.c (.int .u64)),(6,.c (.int .u64)),(7,kB)]
def xE.h:SH:=shN xE.te [] [] [(0,7,0,0),(1,22,0,0),(2,8,0,0),(3,8,0,0)]
def xE.X (m:Int) (F:Nat):FX TI (G m) Sg:={hn:={na:=3},N:=10,H:=xE.h}
theorem xE.ok (m:Int) (F:Nat):OKP m 44 xE.sg (xE.sp F) :=
 okp (xE.X m F) Go.Proofs.Tryz.func44 trivial trivial 0 0 zz zz
theorem yf.ok (m:Int) (F:Nat):OK Go.Proofs.Tryz.prog (G m) 45 yf.sg (yf.sp F):=yf.ok' F Go.Proofs.Tryz.func45 (by kernel_rfl) (by kernel_rfl) (by kernel_rfl)
def xy.te:TEs:=[kL 2,kL 3,kL 4,(5,kI),(6,.c (.int .u64)),(7,.c (.int .u64)),(8,.c (.int .u64)),kL 10,(49,kB)]
def xy.tb:TEs:=[(2,.g zd),(3,.g zd),(4,.g zd),(10,.g zd)]
def xy.h:SH:=shN xy.te xy.tb [] [(0,7,7,0),(1,55,7,0),(2,87,7,0),(3,135,15,0),(4,388,12,0),(5,12,4,0),(6,12,4,0)]
def xy.X (m:Int) (F:Nat):FX TI (G m) Sg:={hn:={na:=2},lv:=[⟨86,zY.sp F⟩],N:=52,H:=xy.h}
theorem xy.ok (m:Int) (F:Nat):OKP m 81 xy.sg (xy.sp F) :=
 okp (xy.X m F) Go.Proofs.Tryz.func81 ⟨zY.ok m F,trivial⟩ trivial 0 0 zz zz
def xK.te:TEs:=[kL 1,kL 2,(3,kI)]
def xK.tb:TEs:=[(1,.g zd),(2,.g zd)]
def xK.h:SH:=shN xK.te xK.tb [] [(0,3,3,0),(1,6,2,0)]
def xK.X (m:Int) (F:Nat):FX TI (G m) Sg:={hn:={na:=1},lv:=[⟨81,xy.sp F⟩],N:=9,H:=xK.h}
theorem xK.ok (m:Int) (F:Nat):OKP m 87 xK.sg (xK.sp F) :=
 okp (xK.X m F) Go.Proofs.Tryz.func87 ⟨xy.ok m F,trivial⟩ trivial 0 0 zz zz
def xw.te:TEs:=[(0,kB),(1,.c (.int .u64)),(2,.c (.int .u64)),kL 6,(7,kI),kL 8,(11,kB),(16,kB),(30,kB)]
def xw.tb:TEs:=[(6,.g zd),(8,.g zd)]
def xw.h:SH:=shN xw.te xw.tb [] [(0,15,1,0),(1,79,1,0),(2,41,3,0),(3,168,3,0),(4,24,1,0),(5,24,1,0),(6,264,1,0),(7,24,1,0),(8,24,1,0)]
def xw.X (m:Int) (F:Nat):FX TI (G m) Sg:={hn:={na:=3},lv:=[⟨87,xK.sp F⟩],N:=33,H:=xw.h}
theorem xw.ok (m:Int) (F:Nat):OKP m 46 xw.sg (xw.sp F) :=
 okp (xw.X m F) Go.Proofs.Tryz.func46 ⟨xK.ok m F,trivial⟩ trivial 0 0 zz zz
def yp.te:TEs:=[kL 2,kL 3,kL 4,(5,kI),(6,.c (.int .u64)),(7,.c (.int .u64)),(8,.c (.int .u64)),(9,.c (.int .u64)),(10,.c (.int .u64)),(11,.c (.int .u64)),(12,.c (.int .u64)),(13,.c (.int .u64)),(14,.c (.int .u64)),(30,kB),(61,kB)]
def yp.tb:TEs:=[(2,.g zd),(3,.g zd),(4,.g zd)]
def yp.h:SH:=shN yp.te yp.tb [] [(0,7,7,0),(1,55,7,0),(2,247,7,0),(3,8439,7,0),(4,12,4,0),(5,1015,7,0),(6,3847,7,0),(7,5895,7,0),(8,17159,7,0),(9,12,4,0),(10,12,4,0)]
def yp.hj:Nat->Option Shape:=shO yp.te yp.tb [] [(5,247,7,0)]
def yp.J5 (F:Nat) (x:(Unit×Unit×Unit×Int×Int×Int×Int×Unit)×(zd.T×zd.T×zd.T×Unit)×(Unit)) (R:Type) (K:KK R):Option R :=
 yp.j5 F (fun r5 r4=>K .ret (yZ (yp.h 9) (((),r5,()),(r4,()),()))) (fun r5 r4=>K .ret (yZ (yp.h 10) (((),r5,()),(r4,()),()))) x.1.2.2.2.1 x.1.2.2.2.2.1 x.1.2.2.2.2.2.1 x.1.2.2.2.2.2.2.1 x.2.1.1 x.2.1.2.1 x.2.1.2.2.1
def yp.X (m:Int) (F:Nat):FX TI (G m) Sg:={hn:={na:=2},lv:=[⟨42,xu.sp F⟩,⟨43,yD.sp F⟩,⟨44,xE.sp F⟩,⟨45,yf.sp F⟩,⟨46,xw.sp F⟩],N:=75,H:=yp.h,HJ:=yp.hj,J:=mkJ yp.hj [⟨5,yp.J5 F⟩]}
theorem yp.ok (m:Int) (F:Nat):OKP m 16 yp.sg (yp.sp F) :=
 okp (yp.X m F) Go.Proofs.Tryz.func16 ⟨xu.ok m F,yD.ok m F,xE.ok m F,yf.ok m F,xw.ok m F,trivial⟩ trivial 0 1 zz (yH (FX.cutk 5) zz)
def zS.te:TEs:=[(0,kI),kL 2,(3,kI),kL 4,(6,kB),(9,kB),(12,kI),(13,kI),(14,kB)]
def zS.tb:TEs:=[(2,.g zd),(4,.g zd)]
def zS.h:SH:=shN zS.te zS.tb [] [(0,3,1,0),(1,19,1,0),(2,6,1,0),(3,35,1,0),(4,6,1,0),(5,11,3,0),(6,202,3,0),(7,458,3,0),(8,202,3,0),(9,202,3,0),(10,6,1,0)]
def zS.hl:SH:=shN zS.te zS.tb [] [(7,202,3,0)]
def zS.L7 (F:Nat) (R:Type) (K:KK R) (n:Nat) (x:(Unit×Unit×Int×Int×Unit)×(zd.T×zd.T×Unit)×(Unit)):Option R :=
 zS.l7 F (fun t12 t13 t14 r2 p=>K (.exit 0) (yZ (zS.h 7) (((),(),t12,t13,t14,()),(r2,p,()),()))) n x.1.2.2.1 x.1.2.2.2.1 x.2.1.1 x.2.1.2.1
def zS.X (m:Int) (F:Nat):FX TI (G m) Sg:={hn:={na:=1},lv:=[⟨38,z6.sp F⟩,⟨16,yp.sp F⟩],N:=23,H:=zS.h,HL:=zS.hl,L:=mkL zS.hl [⟨7,fun x R K=>zS.L7 F R K F x⟩]}
theorem zS.ok (m:Int) (F:Nat):OKP m 13 zS.sg (zS.sp F) :=
 okp (zS.X m F) Go.Proofs.Tryz.func13 ⟨z6.ok m F,yp.ok m F,trivial⟩ trivial 1 0 (yH (FX.loopk 7 F (zS.L7 F)) zz) zz
def zT.te:TEs:=[kL 1,(2,kI),(4,kI),(5,kB),(10,kB),(14,kB),(19,kB)]
def zT.tb:TEs:=[(1,.g zb)]
def zT.h:SH:=shN zT.te zT.tb [] [(0,1,1,0),(1,5,1,0),(2,13,1,0),(3,13,1,0),(4,13,1,0),(5,13,1,0),(6,2,0,0),(7,21,1,0),(8,21,1,0),(9,21,1,0),(10,2,0,0),(11,37,1,0),(12,37,1,0),(13,2,0,0),(14,64,0,0),(15,2,0,0),(16,2,0,0)]
def zT.hj:Nat->Option Shape:=shO zT.te zT.tb [] [(6,13,1,0),(10,21,1,0)]
def zT.J10 (F:Nat) (x:(Unit×Int×Bool×Unit)×(zb.T×Unit)×(Unit)) (R:Type) (K:KK R):Option R :=
 zT.j10 F (fun r2=>K .ret (yZ (zT.h 10) ((r2,()),(),()))) (fun r2=>K .ret (yZ (zT.h 13) ((r2,()),(),()))) (fun r2=>K .ret (yZ (zT.h 15) ((r2,()),(),()))) (fun t19=>K .normal (yZ (zT.h 14) ((t19,()),(),()))) x.1.2.1 x.1.2.2.1 x.2.1.1
def zT.J6 (F:Nat) (x:(Unit×Int×Bool×Unit)×(zb.T×Unit)×(Unit)) (R:Type) (K:KK R):Option R :=
 zT.j6 F (fun r2=>K .ret (yZ (zT.h 6) ((r2,()),(),()))) (fun r2=>K .ret (yZ (zT.h 10) ((r2,()),(),()))) (fun r2=>K .ret (yZ (zT.h 13) ((r2,()),(),()))) (fun r2=>K .ret (yZ (zT.h 15) ((r2,()),(),()))) (fun t19=>K .normal (yZ (zT.h 14) ((t19,()),(),()))) x.1.2.1 x.1.2.2.1 x.2.1.1
def zT.X (m:Int) (F:Nat):FX TI (G m) Sg:={hn:={na:=1},N:=21,H:=zT.h,HJ:=zT.hj,J:=mkJ zT.hj [⟨10,zT.J10 F⟩,⟨6,zT.J6 F⟩]}
theorem zT.ok (m:Int) (F:Nat):OKP m 74 zT.sg (zT.sp F) :=
 okp (zT.X m F) Go.Proofs.Tryz.func74 trivial trivial 0 2 zz (yH (FX.cutk 10) (yH (FX.cutk 6) zz))
def yb.te:TEs:=[kL 0,(2,kI),kL 4,kL 6]
def yb.tb:TEs:=[(0,.g zQ),(4,.g zd),(6,.g zd)]
def yb.h:SH:=shN yb.te yb.tb [] [(0,15,7,0),(1,12,7,0),(2,8,5,0)]
def yb.X (m:Int) (F:Nat):FX TI (G m) Sg:={hn:={na:=3},N:=19,H:=yb.h}
theorem yb.ok (m:Int) (F:Nat):OKP m 125 yb.sg (yb.sp F) :=
 okp (yb.X m F) Go.Proofs.Tryz.func125 trivial trivial 0 0 zz zz
def z8.te:TEs:=[kL 0,kL 4,kL 5,kL 6]
def z8.tb:TEs:=[(0,.g zQ),(4,.g zd),(5,.g zd),(6,.g zd)]
def z8.h:SH:=shN z8.te z8.tb [] [(0,15,15,0),(1,8,9,0)]
def z8.X (m:Int) (F:Nat):FX TI (G m) Sg:={hn:={na:=3},lv:=[⟨16,yp.sp F⟩,⟨125,yb.sp F⟩],N:=14,H:=z8.h}
theorem z8.ok (m:Int) (F:Nat):OKP m 124 z8.sg (z8.sp F) :=
 okp (z8.X m F) Go.Proofs.Tryz.func124 ⟨yp.ok m F,yb.ok m F,trivial⟩ trivial 0 0 zz zz
def zJ.te:TEs:=[(0,.c (.int .u64)),(2,kI),(4,kB),(8,kB),(14,kB)]
def zJ.h:SH:=shN zJ.te [] [] [(0,3,0,0),(1,7,0,0),(2,1,0,0),(3,3,0,0),(4,11,0,0),(5,3,0,0),(6,3,0,0),(7,19,0,0),(8,3,0,0),(9,3,0,0),(10,2,0,0)]
def zJ.hj:Nat->Option Shape:=shO zJ.te [] [] [(4,3,0,0),(7,3,0,0)]
def zJ.J7 (F:Nat) (x:(Int×Int×Unit)×(Unit)×(Unit)) (R:Type) (K:KK R):Option R :=
 zJ.j7 F (fun n=>K .ret (yZ (zJ.h 10) ((n,()),(),()))) x.1.1 x.1.2.1
def zJ.J4 (F:Nat) (x:(Int×Int×Unit)×(Unit)×(Unit)) (R:Type) (K:KK R):Option R :=
 zJ.j4 F (fun n=>K .ret (yZ (zJ.h 10) ((n,()),(),()))) x.1.1 x.1.2.1
def zJ.X (m:Int) (F:Nat):FX TI (G m) Sg:={hn:={na:=1},N:=25,H:=zJ.h,HJ:=zJ.hj,J:=mkJ zJ.hj [⟨7,zJ.J7 F⟩,⟨4,zJ.J4 F⟩]}
theorem zJ.ok (m:Int) (F:Nat):OKP m 192 zJ.sg (zJ.sp F) :=
 okp (zJ.X m F) Go.Proofs.Tryz.func192 trivial trivial 0 2 zz (yH (FX.cutk 7) (yH (FX.cutk 4) zz))
def zU.te:TEs:=[(0,.c (.int .u64)),(2,kI)]
def zU.h:SH:=shN zU.te [] [] [(0,1,0,0),(1,2,0,0)]
def zU.X (m:Int) (F:Nat):FX TI (G m) Sg:={hn:={na:=1},lv:=[⟨192,zJ.sp F⟩],N:=6,H:=zU.h}
theorem zU.ok (m:Int) (F:Nat):OKP m 189 zU.sg (zU.sp F) :=
 okp (zU.X m F) Go.Proofs.Tryz.func189 ⟨zJ.ok m F,trivial⟩ trivial 0 0 zz zz
def zl.te:TEs:=[(0,.c (.int .u64)),(1,.c (.int .u64)),(2,.c (.int .u64)),(6,.c (.int .u64)),(7,.c (.int .u64)),(8,.c (.int .u64)),(9,.c (.int .u64)),(10,.c (.int .u64)),(11,.c (.int .u64)),(12,.c (.int .u64)),(13,.c (.int .u64)),(14,.c (.int .u64)),(15,.c (.int .u64)),(16,.c (.int .u64)),(17,.c (.int .u64)),(18,.c (.int .u64)),(20,kB),(24,kB),(27,kB),(78,kB),(85,kB),(113,kB),(120,kB)]
def zl.h:SH:=shN zl.te [] [] [(0,7,0,0),(1,65543,0,0),(3,131079,0,0),(5,262151,0,0),(6,24,0,0),(7,39,0,0),(8,39,0,0),(9,103,0,0),(10,231,0,0),(11,486,0,0),(12,996,0,0),(13,2020,0,0),(14,3556,0,0),(15,7652,0,0),(16,15844,0,0),(17,540132,0,0),(18,15844,0,0),(19,15844,0,0),(20,1064420,0,0),(21,22756,0,0),(22,55524,0,0),(23,63716,0,0),(24,2160868,0,0),(25,63716,0,0),(26,63716,0,0),(27,4258020,0,0),(28,24,0,0)]
def zl.hl:SH:=shN zl.te [] [] [(17,15844,0,0),(24,63716,0,0)]
def zl.hj:Nat->Option Shape:=shO zl.te [] [] [(21,7652,0,0),(28,55332,0,0)]
def zl.L17 (F:Nat) (R:Type) (K:KK R) (n:Nat) (x:(Int×Int×Int×Int×Int×Int×Int×Int×Int×Unit)×(Unit)×(Unit)):Option R :=
 zl.l17 F (fun y s yn1 yn0 un32 un1 un0 q1 rhat t85=>K (.exit 0) (yZ (zl.h 20) ((y,s,yn1,yn0,un32,un1,un0,q1,rhat,t85,()),(),()))) (fun y s yn1 yn0 un32 un1 un0 q1 rhat t78=>K (.exit 0) (yZ (zl.h 17) ((y,s,yn1,yn0,un32,un1,un0,q1,rhat,t78,()),(),()))) n x.1.1 x.1.2.1 x.1.2.2.1 x.1.2.2.2.1 x.1.2.2.2.2.1 x.1.2.2.2.2.2.1 x.1.2.2.2.2.2.2.1 x.1.2.2.2.2.2.2.2.1 x.1.2.2.2.2.2.2.2.2.1
def zl.L24 (F:Nat) (R:Type) (K:KK R) (n:Nat) (x:(Int×Int×Int×Int×Int×Int×Int×Int×Int×Unit)×(Unit)×(Unit)):Option R :=
 zl.l24 F (fun y s yn1 yn0 un0 q1 rhat un21 q0 t120=>K (.exit 2) (yZ (zl.h 27) ((y,s,yn1,yn0,un0,q1,rhat,un21,q0,t120,()),(),()))) (fun y s yn1 yn0 un0 q1 rhat un21 q0 t113=>K (.exit 2) (yZ (zl.h 24) ((y,s,yn1,yn0,un0,q1,rhat,un21,q0,t113,()),(),()))) n x.1.1 x.1.2.1 x.1.2.2.1 x.1.2.2.2.1 x.1.2.2.2.2.1 x.1.2.2.2.2.2.1 x.1.2.2.2.2.2.2.1 x.1.2.2.2.2.2.2.2.1 x.1.2.2.2.2.2.2.2.2.1
def zl.J28 (F:Nat) (x:(Int×Int×Int×Int×Int×Int×Unit)×(Unit)×(Unit)) (R:Type) (K:KK R):Option R :=
 zl.j28 F (fun quo rem=>K .ret (yZ (zl.h 28) ((quo,rem,()),(),()))) x.1.1 x.1.2.1 x.1.2.2.1 x.1.2.2.2.1 x.1.2.2.2.2.1 x.1.2.2.2.2.2.1
def zl.J21 (F:Nat) (x:(Int×Int×Int×Int×Int×Int×Int×Int×Unit)×(Unit)×(Unit)) (R:Type) (K:KK R):Option R :=
 zl.j21 F (fun quo rem=>K .ret (yZ (zl.h 28) ((quo,rem,()),(),()))) x.1.1 x.1.2.1 x.1.2.2.1 x.1.2.2.2.1 x.1.2.2.2.2.1 x.1.2.2.2.2.2.1 x.1.2.2.2.2.2.2.1 x.1.2.2.2.2.2.2.2.1
def zl.X (m:Int) (F:Nat):FX TI (G m) Sg:={hn:={na:=3},lv:=[⟨189,zU.sp F⟩],N:=135,H:=zl.h,HL:=zl.hl,HJ:=zl.hj,L:=mkL zl.hl [⟨17,fun x R K=>zl.L17 F R K F x⟩,⟨24,fun x R K=>zl.L24 F R K F x⟩],J:=mkJ zl.hj [⟨28,zl.J28 F⟩,⟨21,zl.J21 F⟩]}
theorem zl.ok (m:Int) (F:Nat):OKP m 177 zl.sg (zl.sp F) :=
 okp (zl.X m F) Go.Proofs.Tryz.func177 ⟨zU.ok m F,trivial⟩ trivial 2 2 (yH (FX.loopk 24 F (zl.L24 F)) (yH (FX.loopk 17 F (zl.L17 F)) zz)) (yH (FX.cutk 28) (yH (FX.cutk 21) zz))
def zO.te:TEs:=[(0,.c (.int .u64)),(1,.c (.int .u64)),(2,.c (.int .u64)),(3,.c (.int .u64)),(8,.c (.int .u64)),(9,.c (.int .u64)),(10,.c (.int .u64)),(11,.c (.int .u64)),(12,kI),(13,.c (.int .u64)),(15,kB),(34,kB),(61,kB)]
def zO.h:SH:=shN zO.te [] [] [(0,47,0,0),(1,1071,0,0),(2,154,0,0),(3,176,0,0),(4,240,0,0),(5,238,0,0),(6,494,0,0),(7,2542,0,0),(8,494,0,0),(9,494,0,0),(10,494,0,0),(11,4590,0,0),(12,494,0,0),(13,1006,0,0),(14,494,0,0),(15,494,0,0),(16,240,0,0)]
def zO.hl:SH:=shN zO.te [] [] [(7,494,0,0)]
def zO.L7 (F:Nat) (R:Type) (K:KK R) (n:Nat) (x:(Int×Int×Int×Int×Int×Int×Int×Unit)×(Unit)×(Unit)):Option R :=
 zO.l7 F (fun al bh bl ql rh rl i t34=>K (.exit 0) (yZ (zO.h 7) ((al,bh,bl,ql,rh,rl,i,t34,()),(),()))) n x.1.1 x.1.2.1 x.1.2.2.1 x.1.2.2.2.1 x.1.2.2.2.2.1 x.1.2.2.2.2.2.1 x.1.2.2.2.2.2.2.1
def zO.X (m:Int) (F:Nat):FX TI (G m) Sg:={hn:={na:=4},lv:=[⟨177,zl.sp F⟩,⟨86,zY.sp F⟩],N:=82,H:=zO.h,HL:=zO.hl,L:=mkL zO.hl [⟨7,fun x R K=>zO.L7 F R K F x⟩]}
theorem zO.ok (m:Int) (F:Nat):OKP m 134 zO.sg (zO.sp F) :=
 okp (zO.X m F) Go.Proofs.Tryz.func134 ⟨zl.ok m F,zY.ok m F,trivial⟩ trivial 1 0 (yH (FX.loopk 7 F (zO.L7 F)) zz) zz
def yM.te:TEs:=[kL 2,kL 3,kL 4,kL 5,(6,kI),(7,.c (.int .u64)),(8,.c (.int .u64)),(9,.c (.int .u64)),(10,.c (.int .u64)),(11,.c (.int .u64)),(12,.c (.int .u64)),(13,.c (.int .u64)),(14,.c (.int .u64)),kL 15,(16,kI),kL 17,(20,kB),(57,kB)]
def yM.tb:TEs:=[(2,.g zd),(3,.g zd),(4,.g zd),(5,.g zd),(15,.g zd),(17,.g zd)]
def yM.h:SH:=shN yM.te yM.tb [] [(0,15,15,0),(1,65551,15,0),(2,28,12,0),(3,111,15,0),(4,495,15,0),(5,7695,15,0),(6,30733,29,0),(7,161805,29,0),(8,28,12,0),(9,57356,60,0),(10,28,12,0)]
def yM.X (m:Int) (F:Nat):FX TI (G m) Sg:={hn:={na:=2},lv:=[⟨42,xu.sp F⟩,⟨134,zO.sp F⟩,⟨46,xw.sp F⟩],N:=73,H:=yM.h}
theorem yM.ok (m:Int) (F:Nat):OKP m 79 yM.sg (yM.sp F) :=
 okp (yM.X m F) Go.Proofs.Tryz.func79 ⟨xu.ok m F,zO.ok m F,xw.ok m F,trivial⟩ trivial 0 0 zz zz
def xl.te:TEs:=[(3,kI),kL 4,kL 5,kL 6,(8,kB),(9,kB),(10,.c (.int .u64)),(11,.c (.int .u64)),(12,.c (.int .u64)),(13,.c (.int .u64)),(14,.c (.int .u64)),(15,.c (.int .u64)),(16,.c (.int .u64)),(25,kI),(26,kB),(29,kB),(33,kB),(58,kB),(72,kB)]
def xl.tb:TEs:=[(4,.g zd),(5,.g zd),(6,.g zd)]
def xl.h:SH:=shN xl.te xl.tb [] [(0,15,7,0),(1,47,7,0),(2,8239,7,0),(3,24623,7,0),(4,16,0,0),(5,41007,7,0),(6,16,0,0),(7,65551,7,0),(8,16,0,0),(9,203,5,0),(10,963,1,0),(11,3523,1,0),(12,5315,1,0),(13,136387,1,0),(14,16,0,0),(15,262147,1,0),(16,16,0,0),(17,16,0,0)]
def xl.X (m:Int) (F:Nat):FX TI (G m) Sg:={hn:={na:=4},lv:=[⟨42,xu.sp F⟩,⟨86,zY.sp F⟩],N:=89,H:=xl.h}
theorem xl.ok (m:Int) (F:Nat):OKP m 80 xl.sg (xl.sp F) :=
 okp (xl.X m F) Go.Proofs.Tryz.func80 ⟨xu.ok m F,zY.ok m F,trivial⟩ trivial 0 0 zz zz
def xz.te:TEs:=[kL 2,kL 3,kL 4,(5,kI),(6,.c (.int .u64)),(7,.c (.int .u64)),(8,.c (.int .u64)),kL 10,(49,kB)]
def xz.tb:TEs:=[(2,.g zd),(3,.g zd),(4,.g zd),(10,.g zd)]
def xz.h:SH:=shN xz.te xz.tb [] [(0,7,7,0),(1,55,7,0),(2,87,7,0),(3,135,15,0),(4,388,12,0),(5,12,4,0),(6,12,4,0)]
def xz.X (m:Int) (F:Nat):FX TI (G m) Sg:={hn:={na:=2},lv:=[⟨45,yf.sp F⟩],N:=52,H:=xz.h}
theorem xz.ok (m:Int) (F:Nat):OKP m 82 xz.sg (xz.sp F) :=
 okp (xz.X m F) Go.Proofs.Tryz.func82 ⟨yf.ok m F,trivial⟩ trivial 0 0 zz zz
def xi.te:TEs:=[(2,kI),kL 3,kL 4,kL 6,(7,kI),kL 8,kL 9,(10,kI),(16,kB),(39,kB),(48,kB)]
def xi.tb:TEs:=[(3,.g zd),(4,.g zd),(6,.g zd),(8,.g zd),(9,.g zd)]
def xi.h:SH:=shN xi.te xi.tb [] [(0,15,7,0),(1,271,7,0),(2,24,4,0),(3,239,31,0),(4,686,15,0),(5,24,4,0),(6,1064,12,0),(7,24,4,0),(8,24,4,0)]
def xi.X (m:Int) (F:Nat):FX TI (G m) Sg:={hn:={na:=3},lv:=[⟨79,yM.sp F⟩,⟨80,xl.sp F⟩,⟨38,z6.sp F⟩,⟨81,xy.sp F⟩,⟨82,xz.sp F⟩],N:=59,H:=xi.h}
theorem xi.ok (m:Int) (F:Nat):OKP m 39 xi.sg (xi.sp F) :=
 okp (xi.X m F) Go.Proofs.Tryz.func39 ⟨yM.ok m F,xl.ok m F,z6.ok m F,xy.ok m F,xz.ok m F,trivial⟩ trivial 0 0 zz zz
def xI.te:TEs:=[(0,kI),(2,kI)]
def xI.h:SH:=shN xI.te [] [] [(0,1,0,0),(1,2,0,0)]
def xI.X (m:Int) (F:Nat):FX TI (G m) Sg:={hn:={na:=1},N:=7,H:=xI.h}
theorem xI.ok (m:Int) (F:Nat):OKP m 171 xI.sg (xI.sp F) :=
 okp (xI.X m F) Go.Proofs.Tryz.func171 trivial trivial 0 0 zz zz
def yd.te:TEs:=[kL 0,kL 4,kL 5,kL 6]
def yd.tb:TEs:=[(0,.g zQ),(4,.g zd),(5,.g zd),(6,.g zd)]
def yd.h:SH:=shN yd.te yd.tb [] [(0,15,15,0),(1,8,9,0)]
def yd.X (m:Int) (F:Nat):FX TI (G m) Sg:={hn:={na:=3},lv:=[⟨82,xz.sp F⟩,⟨125,yb.sp F⟩],N:=14,H:=yd.h}
theorem yd.ok (m:Int) (F:Nat):OKP m 128 yd.sg (yd.sp F) :=
 okp (yd.X m F) Go.Proofs.Tryz.func128 ⟨xz.ok m F,yb.ok m F,trivial⟩ trivial 0 0 zz zz
def zt.te:TEs:=[kL 0,(2,.b zN),kL 4,kL 6,(7,kI),kL 8,(9,kI),kL 10,kL 11,(13,.b zN),(14,kI),(15,kI),(16,kB),(29,kB)]
def zt.tb:TEs:=[(0,.g zQ),(4,.g zd),(6,.g zd),(8,.g zd),(10,.g zN),(11,.g zd)]
def zt.h:SH:=shN zt.te zt.tb [] [(0,15,7,0),(1,63,15,0),(2,3647,15,0),(3,7743,15,0),(4,3839,31,0),(5,3839,31,0),(6,12031,31,0),(7,3647,15,0),(8,3647,15,0),(9,313,45,0),(10,8,5,0)]
def zt.hl:SH:=shN zt.te zt.tb [] [(3,3647,15,0)]
def zt.L3 (F:Nat) (R:Type) (K:KK R) (n:Nat) (x:(Unit×(List zN.T)×Unit×Unit×Int×Unit×(List zN.T)×Int×Int×Unit)×(zQ.T×zd.T×zd.T×zd.T×Unit)×(Unit)):Option R :=
 zt.l3 F (fun tiers rate t13 t14 t15 t16 m x r6 ways=>K (.exit 0) (yZ (zt.h 3) (((),tiers,(),(),rate,(),t13,t14,t15,t16,()),(m,x,r6,ways,()),()))) n x.1.2.1 x.1.2.2.2.2.1 x.1.2.2.2.2.2.2.1 x.1.2.2.2.2.2.2.2.1 x.1.2.2.2.2.2.2.2.2.1 x.2.1.1 x.2.1.2.1 x.2.1.2.2.1 x.2.1.2.2.2.1
def zt.X (m:Int) (F:Nat):FX TI (G m) Sg:={hn:={na:=3,sp:=fun s=>lk 0 s [(0,2)]},lv:=[⟨171,xI.sp F⟩,⟨38,z6.sp F⟩,⟨124,z8.sp F⟩,⟨128,yd.sp F⟩],N:=75,H:=zt.h,HL:=zt.hl,L:=mkL zt.hl [⟨3,fun x R K=>zt.L3 F R K F x⟩]}
theorem zt.ok (m:Int) (F:Nat):OKP m 126 zt.sg (zt.sp F) :=
 okp (zt.X m F) Go.Proofs.Tryz.func126 ⟨xI.ok m F,z6.ok m F,z8.ok m F,yd.ok m F,trivial⟩ trivial 1 0 (yH (FX.loopk 3 F (zt.L3 F)) zz) zz
def yn.te:TEs:=[(0,.b zd),kL 2,(3,kI),(4,.c (.int .u64)),(5,.c (.int .u64)),(6,kI),kL 8,(9,.c (.int .u64)),kL 10,(11,.b zd),(12,kI),(13,kI),(14,kB),(50,kB)]
def yn.tb:TEs:=[(2,.g zd),(8,.g zd),(10,.g zd)]
def yn.h:SH:=shN yn.te yn.tb [] [(0,3,1,0),(1,27,1,0),(2,59,1,0),(3,3642,1,0),(4,7738,1,0),(5,3706,3,0),(6,3706,3,0),(7,3834,3,0),(8,3834,3,0),(9,3642,1,0),(10,3642,1,0),(11,290,5,0),(12,8450,5,0),(13,6,1,0),(14,6,1,0)]
def yn.hl:SH:=shN yn.te yn.tb [] [(4,3642,1,0)]
def yn.L4 (F:Nat) (R:Type) (K:KK R) (n:Nat) (x:(Unit×Int×Int×Int×(List zd.T)×Int×Int×Unit)×(zd.T×Unit)×(Unit)):Option R :=
 yn.l4 F (fun lo hi top t11 t12 t13 t14 r2=>K (.exit 0) (yZ (yn.h 4) (((),lo,hi,top,t11,t12,t13,t14,()),(r2,()),()))) n x.1.2.1 x.1.2.2.1 x.1.2.2.2.1 x.1.2.2.2.2.1 x.1.2.2.2.2.2.1 x.1.2.2.2.2.2.2.1 x.2.1.1
def yn.X (m:Int) (F:Nat):FX TI (G m) Sg:={hn:={na:=1},lv:=[⟨45,yf.sp F⟩],N:=53,H:=yn.h,HL:=yn.hl,L:=mkL yn.hl [⟨4,fun x R K=>yn.L4 F R K F x⟩]}
theorem yn.ok (m:Int) (F:Nat):OKP m 127 yn.sg (yn.sp F) :=
 okp (yn.X m F) Go.Proofs.Tryz.func127 ⟨yf.ok m F,trivial⟩ trivial 1 0 (yH (FX.loopk 4 F (yn.L4 F)) zz) zz
def zw.te:TEs:=[kL 0,(3,.b zd),kL 5,kL 6,kL 8,kL 9,(11,kI),(12,kB),(17,kB),(28,kB),(31,kB),(47,kB),(57,kB),(67,kB),(96,kB)]
def zw.tb:TEs:=[(0,.g zQ),(5,.g zZ),(6,.g zb),(8,.g zd),(9,.g zd)]
def zw.h:SH:=shN zw.te zw.tb [] [(0,31,15,0),(1,95,15,0),(2,223,15,0),(3,16,9,0),(4,351,15,0),(5,16,9,0),(6,607,15,0),(7,16,9,0),(8,1119,15,0),(9,16,9,0),(10,2139,13,0),(11,16,9,0),(12,4187,13,0),(13,4187,13,0),(14,16,9,0),(15,8219,13,0),(16,18,9,0),(17,16,9,0),(18,57,29,0),(19,16441,29,0),(20,48,25,0),(21,16,9,0)]
def zw.hj:Nat->Option Shape:=shO zw.te zw.tb [] [(18,27,13,0)]
def zw.J18 (F:Nat) (x:(Unit×(List zd.T)×Unit×Unit×Unit)×(zQ.T×zb.T×zd.T×Unit)×(Unit)) (R:Type) (K:KK R):Option R :=
 zw.j18 F (fun m r8=>K .ret (yZ (zw.h 21) (((),()),(m,r8,()),()))) x.1.2.1 x.2.1.1 x.2.1.2.1 x.2.1.2.2.1
def zw.X (m:Int) (F:Nat):FX TI (G m) Sg:={hn:={na:=4},lv:=[⟨38,z6.sp F⟩,⟨124,z8.sp F⟩,⟨39,xi.sp F⟩,⟨125,yb.sp F⟩,⟨126,zt.sp F⟩,⟨127,yn.sp F⟩,⟨128,yd.sp F⟩],N:=104,H:=zw.h,HJ:=zw.hj,J:=mkJ zw.hj [⟨18,zw.J18 F⟩]}
theorem zw.ok (m:Int) (F:Nat):OKP m 75 zw.sg (zw.sp F) :=
 okp (zw.X m F) Go.Proofs.Tryz.func75 ⟨z6.ok m F,z8.ok m F,xi.ok m F,yb.ok m F,zt.ok m F,yn.ok m F,yd.ok m F,trivial⟩ trivial 0 1 zz (yH (FX.cutk 18) zz)
def xt.te:TEs:=[kL 2,kL 3,(4,kI),(5,kB),(9,kB)]
def xt.tb:TEs:=[(2,.g zd),(3,.g zd)]
def xt.h:SH:=shN xt.te xt.tb [] [(0,3,3,0),(1,11,3,0),(2,4,0,0),(3,19,3,0),(4,16,0,0),(5,4,0,0),(6,4,0,0)]
def xt.X (m:Int) (F:Nat):FX TI (G m) Sg:={hn:={na:=2},N:=27,H:=xt.h}
theorem xt.ok (m:Int) (F:Nat):OKP m 129 xt.sg (xt.sp F) :=
 okp (xt.X m F) Go.Proofs.Tryz.func129 trivial trivial 0 0 zz zz
def xg.te:TEs:=[kL 2,kL 3,(4,kB),kL 5,(9,kB)]
def xg.tb:TEs:=[(2,.g zb),(3,.g zd),(5,.g zd)]
def xg.h:SH:=shN xg.te xg.tb [] [(0,3,3,0),(1,11,7,0),(2,26,6,0),(3,10,6,0),(4,4,0,0)]
def xg.X (m:Int) (F:Nat):FX TI (G m) Sg:={hn:={na:=2},lv:=[⟨38,z6.sp F⟩,⟨16,yp.sp F⟩,⟨129,xt.sp F⟩],N:=20,H:=xg.h}
theorem xg.ok (m:Int) (F:Nat):OKP m 76 xg.sg (xg.sp F) :=
 okp (xg.X m F) Go.Proofs.Tryz.func76 ⟨z6.ok m F,yp.ok m F,xt.ok m F,trivial⟩ trivial 0 0 zz zz
def zr.te:TEs:=[kL 2,kL 3,(4,.c (.sl zd)),(5,kI),(6,.c (.sl zd)),(6,.ow 6),(7,.ow 7),(8,.loc 15),(9,kI),kL 10,(11,kI),kL 12,(17,.c (.sl zb)),(18,kI),(19,kI),(20,kB),(44,kB)]
def zr.tb:TEs:=[(2,.g zZ),(3,.g zd),(10,.g zb),(12,.g zd),(15,.g zQ)]
def zr.tp:List v8:=[⟨6,.env 6,zd⟩,⟨7,.env 7,zd⟩]
def zr.h:SH:=shN zr.te zr.tb zr.tp [(0,3,3,0),(1,99,3,3),(2,225,17,3),(3,28897,17,3),(4,61665,17,3),(5,29665,21,3),(6,30689,21,3),(7,32737,29,3),(8,97761,25,3),(9,12,0,0),(10,31969,25,3),(11,28897,17,3),(12,28897,17,3),(13,12,0,0)]
def zr.hl:SH:=shN zr.te zr.tb zr.tp [(4,28897,17,3)]
def zr.hj:Nat->Option Shape:=shO zr.te zr.tb zr.tp [(13,16,0,0)]
def zr.L4 (F:Nat) (R:Type) (K:KK R) (n:Nat) (x:(Unit×Unit×Unit×Unit×(List zb.T)×Int×Int×Unit)×(zZ.T×zQ.T×Unit)×((List zd.T)×(List zd.T)×Unit)):Option R :=
 zr.l4 F (fun r4 r5=>K .ret (yZ (zr.h 9) ((r4,r5,()),(),()))) (fun t17 t18 t19 t20 p m mags pile=>K (.exit 0) (yZ (zr.h 4) (((),(),(),(),t17,t18,t19,t20,()),(p,m,()),(mags,pile,())))) n x.1.2.2.2.2.1 x.1.2.2.2.2.2.1 x.1.2.2.2.2.2.2.1 x.2.1.1 x.2.1.2.1 x.2.2.1 x.2.2.2.1
def zr.J13 (F:Nat) (x:((List zd.T)×Unit)×(Unit)×(Unit)) (R:Type) (K:KK R):Option R :=
 zr.j13 F (fun r4 r5=>K .ret (yZ (zr.h 13) ((r4,r5,()),(),()))) x.1.1
def zr.X (m:Int) (F:Nat):FX TI (G m) Sg:={hn:={MU:=fun s=>lk false s [(49,true),(55,true)],na:=2,fzJ:=fun r=>lk [] r [(13,[6])]},lv:=[⟨74,zT.sp F⟩,⟨75,zw.sp F⟩,⟨76,xg.sp F⟩],N:=58,H:=zr.h,HL:=zr.hl,HJ:=zr.hj,L:=mkL zr.hl [⟨4,fun x R K=>zr.L4 F R K F x⟩],J:=mkJ zr.hj [⟨13,zr.J13 F⟩]}
theorem zr.ok (m:Int) (F:Nat):OKP m 34 zr.sg (zr.sp F) :=
 okp (zr.X m F) Go.Proofs.Tryz.func34 ⟨zT.ok m F,zw.ok m F,xg.ok m F,trivial⟩ trivial 1 1 (yH (FX.loopk 4 F (zr.L4 F)) zz) (yH (FX.cutk 13) zz)
def xk.te:TEs:=[kL 1,kL 2,(3,kI),(4,kI),(6,kI),(7,kI),(8,kI),kL 10,(11,kI),(13,kI),(21,kB),(31,kB),(49,kB)]
def xk.tb:TEs:=[(1,.g zZ),(2,.g zd),(10,.g zd)]
def xk.h:SH:=shN xk.te xk.tb [] [(0,3,3,0),(1,51,3,0),(2,1075,3,0),(3,14,2,0),(4,67,3,0),(5,2115,3,0),(6,14,2,0),(7,387,7,0),(8,898,6,0),(9,4994,6,0),(10,14,2,0),(11,14,2,0)]
def xk.X (m:Int) (F:Nat):FX TI (G m) Sg:={hn:={na:=1},lv:=[⟨48,zo.sp F⟩,⟨12,zE.sp F⟩,⟨13,zS.sp F⟩,⟨34,zr.sp F⟩],N:=54,H:=xk.h}
theorem xk.ok (m:Int) (F:Nat):OKP m 18 xk.sg (xk.sp F) :=
 okp (xk.X m F) Go.Proofs.Tryz.func18 ⟨zo.ok m F,zE.ok m F,zS.ok m F,zr.ok m F,trivial⟩ trivial 0 0 zz zz
def ya.te:TEs:=[kL 1,(2,kI),(4,kI),(5,kB),(10,kB),(14,kB),(19,kB)]
def ya.tb:TEs:=[(1,.g zb)]
def ya.h:SH:=shN ya.te ya.tb [] [(0,1,1,0),(1,5,1,0),(2,13,1,0),(3,13,1,0),(4,13,1,0),(5,13,1,0),(6,2,0,0),(7,21,1,0),(8,21,1,0),(9,21,1,0),(10,2,0,0),(11,37,1,0),(12,37,1,0),(13,2,0,0),(14,64,0,0),(15,2,0,0),(16,2,0,0)]
def ya.hj:Nat->Option Shape:=shO ya.te ya.tb [] [(6,13,1,0),(10,21,1,0)]
def ya.J10 (F:Nat) (x:(Unit×Int×Bool×Unit)×(zb.T×Unit)×(Unit)) (R:Type) (K:KK R):Option R :=
 ya.j10 F (fun r2=>K .ret (yZ (ya.h 10) ((r2,()),(),()))) (fun r2=>K .ret (yZ (ya.h 13) ((r2,()),(),()))) (fun r2=>K .ret (yZ (ya.h 15) ((r2,()),(),()))) (fun t19=>K .normal (yZ (ya.h 14) ((t19,()),(),()))) x.1.2.1 x.1.2.2.1 x.2.1.1
def ya.J6 (F:Nat) (x:(Unit×Int×Bool×Unit)×(zb.T×Unit)×(Unit)) (R:Type) (K:KK R):Option R :=
 ya.j6 F (fun r2=>K .ret (yZ (ya.h 6) ((r2,()),(),()))) (fun r2=>K .ret (yZ (ya.h 10) ((r2,()),(),()))) (fun r2=>K .ret (yZ (ya.h 13) ((r2,()),(),()))) (fun r2=>K .ret (yZ (ya.h 15) ((r2,()),(),()))) (fun t19=>K .normal (yZ (ya.h 14) ((t19,()),(),()))) x.1.2.1 x.1.2.2.1 x.2.1.1
def ya.X (m:Int) (F:Nat):FX TI (G m) Sg:={hn:={na:=1},N:=21,H:=ya.h,HJ:=ya.hj,J:=mkJ ya.hj [⟨10,ya.J10 F⟩,⟨6,ya.J6 F⟩]}
theorem ya.ok (m:Int) (F:Nat):OKP m 56 ya.sg (ya.sp F) :=
 okp (ya.X m F) Go.Proofs.Tryz.func56 trivial trivial 0 2 zz (yH (FX.cutk 10) (yH (FX.cutk 6) zz))
theorem yR.lay:Go.Proofs.SlLaysE0.n41 Go.Proofs.Tryz.prog ⟨fun | 41=>57 | n=>n,fun | 22=>93 | 23=>56 | 4=>4 | n=>n,fun n=>n⟩:={mixed:=mixed,f41:=⟨Go.Proofs.Tryz.f57.name,by decide,Go.Proofs.Tryz.func57.trans (congrArg some (by kernel_rfl))⟩,t4:=Go.Proofs.Tryz.underlying4,a4:=Go.Proofs.Tryz.isAgg4,z4:=Go.Proofs.Tryz.sizeOf4,v4:=Go.Proofs.Tryz.zeroValue4,t22:=Go.Proofs.Tryz.underlying93,a22:=Go.Proofs.Tryz.isAgg93,z22:=Go.Proofs.Tryz.sizeOf93,v22:=Go.Proofs.Tryz.zeroValue93}
theorem yR.ok (m:Int) (F:Nat):OK Go.Proofs.Tryz.prog (G m) 57 yR.sg (yR.sp F):=Y7 rfl Go.Proofs.Tryz.func57 (by kernel_rfl) (tsOK 93) (by kernel_rfl) yR.lay rfl rfl
def zG.te:TEs:=[(0,.b zb),(2,.c (.tr zb)),(3,.c (.sl (.tr zb))),(3,.ow 3),kL 5,(6,kI),(7,.b zb),(8,kI),(9,kI),(10,kB)]
def zG.tb:TEs:=[(5,.g zb)]
def zG.tp:List v8:=[⟨3,.env 3,(.tr zb)⟩]
def zG.h:SH:=shN zG.te zG.tb zG.tp [(0,1,0,0),(1,9,0,1),(2,456,0,1),(3,968,0,1),(4,472,1,1),(5,504,1,1),(6,456,0,1),(7,456,0,1),(8,2,0,0)]
def zG.hl:SH:=shN zG.te zG.tb zG.tp [(3,456,0,1)]
def zG.hj:Nat->Option Shape:=shO zG.te zG.tb zG.tp [(8,4,0,0)]
def zG.L3 (F:Nat) (R:Type) (K:KK R) (n:Nat) (x:(Unit×(List zb.T)×Int×Int×Unit)×(Unit)×((List (LTr zb.T))×Unit)):Option R :=
 zG.l3 F (fun t7 t8 t9 t10 pile=>K (.exit 0) (yZ (zG.h 3) (((),t7,t8,t9,t10,()),(),(pile,())))) n x.1.2.1 x.1.2.2.1 x.1.2.2.2.1 x.2.2.1
def zG.J8 (F:Nat) (x:((List (LTr zb.T))×Unit)×(Unit)×(Unit)) (R:Type) (K:KK R):Option R :=
 zG.j8 F (fun r2=>K .ret (yZ (zG.h 8) ((r2,()),(),()))) x.1.1
def zG.X (m:Int) (F:Nat):FX TI (G m) Sg:={hn:={MU:=fun s=>lk false s [(29,true)],na:=1,fzJ:=fun r=>lk [] r [(8,[3])],BT:=fun s=>lk none s [(27,some zb)]},lv:=[⟨56,ya.sp F⟩,⟨57,yR.sp F⟩],N:=34,H:=zG.h,HL:=zG.hl,HJ:=zG.hj,L:=mkL zG.hl [⟨3,fun x R K=>zG.L3 F R K F x⟩],J:=mkJ zG.hj [⟨8,zG.J8 F⟩]}
theorem zG.ok (m:Int) (F:Nat):OKP m 20 zG.sg (zG.sp F) :=
 okp (zG.X m F) Go.Proofs.Tryz.func20 ⟨ya.ok m F,yR.ok m F,trivial⟩ trivial 1 1 (yH (FX.loopk 3 F (zG.L3 F)) zz) (yH (FX.cutk 8) zz)
def zy.te:TEs:=[(0,.b zN),(1,.b zN),(4,kB),(5,kI),(10,kB),(12,kI),(13,kI),(14,kB),(24,kB)]
def zy.h:SH:=shN zy.te [] [] [(0,3,0,0),(1,19,0,0),(2,4,0,0),(3,99,0,0),(4,227,0,0),(5,107,0,0),(6,355,0,0),(7,4,0,0),(8,99,0,0),(9,4,0,0)]
def zy.hl:SH:=shN zy.te [] [] [(4,99,0,0)]
def zy.L4 (F:Nat) (R:Type) (K:KK R) (n:Nat) (x:((List zN.T)×(List zN.T)×Int×Int×Unit)×(Unit)×(Unit)):Option R :=
 zy.l4 F (fun r4=>K .ret (yZ (zy.h 7) ((r4,()),(),()))) (fun s1 s2 t12 t13 t14=>K (.exit 0) (yZ (zy.h 4) ((s1,s2,t12,t13,t14,()),(),()))) n x.1.1 x.1.2.1 x.1.2.2.1 x.1.2.2.2.1
def zy.X (m:Int) (F:Nat):FX TI (G m) Sg:={hn:={na:=2},N:=26,H:=zy.h,HL:=zy.hl,L:=mkL zy.hl [⟨4,fun x R K=>zy.L4 F R K F x⟩]}
theorem zy.ok (m:Int) (F:Nat):OKP m 31 zy.sg (zy.sp F) :=
 okp (zy.X m F) Go.Proofs.Tryz.func31 trivial trivial 1 0 (yH (FX.loopk 4 F (zy.L4 F)) zz) zz
def zh.te:TEs:=[(0,.b (.tr zb)),(1,.b (.tr zb)),(2,.c .fn),(6,kB),(7,kI),(8,.c (.tr zb)),(9,.c (.tr zb)),(14,kB),(15,.b (.tr zb)),(16,kI),(17,kI),(18,kB),(30,kB)]
def zh.h:SH:=shN zh.te [] [] [(0,7,0,0),(1,135,0,0),(2,8,0,0),(3,1798,0,0),(4,3846,0,0),(5,1846,0,0),(6,1894,0,0),(7,5894,0,0),(8,8,0,0),(9,1798,0,0),(10,8,0,0)]
def zh.hl:SH:=shN zh.te [] [] [(4,1798,0,0)]
def zh.L4 (mz:Nat) (F:Nat) (R:Type) (K:KK R) (n:Nat) (x:((List (LTr zb.T))×Nat×(List (LTr zb.T))×Int×Int×Unit)×(Unit)×(Unit)):Option R :=
 zh.l4 (zX.it F mz) F (fun r6=>K .ret (yZ (zh.h 8) ((r6,()),(),()))) (fun s2 eq t15 t16 t17 t18=>K (.exit 0) (yZ (zh.h 4) ((s2,eq,t15,t16,t17,t18,()),(),()))) n x.1.1 x.1.2.1 x.1.2.2.1 x.1.2.2.2.1 x.1.2.2.2.2.1
def zh.X (m:Int) (mz:Nat) (F:Nat):FX TI (G m) Sg:={hn:={DS:=fun d=>lk none d [(29,some zh.ds29)],na:=3},ld:=[⟨29,zh.d29 (zX.it F mz) F⟩],N:=32,H:=zh.h,HL:=zh.hl,L:=mkL zh.hl [⟨4,fun x R K=>zh.L4 mz F R K F x⟩]}
theorem zh.ok (m:Int) (F mz:Nat) (hme:OKP m 93 zX.sg (zX.itp F mz)):OKP m 155 zh.sg (zh.sp (zX.it F mz) F) :=
 okp (zh.X m mz F) Go.Proofs.Tryz.func155 trivial ⟨qF ⟨⟨93,by kernel_rfl,hme⟩,trivial⟩,trivial⟩ 1 0 (yH (FX.loopk 4 F (zh.L4 mz F)) zz) zz
def zX.te:TEs:=[(0,.c (.tr zb)),(1,.c (.tr zb)),(4,kB),kL 5,kL 6]
def zX.tb:TEs:=[(5,.g zb),(6,.g zb)]
def zX.h:SH:=shN zX.te zX.tb [] [(0,3,0,0),(1,27,3,0),(2,4,0,0)]
def zX.X (m:Int) (mz:Nat) (F:Nat):FX TI (G m) Sg:={hn:={na:=2},lv:=[⟨31,zy.sp F⟩,⟨155,zh.sp (zX.it F mz) F⟩],N:=59,H:=zX.h}
theorem zX.ok1 (m:Int) (F mz:Nat) (hme:OKP m 93 zX.sg (zX.itp F mz)):OKP m 93 zX.sg (zX.itp F (mz+1)) :=
 okp (zX.X m mz F) Go.Proofs.Tryz.func93 ⟨zy.ok m F,(zh.ok m F mz hme),trivial⟩ trivial 0 0 zz zz
theorem zX.ok (m:Int) (F:Nat):OKP m 93 zX.sg (zX.sp F):=Wm (it:=zX.itp F) (fun _=>rfl) (fun n h=>zX.ok1 m F n h) F
def yg.te:TEs:=[(1,.c (.tr zb)),(4,.c (.tr zb)),(25,kB)]
def yg.h:SH:=shN yg.te [] [] [(0,1,0,0),(1,5,0,0),(2,2,0,0),(3,2,0,0)]
def yg.X (m:Int) (F:Nat):FX TI (G m) Sg:={hn:={na:=2},lv:=[⟨93,zX.sp F⟩],N:=32,H:=yg.h}
theorem yg.ok (m:Int) (F:Nat):OKP m 52 yg.sg (yg.sp F) :=
 okp (yg.X m F) Go.Proofs.Tryz.func52 ⟨zX.ok m F,trivial⟩ trivial 0 0 zz zz
def zm.te:TEs:=[(0,.c (.tr zb)),(2,kB),(3,kB),(5,.c (.tr zb)),(6,kB),(7,kB),(21,kB),(31,.c (.sl (.tr zb))),(32,kI),(33,kI),(34,kB)]
def zm.h:SH:=shN zm.te [] [] [(0,1,0,0),(1,65,0,0),(2,6,0,0),(3,7,0,0),(4,902,0,0),(5,1926,0,0),(6,910,0,0),(7,950,0,0),(8,902,0,0),(9,902,0,0),(10,6,0,0)]
def zm.hl:SH:=shN zm.te [] [] [(5,902,0,0)]
def zm.L5 (mz:Nat) (F:Nat) (R:Type) (K:KK R) (n:Nat) (x:(Bool×Bool×(List (LTr zb.T))×Int×Int×Unit)×(Unit)×(Unit)):Option R :=
 zm.l5 (zm.it F mz) F (fun is money t31 t32 t33 t34=>K (.exit 0) (yZ (zm.h 5) ((is,money,t31,t32,t33,t34,()),(),()))) n x.1.1 x.1.2.1 x.1.2.2.1 x.1.2.2.2.1 x.1.2.2.2.2.1
def zm.X (m:Int) (mz:Nat) (F:Nat):FX TI (G m) Sg:={hn:={na:=1},lv:=[⟨90,zm.itp F mz⟩],N:=53,H:=zm.h,HL:=zm.hl,L:=mkL zm.hl [⟨5,fun x R K=>zm.L5 mz F R K F x⟩]}
theorem zm.ok1 (m:Int) (F mz:Nat) (hme:OKP m 90 zm.sg (zm.itp F mz)):OKP m 90 zm.sg (zm.itp F (mz+1)) :=
 okp (zm.X m mz F) Go.Proofs.Tryz.func90 ⟨hme,trivial⟩ trivial 1 0 (yH (FX.loopk 5 F (zm.L5 mz F)) zz) zz
theorem zm.ok (m:Int) (F:Nat):OKP m 90 zm.sg (zm.sp F):=Wm (it:=zm.itp F) (fun _=>rfl) (fun n h=>zm.ok1 m F n h) F
def yo.te:TEs:=[(0,.c (.tr zb)),(2,kB)]
def yo.h:SH:=shN yo.te [] [] [(0,1,0,0),(1,2,0,0)]
def yo.X (m:Int) (F:Nat):FX TI (G m) Sg:={hn:={na:=1},N:=17,H:=yo.h}
theorem yo.ok (m:Int) (F:Nat):OKP m 154 yo.sg (yo.sp F) :=
 okp (yo.X m F) Go.Proofs.Tryz.func154 trivial trivial 0 0 zz zz
def yP.te:TEs:=[(0,.c (.tr zb)),(2,kB)]
def yP.h:SH:=shN yP.te [] [] [(0,1,0,0),(1,2,0,0)]
def yP.X (m:Int) (F:Nat):FX TI (G m) Sg:={hn:={na:=1},lv:=[⟨154,yo.sp F⟩],N:=35,H:=yP.h}
theorem yP.ok (m:Int) (F:Nat):OKP m 91 yP.sg (yP.sp F) :=
 okp (yP.X m F) Go.Proofs.Tryz.func91 ⟨yo.ok m F,trivial⟩ trivial 0 0 zz zz
def zj.te:TEs:=[(0,.b zd),(1,.c .fn),kL 4,kL 5,(6,kI),(9,kB),(17,kB),(27,kB)]
def zj.tb:TEs:=[(4,.g zd),(5,.g zd)]
def zj.h:SH:=shN zj.te zj.tb [] [(0,7,1,0),(1,39,1,0),(3,15,3,0),(4,31,3,0),(5,95,3,0),(6,31,3,0),(7,159,3,0),(8,31,3,0),(9,4,1,0)]
def zj.hl:SH:=shN zj.te zj.tb [] [(5,31,3,0)]
def zj.L5 (F:Nat) (R:Type) (K:KK R) (n:Nat) (x:((List zd.T)×Nat×Unit×Unit×Int×Unit)×(zd.T×zd.T×Unit)×(Unit)):Option R :=
 zj.l5 F (fun x cmp i t17 r4 m=>K (.exit 0) (yZ (zj.h 5) ((x,cmp,(),(),i,t17,()),(r4,m,()),()))) n x.1.1 x.1.2.1 x.1.2.2.2.2.1 x.2.1.1 x.2.1.2.1
def zj.X (m:Int) (F:Nat):FX TI (G m) Sg:={hn:={DS:=fun d=>lk none d [(26,some zj.ds26)],na:=2},ld:=[⟨26,zj.d26 F⟩],N:=33,H:=zj.h,HL:=zj.hl,L:=mkL zj.hl [⟨5,fun x R K=>zj.L5 F R K F x⟩]}
theorem zj.ok (m:Int) (F:Nat):OKP m 138 zj.sg (zj.sp F) :=
 okp (zj.X m F) Go.Proofs.Tryz.func138 trivial ⟨qF ⟨⟨129,by kernel_rfl,xt.ok m F⟩,trivial⟩,trivial⟩ 1 0 (yH (FX.loopk 5 F (zj.L5 F)) zz) zz
def zk.te:TEs:=[(0,.b zd),(1,.c .fn),kL 4,kL 5,(6,kI),(9,kB),(17,kB),(27,kB)]
def zk.tb:TEs:=[(4,.g zd),(5,.g zd)]
def zk.h:SH:=shN zk.te zk.tb [] [(0,7,1,0),(1,39,1,0),(3,15,3,0),(4,31,3,0),(5,95,3,0),(6,31,3,0),(7,159,3,0),(8,31,3,0),(9,4,1,0)]
def zk.hl:SH:=shN zk.te zk.tb [] [(5,31,3,0)]
def zk.L5 (F:Nat) (R:Type) (K:KK R) (n:Nat) (x:((List zd.T)×Nat×Unit×Unit×Int×Unit)×(zd.T×zd.T×Unit)×(Unit)):Option R :=
 zk.l5 F (fun x cmp i t17 r4 m=>K (.exit 0) (yZ (zk.h 5) ((x,cmp,(),(),i,t17,()),(r4,m,()),()))) n x.1.1 x.1.2.1 x.1.2.2.2.2.1 x.2.1.1 x.2.1.2.1
def zk.X (m:Int) (F:Nat):FX TI (G m) Sg:={hn:={DS:=fun d=>lk none d [(26,some zk.ds26)],na:=2},ld:=[⟨26,zk.d26 F⟩],N:=33,H:=zk.h,HL:=zk.hl,L:=mkL zk.hl [⟨5,fun x R K=>zk.L5 F R K F x⟩]}
theorem zk.ok (m:Int) (F:Nat):OKP m 139 zk.sg (zk.sp F) :=
 okp (zk.X m F) Go.Proofs.Tryz.func139 trivial ⟨qF ⟨⟨129,by kernel_rfl,xt.ok m F⟩,trivial⟩,trivial⟩ 1 0 (yH (FX.loopk 5 F (zk.L5 F)) zz) zz
def ze.te:TEs:=[(1,.c (.tr zb)),kL 2,kL 4,(5,.c (.sl zd)),(5,.ow 5),(7,.c (.tr zb)),kL 8,(12,.c (.sl (.tr zb))),(13,kI),(14,kI),(15,kB),(30,kI),(31,kB),(39,kB),(53,kB),(62,kB),(74,kB),(86,kB),(98,kB),(102,kB),(106,kB)]
def ze.tb:TEs:=[(2,.g zd),(4,.g zd),(8,.g zd)]
def ze.tp:List v8:=[⟨5,.env 5,zd⟩]
def ze.h:SH:=shN ze.te ze.tb ze.tp [(0,7,3,0),(1,23,3,1),(2,919,3,1),(3,1943,3,1),(4,951,3,1),(5,919,3,1),(6,919,3,1),(7,79,7,0),(8,2127,7,0),(9,6223,7,0),(10,68,6,0),(11,10319,7,0),(12,68,6,0),(13,18509,6,0),(14,68,6,0),(15,34893,6,0),(16,68,6,0),(17,67661,6,0),(18,68,6,0),(19,133197,6,0),(20,68,6,0),(21,264269,6,0),(22,68,6,0),(23,526413,6,0),(24,68,6,0),(25,1048653,6,0),(26,68,6,0),(27,68,6,0),(28,4,2,0)]
def ze.hl:SH:=shN ze.te ze.tb ze.tp [(3,919,3,1)]
def ze.hj:Nat->Option Shape:=shO ze.te ze.tb ze.tp [(7,15,3,0)]
def ze.L3 (mz:Nat) (F:Nat) (R:Type) (K:KK R) (n:Nat) (x:((LTr zb.T)×Unit×Unit×Unit×(List (LTr zb.T))×Int×Int×Unit)×(zd.T×zd.T×Unit)×((List zd.T)×Unit)):Option R :=
 ze.l3 (ze.it F mz) F (fun x t12 t13 t14 t15 f r4 k=>K (.exit 0) (yZ (ze.h 3) ((x,(),(),(),t12,t13,t14,t15,()),(f,r4,()),(k,())))) n x.1.1 x.1.2.2.2.2.1 x.1.2.2.2.2.2.1 x.1.2.2.2.2.2.2.1 x.2.1.1 x.2.1.2.1 x.2.2.1
def ze.J7 (mz:Nat) (F:Nat) (x:((LTr zb.T)×Unit×Unit×(List zd.T)×Unit)×(zd.T×zd.T×Unit)×(Unit)) (R:Type) (K:KK R):Option R :=
 ze.j7 (ze.it F mz) F (fun r4=>K .ret (yZ (ze.h 28) (((),()),(r4,()),()))) x.1.1 x.1.2.2.2.1 x.2.1.1 x.2.1.2.1
def ze.X (m:Int) (mz:Nat) (F:Nat):FX TI (G m) Sg:={hn:={MU:=fun s=>lk false s [(23,true)],na:=2,fzJ:=fun r=>lk [] r [(7,[5])]},lv:=[⟨92,ze.itp F mz⟩,⟨38,z6.sp F⟩,⟨16,yp.sp F⟩,⟨87,xK.sp F⟩,⟨82,xz.sp F⟩,⟨81,xy.sp F⟩,⟨138,zj.sp F⟩,⟨139,zk.sp F⟩,⟨39,xi.sp F⟩],N:=129,H:=ze.h,HL:=ze.hl,HJ:=ze.hj,L:=mkL ze.hl [⟨3,fun x R K=>ze.L3 mz F R K F x⟩],J:=mkJ ze.hj [⟨7,ze.J7 mz F⟩]}
theorem ze.ok1 (m:Int) (F mz:Nat) (hme:OKP m 92 ze.sg (ze.itp F mz)):OKP m 92 ze.sg (ze.itp F (mz+1)) :=
 okp (ze.X m mz F) Go.Proofs.Tryz.func92 ⟨hme,z6.ok m F,yp.ok m F,xK.ok m F,xz.ok m F,xy.ok m F,zj.ok m F,zk.ok m F,xi.ok m F,trivial⟩ trivial 1 1 (yH (FX.loopk 3 F (ze.L3 mz F)) zz) (yH (FX.cutk 7) zz)
theorem ze.ok (m:Int) (F:Nat):OKP m 92 ze.sg (ze.sp F):=Wm (it:=ze.itp F) (fun _=>rfl) (fun n h=>ze.ok1 m F n h) F
def xZ.te:TEs:=[kL 1,(2,kI),(3,kB),(4,kI),(12,kB)]
def xZ.tb:TEs:=[(1,.g zd)]
def xZ.h:SH:=shN xZ.te xZ.tb [] [(0,1,1,0),(1,9,1,0),(2,24,0,0),(3,6,0,0),(4,6,0,0)]
def xZ.X (m:Int) (F:Nat):FX TI (G m) Sg:={hn:={na:=1},N:=14,H:=xZ.h}
theorem xZ.ok (m:Int) (F:Nat):OKP m 40 xZ.sg (xZ.sp F) :=
 okp (xZ.X m F) Go.Proofs.Tryz.func40 trivial trivial 0 0 zz zz
def zB.te:TEs:=[(1,.c (.tr zb)),kL 2,(4,.c (.tr zb)),(5,kB),(6,kB),kL 7,(8,kI),kL 9,kL 10,(12,kI),(13,kB),(14,.c (.tr zb)),(25,kB),(29,kB),(40,kB),(56,kB),(71,kB)]
def zB.tb:TEs:=[(2,.g zd),(7,.g zd),(9,.g zd),(10,.g zd)]
def zB.h:SH:=shN zB.te zB.tb [] [(0,3,1,0),(1,27,1,0),(2,4115,1,0),(3,4,0,0),(4,115,3,0),(5,8291,3,0),(6,417,14,0),(7,16545,6,0),(8,4,0,0),(9,97,2,0),(10,1601,0,0),(11,33345,0,0),(12,4,0,0),(13,2561,0,0),(14,67585,0,0),(15,4,0,0),(16,4,0,0)]
def zB.hj:Nat->Option Shape:=shO zB.te zB.tb [] [(10,97,2,0)]
def zB.J10 (F:Nat) (x:((LTr zb.T)×Unit×Int×Unit)×(zd.T×Unit)×(Unit)) (R:Type) (K:KK R):Option R :=
 zB.j10 F (fun r4=>K .ret (yZ (zB.h 12) ((r4,()),(),()))) (fun r4=>K .ret (yZ (zB.h 15) ((r4,()),(),()))) (fun r4=>K .ret (yZ (zB.h 16) ((r4,()),(),()))) x.1.1 x.1.2.2.1 x.2.1.1
def zB.X (m:Int) (F:Nat):FX TI (G m) Sg:={hn:={na:=2,BT:=fun s=>lk none s [(69,some zb),(81,some zb)]},lv:=[⟨90,zm.sp F⟩,⟨91,yP.sp F⟩,⟨92,ze.sp F⟩,⟨79,yM.sp F⟩,⟨40,xZ.sp F⟩],N:=83,H:=zB.h,HJ:=zB.hj,J:=mkJ zB.hj [⟨10,zB.J10 F⟩]}
theorem zB.ok (m:Int) (F:Nat):OKP m 49 zB.sg (zB.sp F) :=
 okp (zB.X m F) Go.Proofs.Tryz.func49 ⟨zm.ok m F,yP.ok m F,ze.ok m F,yM.ok m F,xZ.ok m F,trivial⟩ trivial 0 1 zz (yH (FX.cutk 10) zz)
def yJ.te:TEs:=[(1,.c (.tr zb)),(4,.c (.tr zb)),(23,kB)]
def yJ.h:SH:=shN yJ.te [] [] [(0,1,0,0),(1,5,0,0),(2,2,0,0),(3,2,0,0)]
def yJ.X (m:Int) (F:Nat):FX TI (G m) Sg:={hn:={na:=2},N:=35,H:=yJ.h}
theorem yJ.ok (m:Int) (F:Nat):OKP m 50 yJ.sg (yJ.sp F) :=
 okp (yJ.X m F) Go.Proofs.Tryz.func50 trivial trivial 0 0 zz zz
def yE.te:TEs:=[(0,.c (.tr zb)),(2,kB)]
def yE.h:SH:=shN yE.te [] [] [(0,1,0,0),(1,2,0,0)]
def yE.X (m:Int) (F:Nat):FX TI (G m) Sg:={hn:={na:=1},lv:=[⟨154,yo.sp F⟩],N:=13,H:=yE.h}
theorem yE.ok (m:Int) (F:Nat):OKP m 96 yE.sg (yE.sp F) :=
 okp (yE.X m F) Go.Proofs.Tryz.func96 ⟨yo.ok m F,trivial⟩ trivial 0 0 zz zz
def ym.te:TEs:=[(1,.c (.tr zb)),(4,.c (.tr zb)),(5,kB),(27,kB)]
def ym.h:SH:=shN ym.te [] [] [(0,1,0,0),(1,5,0,0),(2,2,0,0),(3,9,0,0),(4,2,0,0),(5,2,0,0)]
def ym.X (m:Int) (F:Nat):FX TI (G m) Sg:={hn:={na:=2},lv:=[⟨96,yE.sp F⟩],N:=57,H:=ym.h}
theorem ym.ok (m:Int) (F:Nat):OKP m 54 ym.sg (ym.sp F) :=
 okp (ym.X m F) Go.Proofs.Tryz.func54 ⟨yE.ok m F,trivial⟩ trivial 0 0 zz zz
def yI.te:TEs:=[(1,.c (.tr zb)),(4,.c (.tr zb)),(18,kB)]
def yI.h:SH:=shN yI.te [] [] [(0,1,0,0),(1,5,0,0),(2,2,0,0),(3,2,0,0)]
def yI.X (m:Int) (F:Nat):FX TI (G m) Sg:={hn:={na:=2},N:=25,H:=yI.h}
theorem yI.ok (m:Int) (F:Nat):OKP m 51 yI.sg (yI.sp F) :=
 okp (yI.X m F) Go.Proofs.Tryz.func51 trivial trivial 0 0 zz zz
def yY.te:TEs:=[(0,.c (.tr zb)),(2,kB)]
def yY.h:SH:=shN yY.te [] [] [(0,1,0,0),(1,2,0,0)]
def yY.X (m:Int) (F:Nat):FX TI (G m) Sg:={hn:={na:=1},N:=17,H:=yY.h}
theorem yY.ok (m:Int) (F:Nat):OKP m 97 yY.sg (yY.sp F) :=
 okp (yY.X m F) Go.Proofs.Tryz.func97 trivial trivial 0 0 zz zz
def yz.te:TEs:=[(1,.c (.tr zb)),(4,.c (.tr zb)),(5,kB),(27,kB)]
def yz.h:SH:=shN yz.te [] [] [(0,1,0,0),(1,5,0,0),(2,2,0,0),(3,9,0,0),(4,2,0,0),(5,2,0,0)]
def yz.X (m:Int) (F:Nat):FX TI (G m) Sg:={hn:={na:=2},lv:=[⟨97,yY.sp F⟩],N:=49,H:=yz.h}
theorem yz.ok (m:Int) (F:Nat):OKP m 55 yz.sg (yz.sp F) :=
 okp (yz.X m F) Go.Proofs.Tryz.func55 ⟨yY.ok m F,trivial⟩ trivial 0 0 zz zz
def ye.te:TEs:=[(0,.c (.tr zb)),(1,.p (.tr zb)),(3,kB)]
def ye.h:SH:=shN ye.te [] [] [(0,3,0,0),(1,4,0,0)]
def ye.X (m:Int) (F:Nat):FX TI (G m) Sg:={hn:={na:=2},lv:=[⟨93,zX.sp F⟩],N:=7,H:=ye.h}
theorem ye.ok (m:Int) (F:Nat):OKP m 95 ye.sg (ye.sp F) :=
 okp (ye.X m F) Go.Proofs.Tryz.func95 ⟨zX.ok m F,trivial⟩ trivial 0 0 zz zz
def zg.te:TEs:=[(0,.b (.tr zb)),(1,.cl (.tr zb)),(4,kI),(5,kI),(7,kI),(8,kI),(9,kB),(16,kB)]
def zg.h:SH:=shN zg.te [] [] [(0,3,0,0),(1,51,0,0),(2,115,0,0),(3,59,0,0),(4,187,0,0),(5,4,0,0),(6,51,0,0),(7,4,0,0)]
def zg.hl:SH:=shN zg.te [] [] [(2,51,0,0)]
def zg.L2 (F:Nat) (R:Type) (K:KK R) (n:Nat) (x:((List (LTr zb.T))×(Nat×(LTr zb.T))×Int×Int×Unit)×(Unit)×(Unit)):Option R :=
 zg.l2 F (fun r4=>K .ret (yZ (zg.h 5) ((r4,()),(),()))) (fun s f t7 t8 t9=>K (.exit 0) (yZ (zg.h 2) ((s,f,t7,t8,t9,()),(),()))) n x.1.1 x.1.2.1 x.1.2.2.1 x.1.2.2.2.1
def zg.X (m:Int) (F:Nat):FX TI (G m) Sg:={hn:={DS:=fun d=>lk none d [(16,some zg.ds16)],na:=2},ld:=[⟨16,zg.d16 F⟩],N:=19,H:=zg.h,HL:=zg.hl,L:=mkL zg.hl [⟨2,fun x R K=>zg.L2 F R K F x⟩]}
theorem zg.ok (m:Int) (F:Nat):OKP m 156 zg.sg (zg.sp F) :=
 okp (zg.X m F) Go.Proofs.Tryz.func156 trivial ⟨qF ⟨⟨95,by kernel_rfl,ye.ok m F⟩,trivial⟩,trivial⟩ 1 0 (yH (FX.loopk 2 F (zg.L2 F)) zz) zz
def zP.te:TEs:=[(0,.b (.tr zb)),(1,.cl (.tr zb)),(4,kB)]
def zP.h:SH:=shN zP.te [] [] [(0,3,0,0),(1,4,0,0)]
def zP.X (m:Int) (F:Nat):FX TI (G m) Sg:={hn:={na:=2},lv:=[⟨156,zg.sp F⟩],N:=9,H:=zP.h}
theorem zP.ok (m:Int) (F:Nat):OKP m 94 zP.sg (zP.sp F) :=
 okp (zP.X m F) Go.Proofs.Tryz.func94 ⟨zg.ok m F,trivial⟩ trivial 0 0 zz zz
def zf.te:TEs:=[(1,.c (.tr zb)),(4,.c (.tr zb)),(5,.c (.sl (.tr zb))),(5,.ow 5),kL 7,(7,.p (.tr zb)),kL 8,(22,kB),(26,.c (.sl (.tr zb))),(27,kI),(28,kI),(29,kB),(35,kB),(48,kB),(51,kB)]
def zf.tb:TEs:=[(7,.c (.tr zb)),(8,.g zb)]
def zf.tp:List v8:=[⟨5,.env 5,(.tr zb)⟩]
def zf.h:SH:=shN zf.te zf.tb zf.tp [(0,1,0,0),(1,129,0,0),(2,2,0,0),(3,9,0,1),(4,1801,0,1),(5,3849,0,1),(6,1817,1,1),(7,5929,0,1),(8,1801,0,1),(9,1801,0,1),(10,8197,0,0),(11,2,0,0),(12,16389,0,0),(13,2,0,0),(14,68,2,0),(15,68,2,0),(16,2,0,0)]
def zf.hl:SH:=shN zf.te zf.tb zf.tp [(5,1801,0,1)]
def zf.hj:Nat->Option Shape:=shO zf.te zf.tb zf.tp [(3,1,0,0),(10,5,0,0)]
def zf.L5 (F:Nat) (R:Type) (K:KK R) (n:Nat) (x:((LTr zb.T)×Unit×(List (LTr zb.T))×Int×Int×Unit)×(Unit)×((List (LTr zb.T))×Unit)):Option R :=
 zf.l5 F (fun x t26 t27 t28 t29 kids=>K (.exit 0) (yZ (zf.h 5) ((x,(),t26,t27,t28,t29,()),(),(kids,())))) n x.1.1 x.1.2.2.1 x.1.2.2.2.1 x.1.2.2.2.2.1 x.2.2.1
def zf.J10 (F:Nat) (x:((LTr zb.T)×(List (LTr zb.T))×Unit)×(Unit)×(Unit)) (R:Type) (K:KK R):Option R :=
 zf.j10 F (fun r4=>K .ret (yZ (zf.h 11) ((r4,()),(),()))) (fun r4=>K .ret (yZ (zf.h 13) ((r4,()),(),()))) (fun r4=>K .ret (yZ (zf.h 16) ((r4,()),(),()))) x.1.1 x.1.2.1
def zf.J3 (F:Nat) (x:((LTr zb.T)×Unit)×(Unit)×(Unit)) (R:Type) (K:KK R):Option R :=
 zf.j3 F (fun r4=>K .ret (yZ (zf.h 11) ((r4,()),(),()))) (fun r4=>K .ret (yZ (zf.h 13) ((r4,()),(),()))) (fun r4=>K .ret (yZ (zf.h 16) ((r4,()),(),()))) x.1.1
def zf.X (m:Int) (F:Nat):FX TI (G m) Sg:={hn:={MU:=fun s=>lk false s [(39,true)],CT:=fun d=>lk .unit d [(33,(.tr zb))],na:=2,fzJ:=fun r=>lk [] r [(10,[5])],BT:=fun s=>lk none s [(65,some zb)]},lv:=[⟨94,zP.sp F⟩],N:=66,H:=zf.h,HL:=zf.hl,HJ:=zf.hj,L:=mkL zf.hl [⟨5,fun x R K=>zf.L5 F R K F x⟩],J:=mkJ zf.hj [⟨10,zf.J10 F⟩,⟨3,zf.J3 F⟩]}
theorem zf.ok (m:Int) (F:Nat):OKP m 53 zf.sg (zf.sp F) :=
 okp (zf.X m F) Go.Proofs.Tryz.func53 ⟨zP.ok m F,trivial⟩ trivial 1 2 (yH (FX.loopk 5 F (zf.L5 F)) zz) (yH (FX.cutk 10) (yH (FX.cutk 3) zz))
def za.te:TEs:=[(1,.c (.tr zb)),kL 2,(4,.c (.tr zb)),(5,.c (.sl (.tr zb))),(5,.ow 5),(6,kI),(7,.c (.tr zb)),(9,.c (.bnd zd)),(10,.c (.tr zb)),(20,.c (.sl (.tr zb))),(21,kI),(22,kI),(23,kB),(55,.c (.sl (.bnd zd))),(56,kI),(57,kI),(58,kB),(65,kB)]
def za.tb:TEs:=[(2,.g zd)]
def za.tp:List v8:=[⟨5,.env 5,(.tr zb)⟩]
def za.h:SH:=shN za.te za.tb za.tp [(0,3,1,0),(1,19,1,1),(2,3603,1,1),(3,7699,1,1),(4,3699,1,1),(5,3603,1,1),(6,3603,1,1),(7,3,1,0),(8,57347,1,0),(9,122883,1,0),(10,57475,1,0),(11,57603,1,0),(12,188675,1,0),(13,4,0,0),(14,57347,1,0),(15,4,0,0)]
def za.hl:SH:=shN za.te za.tb za.tp [(3,3603,1,1),(9,57347,1,0)]
def za.hj:Nat->Option Shape:=shO za.te za.tb za.tp [(7,11,1,0)]
def za.L3 (mz:Nat) (F:Nat) (R:Type) (K:KK R) (n:Nat) (x:((LTr zb.T)×Unit×Unit×(List (LTr zb.T))×Int×Int×Unit)×(zd.T×Unit)×((List (LTr zb.T))×Unit)):Option R :=
 za.l3 (za.it F mz) F (fun x t20 t21 t22 t23 f kids=>K (.exit 0) (yZ (za.h 3) ((x,(),(),t20,t21,t22,t23,()),(f,()),(kids,())))) n x.1.1 x.1.2.2.2.1 x.1.2.2.2.2.1 x.1.2.2.2.2.2.1 x.2.1.1 x.2.2.1
def za.L9 (mz:Nat) (F:Nat) (R:Type) (K:KK R) (n:Nat) (x:((LTr zb.T)×Unit×(List (Nat×zd.T))×Int×Int×Unit)×(zd.T×Unit)×(Unit)):Option R :=
 za.l9 (za.it F mz) F (fun r4=>K .ret (yZ (za.h 13) ((r4,()),(),()))) (fun x t55 t56 t57 t58 f=>K (.exit 2) (yZ (za.h 9) ((x,(),t55,t56,t57,t58,()),(f,()),()))) n x.1.1 x.1.2.2.1 x.1.2.2.2.1 x.1.2.2.2.2.1 x.2.1.1
def za.J7 (mz:Nat) (F:Nat) (x:((LTr zb.T)×Unit×(List (LTr zb.T))×Unit)×(zd.T×Unit)×(Unit)) (R:Type) (K:KK R):Option R :=
 za.j7 (za.it F mz) F (fun r4=>K .ret (yZ (za.h 13) ((r4,()),(),()))) (fun r4=>K .ret (yZ (za.h 15) ((r4,()),(),()))) x.1.1 x.1.2.2.1 x.2.1.1
def za.X (m:Int) (mz:Nat) (F:Nat):FX TI (G m) Sg:={hn:={MU:=fun s=>lk false s [(16,true)],DS:=fun d=>lk none d [(63,some za.ds63)],CT:=fun d=>lk .unit d [(42,zd),(44,zd),(46,zd),(48,zd),(50,zd),(52,zd),(54,zd)],na:=2,fzJ:=fun r=>lk [] r [(7,[5])],BT:=fun s=>lk none s [(40,some zb)]},lv:=[⟨19,za.itp F mz⟩],ld:=[⟨63,za.d63 (za.it F mz) F⟩],N:=71,H:=za.h,HL:=za.hl,HJ:=za.hj,L:=mkL za.hl [⟨3,fun x R K=>za.L3 mz F R K F x⟩,⟨9,fun x R K=>za.L9 mz F R K F x⟩],J:=mkJ za.hj [⟨7,za.J7 mz F⟩]}
theorem za.ok1 (m:Int) (F mz:Nat) (hme:OKP m 19 za.sg (za.itp F mz)):OKP m 19 za.sg (za.itp F (mz+1)) :=
 okp (za.X m mz F) Go.Proofs.Tryz.func19 ⟨hme,trivial⟩ ⟨qF ⟨⟨52,by kernel_rfl,yg.ok m F⟩,⟨49,by kernel_rfl,zB.ok m F⟩,⟨50,by kernel_rfl,yJ.ok m F⟩,⟨54,by kernel_rfl,ym.ok m F⟩,⟨51,by kernel_rfl,yI.ok m F⟩,⟨55,by kernel_rfl,yz.ok m F⟩,⟨53,by kernel_rfl,zf.ok m F⟩,trivial⟩,trivial⟩ 2 1 (yH (FX.loopk 9 F (za.L9 mz F)) (yH (FX.loopk 3 F (za.L3 mz F)) zz)) (yH (FX.cutk 7) zz)
theorem za.ok (m:Int) (F:Nat):OKP m 19 za.sg (za.sp F):=Wm (it:=za.itp F) (fun _=>rfl) (fun n h=>za.ok1 m F n h) F
theorem y4.lay:Go.Proofs.SlLaysE0.n41 Go.Proofs.Tryz.prog ⟨fun | 41=>21 | n=>n,fun | 22=>22 | 23=>38 | 4=>4 | n=>n,fun n=>n⟩:={mixed:=mixed,f41:=⟨Go.Proofs.Tryz.f21.name,by decide,Go.Proofs.Tryz.func21.trans (congrArg some (by kernel_rfl))⟩,t4:=Go.Proofs.Tryz.underlying4,a4:=Go.Proofs.Tryz.isAgg4,z4:=Go.Proofs.Tryz.sizeOf4,v4:=Go.Proofs.Tryz.zeroValue4,t22:=Go.Proofs.Tryz.underlying22,a22:=Go.Proofs.Tryz.isAgg22,z22:=Go.Proofs.Tryz.sizeOf22,v22:=Go.Proofs.Tryz.zeroValue22}
theorem y4.ok (m:Int) (F:Nat):OK Go.Proofs.Tryz.prog (G m) 21 y4.sg (y4.sp F):=Y7 rfl Go.Proofs.Tryz.func21 (by kernel_rfl) (tsOK 22) (by kernel_rfl) y4.lay rfl rfl
theorem yG.lay:Go.Proofs.SlLaysE0.n41 Go.Proofs.Tryz.prog ⟨fun | 41=>58 | n=>n,fun | 22=>51 | 23=>75 | 4=>4 | n=>n,fun n=>n⟩:={mixed:=mixed,f41:=⟨Go.Proofs.Tryz.f58.name,by decide,Go.Proofs.Tryz.func58.trans (congrArg some (by kernel_rfl))⟩,t4:=Go.Proofs.Tryz.underlying4,a4:=Go.Proofs.Tryz.isAgg4,z4:=Go.Proofs.Tryz.sizeOf4,v4:=Go.Proofs.Tryz.zeroValue4,t22:=Go.Proofs.Tryz.underlying51,a22:=Go.Proofs.Tryz.isAgg51,z22:=Go.Proofs.Tryz.sizeOf51,v22:=Go.Proofs.Tryz.zeroValue51}
theorem yG.ok (m:Int) (F:Nat):OK Go.Proofs.Tryz.prog (G m) 58 yG.sg (yG.sp F):=Y7 rfl Go.Proofs.Tryz.func58 (by kernel_rfl) (tsOK 51) (by kernel_rfl) yG.lay rfl rfl
def zn.te:TEs:=[(0,.c (.tr zb)),(1,.ow 1),(4,.ow 4),(6,.c (.tr zb)),kL 7,(11,.c (.sl (.tr zb))),(12,kI),(13,kI),(14,kB)]
def zn.tb:TEs:=[(7,.g zb)]
def zn.tp:List v8:=[⟨1,.env 1,zb⟩,⟨4,.env 4,zb⟩]
def zn.h:SH:=shN zn.te zn.tb zn.tp [(0,3,0,1),(1,227,0,1),(2,483,0,1),(3,235,0,1),(4,227,0,1),(5,227,0,1),(6,18,1,1),(7,18,1,1),(8,4,0,2)]
def zn.hl:SH:=shN zn.te zn.tb zn.tp [(2,227,0,1)]
def zn.L2 (mz:Nat) (F:Nat) (R:Type) (K:KK R) (n:Nat) (x:((LTr zb.T)×Unit×(List (LTr zb.T))×Int×Int×Unit)×(Unit)×((List zb.T)×Unit)):Option R :=
 zn.l2 (zn.it F mz) F (fun x t11 t12 t13 t14 l=>K (.exit 0) (yZ (zn.h 2) ((x,(),t11,t12,t13,t14,()),(),(l,())))) n x.1.1 x.1.2.2.1 x.1.2.2.2.1 x.1.2.2.2.2.1 x.2.2.1
def zn.X (m:Int) (mz:Nat) (F:Nat):FX TI (G m) Sg:={hn:={MU:=fun s=>lk false s [(1,true),(19,true)],na:=2},lv:=[⟨22,zn.itp F mz⟩,⟨58,yG.sp F⟩],N:=33,H:=zn.h,HL:=zn.hl,L:=mkL zn.hl [⟨2,fun x R K=>zn.L2 mz F R K F x⟩]}
theorem zn.ok1 (m:Int) (F mz:Nat) (hme:OKP m 22 zn.sg (zn.itp F mz)):OKP m 22 zn.sg (zn.itp F (mz+1)) :=
 okp (zn.X m mz F) Go.Proofs.Tryz.func22 ⟨hme,yG.ok m F,trivial⟩ trivial 1 0 (yH (FX.loopk 2 F (zn.L2 mz F)) zz) zz
theorem zn.ok (m:Int) (F:Nat):OKP m 22 zn.sg (zn.sp F):=Wm (it:=zn.itp F) (fun _=>rfl) (fun n h=>zn.ok1 m F n h) F
def xa.te:TEs:=[kL 1,kL 2,(3,kI),kL 4,(6,kI),(7,.c (.tr zb)),(15,kB)]
def xa.tb:TEs:=[(1,.g zZ),(2,.g zZ),(4,.g zd)]
def xa.h:SH:=shN xa.te xa.tb [] [(0,3,3,0),(1,27,7,0),(2,91,7,0),(3,6,2,0),(4,35,3,0),(5,6,2,0)]
def xa.X (m:Int) (F:Nat):FX TI (G m) Sg:={hn:={na:=1,fz:=fun r=>lk [] r [(5,[101280])]},lv:=[⟨18,xk.sp F⟩,⟨20,zG.sp F⟩,⟨19,za.sp F⟩,⟨21,y4.sp F⟩,⟨22,zn.sp F⟩],N:=34,H:=xa.h}
theorem xa.ok (m:Int) (F:Nat):OKP m 8 xa.sg (xa.sp F) :=
 okp (xa.X m F) Go.Proofs.Tryz.func8 ⟨xk.ok m F,zG.ok m F,za.ok m F,y4.ok m F,zn.ok m F,trivial⟩ trivial 0 0 zz zz
def zH.te:TEs:=[kL 2,kL 3,(4,kB),(5,kI),(40,kB),(45,kB),(58,kB)]
def zH.tb:TEs:=[(2,.g zb),(3,.g zb)]
def zH.h:SH:=shN zH.te zH.tb [] [(0,3,3,0),(1,19,3,0),(2,4,0,0),(3,11,3,0),(4,43,3,0),(5,11,3,0),(6,75,3,0),(7,4,0,0),(8,4,0,0)]
def zH.hl:SH:=shN zH.te zH.tb [] [(4,11,3,0)]
def zH.L4 (F:Nat) (R:Type) (K:KK R) (n:Nat) (x:(Unit×Unit×Int×Unit)×(zb.T×zb.T×Unit)×(Unit)):Option R :=
 zH.l4 F (fun r4=>K .ret (yZ (zH.h 7) ((r4,()),(),()))) (fun i t45 a b=>K (.exit 0) (yZ (zH.h 4) (((),(),i,t45,()),(a,b,()),()))) n x.1.2.2.1 x.2.1.1 x.2.1.2.1
def zH.X (m:Int) (F:Nat):FX TI (G m) Sg:={hn:={na:=2},N:=59,H:=zH.h,HL:=zH.hl,L:=mkL zH.hl [⟨4,fun x R K=>zH.L4 F R K F x⟩]}
theorem zH.ok (m:Int) (F:Nat):OKP m 47 zH.sg (zH.sp F) :=
 okp (zH.X m F) Go.Proofs.Tryz.func47 trivial trivial 1 0 (yH (FX.loopk 4 F (zH.L4 F)) zz) zz
def zv.te:TEs:=[kL 2,kL 3,(4,kB),(5,kI),(6,kI),(36,kB),(41,kB),(54,kB),(59,kB),(73,kB)]
def zv.tb:TEs:=[(2,.g zZ),(3,.g zZ)]
def zv.h:SH:=shN zv.te zv.tb [] [(0,3,3,0),(1,35,3,0),(2,4,0,0),(3,11,3,0),(4,75,3,0),(5,11,3,0),(6,139,3,0),(7,4,0,0),(8,19,3,0),(9,275,3,0),(10,19,3,0),(11,531,3,0),(12,4,0,0),(13,4,0,0)]
def zv.hl:SH:=shN zv.te zv.tb [] [(4,11,3,0),(9,19,3,0)]
def zv.L4 (F:Nat) (R:Type) (K:KK R) (n:Nat) (x:(Unit×Unit×Int×Unit)×(zZ.T×zZ.T×Unit)×(Unit)):Option R :=
 zv.l4 F (fun r4=>K .ret (yZ (zv.h 7) ((r4,()),(),()))) (fun i t41 p q=>K (.exit 0) (yZ (zv.h 4) (((),(),i,t41,()),(p,q,()),()))) n x.1.2.2.1 x.2.1.1 x.2.1.2.1
def zv.L9 (F:Nat) (R:Type) (K:KK R) (n:Nat) (x:(Unit×Unit×Int×Unit)×(zZ.T×zZ.T×Unit)×(Unit)):Option R :=
 zv.l9 F (fun r4=>K .ret (yZ (zv.h 12) ((r4,()),(),()))) (fun i t59 p q=>K (.exit 2) (yZ (zv.h 9) (((),(),i,t59,()),(p,q,()),()))) n x.1.2.2.1 x.2.1.1 x.2.1.2.1
def zv.X (m:Int) (F:Nat):FX TI (G m) Sg:={hn:={na:=2},lv:=[⟨47,zH.sp F⟩],N:=74,H:=zv.h,HL:=zv.hl,L:=mkL zv.hl [⟨4,fun x R K=>zv.L4 F R K F x⟩,⟨9,fun x R K=>zv.L9 F R K F x⟩]}
theorem zv.ok (m:Int) (F:Nat):OKP m 17 zv.sg (zv.sp F) :=
 okp (zv.X m F) Go.Proofs.Tryz.func17 ⟨zH.ok m F,trivial⟩ trivial 2 0 (yH (FX.loopk 9 F (zv.L9 F)) (yH (FX.loopk 4 F (zv.L4 F)) zz)) zz
def yw.te:TEs:=[(0,kB),kL 1,kL 2,(3,kI),(5,kI)]
def yw.tb:TEs:=[(1,.g zZ),(2,.g zZ)]
def yw.h:SH:=shN yw.te yw.tb [] [(1,2,1,0),(2,14,3,0),(3,14,3,0),(4,30,3,0),(5,1,0,0)]
def yw.X (m:Int) (F:Nat):FX TI (G m) Sg:={hn:={na:=0},lv:=[⟨8,xa.sp F⟩,⟨17,zv.sp F⟩],N:=38,H:=yw.h}
theorem yw.ok (m:Int) (F:Nat):OKP m 7 yw.sg (yw.sp F) :=
 okp (yw.X m F) Go.Proofs.Tryz.func7 ⟨xa.ok m F,zv.ok m F,trivial⟩ trivial 0 0 zz zz
def zF.te:TEs:=[(0,.b yr),(1,.b yr),(4,kB),(5,kI),(10,kB),(12,kI),(13,kI),(14,kB),(24,kB)]
def zF.h:SH:=shN zF.te [] [] [(0,3,0,0),(1,19,0,0),(2,4,0,0),(3,99,0,0),(4,227,0,0),(5,107,0,0),(6,355,0,0),(7,4,0,0),(8,99,0,0),(9,4,0,0)]
def zF.hl:SH:=shN zF.te [] [] [(4,99,0,0)]
def zF.L4 (F:Nat) (R:Type) (K:KK R) (n:Nat) (x:((List yr.T)×(List yr.T)×Int×Int×Unit)×(Unit)×(Unit)):Option R :=
 zF.l4 F (fun r4=>K .ret (yZ (zF.h 7) ((r4,()),(),()))) (fun s1 s2 t12 t13 t14=>K (.exit 0) (yZ (zF.h 4) ((s1,s2,t12,t13,t14,()),(),()))) n x.1.1 x.1.2.1 x.1.2.2.1 x.1.2.2.2.1
def zF.X (m:Int) (F:Nat):FX TI (G m) Sg:={hn:={na:=2},N:=26,H:=zF.h,HL:=zF.hl,L:=mkL zF.hl [⟨4,fun x R K=>zF.L4 F R K F x⟩]}
theorem zF.ok (m:Int) (F:Nat):OKP m 32 zF.sg (zF.sp F) :=
 okp (zF.X m F) Go.Proofs.Tryz.func32 trivial trivial 1 0 (yH (FX.loopk 4 F (zF.L4 F)) zz) zz
def xf.te:TEs:=[kL 2,kL 3,(4,kB)]
def xf.tb:TEs:=[(2,.g zb),(3,.g zb)]
def xf.h:SH:=shN xf.te xf.tb [] [(0,3,3,0),(1,4,0,0)]
def xf.X (m:Int) (F:Nat):FX TI (G m) Sg:={hn:={na:=2},lv:=[⟨31,zy.sp F⟩],N:=38,H:=xf.h}
theorem xf.ok (m:Int) (F:Nat):OKP m 30 xf.sg (xf.sp F) :=
 okp (xf.X m F) Go.Proofs.Tryz.func30 ⟨zy.ok m F,trivial⟩ trivial 0 0 zz zz
def zp.te:TEs:=[(0,.b zb),(1,.b zb),(2,.c .fn),(6,kB),(7,kI),kL 8,kL 9,(14,kB),(15,.b zb),(16,kI),(17,kI),(18,kB),(30,kB)]
def zp.tb:TEs:=[(8,.g zb),(9,.g zb)]
def zp.h:SH:=shN zp.te zp.tb [] [(0,7,0,0),(1,135,0,0),(2,8,0,0),(3,1798,0,0),(4,3846,0,0),(5,1846,1,0),(6,1894,3,0),(7,5894,0,0),(8,8,0,0),(9,1798,0,0),(10,8,0,0)]
def zp.hl:SH:=shN zp.te zp.tb [] [(4,1798,0,0)]
def zp.L4 (F:Nat) (R:Type) (K:KK R) (n:Nat) (x:((List zb.T)×Nat×(List zb.T)×Int×Int×Unit)×(Unit)×(Unit)):Option R :=
 zp.l4 F (fun r6=>K .ret (yZ (zp.h 8) ((r6,()),(),()))) (fun s2 eq t15 t16 t17 t18=>K (.exit 0) (yZ (zp.h 4) ((s2,eq,t15,t16,t17,t18,()),(),()))) n x.1.1 x.1.2.1 x.1.2.2.1 x.1.2.2.2.1 x.1.2.2.2.2.1
def zp.X (m:Int) (F:Nat):FX TI (G m) Sg:={hn:={DS:=fun d=>lk none d [(29,some zp.ds29)],na:=3},ld:=[⟨29,zp.d29 F⟩],N:=32,H:=zp.h,HL:=zp.hl,L:=mkL zp.hl [⟨4,fun x R K=>zp.L4 F R K F x⟩]}
theorem zp.ok (m:Int) (F:Nat):OKP m 33 zp.sg (zp.sp F) :=
 okp (zp.X m F) Go.Proofs.Tryz.func33 trivial ⟨qF ⟨⟨30,by kernel_rfl,xf.ok m F⟩,trivial⟩,trivial⟩ 1 0 (yH (FX.loopk 4 F (zp.L4 F)) zz) zz
def xL.te:TEs:=[kL 2,kL 3,(4,kB),(5,.c .fn)]
def xL.tb:TEs:=[(2,.g zZ),(3,.g zZ)]
def xL.h:SH:=shN xL.te xL.tb [] [(0,3,3,0),(1,11,3,0),(2,4,0,0)]
def xL.X (m:Int) (F:Nat):FX TI (G m) Sg:={hn:={na:=2},lv:=[⟨32,zF.sp F⟩,⟨33,zp.sp F⟩],N:=33,H:=xL.h}
theorem xL.ok (m:Int) (F:Nat):OKP m 10 xL.sg (xL.sp F) :=
 okp (xL.X m F) Go.Proofs.Tryz.func10 ⟨zF.ok m F,zp.ok m F,trivial⟩ trivial 0 0 zz zz
def zL.te:TEs:=[kL 1,(2,kB),kL 3,(4,kI),kL 5,(6,kI),(8,kB),(20,kB)]
def zL.tb:TEs:=[(1,.g zZ),(3,.g zZ),(5,.g zZ)]
def zL.h:SH:=shN zL.te zL.tb [] [(0,1,1,0),(1,65,1,0),(2,2,0,0),(3,12,2,0),(4,60,6,0),(5,180,6,0),(6,2,0,0),(7,2,0,0)]
def zL.X (m:Int) (F:Nat):FX TI (G m) Sg:={hn:={na:=1},lv:=[⟨7,yw.sp F⟩,⟨8,xa.sp F⟩,⟨10,xL.sp F⟩],N:=32,H:=zL.h}
theorem zL.ok (m:Int) (F:Nat):OKP m 4 zL.sg (zL.sp F) :=
 okp (zL.X m F) Go.Proofs.Tryz.func4 ⟨yw.ok m F,xa.ok m F,xL.ok m F,trivial⟩ trivial 0 0 zz zz
end Go.VS
