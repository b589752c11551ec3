import Derived.Test.YtiliboioeieeoaaGreatDoorQT
set_option linter.unusedVariables false
set_option linter.unusedSimpArgs false
set_option linter.unusedSectionVars false
set_option linter.unusedVariables false
set_option maxRecDepth 100000
namespace Go.VS
open Go
def yY.te:TEs:=[(0,.c (.int .u8)),(2,kB)]
def yY.h:SH:=shN yY.te [] [] [(0,1,0,0),(1,2,0,0)]
def yY.X (m:Int) (F:Nat):FX TI (G m) Sg:={hn:={na:=1},N:=9,H:=yY.h}
theorem yY.ok (m:Int) (F:Nat):OKP m 172 yY.sg (yY.sp F) :=
 okp (yY.X m F) Go.Proofs.Tryz.func172 trivial trivial 0 0 zx zx
def xP.te:TEs:=[(0,.c (.int .u8)),(2,kB)]
def xP.h:SH:=shN xP.te [] [] [(0,1,0,0),(1,2,0,0)]
def xP.X (m:Int) (F:Nat):FX TI (G m) Sg:={hn:={na:=1},N:=9,H:=xP.h}
theorem xP.ok (m:Int) (F:Nat):OKP m 187 xP.sg (xP.sp F) :=
 okp (xP.X m F) Go.Proofs.Tryz.func187 trivial trivial 0 0 zx zx
def xJ.te:TEs:=[(0,.c (.int .u8)),(2,kB)]
def xJ.h:SH:=shN xJ.te [] [] [(0,1,0,0),(1,2,0,0)]
def xJ.X (m:Int) (F:Nat):FX TI (G m) Sg:={hn:={na:=1},lv:=[⟨172,yY.sp F⟩,⟨187,xP.sp F⟩],N:=13,H:=xJ.h}
theorem xJ.ok (m:Int) (F:Nat):OKP m 174 xJ.sg (xJ.sp F) :=
 okp (xJ.X m F) Go.Proofs.Tryz.func174 ⟨yY.ok m F,xP.ok m F,trivial⟩ trivial 0 0 zx zx
def yj.te:TEs:=[(0,.c .str),(1,.c .fn),(4,kI),(5,kI),(16,kB)]
def yj.h:SH:=shN yj.te [] [] [(0,3,0,0),(1,11,0,0),(2,27,0,0),(3,11,0,0),(4,4,0,0)]
def yj.hl:SH:=shN yj.te [] [] [(2,11,0,0)]
def yj.L2 (F:Nat) (R:Type) (K:KK R) (n:Nat) (x:(ByteArray×Nat×Int×Unit)×(Unit)×(Unit)):Option R :=
 yj.l2 F (fun s of n t16=>K (.exit 0) (yU (yj.h 2) ((s,of,n,t16,()),(),()))) n x.1.1 x.1.2.1 x.1.2.2.1
def yj.X (m:Int) (F:Nat):FX TI (G m) Sg:={hn:={DS:=fun d=>lk none d [(15,some yj.ds15)],na:=2},ld:=[⟨15,yj.d15 F⟩],N:=20,H:=yj.h,HL:=yj.hl,L:=mkL yj.hl [⟨2,fun x R K=>yj.L2 F R K F x⟩]}
theorem yj.ok (m:Int) (F:Nat):OKP m 173 yj.sg (yj.sp F) :=
 okp (yj.X m F) Go.Proofs.Tryz.func173 trivial ⟨Zo ⟨⟨174,by kernel_rfl,xJ.ok m F⟩,⟨172,by kernel_rfl,yY.ok m F⟩,trivial⟩,trivial⟩ 1 0 (yA (FX.loopk 2 F (yj.L2 F)) zx) zx
theorem yN.ok (m:Int) (F:Nat):OK Go.Proofs.Tryz.prog (G m) 188 yN.sg (yN.sp F):=yN.ok' F Go.Proofs.Tryz.func188 (by kernel_rfl) (g:=3) (by kernel_rfl) (fun s sub w h1 h2=>Go.Proofs.Tryz.strings_Contains s sub m w h1 h2)
def x8.te:TEs:=[(0,.c .str),(2,kB)]
def x8.h:SH:=shN x8.te [] [] [(0,1,0,0),(1,2,0,0)]
def x8.X (m:Int) (F:Nat):FX TI (G m) Sg:={hn:={na:=1},lv:=[⟨173,yj.sp F⟩,⟨188,yN.sp F⟩],N:=18,H:=x8.h}
theorem x8.ok (m:Int) (F:Nat):OKP m 175 x8.sg (x8.sp F) :=
 okp (x8.X m F) Go.Proofs.Tryz.func175 ⟨yj.ok m F,yN.ok m F,trivial⟩ trivial 0 0 zx zx
def xV.te:TEs:=[(0,.c .str),(2,kB)]
def xV.h:SH:=shN xV.te [] [] [(0,1,0,0),(1,2,0,0)]
def xV.X (m:Int) (F:Nat):FX TI (G m) Sg:={hn:={na:=1},lv:=[⟨172,yY.sp F⟩,⟨173,yj.sp F⟩,⟨175,x8.sp F⟩],N:=27,H:=xV.h}
theorem xV.ok (m:Int) (F:Nat):OKP m 130 xV.sg (xV.sp F) :=
 okp (xV.X m F) Go.Proofs.Tryz.func130 ⟨yY.ok m F,yj.ok m F,x8.ok m F,trivial⟩ trivial 0 0 zx zx
def xl.te:TEs:=[(1,.p yy),kL 2,(3,kB)]
def xl.tb:TEs:=[(2,.g yy)]
def xl.h:SH:=shN xl.te xl.tb [] [(0,3,1,0),(1,4,0,0)]
def xl.X (m:Int) (F:Nat):FX TI (G m) Sg:={hn:={na:=2},N:=9,H:=xl.h}
theorem xl.ok (m:Int) (F:Nat):OKP m 131 xl.sg (xl.sp F) :=
 okp (xl.X m F) Go.Proofs.Tryz.func131 trivial trivial 0 0 zx zx
def zk.te:TEs:=[(0,.b yy),(1,.cl yy),(4,kI),(5,kI),(7,kI),(8,kI),(9,kB),(16,kB)]
def zk.h:SH:=shN zk.te [] [] [(0,3,0,0),(1,51,0,0),(2,115,0,0),(3,59,0,0),(4,187,0,0),(5,4,0,0),(6,51,0,0),(7,4,0,0)]
def zk.hl:SH:=shN zk.te [] [] [(2,51,0,0)]
def zk.L2 (F:Nat) (R:Type) (K:KK R) (n:Nat) (x:((List yy.T)×(Nat×yy.T)×Int×Int×Unit)×(Unit)×(Unit)):Option R :=
 zk.l2 F (fun r4=>K .ret (yU (zk.h 5) ((r4,()),(),()))) (fun s f t7 t8 t9=>K (.exit 0) (yU (zk.h 2) ((s,f,t7,t8,t9,()),(),()))) n x.1.1 x.1.2.1 x.1.2.2.1 x.1.2.2.2.1
def zk.X (m:Int) (F:Nat):FX TI (G m) Sg:={hn:={DS:=fun d=>lk none d [(16,some zk.ds16)],na:=2},ld:=[⟨16,zk.d16 F⟩],N:=19,H:=zk.h,HL:=zk.hl,L:=mkL zk.hl [⟨2,fun x R K=>zk.L2 F R K F x⟩]}
theorem zk.ok (m:Int) (F:Nat):OKP m 176 zk.sg (zk.sp F) :=
 okp (zk.X m F) Go.Proofs.Tryz.func176 trivial ⟨Zo ⟨⟨131,by kernel_rfl,xl.ok m F⟩,trivial⟩,trivial⟩ 1 0 (yA (FX.loopk 2 F (zk.L2 F)) zx) zx
def zY.te:TEs:=[(0,.b yy),(1,.cl yy),(4,kB)]
def zY.h:SH:=shN zY.te [] [] [(0,3,0,0),(1,4,0,0)]
def zY.X (m:Int) (F:Nat):FX TI (G m) Sg:={hn:={na:=2},lv:=[⟨176,zk.sp F⟩],N:=9,H:=zY.h}
theorem zY.ok (m:Int) (F:Nat):OKP m 132 zY.sg (zY.sp F) :=
 okp (zY.X m F) Go.Proofs.Tryz.func132 ⟨zk.ok m F,trivial⟩ trivial 0 0 zx zx
def z7.te:TEs:=[kL 1,(2,kI),(3,kI),kL 4,(4,.p yy),(5,.cl yy),(9,kB),(19,kB),(21,.c (.sl yy)),(22,kI),(23,kI),(24,kB),(40,kB),(48,kB),(57,kB)]
def z7.tb:TEs:=[(1,.g zL),(4,.g yy)]
def z7.h:SH:=shN z7.te z7.tb [] [(0,1,1,0),(1,65,1,0),(2,2,0,0),(3,129,1,0),(4,2,0,0),(5,1793,1,0),(6,3841,1,0),(7,1805,3,0),(8,1845,1,0),(9,5905,1,0),(10,2,0,0),(11,9985,1,0),(12,2,0,0),(13,1793,1,0),(14,16384,0,0),(15,2,0,0),(16,2,0,0)]
def z7.hl:SH:=shN z7.te z7.tb [] [(6,1793,1,0)]
def z7.L6 (F:Nat) (R:Type) (K:KK R) (n:Nat) (x:(Unit×(List yy.T)×Int×Int×Unit)×(zL.T×Unit)×(Unit)):Option R :=
 z7.l6 F (fun r2=>K .ret (yU (z7.h 10) ((r2,()),(),()))) (fun r2=>K .ret (yU (z7.h 12) ((r2,()),(),()))) (fun t21 t22 t23 t24 p=>K (.exit 0) (yU (z7.h 6) (((),t21,t22,t23,t24,()),(p,()),()))) n x.1.2.1 x.1.2.2.1 x.1.2.2.2.1 x.2.1.1
def z7.X (m:Int) (F:Nat):FX TI (G m) Sg:={hn:={CT:=fun d=>lk .unit d [(28,yy)],na:=1},lv:=[⟨130,xV.sp F⟩,⟨132,zY.sp F⟩],N:=58,H:=z7.h,HL:=z7.hl,L:=mkL z7.hl [⟨6,fun x R K=>z7.L6 F R K F x⟩]}
theorem z7.ok (m:Int) (F:Nat):OKP m 77 z7.sg (z7.sp F) :=
 okp (z7.X m F) Go.Proofs.Tryz.func77 ⟨xV.ok m F,zY.ok m F,trivial⟩ trivial 1 0 (yA (FX.loopk 6 F (z7.L6 F)) zx) zx
def yL.te:TEs:=[kL 1,(2,kI),(3,kI),(10,kB)]
def yL.tb:TEs:=[(1,.g zb)]
def yL.h:SH:=shN yL.te yL.tb [] [(0,1,1,0),(1,5,1,0),(2,13,1,0),(3,2,0,0),(4,2,0,0)]
def yL.X (m:Int) (F:Nat):FX TI (G m) Sg:={hn:={na:=1},N:=14,H:=yL.h}
theorem yL.ok (m:Int) (F:Nat):OKP m 36 yL.sg (yL.sp F) :=
 okp (yL.X m F) Go.Proofs.Tryz.func36 trivial trivial 0 0 zx zx
def zJ.te:TEs:=[(0,.b zN),(2,kB),(3,kI),kL 4,(19,kB),(20,.b zN),(21,kI),(22,kI),(23,kB),(54,kB)]
def zJ.tb:TEs:=[(4,.g zN)]
def zJ.h:SH:=shN zJ.te zJ.tb [] [(0,1,0,0),(1,17,0,0),(2,2,0,0),(3,225,0,0),(4,481,0,0),(5,237,1,0),(6,737,0,0),(7,2,0,0),(8,225,0,0),(9,2,0,0)]
def zJ.hl:SH:=shN zJ.te zJ.tb [] [(4,225,0,0)]
def zJ.L4 (F:Nat) (R:Type) (K:KK R) (n:Nat) (x:((List zN.T)×(List zN.T)×Int×Int×Unit)×(Unit)×(Unit)):Option R :=
 zJ.l4 F (fun r2=>K .ret (yU (zJ.h 7) ((r2,()),(),()))) (fun tiers t20 t21 t22 t23=>K (.exit 0) (yU (zJ.h 4) ((tiers,t20,t21,t22,t23,()),(),()))) n x.1.1 x.1.2.1 x.1.2.2.1 x.1.2.2.2.1
def zJ.X (m:Int) (F:Nat):FX TI (G m) Sg:={hn:={na:=1},N:=56,H:=zJ.h,HL:=zJ.hl,L:=mkL zJ.hl [⟨4,fun x R K=>zJ.L4 F R K F x⟩]}
theorem zJ.ok (m:Int) (F:Nat):OKP m 133 zJ.sg (zJ.sp F) :=
 okp (zJ.X m F) Go.Proofs.Tryz.func133 trivial trivial 1 0 (yA (FX.loopk 4 F (zJ.L4 F)) zx) zx
def zX.te:TEs:=[(1,kI),(2,kI),kL 3,(6,kI),kL 7,(8,kI),(9,kB),(10,kB),(18,kB),(26,kB),(34,kB),(47,kB),(89,kB),(97,kB)]
def zX.tb:TEs:=[(3,.g zb),(7,.g yW)]
def zX.h:SH:=shN zX.te zX.tb [] [(0,7,1,0),(1,263,1,0),(2,8,0,0),(3,23,3,0),(4,55,3,0),(5,567,3,0),(6,54,3,0),(7,118,3,0),(8,1142,3,0),(9,118,3,0),(10,246,3,0),(11,2294,3,0),(12,246,3,0),(13,4116,3,0),(14,8,0,0),(15,8192,0,0),(16,8,0,0),(17,8,0,0)]
def zX.hj:Nat->Option Shape:=shO zX.te zX.tb [] [(7,54,3,0),(10,118,3,0),(13,246,3,0)]
def zX.J13 (F:Nat) (x:(Int×Unit×Unit×Int×Bool×Bool×Unit)×(zb.T×yW.T×Unit)×(Unit)) (R:Type) (K:KK R):Option R :=
 zX.j13 F (fun r6=>K .ret (yU (zX.h 14) ((r6,()),(),()))) (fun r6=>K .ret (yU (zX.h 16) ((r6,()),(),()))) (fun r6=>K .ret (yU (zX.h 17) ((r6,()),(),()))) x.1.1 x.1.2.2.2.1 x.1.2.2.2.2.1 x.1.2.2.2.2.2.1 x.2.1.1 x.2.1.2.1
def zX.J10 (F:Nat) (x:(Int×Unit×Unit×Int×Bool×Unit)×(zb.T×yW.T×Unit)×(Unit)) (R:Type) (K:KK R):Option R :=
 zX.j10 F (fun r6=>K .ret (yU (zX.h 14) ((r6,()),(),()))) (fun r6=>K .ret (yU (zX.h 16) ((r6,()),(),()))) (fun r6=>K .ret (yU (zX.h 17) ((r6,()),(),()))) x.1.1 x.1.2.2.2.1 x.1.2.2.2.2.1 x.2.1.1 x.2.1.2.1
def zX.J7 (F:Nat) (x:(Int×Unit×Unit×Int×Unit)×(zb.T×yW.T×Unit)×(Unit)) (R:Type) (K:KK R):Option R :=
 zX.j7 F (fun r6=>K .ret (yU (zX.h 14) ((r6,()),(),()))) (fun r6=>K .ret (yU (zX.h 16) ((r6,()),(),()))) (fun r6=>K .ret (yU (zX.h 17) ((r6,()),(),()))) x.1.1 x.1.2.2.2.1 x.2.1.1 x.2.1.2.1
def zX.X (m:Int) (F:Nat):FX TI (G m) Sg:={hn:={na:=3},lv:=[⟨36,yL.sp F⟩,⟨133,zJ.sp F⟩],N:=98,H:=zX.h,HJ:=zX.hj,J:=mkJ zX.hj [⟨13,zX.J13 F⟩,⟨10,zX.J10 F⟩,⟨7,zX.J7 F⟩]}
theorem zX.ok (m:Int) (F:Nat):OKP m 78 zX.sg (zX.sp F) :=
 okp (zX.X m F) Go.Proofs.Tryz.func78 ⟨yL.ok m F,zJ.ok m F,trivial⟩ trivial 0 3 zx (yA (FX.cutk 13) (yA (FX.cutk 10) (yA (FX.cutk 7) zx)))
def zM.te:TEs:=[kL 1,(2,kI),(3,kI),(4,kI),(5,kI),(6,kI),kL 7,(8,kI),(12,kB),(17,kB),(19,.c (.sl zb)),(20,kI),(21,kI),(22,kB),(33,kB),(43,kB)]
def zM.tb:TEs:=[(1,.g zL),(7,.g zb)]
def zM.h:SH:=shN zM.te zM.tb [] [(0,1,1,0),(1,9,1,0),(2,265,1,0),(3,6,0,0),(4,513,1,0),(5,6,0,0),(6,17,1,0),(7,7185,1,0),(8,15377,1,0),(9,7281,3,0),(10,7409,3,0),(11,23793,3,0),(12,6,0,0),(13,7185,1,0),(14,7185,1,0),(15,32769,1,0),(16,6,0,0),(17,6,0,0)]
def zM.hl:SH:=shN zM.te zM.tb [] [(8,7185,1,0)]
def zM.L8 (F:Nat) (R:Type) (K:KK R) (n:Nat) (x:(Unit×Int×(List zb.T)×Int×Int×Unit)×(zL.T×Unit)×(Unit)):Option R :=
 zM.l8 F (fun r2 r3=>K .ret (yU (zM.h 12) ((r2,r3,()),(),()))) (fun pile t19 t20 t21 t22 p=>K (.exit 0) (yU (zM.h 8) (((),pile,t19,t20,t21,t22,()),(p,()),()))) n x.1.2.1 x.1.2.2.1 x.1.2.2.2.1 x.1.2.2.2.2.1 x.2.1.1
def zM.X (m:Int) (F:Nat):FX TI (G m) Sg:={hn:={na:=1},lv:=[⟨77,z7.sp F⟩,⟨78,zX.sp F⟩,⟨36,yL.sp F⟩],N:=47,H:=zM.h,HL:=zM.hl,L:=mkL zM.hl [⟨8,fun x R K=>zM.L8 F R K F x⟩]}
theorem zM.ok (m:Int) (F:Nat):OKP m 35 zM.sg (zM.sp F) :=
 okp (zM.X m F) Go.Proofs.Tryz.func35 ⟨z7.ok m F,zX.ok m F,yL.ok m F,trivial⟩ trivial 1 0 (yA (FX.loopk 8 F (zM.L8 F)) zx) zx
def zB.te:TEs:=[kL 1,(2,.c (.sl (.int .i64))),(3,.c (.sl (.int .i64))),(3,.ow 3),(4,.ow 4),(5,kI),kL 6,(7,kI),(8,kI),(10,.c (.sl zb)),(11,kI),(12,kI),(13,kB),(21,kB)]
def zB.tb:TEs:=[(1,.g zL),(6,.g zb)]
def zB.tp:List ue:=[⟨3,.env 3,(.int .i64)⟩,⟨4,.env 4,(.int .i64)⟩]
def zB.h:SH:=shN zB.te zB.tb zB.tp [(0,1,1,0),(1,25,1,3),(2,3608,0,3),(3,7704,0,3),(4,3704,2,3),(5,3800,2,3),(6,3992,0,3),(7,12184,0,3),(8,3992,0,3),(9,3736,0,3),(10,3736,0,3),(11,3608,0,3),(12,3608,0,3),(13,2,0,0)]
def zB.hl:SH:=shN zB.te zB.tb zB.tp [(3,3608,0,3)]
def zB.hj:Nat->Option Shape:=shO zB.te zB.tb zB.tp [(13,4,0,0)]
def zB.L3 (F:Nat) (R:Type) (K:KK R) (n:Nat) (x:(Unit×Unit×(List zb.T)×Int×Int×Unit)×(Unit)×((List Int)×(List Int)×Unit)):Option R :=
 zB.l3 F (fun t10 t11 t12 t13 list pile=>K (.exit 0) (yU (zB.h 3) (((),(),t10,t11,t12,t13,()),(),(list,pile,())))) n x.1.2.2.1 x.1.2.2.2.1 x.1.2.2.2.2.1 x.2.2.1 x.2.2.2.1
def zB.J13 (F:Nat) (x:((List Int)×Unit)×(Unit)×(Unit)) (R:Type) (K:KK R):Option R :=
 zB.j13 F (fun r2=>K .ret (yU (zB.h 13) ((r2,()),(),()))) x.1.1
def zB.X (m:Int) (F:Nat):FX TI (G m) Sg:={hn:={MU:=fun s=>lk false s [(38,true),(42,true)],na:=1,fzJ:=fun r=>lk [] r [(13,[3])]},lv:=[⟨36,yL.sp F⟩],N:=45,H:=zB.h,HL:=zB.hl,HJ:=zB.hj,L:=mkL zB.hl [⟨3,fun x R K=>zB.L3 F R K F x⟩],J:=mkJ zB.hj [⟨13,zB.J13 F⟩]}
theorem zB.ok (m:Int) (F:Nat):OKP m 179 zB.sg (zB.sp F) :=
 okp (zB.X m F) Go.Proofs.Tryz.func179 ⟨yL.ok m F,trivial⟩ trivial 1 1 (yA (FX.loopk 3 F (zB.L3 F)) zx) (yA (FX.cutk 13) zx)
def xt.te:TEs:=[kL 1,(2,.c (.sl (.int .i64))),(3,kI),(5,kI),(12,kB)]
def xt.tb:TEs:=[(1,.g zL)]
def xt.h:SH:=shN xt.te xt.tb [] [(0,1,1,0),(1,9,1,0),(2,25,1,0),(3,6,0,0),(4,6,0,0)]
def xt.X (m:Int) (F:Nat):FX TI (G m) Sg:={hn:={na:=1},lv:=[⟨35,zM.sp F⟩,⟨179,zB.sp F⟩],N:=16,H:=xt.h}
theorem xt.ok (m:Int) (F:Nat):OKP m 143 xt.sg (xt.sp F) :=
 okp (xt.X m F) Go.Proofs.Tryz.func143 ⟨zM.ok m F,zB.ok m F,trivial⟩ trivial 0 0 zx zx
def zv.te:TEs:=[kL 1,(2,.c (.sl .bool)),(3,kI),(4,.c (.sl (.int .i64))),(5,kI),(6,kI),(7,.c (.sl .bool)),(7,.ow 7),(8,kI),kL 9,(16,kB),(22,.c (.sl zb)),(23,kI),(24,kI),(25,kB),(36,kB)]
def zv.tb:TEs:=[(1,.g zL),(9,.g zb)]
def zv.tp:List ue:=[⟨7,.env 7,.bool⟩]
def zv.h:SH:=shN zv.te zv.tb zv.tp [(0,1,1,0),(1,25,1,0),(2,1049,1,0),(3,6,0,0),(4,41,1,0),(5,169,1,1),(6,14504,0,1),(7,30888,0,1),(8,15272,2,1),(9,47528,0,1),(10,14760,0,1),(11,14504,0,1),(12,14504,0,1),(13,6,0,0)]
def zv.hl:SH:=shN zv.te zv.tb zv.tp [(7,14504,0,1)]
def zv.hj:Nat->Option Shape:=shO zv.te zv.tb zv.tp [(13,64,0,0)]
def zv.L7 (F:Nat) (R:Type) (K:KK R) (n:Nat) (x:((List Int)×Int×Unit×(List zb.T)×Int×Int×Unit)×(Unit)×((List Bool)×Unit)):Option R :=
 zv.l7 F (fun list last t22 t23 t24 t25 out=>K (.exit 0) (yU (zv.h 7) ((list,last,(),t22,t23,t24,t25,()),(),(out,())))) n x.1.1 x.1.2.1 x.1.2.2.2.1 x.1.2.2.2.2.1 x.1.2.2.2.2.2.1 x.2.2.1
def zv.J13 (F:Nat) (x:((List Bool)×Unit)×(Unit)×(Unit)) (R:Type) (K:KK R):Option R :=
 zv.j13 F (fun r2 r3=>K .ret (yU (zv.h 13) ((r2,r3,()),(),()))) x.1.1
def zv.X (m:Int) (F:Nat):FX TI (G m) Sg:={hn:={MU:=fun s=>lk false s [(20,true)],na:=1,fzJ:=fun r=>lk [] r [(13,[7])]},lv:=[⟨143,xt.sp F⟩],N:=49,H:=zv.h,HL:=zv.hl,HJ:=zv.hj,L:=mkL zv.hl [⟨7,fun x R K=>zv.L7 F R K F x⟩],J:=mkJ zv.hj [⟨13,zv.J13 F⟩]}
theorem zv.ok (m:Int) (F:Nat):OKP m 88 zv.sg (zv.sp F) :=
 okp (zv.X m F) Go.Proofs.Tryz.func88 ⟨xt.ok m F,trivial⟩ trivial 1 1 (yA (FX.loopk 7 F (zv.L7 F)) zx) (yA (FX.cutk 13) zx)
def xE.te:TEs:=[(0,kI),(2,.c .fn),(3,kI),(4,.c (.sl (.pair .fn (.int .i64))))]
def xE.h:SH:=shN xE.te [] [] [(0,1,0,0),(1,9,0,0),(2,6,0,0)]
def xE.X (m:Int) (F:Nat):FX TI (G m) Sg:={hn:={na:=1},N:=32,H:=xE.h}
theorem xE.ok (m:Int) (F:Nat):OKP m 89 xE.sg (xE.sp F) :=
 okp (xE.X m F) Go.Proofs.Tryz.func89 trivial trivial 0 0 zx zx
def zz.te:TEs:=[(1,kI),kL 2,(4,kI),(6,kI),(10,.b (.int .i64)),(11,kI),(12,kI),(13,kB),(22,kB)]
def zz.tb:TEs:=[(2,.g yt)]
def zz.h:SH:=shN zz.te zz.tb [] [(0,3,1,0),(1,115,1,0),(2,243,1,0),(3,123,1,0),(4,371,1,0),(5,4,0,0),(6,115,1,0),(7,4,0,0)]
def zz.hl:SH:=shN zz.te zz.tb [] [(2,115,1,0)]
def zz.L2 (F:Nat) (R:Type) (K:KK R) (n:Nat) (x:(Int×Unit×(List Int)×Int×Int×Unit)×(yt.T×Unit)×(Unit)):Option R :=
 zz.l2 F (fun r4=>K .ret (yU (zz.h 5) ((r4,()),(),()))) (fun from_ t10 t11 t12 t13 n=>K (.exit 0) (yU (zz.h 2) ((from_,(),t10,t11,t12,t13,()),(n,()),()))) n x.1.1 x.1.2.2.1 x.1.2.2.2.1 x.1.2.2.2.2.1 x.2.1.1
def zz.X (m:Int) (F:Nat):FX TI (G m) Sg:={hn:={na:=2},N:=29,H:=zz.h,HL:=zz.hl,L:=mkL zz.hl [⟨2,fun x R K=>zz.L2 F R K F x⟩]}
theorem zz.ok (m:Int) (F:Nat):OKP m 180 zz.sg (zz.sp F) :=
 okp (zz.X m F) Go.Proofs.Tryz.func180 trivial trivial 1 0 (yA (FX.loopk 2 F (zz.L2 F)) zx) zx
def yl.te:TEs:=[kL 1,(2,kI)]
def yl.tb:TEs:=[(1,.g yt)]
def yl.h:SH:=shN yl.te yl.tb [] [(0,1,1,0),(1,2,0,0)]
def yl.X (m:Int) (F:Nat):FX TI (G m) Sg:={hn:={na:=1},lv:=[⟨180,zz.sp F⟩],N:=5,H:=yl.h}
theorem yl.ok (m:Int) (F:Nat):OKP m 148 yl.sg (yl.sp F) :=
 okp (yl.X m F) Go.Proofs.Tryz.func148 ⟨zz.ok m F,trivial⟩ trivial 0 0 zx zx
def yz.te:TEs:=[kL 1,(2,kI)]
def yz.tb:TEs:=[(1,.g yt)]
def yz.h:SH:=shN yz.te yz.tb [] [(0,1,1,0),(1,2,0,0)]
def yz.X (m:Int) (F:Nat):FX TI (G m) Sg:={hn:={na:=1},N:=8,H:=yz.h}
theorem yz.ok (m:Int) (F:Nat):OKP m 147 yz.sg (yz.sp F) :=
 okp (yz.X m F) Go.Proofs.Tryz.func147 trivial trivial 0 0 zx zx
def yD.te:TEs:=[(0,kI),(2,kB)]
def yD.h:SH:=shN yD.te [] [] [(0,1,0,0),(1,2,0,0)]
def yD.X (m:Int) (F:Nat):FX TI (G m) Sg:={hn:={na:=1},N:=5,H:=yD.h}
theorem yD.ok (m:Int) (F:Nat):OKP m 181 yD.sg (yD.sp F) :=
 okp (yD.X m F) Go.Proofs.Tryz.func181 trivial trivial 0 0 zx zx
def yk.te:TEs:=[kL 1,(2,kI),(7,kB)]
def yk.tb:TEs:=[(1,.g yt)]
def yk.h:SH:=shN yk.te yk.tb [] [(0,1,1,0),(1,5,1,0),(2,2,0,0),(3,2,0,0)]
def yk.X (m:Int) (F:Nat):FX TI (G m) Sg:={hn:={na:=1},lv:=[⟨181,yD.sp F⟩],N:=12,H:=yk.h}
theorem yk.ok (m:Int) (F:Nat):OKP m 150 yk.sg (yk.sp F) :=
 okp (yk.X m F) Go.Proofs.Tryz.func150 ⟨yD.ok m F,trivial⟩ trivial 0 0 zx zx
def y4.te:TEs:=[(2,kI)]
def y4.h:SH:=shN y4.te [] [] [(1,1,0,0)]
def y4.X (m:Int) (F:Nat):FX TI (G m) Sg:={hn:={na:=1},N:=3,H:=y4.h}
theorem y4.ok (m:Int) (F:Nat):OKP m 145 y4.sg (y4.sp F) :=
 okp (y4.X m F) Go.Proofs.Tryz.func145 trivial trivial 0 0 zx zx
def yS.te:TEs:=[(2,kI)]
def yS.h:SH:=shN yS.te [] [] [(1,1,0,0)]
def yS.X (m:Int) (F:Nat):FX TI (G m) Sg:={hn:={na:=1},N:=3,H:=yS.h}
theorem yS.ok (m:Int) (F:Nat):OKP m 144 yS.sg (yS.sp F) :=
 okp (yS.X m F) Go.Proofs.Tryz.func144 trivial trivial 0 0 zx zx
def yP.te:TEs:=[kL 1,(2,kI),(7,kB)]
def yP.tb:TEs:=[(1,.g yt)]
def yP.h:SH:=shN yP.te yP.tb [] [(0,1,1,0),(1,4,0,0),(2,2,0,0),(3,2,0,0)]
def yP.X (m:Int) (F:Nat):FX TI (G m) Sg:={hn:={na:=1},N:=8,H:=yP.h}
theorem yP.ok (m:Int) (F:Nat):OKP m 152 yP.sg (yP.sp F) :=
 okp (yP.X m F) Go.Proofs.Tryz.func152 trivial trivial 0 0 zx zx
def yv.te:TEs:=[kL 1,(2,kI),(7,kB)]
def yv.tb:TEs:=[(1,.g yt)]
def yv.h:SH:=shN yv.te yv.tb [] [(0,1,1,0),(1,4,0,0),(2,2,0,0),(3,2,0,0)]
def yv.X (m:Int) (F:Nat):FX TI (G m) Sg:={hn:={na:=1},lv:=[⟨181,yD.sp F⟩],N:=8,H:=yv.h}
theorem yv.ok (m:Int) (F:Nat):OKP m 151 yv.sg (yv.sp F) :=
 okp (yv.X m F) Go.Proofs.Tryz.func151 ⟨yD.ok m F,trivial⟩ trivial 0 0 zx zx
def yr.te:TEs:=[kL 1,(2,kI),(3,kI),(4,kI),(13,kB),(17,kB),(21,kB)]
def yr.tb:TEs:=[(1,.g yt)]
def yr.h:SH:=shN yr.te yr.tb [] [(0,1,1,0),(1,12,0,0),(2,28,0,0),(3,2,0,0),(4,44,0,0),(5,2,0,0),(6,76,0,0),(7,64,0,0),(8,2,0,0),(9,2,0,0)]
def yr.X (m:Int) (F:Nat):FX TI (G m) Sg:={hn:={na:=1},lv:=[⟨181,yD.sp F⟩],N:=34,H:=yr.h}
theorem yr.ok (m:Int) (F:Nat):OKP m 149 yr.sg (yr.sp F) :=
 okp (yr.X m F) Go.Proofs.Tryz.func149 ⟨yD.ok m F,trivial⟩ trivial 0 0 zx zx
def yn.te:TEs:=[kL 1,(2,kI)]
def yn.tb:TEs:=[(1,.g yt)]
def yn.h:SH:=shN yn.te yn.tb [] [(0,1,1,0),(1,2,0,0)]
def yn.X (m:Int) (F:Nat):FX TI (G m) Sg:={hn:={na:=1},N:=8,H:=yn.h}
theorem yn.ok (m:Int) (F:Nat):OKP m 146 yn.sg (yn.sp F) :=
 okp (yn.X m F) Go.Proofs.Tryz.func146 trivial trivial 0 0 zx zx
def yE.te:TEs:=[kL 1,(2,kI),(7,kB)]
def yE.tb:TEs:=[(1,.g yt)]
def yE.h:SH:=shN yE.te yE.tb [] [(0,1,1,0),(1,5,1,0),(2,2,0,0),(3,2,0,0)]
def yE.X (m:Int) (F:Nat):FX TI (G m) Sg:={hn:={na:=1},lv:=[⟨181,yD.sp F⟩,⟨180,zz.sp F⟩],N:=10,H:=yE.h}
theorem yE.ok (m:Int) (F:Nat):OKP m 153 yE.sg (yE.sp F) :=
 okp (yE.X m F) Go.Proofs.Tryz.func153 ⟨yD.ok m F,zz.ok m F,trivial⟩ trivial 0 0 zx zx
def zo.te:TEs:=[kL 1,(2,.c (.sl (.int .i64))),(3,kI),(4,kI),(5,kI),(6,kI),(7,.c (.sl .bool)),(9,.c (.sl (.int .i64))),(9,.ow 9),(10,.c (.sl (.int .i64))),(10,.ow 10),(11,.ow 11),(12,kI),kL 13,(14,.c .fn),(15,kI),(16,kI),(17,kI),(24,kB),(33,.c (.sl zb)),(34,kI),(35,kI),(36,kB),(47,kB),(65,kB),(84,kB),(109,kB)]
def zo.tb:TEs:=[(1,.g zL),(13,.g zb)]
def zo.tp:List ue:=[⟨9,.env 9,(.int .i64)⟩,⟨10,.env 10,(.int .i64)⟩,⟨11,.env 11,.bool⟩]
def zo.h:SH:=shN zo.te zo.tb zo.tp [(0,1,1,0),(1,49,1,0),(2,262193,1,0),(3,14,0,0),(4,65,1,0),(5,1345,1,3),(6,3393,1,7),(7,3673408,0,7),(8,7867712,0,7),(9,3685696,2,7),(10,3734848,2,7),(11,12123456,2,7),(12,3734848,2,7),(13,3767616,2,7),(14,3882304,2,7),(15,20659520,2,7),(16,14,0,0),(17,37428544,0,7),(18,14,0,0),(19,3874112,0,7),(20,3743040,0,7),(21,3673408,0,7),(22,3673408,0,7),(23,67108992,0,0),(24,14,0,0),(25,14,0,0)]
def zo.hl:SH:=shN zo.te zo.tb zo.tp [(8,3673408,0,7)]
def zo.hj:Nat->Option Shape:=shO zo.te zo.tb zo.tp [(23,640,0,0)]
def zo.L8 (F:Nat) (R:Type) (K:KK R) (n:Nat) (x:((List Bool)×Unit×Unit×Unit×(List zb.T)×Int×Int×Unit)×(Unit)×((List Int)×(List Int)×(List Bool)×Unit)):Option R :=
 zo.l8 F (fun r2 r3 r4=>K .ret (yU (zo.h 16) ((r2,r3,r4,()),(),()))) (fun r2 r3 r4=>K .ret (yU (zo.h 18) ((r2,r3,r4,()),(),()))) (fun fixed t33 t34 t35 t36 types pile fix=>K (.exit 0) (yU (zo.h 8) ((fixed,(),(),(),t33,t34,t35,t36,()),(),(types,pile,fix,())))) n x.1.1 x.1.2.2.2.2.1 x.1.2.2.2.2.2.1 x.1.2.2.2.2.2.2.1 x.2.2.1 x.2.2.2.1 x.2.2.2.2.1
def zo.J23 (F:Nat) (x:((List Int)×(List Int)×Unit)×(Unit)×(Unit)) (R:Type) (K:KK R):Option R :=
 zo.j23 F (fun r2 r3 r4=>K .ret (yU (zo.h 24) ((r2,r3,r4,()),(),()))) (fun r2 r3 r4=>K .ret (yU (zo.h 25) ((r2,r3,r4,()),(),()))) x.1.1 x.1.2.1
def zo.X (m:Int) (F:Nat):FX TI (G m) Sg:={hn:={MU:=fun s=>lk false s [(89,true),(95,true),(104,true)],DS:=fun d=>lk none d [(63,some zo.ds63)],na:=1,fzJ:=fun r=>lk [] r [(23,[9,10])]},lv:=[⟨35,zM.sp F⟩,⟨88,zv.sp F⟩,⟨89,xE.sp F⟩],ld:=[⟨63,zo.d63 F⟩],N:=114,H:=zo.h,HL:=zo.hl,HJ:=zo.hj,L:=mkL zo.hl [⟨8,fun x R K=>zo.L8 F R K F x⟩],J:=mkJ zo.hj [⟨23,zo.J23 F⟩]}
theorem zo.ok (m:Int) (F:Nat):OKP m 48 zo.sg (zo.sp F) :=
 okp (zo.X m F) Go.Proofs.Tryz.func48 ⟨zM.ok m F,zv.ok m F,xE.ok m F,trivial⟩ ⟨Zo ⟨⟨148,by kernel_rfl,yl.ok m F⟩,⟨147,by kernel_rfl,yz.ok m F⟩,⟨150,by kernel_rfl,yk.ok m F⟩,⟨145,by kernel_rfl,y4.ok m F⟩,⟨144,by kernel_rfl,yS.ok m F⟩,⟨152,by kernel_rfl,yP.ok m F⟩,⟨151,by kernel_rfl,yv.ok m F⟩,⟨149,by kernel_rfl,yr.ok m F⟩,⟨146,by kernel_rfl,yn.ok m F⟩,⟨153,by kernel_rfl,yE.ok m F⟩,trivial⟩,trivial⟩ 1 1 (yA (FX.loopk 8 F (zo.L8 F)) zx) (yA (FX.cutk 23) zx)
def zE.te:TEs:=[(0,.b (.int .i64)),(2,kI),(3,kI),(4,kI),(7,kB),(15,kB)]
def zE.h:SH:=shN zE.te [] [] [(0,1,0,0),(1,17,0,0),(3,5,0,0),(4,13,0,0),(5,45,0,0),(6,13,0,0),(7,13,0,0),(8,2,0,0)]
def zE.hl:SH:=shN zE.te [] [] [(5,13,0,0)]
def zE.L5 (F:Nat) (R:Type) (K:KK R) (n:Nat) (x:((List Int)×Int×Int×Unit)×(Unit)×(Unit)):Option R :=
 zE.l5 F (fun x m i t15=>K (.exit 0) (yU (zE.h 5) ((x,m,i,t15,()),(),()))) n x.1.1 x.1.2.1 x.1.2.2.1
def zE.X (m:Int) (F:Nat):FX TI (G m) Sg:={hn:={na:=1},N:=25,H:=zE.h,HL:=zE.hl,L:=mkL zE.hl [⟨5,fun x R K=>zE.L5 F R K F x⟩]}
theorem zE.ok (m:Int) (F:Nat):OKP m 37 zE.sg (zE.sp F) :=
 okp (zE.X m F) Go.Proofs.Tryz.func37 trivial trivial 1 0 (yA (FX.loopk 5 F (zE.L5 F)) zx) zx
def zF.te:TEs:=[kL 1,(2,kI),(3,kI),(5,kI),(6,.c (.sl (.int .i64))),(6,.ow 6),kL 8,(9,kI),(10,kI),(17,kB),(20,.c (.sl zb)),(21,kI),(22,kI),(23,kB),(29,kB),(45,kB)]
def zF.tb:TEs:=[(1,.g zL),(8,.g zb)]
def zF.tp:List ue:=[⟨6,.env 6,(.int .i64)⟩]
def zF.h:SH:=shN zF.te zF.tb zF.tp [(0,1,1,0),(1,9,1,0),(2,521,1,0),(3,6,0,0),(4,33,1,1),(5,7200,0,1),(6,15392,0,1),(7,7264,2,1),(8,7392,2,1),(9,7648,2,1),(10,24032,2,1),(11,7648,2,1),(12,7392,2,1),(13,40096,0,1),(14,7328,0,1),(15,7200,0,1),(16,7200,0,1),(17,6,0,0)]
def zF.hl:SH:=shN zF.te zF.tb zF.tp [(6,7200,0,1)]
def zF.hj:Nat->Option Shape:=shO zF.te zF.tb zF.tp [(17,16,0,0)]
def zF.L6 (F:Nat) (R:Type) (K:KK R) (n:Nat) (x:(Unit×(List zb.T)×Int×Int×Unit)×(Unit)×((List Int)×Unit)):Option R :=
 zF.l6 F (fun t20 t21 t22 t23 pile=>K (.exit 0) (yU (zF.h 6) (((),t20,t21,t22,t23,()),(),(pile,())))) n x.1.2.1 x.1.2.2.1 x.1.2.2.2.1 x.2.2.1
def zF.J17 (F:Nat) (x:((List Int)×Unit)×(Unit)×(Unit)) (R:Type) (K:KK R):Option R :=
 zF.j17 F (fun r2 r3=>K .ret (yU (zF.h 17) ((r2,r3,()),(),()))) x.1.1
def zF.X (m:Int) (F:Nat):FX TI (G m) Sg:={hn:={MU:=fun s=>lk false s [(51,true)],na:=1,fzJ:=fun r=>lk [] r [(17,[6])]},lv:=[⟨35,zM.sp F⟩,⟨36,yL.sp F⟩,⟨37,zE.sp F⟩],N:=56,H:=zF.h,HL:=zF.hl,HJ:=zF.hj,L:=mkL zF.hl [⟨6,fun x R K=>zF.L6 F R K F x⟩],J:=mkJ zF.hj [⟨17,zF.J17 F⟩]}
theorem zF.ok (m:Int) (F:Nat):OKP m 12 zF.sg (zF.sp F) :=
 okp (zF.X m F) Go.Proofs.Tryz.func12 ⟨zM.ok m F,yL.ok m F,zE.ok m F,trivial⟩ trivial 1 1 (yA (FX.loopk 6 F (zF.L6 F)) zx) (yA (FX.cutk 17) zx)
def zR.te:TEs:=[(0,kI),kL 2]
def zR.tb:TEs:=[(2,.g zd)]
def zR.h:SH:=shN zR.te zR.tb [] [(0,3,1,0),(1,2,1,0)]
def zR.X (m:Int) (F:Nat):FX TI (G m) Sg:={hn:={na:=1},N:=8,H:=zR.h}
theorem zR.ok (m:Int) (F:Nat):OKP m 38 zR.sg (zR.sp F) :=
 okp (zR.X m F) Go.Proofs.Tryz.func38 trivial trivial 0 0 zx zx
theorem z6.ok (m:Int) (F:Nat):OK Go.Proofs.Tryz.prog (G m) 86 z6.sg (z6.sp F):=z6.ok' F Go.Proofs.Tryz.func86 (by kernel_rfl) (by kernel_rfl) (by kernel_rfl)
def xD.te:TEs:=[kL 1,(2,.c (.int .u64)),(3,.c (.int .u64)),(4,.c (.int .u64)),(5,.c (.int .u64)),(6,.c (.int .u64)),(10,kB)]
def xD.tb:TEs:=[(1,.g zd)]
def xD.h:SH:=shN xD.te xD.tb [] [(0,1,1,0),(1,65,1,0),(2,6,0,0),(3,25,1,0),(4,40,0,0),(5,6,0,0)]
def xD.X (m:Int) (F:Nat):FX TI (G m) Sg:={hn:={na:=1},lv:=[⟨86,z6.sp F⟩],N:=32,H:=xD.h}
theorem xD.ok (m:Int) (F:Nat):OKP m 42 xD.sg (xD.sp F) :=
 okp (xD.X m F) Go.Proofs.Tryz.func42 ⟨z6.ok m F,trivial⟩ trivial 0 0 zx zx
def yF.te:TEs:=[(0,.c (.int .u64)),(1,.c (.int .u64)),(4,.c (.int .u64)),(5,.c (.int .u64)),(6,.c (.int .u64)),(7,.c (.int .u64)),(8,.c (.int .u64)),(9,.c (.int .u64)),(10,.c (.int .u64)),(11,.c (.int .u64)),(12,.c (.int .u64)),(13,.c (.int .u64))]
def yF.h:SH:=shN yF.te [] [] [(0,3,0,0),(1,19,0,0),(2,51,0,0),(3,115,0,0),(4,243,0,0),(5,499,0,0),(6,691,0,0),(7,1715,0,0),(8,3251,0,0),(9,3235,0,0),(10,7,0,0),(11,12,0,0)]
def yF.X (m:Int) (F:Nat):FX TI (G m) Sg:={hn:={na:=2},N:=51,H:=yF.h}
theorem yF.ok (m:Int) (F:Nat):OKP m 43 yF.sg (yF.sp F) :=
 okp (yF.X m F) Go.Proofs.Tryz.func43 trivial trivial 0 0 zx zx
def xO.te:TEs:=[(0,kB),(1,.c (.int .u64)),(2,.c (.int .u64)),(6,.c (.int .u64)),(7,kB)]
def xO.h:SH:=shN xO.te [] [] [(0,7,0,0),(1,22,0,0),(2,8,0,0),(3,8,0,0)]
def xO.X (m:Int) (F:Nat):FX TI (G m) Sg:={hn:={na:=3},N:=10,H:=xO.h}
theorem xO.ok (m:Int) (F:Nat):OKP m 44 xO.sg (xO.sp F) :=
 okp (xO.X m F) Go.Proofs.Tryz.func44 trivial trivial 0 0 zx zx
theorem yh.ok (m:Int) (F:Nat):OK Go.Proofs.Tryz.prog (G m) 45 yh.sg (yh.sp F):=yh.ok' F Go.Proofs.Tryz.func45 (by kernel_rfl) (by kernel_rfl) (by kernel_rfl)
def xz.te:TEs:=[kL 2,kL 3,kL 4,(5,kI),(6,.c (.int .u64)),(7,.c (.int .u64)),(8,.c (.int .u64)),kL 10,(49,kB)]
def xz.tb:TEs:=[(2,.g zd),(3,.g zd),(4,.g zd),(10,.g zd)]
def xz.h:SH:=shN xz.te xz.tb [] [(0,7,7,0),(1,55,7,0),(2,87,7,0),(3,135,15,0),(4,388,12,0),(5,12,4,0),(6,12,4,0)]
def xz.X (m:Int) (F:Nat):FX TI (G m) Sg:={hn:={na:=2},lv:=[⟨86,z6.sp F⟩],N:=52,H:=xz.h}
theorem xz.ok (m:Int) (F:Nat):OKP m 81 xz.sg (xz.sp F) :=
 okp (xz.X m F) Go.Proofs.Tryz.func81 ⟨z6.ok m F,trivial⟩ trivial 0 0 zx zx
def xT.te:TEs:=[kL 1,kL 2,(3,kI)]
def xT.tb:TEs:=[(1,.g zd),(2,.g zd)]
def xT.h:SH:=shN xT.te xT.tb [] [(0,3,3,0),(1,6,2,0)]
def xT.X (m:Int) (F:Nat):FX TI (G m) Sg:={hn:={na:=1},lv:=[⟨81,xz.sp F⟩],N:=9,H:=xT.h}
theorem xT.ok (m:Int) (F:Nat):OKP m 87 xT.sg (xT.sp F) :=
 okp (xT.X m F) Go.Proofs.Tryz.func87 ⟨xz.ok m F,trivial⟩ trivial 0 0 zx zx
def xG.te:TEs:=[(0,kB),(1,.c (.int .u64)),(2,.c (.int .u64)),kL 6,(7,kI),kL 8,(11,kB),(16,kB),(30,kB)]
def xG.tb:TEs:=[(6,.g zd),(8,.g zd)]
def xG.h:SH:=shN xG.te xG.tb [] [(0,15,1,0),(1,79,1,0),(2,41,3,0),(3,168,3,0),(4,24,1,0),(5,24,1,0),(6,264,1,0),(7,24,1,0),(8,24,1,0)]
def xG.X (m:Int) (F:Nat):FX TI (G m) Sg:={hn:={na:=3},lv:=[⟨87,xT.sp F⟩],N:=33,H:=xG.h}
theorem xG.ok (m:Int) (F:Nat):OKP m 46 xG.sg (xG.sp F) :=
 okp (xG.X m F) Go.Proofs.Tryz.func46 ⟨xT.ok m F,trivial⟩ trivial 0 0 zx zx
def yf.te:TEs:=[kL 2,kL 3,kL 4,(5,kI),(6,.c (.int .u64)),(7,.c (.int .u64)),(8,.c (.int .u64)),(9,.c (.int .u64)),(10,.c (.int .u64)),(11,.c (.int .u64)),(12,.c (.int .u64)),(13,.c (.int .u64)),(14,.c (.int .u64)),(30,kB),(61,kB)]
def yf.tb:TEs:=[(2,.g zd),(3,.g zd),(4,.g zd)]
def yf.h:SH:=shN yf.te yf.tb [] [(0,7,7,0),(1,55,7,0),(2,247,7,0),(3,8439,7,0),(4,12,4,0),(5,1015,7,0),(6,3847,7,0),(7,5895,7,0),(8,17159,7,0),(9,12,4,0),(10,12,4,0)]
def yf.hj:Nat->Option Shape:=shO yf.te yf.tb [] [(5,247,7,0)]
def yf.J5 (F:Nat) (x:(Unit×Unit×Unit×Int×Int×Int×Int×Unit)×(zd.T×zd.T×zd.T×Unit)×(Unit)) (R:Type) (K:KK R):Option R :=
 yf.j5 F (fun r5 r4=>K .ret (yU (yf.h 9) (((),r5,()),(r4,()),()))) (fun r5 r4=>K .ret (yU (yf.h 10) (((),r5,()),(r4,()),()))) x.1.2.2.2.1 x.1.2.2.2.2.1 x.1.2.2.2.2.2.1 x.1.2.2.2.2.2.2.1 x.2.1.1 x.2.1.2.1 x.2.1.2.2.1
def yf.X (m:Int) (F:Nat):FX TI (G m) Sg:={hn:={na:=2},lv:=[⟨42,xD.sp F⟩,⟨43,yF.sp F⟩,⟨44,xO.sp F⟩,⟨45,yh.sp F⟩,⟨46,xG.sp F⟩],N:=75,H:=yf.h,HJ:=yf.hj,J:=mkJ yf.hj [⟨5,yf.J5 F⟩]}
theorem yf.ok (m:Int) (F:Nat):OKP m 16 yf.sg (yf.sp F) :=
 okp (yf.X m F) Go.Proofs.Tryz.func16 ⟨xD.ok m F,yF.ok m F,xO.ok m F,yh.ok m F,xG.ok m F,trivial⟩ trivial 0 1 zx (yA (FX.cutk 5) zx)
def zQ.te:TEs:=[(0,kI),kL 2,(3,kI),kL 4,(6,kB),(9,kB),(12,kI),(13,kI),(14,kB)]
def zQ.tb:TEs:=[(2,.g zd),(4,.g zd)]
def zQ.h:SH:=shN zQ.te zQ.tb [] [(0,3,1,0),(1,19,1,0),(2,6,1,0),(3,35,1,0),(4,6,1,0),(5,11,3,0),(6,202,3,0),(7,458,3,0),(8,202,3,0),(9,202,3,0),(10,6,1,0)]
def zQ.hl:SH:=shN zQ.te zQ.tb [] [(7,202,3,0)]
def zQ.L7 (F:Nat) (R:Type) (K:KK R) (n:Nat) (x:(Unit×Unit×Int×Int×Unit)×(zd.T×zd.T×Unit)×(Unit)):Option R :=
 zQ.l7 F (fun t12 t13 t14 r2 p=>K (.exit 0) (yU (zQ.h 7) (((),(),t12,t13,t14,()),(r2,p,()),()))) n x.1.2.2.1 x.1.2.2.2.1 x.2.1.1 x.2.1.2.1
def zQ.X (m:Int) (F:Nat):FX TI (G m) Sg:={hn:={na:=1},lv:=[⟨38,zR.sp F⟩,⟨16,yf.sp F⟩],N:=23,H:=zQ.h,HL:=zQ.hl,L:=mkL zQ.hl [⟨7,fun x R K=>zQ.L7 F R K F x⟩]}
theorem zQ.ok (m:Int) (F:Nat):OKP m 13 zQ.sg (zQ.sp F) :=
 okp (zQ.X m F) Go.Proofs.Tryz.func13 ⟨zR.ok m F,yf.ok m F,trivial⟩ trivial 1 0 (yA (FX.loopk 7 F (zQ.L7 F)) zx) zx
def zV.te:TEs:=[kL 1,(2,kI),(4,kI),(5,kB),(10,kB),(14,kB),(19,kB)]
def zV.tb:TEs:=[(1,.g zb)]
def zV.h:SH:=shN zV.te zV.tb [] [(0,1,1,0),(1,5,1,0),(2,13,1,0),(3,13,1,0),(4,13,1,0),(5,13,1,0),(6,2,0,0),(7,21,1,0),(8,21,1,0),(9,21,1,0),(10,2,0,0),(11,37,1,0),(12,37,1,0),(13,2,0,0),(14,64,0,0),(15,2,0,0),(16,2,0,0)]
def zV.hj:Nat->Option Shape:=shO zV.te zV.tb [] [(6,13,1,0),(10,21,1,0)]
def zV.J10 (F:Nat) (x:(Unit×Int×Bool×Unit)×(zb.T×Unit)×(Unit)) (R:Type) (K:KK R):Option R :=
 zV.j10 F (fun r2=>K .ret (yU (zV.h 10) ((r2,()),(),()))) (fun r2=>K .ret (yU (zV.h 13) ((r2,()),(),()))) (fun r2=>K .ret (yU (zV.h 15) ((r2,()),(),()))) (fun t19=>K .normal (yU (zV.h 14) ((t19,()),(),()))) x.1.2.1 x.1.2.2.1 x.2.1.1
def zV.J6 (F:Nat) (x:(Unit×Int×Bool×Unit)×(zb.T×Unit)×(Unit)) (R:Type) (K:KK R):Option R :=
 zV.j6 F (fun r2=>K .ret (yU (zV.h 6) ((r2,()),(),()))) (fun r2=>K .ret (yU (zV.h 10) ((r2,()),(),()))) (fun r2=>K .ret (yU (zV.h 13) ((r2,()),(),()))) (fun r2=>K .ret (yU (zV.h 15) ((r2,()),(),()))) (fun t19=>K .normal (yU (zV.h 14) ((t19,()),(),()))) x.1.2.1 x.1.2.2.1 x.2.1.1
def zV.X (m:Int) (F:Nat):FX TI (G m) Sg:={hn:={na:=1},N:=21,H:=zV.h,HJ:=zV.hj,J:=mkJ zV.hj [⟨10,zV.J10 F⟩,⟨6,zV.J6 F⟩]}
theorem zV.ok (m:Int) (F:Nat):OKP m 74 zV.sg (zV.sp F) :=
 okp (zV.X m F) Go.Proofs.Tryz.func74 trivial trivial 0 2 zx (yA (FX.cutk 10) (yA (FX.cutk 6) zx))
def yd.te:TEs:=[kL 0,(2,kI),kL 4,kL 6]
def yd.tb:TEs:=[(0,.g zU),(4,.g zd),(6,.g zd)]
def yd.h:SH:=shN yd.te yd.tb [] [(0,15,7,0),(1,12,7,0),(2,8,5,0)]
def yd.X (m:Int) (F:Nat):FX TI (G m) Sg:={hn:={na:=3},N:=19,H:=yd.h}
theorem yd.ok (m:Int) (F:Nat):OKP m 125 yd.sg (yd.sp F) :=
 okp (yd.X m F) Go.Proofs.Tryz.func125 trivial trivial 0 0 zx zx
def ya.te:TEs:=[kL 0,kL 4,kL 5,kL 6]
def ya.tb:TEs:=[(0,.g zU),(4,.g zd),(5,.g zd),(6,.g zd)]
def ya.h:SH:=shN ya.te ya.tb [] [(0,15,15,0),(1,8,9,0)]
def ya.X (m:Int) (F:Nat):FX TI (G m) Sg:={hn:={na:=3},lv:=[⟨16,yf.sp F⟩,⟨125,yd.sp F⟩],N:=14,H:=ya.h}
theorem ya.ok (m:Int) (F:Nat):OKP m 124 ya.sg (ya.sp F) :=
 okp (ya.X m F) Go.Proofs.Tryz.func124 ⟨yf.ok m F,yd.ok m F,trivial⟩ trivial 0 0 zx zx
def zK.te:TEs:=[(0,.c (.int .u64)),(2,kI),(4,kB),(8,kB),(14,kB)]
def zK.h:SH:=shN zK.te [] [] [(0,3,0,0),(1,7,0,0),(2,1,0,0),(3,3,0,0),(4,11,0,0),(5,3,0,0),(6,3,0,0),(7,19,0,0),(8,3,0,0),(9,3,0,0),(10,2,0,0)]
def zK.hj:Nat->Option Shape:=shO zK.te [] [] [(4,3,0,0),(7,3,0,0)]
def zK.J7 (F:Nat) (x:(Int×Int×Unit)×(Unit)×(Unit)) (R:Type) (K:KK R):Option R :=
 zK.j7 F (fun n=>K .ret (yU (zK.h 10) ((n,()),(),()))) x.1.1 x.1.2.1
def zK.J4 (F:Nat) (x:(Int×Int×Unit)×(Unit)×(Unit)) (R:Type) (K:KK R):Option R :=
 zK.j4 F (fun n=>K .ret (yU (zK.h 10) ((n,()),(),()))) x.1.1 x.1.2.1
def zK.X (m:Int) (F:Nat):FX TI (G m) Sg:={hn:={na:=1},N:=25,H:=zK.h,HJ:=zK.hj,J:=mkJ zK.hj [⟨7,zK.J7 F⟩,⟨4,zK.J4 F⟩]}
theorem zK.ok (m:Int) (F:Nat):OKP m 192 zK.sg (zK.sp F) :=
 okp (zK.X m F) Go.Proofs.Tryz.func192 trivial trivial 0 2 zx (yA (FX.cutk 7) (yA (FX.cutk 4) zx))
def zW.te:TEs:=[(0,.c (.int .u64)),(2,kI)]
def zW.h:SH:=shN zW.te [] [] [(0,1,0,0),(1,2,0,0)]
def zW.X (m:Int) (F:Nat):FX TI (G m) Sg:={hn:={na:=1},lv:=[⟨192,zK.sp F⟩],N:=6,H:=zW.h}
theorem zW.ok (m:Int) (F:Nat):OKP m 189 zW.sg (zW.sp F) :=
 okp (zW.X m F) Go.Proofs.Tryz.func189 ⟨zK.ok m F,trivial⟩ trivial 0 0 zx zx
def zl.te:TEs:=[(0,.c (.int .u64)),(1,.c (.int .u64)),(2,.c (.int .u64)),(6,.c (.int .u64)),(7,.c (.int .u64)),(8,.c (.int .u64)),(9,.c (.int .u64)),(10,.c (.int .u64)),(11,.c (.int .u64)),(12,.c (.int .u64)),(13,.c (.int .u64)),(14,.c (.int .u64)),(15,.c (.int .u64)),(16,.c (.int .u64)),(17,.c (.int .u64)),(18,.c (.int .u64)),(20,kB),(24,kB),(27,kB),(78,kB),(85,kB),(113,kB),(120,kB)]
def zl.h:SH:=shN zl.te [] [] [(0,7,0,0),(1,65543,0,0),(3,131079,0,0),(5,262151,0,0),(6,24,0,0),(7,39,0,0),(8,39,0,0),(9,103,0,0),(10,231,0,0),(11,486,0,0),(12,996,0,0),(13,2020,0,0),(14,3556,0,0),(15,7652,0,0),(16,15844,0,0),(17,540132,0,0),(18,15844,0,0),(19,15844,0,0),(20,1064420,0,0),(21,22756,0,0),(22,55524,0,0),(23,63716,0,0),(24,2160868,0,0),(25,63716,0,0),(26,63716,0,0),(27,4258020,0,0),(28,24,0,0)]
def zl.hl:SH:=shN zl.te [] [] [(17,15844,0,0),(24,63716,0,0)]
def zl.hj:Nat->Option Shape:=shO zl.te [] [] [(21,7652,0,0),(28,55332,0,0)]
def zl.L17 (F:Nat) (R:Type) (K:KK R) (n:Nat) (x:(Int×Int×Int×Int×Int×Int×Int×Int×Int×Unit)×(Unit)×(Unit)):Option R :=
 zl.l17 F (fun y s yn1 yn0 un32 un1 un0 q1 rhat t85=>K (.exit 0) (yU (zl.h 20) ((y,s,yn1,yn0,un32,un1,un0,q1,rhat,t85,()),(),()))) (fun y s yn1 yn0 un32 un1 un0 q1 rhat t78=>K (.exit 0) (yU (zl.h 17) ((y,s,yn1,yn0,un32,un1,un0,q1,rhat,t78,()),(),()))) n x.1.1 x.1.2.1 x.1.2.2.1 x.1.2.2.2.1 x.1.2.2.2.2.1 x.1.2.2.2.2.2.1 x.1.2.2.2.2.2.2.1 x.1.2.2.2.2.2.2.2.1 x.1.2.2.2.2.2.2.2.2.1
def zl.L24 (F:Nat) (R:Type) (K:KK R) (n:Nat) (x:(Int×Int×Int×Int×Int×Int×Int×Int×Int×Unit)×(Unit)×(Unit)):Option R :=
 zl.l24 F (fun y s yn1 yn0 un0 q1 rhat un21 q0 t120=>K (.exit 2) (yU (zl.h 27) ((y,s,yn1,yn0,un0,q1,rhat,un21,q0,t120,()),(),()))) (fun y s yn1 yn0 un0 q1 rhat un21 q0 t113=>K (.exit 2) (yU (zl.h 24) ((y,s,yn1,yn0,un0,q1,rhat,un21,q0,t113,()),(),()))) n x.1.1 x.1.2.1 x.1.2.2.1 x.1.2.2.2.1 x.1.2.2.2.2.1 x.1.2.2.2.2.2.1 x.1.2.2.2.2.2.2.1 x.1.2.2.2.2.2.2.2.1 x.1.2.2.2.2.2.2.2.2.1
def zl.J28 (F:Nat) (x:(Int×Int×Int×Int×Int×Int×Unit)×(Unit)×(Unit)) (R:Type) (K:KK R):Option R :=
 zl.j28 F (fun quo rem=>K .ret (yU (zl.h 28) ((quo,rem,()),(),()))) x.1.1 x.1.2.1 x.1.2.2.1 x.1.2.2.2.1 x.1.2.2.2.2.1 x.1.2.2.2.2.2.1
def zl.J21 (F:Nat) (x:(Int×Int×Int×Int×Int×Int×Int×Int×Unit)×(Unit)×(Unit)) (R:Type) (K:KK R):Option R :=
 zl.j21 F (fun quo rem=>K .ret (yU (zl.h 28) ((quo,rem,()),(),()))) x.1.1 x.1.2.1 x.1.2.2.1 x.1.2.2.2.1 x.1.2.2.2.2.1 x.1.2.2.2.2.2.1 x.1.2.2.2.2.2.2.1 x.1.2.2.2.2.2.2.2.1
def zl.X (m:Int) (F:Nat):FX TI (G m) Sg:={hn:={na:=3},lv:=[⟨189,zW.sp F⟩],N:=135,H:=zl.h,HL:=zl.hl,HJ:=zl.hj,L:=mkL zl.hl [⟨17,fun x R K=>zl.L17 F R K F x⟩,⟨24,fun x R K=>zl.L24 F R K F x⟩],J:=mkJ zl.hj [⟨28,zl.J28 F⟩,⟨21,zl.J21 F⟩]}
theorem zl.ok (m:Int) (F:Nat):OKP m 177 zl.sg (zl.sp F) :=
 okp (zl.X m F) Go.Proofs.Tryz.func177 ⟨zW.ok m F,trivial⟩ trivial 2 2 (yA (FX.loopk 24 F (zl.L24 F)) (yA (FX.loopk 17 F (zl.L17 F)) zx)) (yA (FX.cutk 28) (yA (FX.cutk 21) zx))
def zS.te:TEs:=[(0,.c (.int .u64)),(1,.c (.int .u64)),(2,.c (.int .u64)),(3,.c (.int .u64)),(8,.c (.int .u64)),(9,.c (.int .u64)),(10,.c (.int .u64)),(11,.c (.int .u64)),(12,kI),(13,.c (.int .u64)),(15,kB),(34,kB),(61,kB)]
def zS.h:SH:=shN zS.te [] [] [(0,47,0,0),(1,1071,0,0),(2,154,0,0),(3,176,0,0),(4,240,0,0),(5,238,0,0),(6,494,0,0),(7,2542,0,0),(8,494,0,0),(9,494,0,0),(10,494,0,0),(11,4590,0,0),(12,494,0,0),(13,1006,0,0),(14,494,0,0),(15,494,0,0),(16,240,0,0)]
def zS.hl:SH:=shN zS.te [] [] [(7,494,0,0)]
def zS.L7 (F:Nat) (R:Type) (K:KK R) (n:Nat) (x:(Int×Int×Int×Int×Int×Int×Int×Unit)×(Unit)×(Unit)):Option R :=
 zS.l7 F (fun al bh bl ql rh rl i t34=>K (.exit 0) (yU (zS.h 7) ((al,bh,bl,ql,rh,rl,i,t34,()),(),()))) n x.1.1 x.1.2.1 x.1.2.2.1 x.1.2.2.2.1 x.1.2.2.2.2.1 x.1.2.2.2.2.2.1 x.1.2.2.2.2.2.2.1
def zS.X (m:Int) (F:Nat):FX TI (G m) Sg:={hn:={na:=4},lv:=[⟨177,zl.sp F⟩,⟨86,z6.sp F⟩],N:=82,H:=zS.h,HL:=zS.hl,L:=mkL zS.hl [⟨7,fun x R K=>zS.L7 F R K F x⟩]}
theorem zS.ok (m:Int) (F:Nat):OKP m 134 zS.sg (zS.sp F) :=
 okp (zS.X m F) Go.Proofs.Tryz.func134 ⟨zl.ok m F,z6.ok m F,trivial⟩ trivial 1 0 (yA (FX.loopk 7 F (zS.L7 F)) zx) zx
def yO.te:TEs:=[kL 2,kL 3,kL 4,kL 5,(6,kI),(7,.c (.int .u64)),(8,.c (.int .u64)),(9,.c (.int .u64)),(10,.c (.int .u64)),(11,.c (.int .u64)),(12,.c (.int .u64)),(13,.c (.int .u64)),(14,.c (.int .u64)),kL 15,(16,kI),kL 17,(20,kB),(57,kB)]
def yO.tb:TEs:=[(2,.g zd),(3,.g zd),(4,.g zd),(5,.g zd),(15,.g zd),(17,.g zd)]
def yO.h:SH:=shN yO.te yO.tb [] [(0,15,15,0),(1,65551,15,0),(2,28,12,0),(3,111,15,0),(4,495,15,0),(5,7695,15,0),(6,30733,29,0),(7,161805,29,0),(8,28,12,0),(9,57356,60,0),(10,28,12,0)]
def yO.X (m:Int) (F:Nat):FX TI (G m) Sg:={hn:={na:=2},lv:=[⟨42,xD.sp F⟩,⟨134,zS.sp F⟩,⟨46,xG.sp F⟩],N:=73,H:=yO.h}
theorem yO.ok (m:Int) (F:Nat):OKP m 79 yO.sg (yO.sp F) :=
 okp (yO.X m F) Go.Proofs.Tryz.func79 ⟨xD.ok m F,zS.ok m F,xG.ok m F,trivial⟩ trivial 0 0 zx zx
def xw.te:TEs:=[(3,kI),kL 4,kL 5,kL 6,(8,kB),(9,kB),(10,.c (.int .u64)),(11,.c (.int .u64)),(12,.c (.int .u64)),(13,.c (.int .u64)),(14,.c (.int .u64)),(15,.c (.int .u64)),(16,.c (.int .u64)),(25,kI),(26,kB),(29,kB),(33,kB),(58,kB),(72,kB)]
def xw.tb:TEs:=[(4,.g zd),(5,.g zd),(6,.g zd)]
def xw.h:SH:=shN xw.te xw.tb [] [(0,15,7,0),(1,47,7,0),(2,8239,7,0),(3,24623,7,0),(4,16,0,0),(5,41007,7,0),(6,16,0,0),(7,65551,7,0),(8,16,0,0),(9,203,5,0),(10,963,1,0),(11,3523,1,0),(12,5315,1,0),(13,136387,1,0),(14,16,0,0),(15,262147,1,0),(16,16,0,0),(17,16,0,0)]
def xw.X (m:Int) (F:Nat):FX TI (G m) Sg:={hn:={na:=4},lv:=[⟨42,xD.sp F⟩,⟨86,z6.sp F⟩],N:=89,H:=xw.h}
theorem xw.ok (m:Int) (F:Nat):OKP m 80 xw.sg (xw.sp F) :=
 okp (xw.X m F) Go.Proofs.Tryz.func80 ⟨xD.ok m F,z6.ok m F,trivial⟩ trivial 0 0 zx zx
def xA.te:TEs:=[kL 2,kL 3,kL 4,(5,kI),(6,.c (.int .u64)),(7,.c (.int .u64)),(8,.c (.int .u64)),kL 10,(49,kB)]
def xA.tb:TEs:=[(2,.g zd),(3,.g zd),(4,.g zd),(10,.g zd)]
def xA.h:SH:=shN xA.te xA.tb [] [(0,7,7,0),(1,55,7,0),(2,87,7,0),(3,135,15,0),(4,388,12,0),(5,12,4,0),(6,12,4,0)]
def xA.X (m:Int) (F:Nat):FX TI (G m) Sg:={hn:={na:=2},lv:=[⟨45,yh.sp F⟩],N:=52,H:=xA.h}
theorem xA.ok (m:Int) (F:Nat):OKP m 82 xA.sg (xA.sp F) :=
 okp (xA.X m F) Go.Proofs.Tryz.func82 ⟨yh.ok m F,trivial⟩ trivial 0 0 zx zx
def y9.te:TEs:=[(2,kI),kL 3,kL 4,kL 6,(7,kI),kL 8,kL 9,(10,kI),(16,kB),(39,kB),(48,kB)]
def y9.tb:TEs:=[(3,.g zd),(4,.g zd),(6,.g zd),(8,.g zd),(9,.g zd)]
def y9.h:SH:=shN y9.te y9.tb [] [(0,15,7,0),(1,271,7,0),(2,24,4,0),(3,239,31,0),(4,686,15,0),(5,24,4,0),(6,1064,12,0),(7,24,4,0),(8,24,4,0)]
def y9.X (m:Int) (F:Nat):FX TI (G m) Sg:={hn:={na:=3},lv:=[⟨79,yO.sp F⟩,⟨80,xw.sp F⟩,⟨38,zR.sp F⟩,⟨81,xz.sp F⟩,⟨82,xA.sp F⟩],N:=59,H:=y9.h}
theorem y9.ok (m:Int) (F:Nat):OKP m 39 y9.sg (y9.sp F) :=
 okp (y9.X m F) Go.Proofs.Tryz.func39 ⟨yO.ok m F,xw.ok m F,zR.ok m F,xz.ok m F,xA.ok m F,trivial⟩ trivial 0 0 zx zx
def xR.te:TEs:=[(0,kI),(2,kI)]
def xR.h:SH:=shN xR.te [] [] [(0,1,0,0),(1,2,0,0)]
def xR.X (m:Int) (F:Nat):FX TI (G m) Sg:={hn:={na:=1},N:=7,H:=xR.h}
theorem xR.ok (m:Int) (F:Nat):OKP m 171 xR.sg (xR.sp F) :=
 okp (xR.X m F) Go.Proofs.Tryz.func171 trivial trivial 0 0 zx zx
def ye.te:TEs:=[kL 0,kL 4,kL 5,kL 6]
def ye.tb:TEs:=[(0,.g zU),(4,.g zd),(5,.g zd),(6,.g zd)]
def ye.h:SH:=shN ye.te ye.tb [] [(0,15,15,0),(1,8,9,0)]
def ye.X (m:Int) (F:Nat):FX TI (G m) Sg:={hn:={na:=3},lv:=[⟨82,xA.sp F⟩,⟨125,yd.sp F⟩],N:=14,H:=ye.h}
theorem ye.ok (m:Int) (F:Nat):OKP m 128 ye.sg (ye.sp F) :=
 okp (ye.X m F) Go.Proofs.Tryz.func128 ⟨xA.ok m F,yd.ok m F,trivial⟩ trivial 0 0 zx zx
def zu.te:TEs:=[kL 0,(2,.b zN),kL 4,kL 6,(7,kI),kL 8,(9,kI),kL 10,kL 11,(13,.b zN),(14,kI),(15,kI),(16,kB),(29,kB)]
def zu.tb:TEs:=[(0,.g zU),(4,.g zd),(6,.g zd),(8,.g zd),(10,.g zN),(11,.g zd)]
def zu.h:SH:=shN zu.te zu.tb [] [(0,15,7,0),(1,63,15,0),(2,3647,15,0),(3,7743,15,0),(4,3839,31,0),(5,3839,31,0),(6,12031,31,0),(7,3647,15,0),(8,3647,15,0),(9,313,45,0),(10,8,5,0)]
def zu.hl:SH:=shN zu.te zu.tb [] [(3,3647,15,0)]
def zu.L3 (F:Nat) (R:Type) (K:KK R) (n:Nat) (x:(Unit×(List zN.T)×Unit×Unit×Int×Unit×(List zN.T)×Int×Int×Unit)×(zU.T×zd.T×zd.T×zd.T×Unit)×(Unit)):Option R :=
 zu.l3 F (fun tiers rate t13 t14 t15 t16 m x r6 ways=>K (.exit 0) (yU (zu.h 3) (((),tiers,(),(),rate,(),t13,t14,t15,t16,()),(m,x,r6,ways,()),()))) n x.1.2.1 x.1.2.2.2.2.1 x.1.2.2.2.2.2.2.1 x.1.2.2.2.2.2.2.2.1 x.1.2.2.2.2.2.2.2.2.1 x.2.1.1 x.2.1.2.1 x.2.1.2.2.1 x.2.1.2.2.2.1
def zu.X (m:Int) (F:Nat):FX TI (G m) Sg:={hn:={na:=3,sp:=fun s=>lk 0 s [(0,2)]},lv:=[⟨171,xR.sp F⟩,⟨38,zR.sp F⟩,⟨124,ya.sp F⟩,⟨128,ye.sp F⟩],N:=75,H:=zu.h,HL:=zu.hl,L:=mkL zu.hl [⟨3,fun x R K=>zu.L3 F R K F x⟩]}
theorem zu.ok (m:Int) (F:Nat):OKP m 126 zu.sg (zu.sp F) :=
 okp (zu.X m F) Go.Proofs.Tryz.func126 ⟨xR.ok m F,zR.ok m F,ya.ok m F,ye.ok m F,trivial⟩ trivial 1 0 (yA (FX.loopk 3 F (zu.L3 F)) zx) zx
def yp.te:TEs:=[(0,.b zd),kL 2,(3,kI),(4,.c (.int .u64)),(5,.c (.int .u64)),(6,kI),kL 8,(9,.c (.int .u64)),kL 10,(11,.b zd),(12,kI),(13,kI),(14,kB),(50,kB)]
def yp.tb:TEs:=[(2,.g zd),(8,.g zd),(10,.g zd)]
def yp.h:SH:=shN yp.te yp.tb [] [(0,3,1,0),(1,27,1,0),(2,59,1,0),(3,3642,1,0),(4,7738,1,0),(5,3706,3,0),(6,3706,3,0),(7,3834,3,0),(8,3834,3,0),(9,3642,1,0),(10,3642,1,0),(11,290,5,0),(12,8450,5,0),(13,6,1,0),(14,6,1,0)]
def yp.hl:SH:=shN yp.te yp.tb [] [(4,3642,1,0)]
def yp.L4 (F:Nat) (R:Type) (K:KK R) (n:Nat) (x:(Unit×Int×Int×Int×(List zd.T)×Int×Int×Unit)×(zd.T×Unit)×(Unit)):Option R :=
 yp.l4 F (fun lo hi top t11 t12 t13 t14 r2=>K (.exit 0) (yU (yp.h 4) (((),lo,hi,top,t11,t12,t13,t14,()),(r2,()),()))) n x.1.2.1 x.1.2.2.1 x.1.2.2.2.1 x.1.2.2.2.2.1 x.1.2.2.2.2.2.1 x.1.2.2.2.2.2.2.1 x.2.1.1
def yp.X (m:Int) (F:Nat):FX TI (G m) Sg:={hn:={na:=1},lv:=[⟨45,yh.sp F⟩],N:=53,H:=yp.h,HL:=yp.hl,L:=mkL yp.hl [⟨4,fun x R K=>yp.L4 F R K F x⟩]}
theorem yp.ok (m:Int) (F:Nat):OKP m 127 yp.sg (yp.sp F) :=
 okp (yp.X m F) Go.Proofs.Tryz.func127 ⟨yh.ok m F,trivial⟩ trivial 1 0 (yA (FX.loopk 4 F (yp.L4 F)) zx) zx
def zy.te:TEs:=[kL 0,(3,.b zd),kL 5,kL 6,kL 8,kL 9,(11,kI),(12,kB),(17,kB),(28,kB),(31,kB),(47,kB),(57,kB),(67,kB),(96,kB)]
def zy.tb:TEs:=[(0,.g zU),(5,.g zL),(6,.g zb),(8,.g zd),(9,.g zd)]
def zy.h:SH:=shN zy.te zy.tb [] [(0,31,15,0),(1,95,15,0),(2,223,15,0),(3,16,9,0),(4,351,15,0),(5,16,9,0),(6,607,15,0),(7,16,9,0),(8,1119,15,0),(9,16,9,0),(10,2139,13,0),(11,16,9,0),(12,4187,13,0),(13,4187,13,0),(14,16,9,0),(15,8219,13,0),(16,18,9,0),(17,16,9,0),(18,57,29,0),(19,16441,29,0),(20,48,25,0),(21,16,9,0)]
def zy.hj:Nat->Option Shape:=shO zy.te zy.tb [] [(18,27,13,0)]
def zy.J18 (F:Nat) (x:(Unit×(List zd.T)×Unit×Unit×Unit)×(zU.T×zb.T×zd.T×Unit)×(Unit)) (R:Type) (K:KK R):Option R :=
 zy.j18 F (fun m r8=>K .ret (yU (zy.h 21) (((),()),(m,r8,()),()))) x.1.2.1 x.2.1.1 x.2.1.2.1 x.2.1.2.2.1
def zy.X (m:Int) (F:Nat):FX TI (G m) Sg:={hn:={na:=4},lv:=[⟨38,zR.sp F⟩,⟨124,ya.sp F⟩,⟨39,y9.sp F⟩,⟨125,yd.sp F⟩,⟨126,zu.sp F⟩,⟨127,yp.sp F⟩,⟨128,ye.sp F⟩],N:=104,H:=zy.h,HJ:=zy.hj,J:=mkJ zy.hj [⟨18,zy.J18 F⟩]}
theorem zy.ok (m:Int) (F:Nat):OKP m 75 zy.sg (zy.sp F) :=
 okp (zy.X m F) Go.Proofs.Tryz.func75 ⟨zR.ok m F,ya.ok m F,y9.ok m F,yd.ok m F,zu.ok m F,yp.ok m F,ye.ok m F,trivial⟩ trivial 0 1 zx (yA (FX.cutk 18) zx)
def xp.te:TEs:=[kL 2,kL 3,(4,kI),(5,kB),(9,kB)]
def xp.tb:TEs:=[(2,.g zd),(3,.g zd)]
def xp.h:SH:=shN xp.te xp.tb [] [(0,3,3,0),(1,11,3,0),(2,4,0,0),(3,19,3,0),(4,16,0,0),(5,4,0,0),(6,4,0,0)]
def xp.X (m:Int) (F:Nat):FX TI (G m) Sg:={hn:={na:=2},N:=27,H:=xp.h}
theorem xp.ok (m:Int) (F:Nat):OKP m 129 xp.sg (xp.sp F) :=
 okp (xp.X m F) Go.Proofs.Tryz.func129 trivial trivial 0 0 zx zx
def xn.te:TEs:=[kL 2,kL 3,(4,kB),kL 5,(9,kB)]
def xn.tb:TEs:=[(2,.g zb),(3,.g zd),(5,.g zd)]
def xn.h:SH:=shN xn.te xn.tb [] [(0,3,3,0),(1,11,7,0),(2,26,6,0),(3,10,6,0),(4,4,0,0)]
def xn.X (m:Int) (F:Nat):FX TI (G m) Sg:={hn:={na:=2},lv:=[⟨38,zR.sp F⟩,⟨16,yf.sp F⟩,⟨129,xp.sp F⟩],N:=20,H:=xn.h}
theorem xn.ok (m:Int) (F:Nat):OKP m 76 xn.sg (xn.sp F) :=
 okp (xn.X m F) Go.Proofs.Tryz.func76 ⟨zR.ok m F,yf.ok m F,xp.ok m F,trivial⟩ trivial 0 0 zx zx
def zt.te:TEs:=[kL 2,kL 3,(4,.c (.sl zd)),(5,kI),(6,.c (.sl zd)),(6,.ow 6),(7,.ow 7),(8,.loc 15),(9,kI),kL 10,(11,kI),kL 12,(17,.c (.sl zb)),(18,kI),(19,kI),(20,kB),(44,kB)]
def zt.tb:TEs:=[(2,.g zL),(3,.g zd),(10,.g zb),(12,.g zd),(15,.g zU)]
def zt.tp:List ue:=[⟨6,.env 6,zd⟩,⟨7,.env 7,zd⟩]
def zt.h:SH:=shN zt.te zt.tb zt.tp [(0,3,3,0),(1,99,3,3),(2,225,17,3),(3,28897,17,3),(4,61665,17,3),(5,29665,21,3),(6,30689,21,3),(7,32737,29,3),(8,97761,25,3),(9,12,0,0),(10,31969,25,3),(11,28897,17,3),(12,28897,17,3),(13,12,0,0)]
def zt.hl:SH:=shN zt.te zt.tb zt.tp [(4,28897,17,3)]
def zt.hj:Nat->Option Shape:=shO zt.te zt.tb zt.tp [(13,16,0,0)]
def zt.L4 (F:Nat) (R:Type) (K:KK R) (n:Nat) (x:(Unit×Unit×Unit×Unit×(List zb.T)×Int×Int×Unit)×(zL.T×zU.T×Unit)×((List zd.T)×(List zd.T)×Unit)):Option R :=
 zt.l4 F (fun r4 r5=>K .ret (yU (zt.h 9) ((r4,r5,()),(),()))) (fun t17 t18 t19 t20 p m mags pile=>K (.exit 0) (yU (zt.h 4) (((),(),(),(),t17,t18,t19,t20,()),(p,m,()),(mags,pile,())))) n x.1.2.2.2.2.1 x.1.2.2.2.2.2.1 x.1.2.2.2.2.2.2.1 x.2.1.1 x.2.1.2.1 x.2.2.1 x.2.2.2.1
def zt.J13 (F:Nat) (x:((List zd.T)×Unit)×(Unit)×(Unit)) (R:Type) (K:KK R):Option R :=
 zt.j13 F (fun r4 r5=>K .ret (yU (zt.h 13) ((r4,r5,()),(),()))) x.1.1
def zt.X (m:Int) (F:Nat):FX TI (G m) Sg:={hn:={MU:=fun s=>lk false s [(49,true),(55,true)],na:=2,fzJ:=fun r=>lk [] r [(13,[6])]},lv:=[⟨74,zV.sp F⟩,⟨75,zy.sp F⟩,⟨76,xn.sp F⟩],N:=58,H:=zt.h,HL:=zt.hl,HJ:=zt.hj,L:=mkL zt.hl [⟨4,fun x R K=>zt.L4 F R K F x⟩],J:=mkJ zt.hj [⟨13,zt.J13 F⟩]}
theorem zt.ok (m:Int) (F:Nat):OKP m 34 zt.sg (zt.sp F) :=
 okp (zt.X m F) Go.Proofs.Tryz.func34 ⟨zV.ok m F,zy.ok m F,xn.ok m F,trivial⟩ trivial 1 1 (yA (FX.loopk 4 F (zt.L4 F)) zx) (yA (FX.cutk 13) zx)
def yX.te:TEs:=[kL 1,kL 2,(3,kI),(4,kI),(6,kI),(7,kI),(8,kI),kL 10,(11,kI),(13,kI),(21,kB),(31,kB),(49,kB)]
def yX.tb:TEs:=[(1,.g zL),(2,.g zd),(10,.g zd)]
def yX.h:SH:=shN yX.te yX.tb [] [(0,3,3,0),(1,51,3,0),(2,1075,3,0),(3,14,2,0),(4,67,3,0),(5,2115,3,0),(6,14,2,0),(7,387,7,0),(8,898,6,0),(9,4994,6,0),(10,14,2,0),(11,14,2,0)]
def yX.X (m:Int) (F:Nat):FX TI (G m) Sg:={hn:={na:=1},lv:=[⟨48,zo.sp F⟩,⟨12,zF.sp F⟩,⟨13,zQ.sp F⟩,⟨34,zt.sp F⟩],N:=54,H:=yX.h}
theorem yX.ok (m:Int) (F:Nat):OKP m 18 yX.sg (yX.sp F) :=
 okp (yX.X m F) Go.Proofs.Tryz.func18 ⟨zo.ok m F,zF.ok m F,zQ.ok m F,zt.ok m F,trivial⟩ trivial 0 0 zx zx
def yb.te:TEs:=[kL 1,(2,kI),(4,kI),(5,kB),(10,kB),(14,kB),(19,kB)]
def yb.tb:TEs:=[(1,.g zb)]
def yb.h:SH:=shN yb.te yb.tb [] [(0,1,1,0),(1,5,1,0),(2,13,1,0),(3,13,1,0),(4,13,1,0),(5,13,1,0),(6,2,0,0),(7,21,1,0),(8,21,1,0),(9,21,1,0),(10,2,0,0),(11,37,1,0),(12,37,1,0),(13,2,0,0),(14,64,0,0),(15,2,0,0),(16,2,0,0)]
def yb.hj:Nat->Option Shape:=shO yb.te yb.tb [] [(6,13,1,0),(10,21,1,0)]
def yb.J10 (F:Nat) (x:(Unit×Int×Bool×Unit)×(zb.T×Unit)×(Unit)) (R:Type) (K:KK R):Option R :=
 yb.j10 F (fun r2=>K .ret (yU (yb.h 10) ((r2,()),(),()))) (fun r2=>K .ret (yU (yb.h 13) ((r2,()),(),()))) (fun r2=>K .ret (yU (yb.h 15) ((r2,()),(),()))) (fun t19=>K .normal (yU (yb.h 14) ((t19,()),(),()))) x.1.2.1 x.1.2.2.1 x.2.1.1
def yb.J6 (F:Nat) (x:(Unit×Int×Bool×Unit)×(zb.T×Unit)×(Unit)) (R:Type) (K:KK R):Option R :=
 yb.j6 F (fun r2=>K .ret (yU (yb.h 6) ((r2,()),(),()))) (fun r2=>K .ret (yU (yb.h 10) ((r2,()),(),()))) (fun r2=>K .ret (yU (yb.h 13) ((r2,()),(),()))) (fun r2=>K .ret (yU (yb.h 15) ((r2,()),(),()))) (fun t19=>K .normal (yU (yb.h 14) ((t19,()),(),()))) x.1.2.1 x.1.2.2.1 x.2.1.1
def yb.X (m:Int) (F:Nat):FX TI (G m) Sg:={hn:={na:=1},N:=21,H:=yb.h,HJ:=yb.hj,J:=mkJ yb.hj [⟨10,yb.J10 F⟩,⟨6,yb.J6 F⟩]}
theorem yb.ok (m:Int) (F:Nat):OKP m 56 yb.sg (yb.sp F) :=
 okp (yb.X m F) Go.Proofs.Tryz.func56 trivial trivial 0 2 zx (yA (FX.cutk 10) (yA (FX.cutk 6) zx))
theorem yT.lay:Go.Proofs.SlLaysE0.n41 Go.Proofs.Tryz.prog ⟨fun | 41=>57 | n=>n,fun | 22=>93 | 23=>56 | 4=>4 | n=>n,fun n=>n⟩:={mixed:=mixed,f41:=⟨Go.Proofs.Tryz.f57.name,by decide,Go.Proofs.Tryz.func57.trans (congrArg some (by kernel_rfl))⟩,t4:=Go.Proofs.Tryz.underlying4,a4:=Go.Proofs.Tryz.isAgg4,z4:=Go.Proofs.Tryz.sizeOf4,v4:=Go.Proofs.Tryz.zeroValue4,t22:=Go.Proofs.Tryz.underlying93,a22:=Go.Proofs.Tryz.isAgg93,z22:=Go.Proofs.Tryz.sizeOf93,v22:=Go.Proofs.Tryz.zeroValue93}
theorem yT.ok (m:Int) (F:Nat):OK Go.Proofs.Tryz.prog (G m) 57 yT.sg (yT.sp F):=Xh rfl Go.Proofs.Tryz.func57 (by kernel_rfl) (tsOK 93) (by kernel_rfl) yT.lay rfl rfl
def zH.te:TEs:=[(0,.b zb),(2,.c (.tr zb)),(3,.c (.sl (.tr zb))),(3,.ow 3),kL 5,(6,kI),(7,.b zb),(8,kI),(9,kI),(10,kB)]
def zH.tb:TEs:=[(5,.g zb)]
def zH.tp:List ue:=[⟨3,.env 3,(.tr zb)⟩]
def zH.h:SH:=shN zH.te zH.tb zH.tp [(0,1,0,0),(1,9,0,1),(2,456,0,1),(3,968,0,1),(4,472,1,1),(5,504,1,1),(6,456,0,1),(7,456,0,1),(8,2,0,0)]
def zH.hl:SH:=shN zH.te zH.tb zH.tp [(3,456,0,1)]
def zH.hj:Nat->Option Shape:=shO zH.te zH.tb zH.tp [(8,4,0,0)]
def zH.L3 (F:Nat) (R:Type) (K:KK R) (n:Nat) (x:(Unit×(List zb.T)×Int×Int×Unit)×(Unit)×((List (LTr zb.T))×Unit)):Option R :=
 zH.l3 F (fun t7 t8 t9 t10 pile=>K (.exit 0) (yU (zH.h 3) (((),t7,t8,t9,t10,()),(),(pile,())))) n x.1.2.1 x.1.2.2.1 x.1.2.2.2.1 x.2.2.1
def zH.J8 (F:Nat) (x:((List (LTr zb.T))×Unit)×(Unit)×(Unit)) (R:Type) (K:KK R):Option R :=
 zH.j8 F (fun r2=>K .ret (yU (zH.h 8) ((r2,()),(),()))) x.1.1
def zH.X (m:Int) (F:Nat):FX TI (G m) Sg:={hn:={MU:=fun s=>lk false s [(29,true)],na:=1,fzJ:=fun r=>lk [] r [(8,[3])],BT:=fun s=>lk none s [(27,some zb)]},lv:=[⟨56,yb.sp F⟩,⟨57,yT.sp F⟩],N:=34,H:=zH.h,HL:=zH.hl,HJ:=zH.hj,L:=mkL zH.hl [⟨3,fun x R K=>zH.L3 F R K F x⟩],J:=mkJ zH.hj [⟨8,zH.J8 F⟩]}
theorem zH.ok (m:Int) (F:Nat):OKP m 20 zH.sg (zH.sp F) :=
 okp (zH.X m F) Go.Proofs.Tryz.func20 ⟨yb.ok m F,yT.ok m F,trivial⟩ trivial 1 1 (yA (FX.loopk 3 F (zH.L3 F)) zx) (yA (FX.cutk 8) zx)
def zD.te:TEs:=[(0,.b zN),(1,.b zN),(4,kB),(5,kI),(10,kB),(12,kI),(13,kI),(14,kB),(24,kB)]
def zD.h:SH:=shN zD.te [] [] [(0,3,0,0),(1,19,0,0),(2,4,0,0),(3,99,0,0),(4,227,0,0),(5,107,0,0),(6,355,0,0),(7,4,0,0),(8,99,0,0),(9,4,0,0)]
def zD.hl:SH:=shN zD.te [] [] [(4,99,0,0)]
def zD.L4 (F:Nat) (R:Type) (K:KK R) (n:Nat) (x:((List zN.T)×(List zN.T)×Int×Int×Unit)×(Unit)×(Unit)):Option R :=
 zD.l4 F (fun r4=>K .ret (yU (zD.h 7) ((r4,()),(),()))) (fun s1 s2 t12 t13 t14=>K (.exit 0) (yU (zD.h 4) ((s1,s2,t12,t13,t14,()),(),()))) n x.1.1 x.1.2.1 x.1.2.2.1 x.1.2.2.2.1
def zD.X (m:Int) (F:Nat):FX TI (G m) Sg:={hn:={na:=2},N:=26,H:=zD.h,HL:=zD.hl,L:=mkL zD.hl [⟨4,fun x R K=>zD.L4 F R K F x⟩]}
theorem zD.ok (m:Int) (F:Nat):OKP m 31 zD.sg (zD.sp F) :=
 okp (zD.X m F) Go.Proofs.Tryz.func31 trivial trivial 1 0 (yA (FX.loopk 4 F (zD.L4 F)) zx) zx
def zh.te:TEs:=[(0,.b (.tr zb)),(1,.b (.tr zb)),(2,.c .fn),(6,kB),(7,kI),(8,.c (.tr zb)),(9,.c (.tr zb)),(14,kB),(15,.b (.tr zb)),(16,kI),(17,kI),(18,kB),(30,kB)]
def zh.h:SH:=shN zh.te [] [] [(0,7,0,0),(1,135,0,0),(2,8,0,0),(3,1798,0,0),(4,3846,0,0),(5,1846,0,0),(6,1894,0,0),(7,5894,0,0),(8,8,0,0),(9,1798,0,0),(10,8,0,0)]
def zh.hl:SH:=shN zh.te [] [] [(4,1798,0,0)]
def zh.L4 (mz:Nat) (F:Nat) (R:Type) (K:KK R) (n:Nat) (x:((List (LTr zb.T))×Nat×(List (LTr zb.T))×Int×Int×Unit)×(Unit)×(Unit)):Option R :=
 zh.l4 (zZ.it F mz) F (fun r6=>K .ret (yU (zh.h 8) ((r6,()),(),()))) (fun s2 eq t15 t16 t17 t18=>K (.exit 0) (yU (zh.h 4) ((s2,eq,t15,t16,t17,t18,()),(),()))) n x.1.1 x.1.2.1 x.1.2.2.1 x.1.2.2.2.1 x.1.2.2.2.2.1
def zh.X (m:Int) (mz:Nat) (F:Nat):FX TI (G m) Sg:={hn:={DS:=fun d=>lk none d [(29,some zh.ds29)],na:=3},ld:=[⟨29,zh.d29 (zZ.it F mz) F⟩],N:=32,H:=zh.h,HL:=zh.hl,L:=mkL zh.hl [⟨4,fun x R K=>zh.L4 mz F R K F x⟩]}
theorem zh.ok (m:Int) (F mz:Nat) (hme:OKP m 93 zZ.sg (zZ.itp F mz)):OKP m 155 zh.sg (zh.sp (zZ.it F mz) F) :=
 okp (zh.X m mz F) Go.Proofs.Tryz.func155 trivial ⟨Zo ⟨⟨93,by kernel_rfl,hme⟩,trivial⟩,trivial⟩ 1 0 (yA (FX.loopk 4 F (zh.L4 mz F)) zx) zx
def zZ.te:TEs:=[(0,.c (.tr zb)),(1,.c (.tr zb)),(4,kB),kL 5,kL 6]
def zZ.tb:TEs:=[(5,.g zb),(6,.g zb)]
def zZ.h:SH:=shN zZ.te zZ.tb [] [(0,3,0,0),(1,27,3,0),(2,4,0,0)]
def zZ.X (m:Int) (mz:Nat) (F:Nat):FX TI (G m) Sg:={hn:={na:=2},lv:=[⟨31,zD.sp F⟩,⟨155,zh.sp (zZ.it F mz) F⟩],N:=59,H:=zZ.h}
theorem zZ.ok1 (m:Int) (F mz:Nat) (hme:OKP m 93 zZ.sg (zZ.itp F mz)):OKP m 93 zZ.sg (zZ.itp F (mz+1)) :=
 okp (zZ.X m mz F) Go.Proofs.Tryz.func93 ⟨zD.ok m F,(zh.ok m F mz hme),trivial⟩ trivial 0 0 zx zx
theorem zZ.ok (m:Int) (F:Nat):OKP m 93 zZ.sg (zZ.sp F):=WB (it:=zZ.itp F) (fun _=>rfl) (fun n h=>zZ.ok1 m F n h) F
def yi.te:TEs:=[(1,.c (.tr zb)),(4,.c (.tr zb)),(25,kB)]
def yi.h:SH:=shN yi.te [] [] [(0,1,0,0),(1,5,0,0),(2,2,0,0),(3,2,0,0)]
def yi.X (m:Int) (F:Nat):FX TI (G m) Sg:={hn:={na:=2},lv:=[⟨93,zZ.sp F⟩],N:=32,H:=yi.h}
theorem yi.ok (m:Int) (F:Nat):OKP m 52 yi.sg (yi.sp F) :=
 okp (yi.X m F) Go.Proofs.Tryz.func52 ⟨zZ.ok m F,trivial⟩ trivial 0 0 zx zx
def zm.te:TEs:=[(0,.c (.tr zb)),(2,kB),(3,kB),(5,.c (.tr zb)),(6,kB),(7,kB),(21,kB),(31,.c (.sl (.tr zb))),(32,kI),(33,kI),(34,kB)]
def zm.h:SH:=shN zm.te [] [] [(0,1,0,0),(1,65,0,0),(2,6,0,0),(3,7,0,0),(4,902,0,0),(5,1926,0,0),(6,910,0,0),(7,950,0,0),(8,902,0,0),(9,902,0,0),(10,6,0,0)]
def zm.hl:SH:=shN zm.te [] [] [(5,902,0,0)]
def zm.L5 (mz:Nat) (F:Nat) (R:Type) (K:KK R) (n:Nat) (x:(Bool×Bool×(List (LTr zb.T))×Int×Int×Unit)×(Unit)×(Unit)):Option R :=
 zm.l5 (zm.it F mz) F (fun is money t31 t32 t33 t34=>K (.exit 0) (yU (zm.h 5) ((is,money,t31,t32,t33,t34,()),(),()))) n x.1.1 x.1.2.1 x.1.2.2.1 x.1.2.2.2.1 x.1.2.2.2.2.1
def zm.X (m:Int) (mz:Nat) (F:Nat):FX TI (G m) Sg:={hn:={na:=1},lv:=[⟨90,zm.itp F mz⟩],N:=53,H:=zm.h,HL:=zm.hl,L:=mkL zm.hl [⟨5,fun x R K=>zm.L5 mz F R K F x⟩]}
theorem zm.ok1 (m:Int) (F mz:Nat) (hme:OKP m 90 zm.sg (zm.itp F mz)):OKP m 90 zm.sg (zm.itp F (mz+1)) :=
 okp (zm.X m mz F) Go.Proofs.Tryz.func90 ⟨hme,trivial⟩ trivial 1 0 (yA (FX.loopk 5 F (zm.L5 mz F)) zx) zx
theorem zm.ok (m:Int) (F:Nat):OKP m 90 zm.sg (zm.sp F):=WB (it:=zm.itp F) (fun _=>rfl) (fun n h=>zm.ok1 m F n h) F
def yq.te:TEs:=[(0,.c (.tr zb)),(2,kB)]
def yq.h:SH:=shN yq.te [] [] [(0,1,0,0),(1,2,0,0)]
def yq.X (m:Int) (F:Nat):FX TI (G m) Sg:={hn:={na:=1},N:=17,H:=yq.h}
theorem yq.ok (m:Int) (F:Nat):OKP m 154 yq.sg (yq.sp F) :=
 okp (yq.X m F) Go.Proofs.Tryz.func154 trivial trivial 0 0 zx zx
def yR.te:TEs:=[(0,.c (.tr zb)),(2,kB)]
def yR.h:SH:=shN yR.te [] [] [(0,1,0,0),(1,2,0,0)]
def yR.X (m:Int) (F:Nat):FX TI (G m) Sg:={hn:={na:=1},lv:=[⟨154,yq.sp F⟩],N:=35,H:=yR.h}
theorem yR.ok (m:Int) (F:Nat):OKP m 91 yR.sg (yR.sp F) :=
 okp (yR.X m F) Go.Proofs.Tryz.func91 ⟨yq.ok m F,trivial⟩ trivial 0 0 zx zx
def zi.te:TEs:=[(0,.b zd),(1,.c .fn),kL 4,kL 5,(6,kI),(9,kB),(17,kB),(27,kB)]
def zi.tb:TEs:=[(4,.g zd),(5,.g zd)]
def zi.h:SH:=shN zi.te zi.tb [] [(0,7,1,0),(1,39,1,0),(3,15,3,0),(4,31,3,0),(5,95,3,0),(6,31,3,0),(7,159,3,0),(8,31,3,0),(9,4,1,0)]
def zi.hl:SH:=shN zi.te zi.tb [] [(5,31,3,0)]
def zi.L5 (F:Nat) (R:Type) (K:KK R) (n:Nat) (x:((List zd.T)×Nat×Unit×Unit×Int×Unit)×(zd.T×zd.T×Unit)×(Unit)):Option R :=
 zi.l5 F (fun x cmp i t17 r4 m=>K (.exit 0) (yU (zi.h 5) ((x,cmp,(),(),i,t17,()),(r4,m,()),()))) n x.1.1 x.1.2.1 x.1.2.2.2.2.1 x.2.1.1 x.2.1.2.1
def zi.X (m:Int) (F:Nat):FX TI (G m) Sg:={hn:={DS:=fun d=>lk none d [(26,some zi.ds26)],na:=2},ld:=[⟨26,zi.d26 F⟩],N:=33,H:=zi.h,HL:=zi.hl,L:=mkL zi.hl [⟨5,fun x R K=>zi.L5 F R K F x⟩]}
theorem zi.ok (m:Int) (F:Nat):OKP m 138 zi.sg (zi.sp F) :=
 okp (zi.X m F) Go.Proofs.Tryz.func138 trivial ⟨Zo ⟨⟨129,by kernel_rfl,xp.ok m F⟩,trivial⟩,trivial⟩ 1 0 (yA (FX.loopk 5 F (zi.L5 F)) zx) zx
def zj.te:TEs:=[(0,.b zd),(1,.c .fn),kL 4,kL 5,(6,kI),(9,kB),(17,kB),(27,kB)]
def zj.tb:TEs:=[(4,.g zd),(5,.g zd)]
def zj.h:SH:=shN zj.te zj.tb [] [(0,7,1,0),(1,39,1,0),(3,15,3,0),(4,31,3,0),(5,95,3,0),(6,31,3,0),(7,159,3,0),(8,31,3,0),(9,4,1,0)]
def zj.hl:SH:=shN zj.te zj.tb [] [(5,31,3,0)]
def zj.L5 (F:Nat) (R:Type) (K:KK R) (n:Nat) (x:((List zd.T)×Nat×Unit×Unit×Int×Unit)×(zd.T×zd.T×Unit)×(Unit)):Option R :=
 zj.l5 F (fun x cmp i t17 r4 m=>K (.exit 0) (yU (zj.h 5) ((x,cmp,(),(),i,t17,()),(r4,m,()),()))) n x.1.1 x.1.2.1 x.1.2.2.2.2.1 x.2.1.1 x.2.1.2.1
def zj.X (m:Int) (F:Nat):FX TI (G m) Sg:={hn:={DS:=fun d=>lk none d [(26,some zj.ds26)],na:=2},ld:=[⟨26,zj.d26 F⟩],N:=33,H:=zj.h,HL:=zj.hl,L:=mkL zj.hl [⟨5,fun x R K=>zj.L5 F R K F x⟩]}
theorem zj.ok (m:Int) (F:Nat):OKP m 139 zj.sg (zj.sp F) :=
 okp (zj.X m F) Go.Proofs.Tryz.func139 trivial ⟨Zo ⟨⟨129,by kernel_rfl,xp.ok m F⟩,trivial⟩,trivial⟩ 1 0 (yA (FX.loopk 5 F (zj.L5 F)) zx) zx
def ze.te:TEs:=[(1,.c (.tr zb)),kL 2,kL 4,(5,.c (.sl zd)),(5,.ow 5),(7,.c (.tr zb)),kL 8,(12,.c (.sl (.tr zb))),(13,kI),(14,kI),(15,kB),(30,kI),(31,kB),(39,kB),(53,kB),(62,kB),(74,kB),(86,kB),(98,kB),(102,kB),(106,kB)]
def ze.tb:TEs:=[(2,.g zd),(4,.g zd),(8,.g zd)]
def ze.tp:List ue:=[⟨5,.env 5,zd⟩]
def ze.h:SH:=shN ze.te ze.tb ze.tp [(0,7,3,0),(1,23,3,1),(2,919,3,1),(3,1943,3,1),(4,951,3,1),(5,919,3,1),(6,919,3,1),(7,79,7,0),(8,2127,7,0),(9,6223,7,0),(10,68,6,0),(11,10319,7,0),(12,68,6,0),(13,18509,6,0),(14,68,6,0),(15,34893,6,0),(16,68,6,0),(17,67661,6,0),(18,68,6,0),(19,133197,6,0),(20,68,6,0),(21,264269,6,0),(22,68,6,0),(23,526413,6,0),(24,68,6,0),(25,1048653,6,0),(26,68,6,0),(27,68,6,0),(28,4,2,0)]
def ze.hl:SH:=shN ze.te ze.tb ze.tp [(3,919,3,1)]
def ze.hj:Nat->Option Shape:=shO ze.te ze.tb ze.tp [(7,15,3,0)]
def ze.L3 (mz:Nat) (F:Nat) (R:Type) (K:KK R) (n:Nat) (x:((LTr zb.T)×Unit×Unit×Unit×(List (LTr zb.T))×Int×Int×Unit)×(zd.T×zd.T×Unit)×((List zd.T)×Unit)):Option R :=
 ze.l3 (ze.it F mz) F (fun x t12 t13 t14 t15 f r4 k=>K (.exit 0) (yU (ze.h 3) ((x,(),(),(),t12,t13,t14,t15,()),(f,r4,()),(k,())))) n x.1.1 x.1.2.2.2.2.1 x.1.2.2.2.2.2.1 x.1.2.2.2.2.2.2.1 x.2.1.1 x.2.1.2.1 x.2.2.1
def ze.J7 (mz:Nat) (F:Nat) (x:((LTr zb.T)×Unit×Unit×(List zd.T)×Unit)×(zd.T×zd.T×Unit)×(Unit)) (R:Type) (K:KK R):Option R :=
 ze.j7 (ze.it F mz) F (fun r4=>K .ret (yU (ze.h 28) (((),()),(r4,()),()))) x.1.1 x.1.2.2.2.1 x.2.1.1 x.2.1.2.1
def ze.X (m:Int) (mz:Nat) (F:Nat):FX TI (G m) Sg:={hn:={MU:=fun s=>lk false s [(23,true)],na:=2,fzJ:=fun r=>lk [] r [(7,[5])]},lv:=[⟨92,ze.itp F mz⟩,⟨38,zR.sp F⟩,⟨16,yf.sp F⟩,⟨87,xT.sp F⟩,⟨82,xA.sp F⟩,⟨81,xz.sp F⟩,⟨138,zi.sp F⟩,⟨139,zj.sp F⟩,⟨39,y9.sp F⟩],N:=129,H:=ze.h,HL:=ze.hl,HJ:=ze.hj,L:=mkL ze.hl [⟨3,fun x R K=>ze.L3 mz F R K F x⟩],J:=mkJ ze.hj [⟨7,ze.J7 mz F⟩]}
theorem ze.ok1 (m:Int) (F mz:Nat) (hme:OKP m 92 ze.sg (ze.itp F mz)):OKP m 92 ze.sg (ze.itp F (mz+1)) :=
 okp (ze.X m mz F) Go.Proofs.Tryz.func92 ⟨hme,zR.ok m F,yf.ok m F,xT.ok m F,xA.ok m F,xz.ok m F,zi.ok m F,zj.ok m F,y9.ok m F,trivial⟩ trivial 1 1 (yA (FX.loopk 3 F (ze.L3 mz F)) zx) (yA (FX.cutk 7) zx)
theorem ze.ok (m:Int) (F:Nat):OKP m 92 ze.sg (ze.sp F):=WB (it:=ze.itp F) (fun _=>rfl) (fun n h=>ze.ok1 m F n h) F
def xU.te:TEs:=[kL 1,(2,kI),(3,kB),(4,kI),(12,kB)]
def xU.tb:TEs:=[(1,.g zd)]
def xU.h:SH:=shN xU.te xU.tb [] [(0,1,1,0),(1,9,1,0),(2,24,0,0),(3,6,0,0),(4,6,0,0)]
def xU.X (m:Int) (F:Nat):FX TI (G m) Sg:={hn:={na:=1},N:=14,H:=xU.h}
theorem xU.ok (m:Int) (F:Nat):OKP m 40 xU.sg (xU.sp F) :=
 okp (xU.X m F) Go.Proofs.Tryz.func40 trivial trivial 0 0 zx zx
def zC.te:TEs:=[(1,.c (.tr zb)),kL 2,(4,.c (.tr zb)),(5,kB),(6,kB),kL 7,(8,kI),kL 9,kL 10,(12,kI),(13,kB),(14,.c (.tr zb)),(25,kB),(29,kB),(40,kB),(56,kB),(71,kB)]
def zC.tb:TEs:=[(2,.g zd),(7,.g zd),(9,.g zd),(10,.g zd)]
def zC.h:SH:=shN zC.te zC.tb [] [(0,3,1,0),(1,27,1,0),(2,4115,1,0),(3,4,0,0),(4,115,3,0),(5,8291,3,0),(6,417,14,0),(7,16545,6,0),(8,4,0,0),(9,97,2,0),(10,1601,0,0),(11,33345,0,0),(12,4,0,0),(13,2561,0,0),(14,67585,0,0),(15,4,0,0),(16,4,0,0)]
def zC.hj:Nat->Option Shape:=shO zC.te zC.tb [] [(10,97,2,0)]
def zC.J10 (F:Nat) (x:((LTr zb.T)×Unit×Int×Unit)×(zd.T×Unit)×(Unit)) (R:Type) (K:KK R):Option R :=
 zC.j10 F (fun r4=>K .ret (yU (zC.h 12) ((r4,()),(),()))) (fun r4=>K .ret (yU (zC.h 15) ((r4,()),(),()))) (fun r4=>K .ret (yU (zC.h 16) ((r4,()),(),()))) x.1.1 x.1.2.2.1 x.2.1.1
def zC.X (m:Int) (F:Nat):FX TI (G m) Sg:={hn:={na:=2,BT:=fun s=>lk none s [(69,some zb),(81,some zb)]},lv:=[⟨90,zm.sp F⟩,⟨91,yR.sp F⟩,⟨92,ze.sp F⟩,⟨79,yO.sp F⟩,⟨40,xU.sp F⟩],N:=83,H:=zC.h,HJ:=zC.hj,J:=mkJ zC.hj [⟨10,zC.J10 F⟩]}
theorem zC.ok (m:Int) (F:Nat):OKP m 49 zC.sg (zC.sp F) :=
 okp (zC.X m F) Go.Proofs.Tryz.func49 ⟨zm.ok m F,yR.ok m F,ze.ok m F,yO.ok m F,xU.ok m F,trivial⟩ trivial 0 1 zx (yA (FX.cutk 10) zx)
def yK.te:TEs:=[(1,.c (.tr zb)),(4,.c (.tr zb)),(23,kB)]
def yK.h:SH:=shN yK.te [] [] [(0,1,0,0),(1,5,0,0),(2,2,0,0),(3,2,0,0)]
def yK.X (m:Int) (F:Nat):FX TI (G m) Sg:={hn:={na:=2},N:=35,H:=yK.h}
theorem yK.ok (m:Int) (F:Nat):OKP m 50 yK.sg (yK.sp F) :=
 okp (yK.X m F) Go.Proofs.Tryz.func50 trivial trivial 0 0 zx zx
def yG.te:TEs:=[(0,.c (.tr zb)),(2,kB)]
def yG.h:SH:=shN yG.te [] [] [(0,1,0,0),(1,2,0,0)]
def yG.X (m:Int) (F:Nat):FX TI (G m) Sg:={hn:={na:=1},lv:=[⟨154,yq.sp F⟩],N:=13,H:=yG.h}
theorem yG.ok (m:Int) (F:Nat):OKP m 96 yG.sg (yG.sp F) :=
 okp (yG.X m F) Go.Proofs.Tryz.func96 ⟨yq.ok m F,trivial⟩ trivial 0 0 zx zx
def yo.te:TEs:=[(1,.c (.tr zb)),(4,.c (.tr zb)),(5,kB),(27,kB)]
def yo.h:SH:=shN yo.te [] [] [(0,1,0,0),(1,5,0,0),(2,2,0,0),(3,9,0,0),(4,2,0,0),(5,2,0,0)]
def yo.X (m:Int) (F:Nat):FX TI (G m) Sg:={hn:={na:=2},lv:=[⟨96,yG.sp F⟩],N:=57,H:=yo.h}
theorem yo.ok (m:Int) (F:Nat):OKP m 54 yo.sg (yo.sp F) :=
 okp (yo.X m F) Go.Proofs.Tryz.func54 ⟨yG.ok m F,trivial⟩ trivial 0 0 zx zx
def yJ.te:TEs:=[(1,.c (.tr zb)),(4,.c (.tr zb)),(18,kB)]
def yJ.h:SH:=shN yJ.te [] [] [(0,1,0,0),(1,5,0,0),(2,2,0,0),(3,2,0,0)]
def yJ.X (m:Int) (F:Nat):FX TI (G m) Sg:={hn:={na:=2},N:=25,H:=yJ.h}
theorem yJ.ok (m:Int) (F:Nat):OKP m 51 yJ.sg (yJ.sp F) :=
 okp (yJ.X m F) Go.Proofs.Tryz.func51 trivial trivial 0 0 zx zx
def y7.te:TEs:=[(0,.c (.tr zb)),(2,kB)]
def y7.h:SH:=shN y7.te [] [] [(0,1,0,0),(1,2,0,0)]
def y7.X (m:Int) (F:Nat):FX TI (G m) Sg:={hn:={na:=1},N:=17,H:=y7.h}
theorem y7.ok (m:Int) (F:Nat):OKP m 97 y7.sg (y7.sp F) :=
 okp (y7.X m F) Go.Proofs.Tryz.func97 trivial trivial 0 0 zx zx
def yB.te:TEs:=[(1,.c (.tr zb)),(4,.c (.tr zb)),(5,kB),(27,kB)]
def yB.h:SH:=shN yB.te [] [] [(0,1,0,0),(1,5,0,0),(2,2,0,0),(3,9,0,0),(4,2,0,0),(5,2,0,0)]
def yB.X (m:Int) (F:Nat):FX TI (G m) Sg:={hn:={na:=2},lv:=[⟨97,y7.sp F⟩],N:=49,H:=yB.h}
theorem yB.ok (m:Int) (F:Nat):OKP m 55 yB.sg (yB.sp F) :=
 okp (yB.X m F) Go.Proofs.Tryz.func55 ⟨y7.ok m F,trivial⟩ trivial 0 0 zx zx
def yg.te:TEs:=[(0,.c (.tr zb)),(1,.p (.tr zb)),(3,kB)]
def yg.h:SH:=shN yg.te [] [] [(0,3,0,0),(1,4,0,0)]
def yg.X (m:Int) (F:Nat):FX TI (G m) Sg:={hn:={na:=2},lv:=[⟨93,zZ.sp F⟩],N:=7,H:=yg.h}
theorem yg.ok (m:Int) (F:Nat):OKP m 95 yg.sg (yg.sp F) :=
 okp (yg.X m F) Go.Proofs.Tryz.func95 ⟨zZ.ok m F,trivial⟩ trivial 0 0 zx zx
def zg.te:TEs:=[(0,.b (.tr zb)),(1,.cl (.tr zb)),(4,kI),(5,kI),(7,kI),(8,kI),(9,kB),(16,kB)]
def zg.h:SH:=shN zg.te [] [] [(0,3,0,0),(1,51,0,0),(2,115,0,0),(3,59,0,0),(4,187,0,0),(5,4,0,0),(6,51,0,0),(7,4,0,0)]
def zg.hl:SH:=shN zg.te [] [] [(2,51,0,0)]
def zg.L2 (F:Nat) (R:Type) (K:KK R) (n:Nat) (x:((List (LTr zb.T))×(Nat×(LTr zb.T))×Int×Int×Unit)×(Unit)×(Unit)):Option R :=
 zg.l2 F (fun r4=>K .ret (yU (zg.h 5) ((r4,()),(),()))) (fun s f t7 t8 t9=>K (.exit 0) (yU (zg.h 2) ((s,f,t7,t8,t9,()),(),()))) n x.1.1 x.1.2.1 x.1.2.2.1 x.1.2.2.2.1
def zg.X (m:Int) (F:Nat):FX TI (G m) Sg:={hn:={DS:=fun d=>lk none d [(16,some zg.ds16)],na:=2},ld:=[⟨16,zg.d16 F⟩],N:=19,H:=zg.h,HL:=zg.hl,L:=mkL zg.hl [⟨2,fun x R K=>zg.L2 F R K F x⟩]}
theorem zg.ok (m:Int) (F:Nat):OKP m 156 zg.sg (zg.sp F) :=
 okp (zg.X m F) Go.Proofs.Tryz.func156 trivial ⟨Zo ⟨⟨95,by kernel_rfl,yg.ok m F⟩,trivial⟩,trivial⟩ 1 0 (yA (FX.loopk 2 F (zg.L2 F)) zx) zx
def zT.te:TEs:=[(0,.b (.tr zb)),(1,.cl (.tr zb)),(4,kB)]
def zT.h:SH:=shN zT.te [] [] [(0,3,0,0),(1,4,0,0)]
def zT.X (m:Int) (F:Nat):FX TI (G m) Sg:={hn:={na:=2},lv:=[⟨156,zg.sp F⟩],N:=9,H:=zT.h}
theorem zT.ok (m:Int) (F:Nat):OKP m 94 zT.sg (zT.sp F) :=
 okp (zT.X m F) Go.Proofs.Tryz.func94 ⟨zg.ok m F,trivial⟩ trivial 0 0 zx zx
def zf.te:TEs:=[(1,.c (.tr zb)),(4,.c (.tr zb)),(5,.c (.sl (.tr zb))),(5,.ow 5),kL 7,(7,.p (.tr zb)),kL 8,(22,kB),(26,.c (.sl (.tr zb))),(27,kI),(28,kI),(29,kB),(35,kB),(48,kB),(51,kB)]
def zf.tb:TEs:=[(7,.c (.tr zb)),(8,.g zb)]
def zf.tp:List ue:=[⟨5,.env 5,(.tr zb)⟩]
def zf.h:SH:=shN zf.te zf.tb zf.tp [(0,1,0,0),(1,129,0,0),(2,2,0,0),(3,9,0,1),(4,1801,0,1),(5,3849,0,1),(6,1817,1,1),(7,5929,0,1),(8,1801,0,1),(9,1801,0,1),(10,8197,0,0),(11,2,0,0),(12,16389,0,0),(13,2,0,0),(14,68,2,0),(15,68,2,0),(16,2,0,0)]
def zf.hl:SH:=shN zf.te zf.tb zf.tp [(5,1801,0,1)]
def zf.hj:Nat->Option Shape:=shO zf.te zf.tb zf.tp [(3,1,0,0),(10,5,0,0)]
def zf.L5 (F:Nat) (R:Type) (K:KK R) (n:Nat) (x:((LTr zb.T)×Unit×(List (LTr zb.T))×Int×Int×Unit)×(Unit)×((List (LTr zb.T))×Unit)):Option R :=
 zf.l5 F (fun x t26 t27 t28 t29 kids=>K (.exit 0) (yU (zf.h 5) ((x,(),t26,t27,t28,t29,()),(),(kids,())))) n x.1.1 x.1.2.2.1 x.1.2.2.2.1 x.1.2.2.2.2.1 x.2.2.1
def zf.J10 (F:Nat) (x:((LTr zb.T)×(List (LTr zb.T))×Unit)×(Unit)×(Unit)) (R:Type) (K:KK R):Option R :=
 zf.j10 F (fun r4=>K .ret (yU (zf.h 11) ((r4,()),(),()))) (fun r4=>K .ret (yU (zf.h 13) ((r4,()),(),()))) (fun r4=>K .ret (yU (zf.h 16) ((r4,()),(),()))) x.1.1 x.1.2.1
def zf.J3 (F:Nat) (x:((LTr zb.T)×Unit)×(Unit)×(Unit)) (R:Type) (K:KK R):Option R :=
 zf.j3 F (fun r4=>K .ret (yU (zf.h 11) ((r4,()),(),()))) (fun r4=>K .ret (yU (zf.h 13) ((r4,()),(),()))) (fun r4=>K .ret (yU (zf.h 16) ((r4,()),(),()))) x.1.1
def zf.X (m:Int) (F:Nat):FX TI (G m) Sg:={hn:={MU:=fun s=>lk false s [(39,true)],CT:=fun d=>lk .unit d [(33,(.tr zb))],na:=2,fzJ:=fun r=>lk [] r [(10,[5])],BT:=fun s=>lk none s [(65,some zb)]},lv:=[⟨94,zT.sp F⟩],N:=66,H:=zf.h,HL:=zf.hl,HJ:=zf.hj,L:=mkL zf.hl [⟨5,fun x R K=>zf.L5 F R K F x⟩],J:=mkJ zf.hj [⟨10,zf.J10 F⟩,⟨3,zf.J3 F⟩]}
theorem zf.ok (m:Int) (F:Nat):OKP m 53 zf.sg (zf.sp F) :=
 okp (zf.X m F) Go.Proofs.Tryz.func53 ⟨zT.ok m F,trivial⟩ trivial 1 2 (yA (FX.loopk 5 F (zf.L5 F)) zx) (yA (FX.cutk 10) (yA (FX.cutk 3) zx))
def za.te:TEs:=[(1,.c (.tr zb)),kL 2,(4,.c (.tr zb)),(5,.c (.sl (.tr zb))),(5,.ow 5),(6,kI),(7,.c (.tr zb)),(9,.c (.bnd zd)),(10,.c (.tr zb)),(20,.c (.sl (.tr zb))),(21,kI),(22,kI),(23,kB),(55,.c (.sl (.bnd zd))),(56,kI),(57,kI),(58,kB),(65,kB)]
def za.tb:TEs:=[(2,.g zd)]
def za.tp:List ue:=[⟨5,.env 5,(.tr zb)⟩]
def za.h:SH:=shN za.te za.tb za.tp [(0,3,1,0),(1,19,1,1),(2,3603,1,1),(3,7699,1,1),(4,3699,1,1),(5,3603,1,1),(6,3603,1,1),(7,3,1,0),(8,57347,1,0),(9,122883,1,0),(10,57475,1,0),(11,57603,1,0),(12,188675,1,0),(13,4,0,0),(14,57347,1,0),(15,4,0,0)]
def za.hl:SH:=shN za.te za.tb za.tp [(3,3603,1,1),(9,57347,1,0)]
def za.hj:Nat->Option Shape:=shO za.te za.tb za.tp [(7,11,1,0)]
def za.L3 (mz:Nat) (F:Nat) (R:Type) (K:KK R) (n:Nat) (x:((LTr zb.T)×Unit×Unit×(List (LTr zb.T))×Int×Int×Unit)×(zd.T×Unit)×((List (LTr zb.T))×Unit)):Option R :=
 za.l3 (za.it F mz) F (fun x t20 t21 t22 t23 f kids=>K (.exit 0) (yU (za.h 3) ((x,(),(),t20,t21,t22,t23,()),(f,()),(kids,())))) n x.1.1 x.1.2.2.2.1 x.1.2.2.2.2.1 x.1.2.2.2.2.2.1 x.2.1.1 x.2.2.1
def za.L9 (mz:Nat) (F:Nat) (R:Type) (K:KK R) (n:Nat) (x:((LTr zb.T)×Unit×(List (Nat×zd.T))×Int×Int×Unit)×(zd.T×Unit)×(Unit)):Option R :=
 za.l9 (za.it F mz) F (fun r4=>K .ret (yU (za.h 13) ((r4,()),(),()))) (fun x t55 t56 t57 t58 f=>K (.exit 2) (yU (za.h 9) ((x,(),t55,t56,t57,t58,()),(f,()),()))) n x.1.1 x.1.2.2.1 x.1.2.2.2.1 x.1.2.2.2.2.1 x.2.1.1
def za.J7 (mz:Nat) (F:Nat) (x:((LTr zb.T)×Unit×(List (LTr zb.T))×Unit)×(zd.T×Unit)×(Unit)) (R:Type) (K:KK R):Option R :=
 za.j7 (za.it F mz) F (fun r4=>K .ret (yU (za.h 13) ((r4,()),(),()))) (fun r4=>K .ret (yU (za.h 15) ((r4,()),(),()))) x.1.1 x.1.2.2.1 x.2.1.1
def za.X (m:Int) (mz:Nat) (F:Nat):FX TI (G m) Sg:={hn:={MU:=fun s=>lk false s [(16,true)],DS:=fun d=>lk none d [(63,some za.ds63)],CT:=fun d=>lk .unit d [(42,zd),(44,zd),(46,zd),(48,zd),(50,zd),(52,zd),(54,zd)],na:=2,fzJ:=fun r=>lk [] r [(7,[5])],BT:=fun s=>lk none s [(40,some zb)]},lv:=[⟨19,za.itp F mz⟩],ld:=[⟨63,za.d63 (za.it F mz) F⟩],N:=71,H:=za.h,HL:=za.hl,HJ:=za.hj,L:=mkL za.hl [⟨3,fun x R K=>za.L3 mz F R K F x⟩,⟨9,fun x R K=>za.L9 mz F R K F x⟩],J:=mkJ za.hj [⟨7,za.J7 mz F⟩]}
theorem za.ok1 (m:Int) (F mz:Nat) (hme:OKP m 19 za.sg (za.itp F mz)):OKP m 19 za.sg (za.itp F (mz+1)) :=
 okp (za.X m mz F) Go.Proofs.Tryz.func19 ⟨hme,trivial⟩ ⟨Zo ⟨⟨52,by kernel_rfl,yi.ok m F⟩,⟨49,by kernel_rfl,zC.ok m F⟩,⟨50,by kernel_rfl,yK.ok m F⟩,⟨54,by kernel_rfl,yo.ok m F⟩,⟨51,by kernel_rfl,yJ.ok m F⟩,⟨55,by kernel_rfl,yB.ok m F⟩,⟨53,by kernel_rfl,zf.ok m F⟩,trivial⟩,trivial⟩ 2 1 (yA (FX.loopk 9 F (za.L9 mz F)) (yA (FX.loopk 3 F (za.L3 mz F)) zx)) (yA (FX.cutk 7) zx)
theorem za.ok (m:Int) (F:Nat):OKP m 19 za.sg (za.sp F):=WB (it:=za.itp F) (fun _=>rfl) (fun n h=>za.ok1 m F n h) F
theorem xa.lay:Go.Proofs.SlLaysE0.n41 Go.Proofs.Tryz.prog ⟨fun | 41=>21 | n=>n,fun | 22=>22 | 23=>38 | 4=>4 | n=>n,fun n=>n⟩:={mixed:=mixed,f41:=⟨Go.Proofs.Tryz.f21.name,by decide,Go.Proofs.Tryz.func21.trans (congrArg some (by kernel_rfl))⟩,t4:=Go.Proofs.Tryz.underlying4,a4:=Go.Proofs.Tryz.isAgg4,z4:=Go.Proofs.Tryz.sizeOf4,v4:=Go.Proofs.Tryz.zeroValue4,t22:=Go.Proofs.Tryz.underlying22,a22:=Go.Proofs.Tryz.isAgg22,z22:=Go.Proofs.Tryz.sizeOf22,v22:=Go.Proofs.Tryz.zeroValue22}
theorem xa.ok (m:Int) (F:Nat):OK Go.Proofs.Tryz.prog (G m) 21 xa.sg (xa.sp F):=Xh rfl Go.Proofs.Tryz.func21 (by kernel_rfl) (tsOK 22) (by kernel_rfl) xa.lay rfl rfl
theorem yI.lay:Go.Proofs.SlLaysE0.n41 Go.Proofs.Tryz.prog ⟨fun | 41=>58 | n=>n,fun | 22=>51 | 23=>75 | 4=>4 | n=>n,fun n=>n⟩:={mixed:=mixed,f41:=⟨Go.Proofs.Tryz.f58.name,by decide,Go.Proofs.Tryz.func58.trans (congrArg some (by kernel_rfl))⟩,t4:=Go.Proofs.Tryz.underlying4,a4:=Go.Proofs.Tryz.isAgg4,z4:=Go.Proofs.Tryz.sizeOf4,v4:=Go.Proofs.Tryz.zeroValue4,t22:=Go.Proofs.Tryz.underlying51,a22:=Go.Proofs.Tryz.isAgg51,z22:=Go.Proofs.Tryz.sizeOf51,v22:=Go.Proofs.Tryz.zeroValue51}
theorem yI.ok (m:Int) (F:Nat):OK Go.Proofs.Tryz.prog (G m) 58 yI.sg (yI.sp F):=Xh rfl Go.Proofs.Tryz.func58 (by kernel_rfl) (tsOK 51) (by kernel_rfl) yI.lay rfl rfl
def zn.te:TEs:=[(0,.c (.tr zb)),(1,.ow 1),(4,.ow 4),(6,.c (.tr zb)),kL 7,(11,.c (.sl (.tr zb))),(12,kI),(13,kI),(14,kB)]
def zn.tb:TEs:=[(7,.g zb)]
def zn.tp:List ue:=[⟨1,.env 1,zb⟩,⟨4,.env 4,zb⟩]
def zn.h:SH:=shN zn.te zn.tb zn.tp [(0,3,0,1),(1,227,0,1),(2,483,0,1),(3,235,0,1),(4,227,0,1),(5,227,0,1),(6,18,1,1),(7,18,1,1),(8,4,0,2)]
def zn.hl:SH:=shN zn.te zn.tb zn.tp [(2,227,0,1)]
def zn.L2 (mz:Nat) (F:Nat) (R:Type) (K:KK R) (n:Nat) (x:((LTr zb.T)×Unit×(List (LTr zb.T))×Int×Int×Unit)×(Unit)×((List zb.T)×Unit)):Option R :=
 zn.l2 (zn.it F mz) F (fun x t11 t12 t13 t14 l=>K (.exit 0) (yU (zn.h 2) ((x,(),t11,t12,t13,t14,()),(),(l,())))) n x.1.1 x.1.2.2.1 x.1.2.2.2.1 x.1.2.2.2.2.1 x.2.2.1
def zn.X (m:Int) (mz:Nat) (F:Nat):FX TI (G m) Sg:={hn:={MU:=fun s=>lk false s [(1,true),(19,true)],na:=2},lv:=[⟨22,zn.itp F mz⟩,⟨58,yI.sp F⟩],N:=33,H:=zn.h,HL:=zn.hl,L:=mkL zn.hl [⟨2,fun x R K=>zn.L2 mz F R K F x⟩]}
theorem zn.ok1 (m:Int) (F mz:Nat) (hme:OKP m 22 zn.sg (zn.itp F mz)):OKP m 22 zn.sg (zn.itp F (mz+1)) :=
 okp (zn.X m mz F) Go.Proofs.Tryz.func22 ⟨hme,yI.ok m F,trivial⟩ trivial 1 0 (yA (FX.loopk 2 F (zn.L2 mz F)) zx) zx
theorem zn.ok (m:Int) (F:Nat):OKP m 22 zn.sg (zn.sp F):=WB (it:=zn.itp F) (fun _=>rfl) (fun n h=>zn.ok1 m F n h) F
def xk.te:TEs:=[kL 1,kL 2,(3,kI),kL 4,(6,kI),(7,.c (.tr zb)),(15,kB)]
def xk.tb:TEs:=[(1,.g zL),(2,.g zL),(4,.g zd)]
def xk.h:SH:=shN xk.te xk.tb [] [(0,3,3,0),(1,27,7,0),(2,91,7,0),(3,6,2,0),(4,35,3,0),(5,6,2,0)]
def xk.X (m:Int) (F:Nat):FX TI (G m) Sg:={hn:={na:=1,fz:=fun r=>lk [] r [(5,[101280])]},lv:=[⟨18,yX.sp F⟩,⟨20,zH.sp F⟩,⟨19,za.sp F⟩,⟨21,xa.sp F⟩,⟨22,zn.sp F⟩],N:=34,H:=xk.h}
theorem xk.ok (m:Int) (F:Nat):OKP m 8 xk.sg (xk.sp F) :=
 okp (xk.X m F) Go.Proofs.Tryz.func8 ⟨yX.ok m F,zH.ok m F,za.ok m F,xa.ok m F,zn.ok m F,trivial⟩ trivial 0 0 zx zx
def zI.te:TEs:=[kL 2,kL 3,(4,kB),(5,kI),(40,kB),(45,kB),(58,kB)]
def zI.tb:TEs:=[(2,.g zb),(3,.g zb)]
def zI.h:SH:=shN zI.te zI.tb [] [(0,3,3,0),(1,19,3,0),(2,4,0,0),(3,11,3,0),(4,43,3,0),(5,11,3,0),(6,75,3,0),(7,4,0,0),(8,4,0,0)]
def zI.hl:SH:=shN zI.te zI.tb [] [(4,11,3,0)]
def zI.L4 (F:Nat) (R:Type) (K:KK R) (n:Nat) (x:(Unit×Unit×Int×Unit)×(zb.T×zb.T×Unit)×(Unit)):Option R :=
 zI.l4 F (fun r4=>K .ret (yU (zI.h 7) ((r4,()),(),()))) (fun i t45 a b=>K (.exit 0) (yU (zI.h 4) (((),(),i,t45,()),(a,b,()),()))) n x.1.2.2.1 x.2.1.1 x.2.1.2.1
def zI.X (m:Int) (F:Nat):FX TI (G m) Sg:={hn:={na:=2},N:=59,H:=zI.h,HL:=zI.hl,L:=mkL zI.hl [⟨4,fun x R K=>zI.L4 F R K F x⟩]}
theorem zI.ok (m:Int) (F:Nat):OKP m 47 zI.sg (zI.sp F) :=
 okp (zI.X m F) Go.Proofs.Tryz.func47 trivial trivial 1 0 (yA (FX.loopk 4 F (zI.L4 F)) zx) zx
def zw.te:TEs:=[kL 2,kL 3,(4,kB),(5,kI),(6,kI),(36,kB),(41,kB),(54,kB),(59,kB),(73,kB)]
def zw.tb:TEs:=[(2,.g zL),(3,.g zL)]
def zw.h:SH:=shN zw.te zw.tb [] [(0,3,3,0),(1,35,3,0),(2,4,0,0),(3,11,3,0),(4,75,3,0),(5,11,3,0),(6,139,3,0),(7,4,0,0),(8,19,3,0),(9,275,3,0),(10,19,3,0),(11,531,3,0),(12,4,0,0),(13,4,0,0)]
def zw.hl:SH:=shN zw.te zw.tb [] [(4,11,3,0),(9,19,3,0)]
def zw.L4 (F:Nat) (R:Type) (K:KK R) (n:Nat) (x:(Unit×Unit×Int×Unit)×(zL.T×zL.T×Unit)×(Unit)):Option R :=
 zw.l4 F (fun r4=>K .ret (yU (zw.h 7) ((r4,()),(),()))) (fun i t41 p q=>K (.exit 0) (yU (zw.h 4) (((),(),i,t41,()),(p,q,()),()))) n x.1.2.2.1 x.2.1.1 x.2.1.2.1
def zw.L9 (F:Nat) (R:Type) (K:KK R) (n:Nat) (x:(Unit×Unit×Int×Unit)×(zL.T×zL.T×Unit)×(Unit)):Option R :=
 zw.l9 F (fun r4=>K .ret (yU (zw.h 12) ((r4,()),(),()))) (fun i t59 p q=>K (.exit 2) (yU (zw.h 9) (((),(),i,t59,()),(p,q,()),()))) n x.1.2.2.1 x.2.1.1 x.2.1.2.1
def zw.X (m:Int) (F:Nat):FX TI (G m) Sg:={hn:={na:=2},lv:=[⟨47,zI.sp F⟩],N:=74,H:=zw.h,HL:=zw.hl,L:=mkL zw.hl [⟨4,fun x R K=>zw.L4 F R K F x⟩,⟨9,fun x R K=>zw.L9 F R K F x⟩]}
theorem zw.ok (m:Int) (F:Nat):OKP m 17 zw.sg (zw.sp F) :=
 okp (zw.X m F) Go.Proofs.Tryz.func17 ⟨zI.ok m F,trivial⟩ trivial 2 0 (yA (FX.loopk 9 F (zw.L9 F)) (yA (FX.loopk 4 F (zw.L4 F)) zx)) zx
def yx.te:TEs:=[(0,kB),kL 1,kL 2,(3,kI),(5,kI)]
def yx.tb:TEs:=[(1,.g zL),(2,.g zL)]
def yx.h:SH:=shN yx.te yx.tb [] [(1,2,1,0),(2,14,3,0),(3,14,3,0),(4,30,3,0),(5,1,0,0)]
def yx.X (m:Int) (F:Nat):FX TI (G m) Sg:={hn:={na:=0},lv:=[⟨8,xk.sp F⟩,⟨17,zw.sp F⟩],N:=38,H:=yx.h}
theorem yx.ok (m:Int) (F:Nat):OKP m 7 yx.sg (yx.sp F) :=
 okp (yx.X m F) Go.Proofs.Tryz.func7 ⟨xk.ok m F,zw.ok m F,trivial⟩ trivial 0 0 zx zx
def ym.te:TEs:=[kL 1,(2,kI),(4,kI),(5,kB),(10,kB),(14,kB),(19,kB)]
def ym.tb:TEs:=[(1,.g zb)]
def ym.h:SH:=shN ym.te ym.tb [] [(0,1,1,0),(1,5,1,0),(2,13,1,0),(3,13,1,0),(4,13,1,0),(5,13,1,0),(6,2,0,0),(7,21,1,0),(8,21,1,0),(9,21,1,0),(10,2,0,0),(11,37,1,0),(12,37,1,0),(13,2,0,0),(14,64,0,0),(15,2,0,0),(16,2,0,0)]
def ym.hj:Nat->Option Shape:=shO ym.te ym.tb [] [(6,13,1,0),(10,21,1,0)]
def ym.J10 (F:Nat) (x:(Unit×Int×Bool×Unit)×(zb.T×Unit)×(Unit)) (R:Type) (K:KK R):Option R :=
 ym.j10 F (fun r2=>K .ret (yU (ym.h 10) ((r2,()),(),()))) (fun r2=>K .ret (yU (ym.h 13) ((r2,()),(),()))) (fun r2=>K .ret (yU (ym.h 15) ((r2,()),(),()))) (fun t19=>K .normal (yU (ym.h 14) ((t19,()),(),()))) x.1.2.1 x.1.2.2.1 x.2.1.1
def ym.J6 (F:Nat) (x:(Unit×Int×Bool×Unit)×(zb.T×Unit)×(Unit)) (R:Type) (K:KK R):Option R :=
 ym.j6 F (fun r2=>K .ret (yU (ym.h 6) ((r2,()),(),()))) (fun r2=>K .ret (yU (ym.h 10) ((r2,()),(),()))) (fun r2=>K .ret (yU (ym.h 13) ((r2,()),(),()))) (fun r2=>K .ret (yU (ym.h 15) ((r2,()),(),()))) (fun t19=>K .normal (yU (ym.h 14) ((t19,()),(),()))) x.1.2.1 x.1.2.2.1 x.2.1.1
def ym.X (m:Int) (F:Nat):FX TI (G m) Sg:={hn:={na:=1},N:=21,H:=ym.h,HJ:=ym.hj,J:=mkJ ym.hj [⟨10,ym.J10 F⟩,⟨6,ym.J6 F⟩]}
theorem ym.ok (m:Int) (F:Nat):OKP m 83 ym.sg (ym.sp F) :=
 okp (ym.X m F) Go.Proofs.Tryz.func83 trivial trivial 0 2 zx (yA (FX.cutk 10) (yA (FX.cutk 6) zx))
def xM.te:TEs:=[kL 2,kL 3,kL 4,kL 5]
def xM.tb:TEs:=[(2,.g zd),(3,.g zd),(4,.g zd),(5,.g zd)]
def xM.h:SH:=shN xM.te xM.tb [] [(0,7,7,0),(1,12,12,0),(2,4,4,0)]
def xM.X (m:Int) (F:Nat):FX TI (G m) Sg:={hn:={na:=2},lv:=[⟨81,xz.sp F⟩],N:=14,H:=xM.h}
theorem xM.ok (m:Int) (F:Nat):OKP m 135 xM.sg (xM.sp F) :=
 okp (xM.X m F) Go.Proofs.Tryz.func135 ⟨xz.ok m F,trivial⟩ trivial 0 0 zx zx
def xN.te:TEs:=[kL 2,kL 3,kL 4,kL 5]
def xN.tb:TEs:=[(2,.g zd),(3,.g zd),(4,.g zd),(5,.g zd)]
def xN.h:SH:=shN xN.te xN.tb [] [(0,7,7,0),(1,12,12,0),(2,4,4,0)]
def xN.X (m:Int) (F:Nat):FX TI (G m) Sg:={hn:={na:=2},lv:=[⟨82,xA.sp F⟩],N:=14,H:=xN.h}
theorem xN.ok (m:Int) (F:Nat):OKP m 136 xN.sg (xN.sp F) :=
 okp (xN.X m F) Go.Proofs.Tryz.func136 ⟨xA.ok m F,trivial⟩ trivial 0 0 zx zx
def xi.te:TEs:=[kL 2,kL 3,kL 4,kL 5]
def xi.tb:TEs:=[(2,.g zd),(3,.g zd),(4,.g zd),(5,.g zd)]
def xi.h:SH:=shN xi.te xi.tb [] [(0,7,7,0),(1,12,12,0),(2,4,4,0)]
def xi.X (m:Int) (F:Nat):FX TI (G m) Sg:={hn:={na:=2},lv:=[⟨16,yf.sp F⟩],N:=14,H:=xi.h}
theorem xi.ok (m:Int) (F:Nat):OKP m 137 xi.sg (xi.sp F) :=
 okp (xi.X m F) Go.Proofs.Tryz.func137 ⟨yf.ok m F,trivial⟩ trivial 0 0 zx zx
def yu.te:TEs:=[(1,.b zN),kL 2,(4,kI),(5,kI),(22,kB)]
def yu.tb:TEs:=[(2,.g zd)]
def yu.h:SH:=shN yu.te yu.tb [] [(0,3,1,0),(1,11,1,0),(2,27,1,0),(3,11,1,0),(4,4,0,0)]
def yu.hl:SH:=shN yu.te yu.tb [] [(2,11,1,0)]
def yu.L2 (F:Nat) (R:Type) (K:KK R) (n:Nat) (x:((List zN.T)×Unit×Int×Unit)×(zd.T×Unit)×(Unit)):Option R :=
 yu.l2 F (fun tiers k t22 x=>K (.exit 0) (yU (yu.h 2) ((tiers,(),k,t22,()),(x,()),()))) n x.1.1 x.1.2.2.1 x.2.1.1
def yu.X (m:Int) (F:Nat):FX TI (G m) Sg:={hn:={na:=2},lv:=[⟨38,zR.sp F⟩,⟨129,xp.sp F⟩],N:=26,H:=yu.h,HL:=yu.hl,L:=mkL yu.hl [⟨2,fun x R K=>yu.L2 F R K F x⟩]}
theorem yu.ok (m:Int) (F:Nat):OKP m 178 yu.sg (yu.sp F) :=
 okp (yu.X m F) Go.Proofs.Tryz.func178 ⟨zR.ok m F,xp.ok m F,trivial⟩ trivial 1 0 (yA (FX.loopk 2 F (yu.L2 F)) zx) zx
def zG.te:TEs:=[(1,.b zN),kL 2,kL 4,kL 5,(6,kI),(7,kI),(14,kB),(40,kB)]
def zG.tb:TEs:=[(2,.g zd),(4,.g zd),(5,.g zd)]
def zG.h:SH:=shN zG.te zG.tb [] [(0,7,3,0),(1,31,7,0),(2,63,7,0),(3,127,7,0),(4,63,7,0),(5,63,7,0),(6,159,7,0),(7,12,6,0),(8,4,2,0)]
def zG.hl:SH:=shN zG.te zG.tb [] [(3,63,7,0)]
def zG.L3 (F:Nat) (R:Type) (K:KK R) (n:Nat) (x:((List zN.T)×Unit×Unit×Unit×Int×Int×Unit)×(zd.T×zd.T×zd.T×Unit)×(Unit)):Option R :=
 zG.l3 F (fun tiers k i t14 x r4 sum=>K (.exit 0) (yU (zG.h 3) ((tiers,(),(),(),k,i,t14,()),(x,r4,sum,()),()))) n x.1.1 x.1.2.2.2.2.1 x.1.2.2.2.2.2.1 x.2.1.1 x.2.1.2.1 x.2.1.2.2.1
def zG.X (m:Int) (F:Nat):FX TI (G m) Sg:={hn:={na:=2},lv:=[⟨178,yu.sp F⟩,⟨38,zR.sp F⟩,⟨137,xi.sp F⟩,⟨136,xN.sp F⟩,⟨135,xM.sp F⟩],N:=59,H:=zG.h,HL:=zG.hl,L:=mkL zG.hl [⟨3,fun x R K=>zG.L3 F R K F x⟩]}
theorem zG.ok (m:Int) (F:Nat):OKP m 140 zG.sg (zG.sp F) :=
 okp (zG.X m F) Go.Proofs.Tryz.func140 ⟨yu.ok m F,zR.ok m F,xi.ok m F,xN.ok m F,xM.ok m F,trivial⟩ trivial 1 0 (yA (FX.loopk 3 F (zG.L3 F)) zx) zx
def xv.te:TEs:=[(1,.b zN),kL 2,kL 4,(5,kI),(10,kB)]
def xv.tb:TEs:=[(2,.g zd),(4,.g zd)]
def xv.h:SH:=shN xv.te xv.tb [] [(0,7,3,0),(1,15,3,0),(2,31,3,0),(3,4,2,0),(4,4,2,0)]
def xv.X (m:Int) (F:Nat):FX TI (G m) Sg:={hn:={na:=2},lv:=[⟨178,yu.sp F⟩,⟨38,zR.sp F⟩,⟨137,xi.sp F⟩],N:=20,H:=xv.h}
theorem xv.ok (m:Int) (F:Nat):OKP m 141 xv.sg (xv.sp F) :=
 okp (xv.X m F) Go.Proofs.Tryz.func141 ⟨yu.ok m F,zR.ok m F,xi.ok m F,trivial⟩ trivial 0 0 zx zx
def xK.te:TEs:=[(2,kI),kL 3,kL 4,(6,kB),(7,kI),(11,kI),(12,kB),(16,kB),(20,kB),(24,kB),(28,kB)]
def xK.tb:TEs:=[(3,.g zd),(4,.g zd)]
def xK.h:SH:=shN xK.te xK.tb [] [(0,7,3,0),(1,17,0,0),(2,48,0,0),(3,112,0,0),(4,8,0,0),(5,176,0,0),(6,8,0,0),(7,304,0,0),(8,8,0,0),(9,560,0,0),(10,8,0,0),(11,1040,0,0),(12,8,0,0),(13,8,0,0)]
def xK.X (m:Int) (F:Nat):FX TI (G m) Sg:={hn:={na:=3},lv:=[⟨129,xp.sp F⟩],N:=34,H:=xK.h}
theorem xK.ok (m:Int) (F:Nat):OKP m 142 xK.sg (xK.sp F) :=
 okp (xK.X m F) Go.Proofs.Tryz.func142 ⟨xp.ok m F,trivial⟩ trivial 0 0 zx zx
def yM.te:TEs:=[(2,.b zd),kL 3,kL 4,kL 6,kL 7,kL 8,kL 9,(18,kI),(19,kB),(24,kB),(31,kB),(38,kB),(45,kB),(49,kB),(53,kB),(61,kB),(67,kB),(75,kB),(83,kB),(101,kB)]
def yM.tb:TEs:=[(3,.g zb),(4,.g zd),(6,.g zd),(7,.g zd),(8,.g zd),(9,.g zd)]
def yM.h:SH:=shN yM.te yM.tb [] [(0,15,7,0),(1,63,31,0),(2,191,31,0),(3,447,31,0),(4,8,4,0),(5,703,31,0),(6,8,4,0),(7,1215,31,0),(8,8,4,0),(9,2239,31,0),(10,8,4,0),(11,4287,31,0),(12,8,4,0),(13,8383,31,0),(14,8,4,0),(15,16575,31,0),(16,8,4,0),(17,32959,31,0),(18,8,4,0),(19,65727,31,0),(20,8,4,0),(21,131263,31,0),(22,8,4,0),(23,262203,29,0),(24,72,36,0),(25,8,4,0),(26,524297,4,0),(27,8,4,0),(28,8,4,0)]
def yM.X (m:Int) (F:Nat):FX TI (G m) Sg:={hn:={na:=3},lv:=[⟨38,zR.sp F⟩,⟨135,xM.sp F⟩,⟨136,xN.sp F⟩,⟨137,xi.sp F⟩,⟨138,zi.sp F⟩,⟨139,zj.sp F⟩,⟨140,zG.sp F⟩,⟨141,xv.sp F⟩,⟨39,y9.sp F⟩,⟨142,xK.sp F⟩],N:=108,H:=yM.h}
theorem yM.ok (m:Int) (F:Nat):OKP m 84 yM.sg (yM.sp F) :=
 okp (yM.X m F) Go.Proofs.Tryz.func84 ⟨zR.ok m F,xM.ok m F,xN.ok m F,xi.ok m F,zi.ok m F,zj.ok m F,zG.ok m F,xv.ok m F,y9.ok m F,xK.ok m F,trivial⟩ trivial 0 0 zx zx
end Go.VS
