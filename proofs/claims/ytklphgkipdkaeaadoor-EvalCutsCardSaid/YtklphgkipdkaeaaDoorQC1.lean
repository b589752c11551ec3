import Derived.Test.YtklphgkipdkaeaaDoorQT
set_option linter.unusedVariables false
set_option linter.unusedSimpArgs false
set_option linter.unusedSectionVars false
set_option linter.unusedVariables false
set_option maxRecDepth 100000
namespace Go.VS
open Go
def zR.te:TEs:=[(0,.c (.sl zm)),kL 2]
def zR.tb:TEs:=[(2,.go ya [(1,3001),(3,3003)]),(2,.go ya [(1,3001)])]
def zR.tp:List ve:=[⟨3001,.cell 2 1,yK⟩,⟨3003,.cell 2 3,zm⟩]
def zR.h:SH:=shN zR.te zR.tb zR.tp [(0,3,1,3),(1,2,2,1)]
def zR.X (m:Int) (F:Nat):FX TI (G m) Sg:={hn:={MU:=fun s=>lk false s [(4,true)],na:=1},N:=7,H:=zR.h}
theorem zR.ok (m:Int) (F:Nat):OKP m 5 zR.sg (zR.sp F) :=
 okp (zR.X m F) Go.Proofs.Tryd.func5 trivial trivial 0 0 zv zv
def yq.te:TEs:=[(0,.c (.int .u8)),(2,kB)]
def yq.h:SH:=shN yq.te [] [] [(0,1,0,0),(1,2,0,0)]
def yq.X (m:Int) (F:Nat):FX TI (G m) Sg:={hn:={na:=1},N:=9,H:=yq.h}
theorem yq.ok (m:Int) (F:Nat):OKP m 81 yq.sg (yq.sp F) :=
 okp (yq.X m F) Go.Proofs.Tryd.func81 trivial trivial 0 0 zv zv
def xc.te:TEs:=[(0,.c (.int .u8)),(2,kB)]
def xc.h:SH:=shN xc.te [] [] [(0,1,0,0),(1,2,0,0)]
def xc.X (m:Int) (F:Nat):FX TI (G m) Sg:={hn:={na:=1},N:=9,H:=xc.h}
theorem xc.ok (m:Int) (F:Nat):OKP m 87 xc.sg (xc.sp F) :=
 okp (xc.X m F) Go.Proofs.Tryd.func87 trivial trivial 0 0 zv zv
def yX.te:TEs:=[(0,.c (.int .u8)),(2,kB)]
def yX.h:SH:=shN yX.te [] [] [(0,1,0,0),(1,2,0,0)]
def yX.X (m:Int) (F:Nat):FX TI (G m) Sg:={hn:={na:=1},lv:=[⟨81,yq.sp F⟩,⟨87,xc.sp F⟩],N:=13,H:=yX.h}
theorem yX.ok (m:Int) (F:Nat):OKP m 83 yX.sg (yX.sp F) :=
 okp (yX.X m F) Go.Proofs.Tryd.func83 ⟨yq.ok m F,xc.ok m F,trivial⟩ trivial 0 0 zv zv
def zS.te:TEs:=[(0,.c .str),(1,.c .fn),(4,kI),(5,kI),(16,kB)]
def zS.h:SH:=shN zS.te [] [] [(0,3,0,0),(1,11,0,0),(2,27,0,0),(3,11,0,0),(4,4,0,0)]
def zS.hl:SH:=shN zS.te [] [] [(2,11,0,0)]
def zS.L2 (F:Nat) (R:Type) (K:KK R) (n:Nat) (x:(ByteArray×Nat×Int×Unit)×(Unit)×(Unit)):Option R :=
 zS.l2 F (fun s of n t16=>K (.exit 0) (yQ (zS.h 2) ((s,of,n,t16,()),(),()))) n x.1.1 x.1.2.1 x.1.2.2.1
def zS.X (m:Int) (F:Nat):FX TI (G m) Sg:={hn:={DS:=fun d=>lk none d [(15,some zS.ds15)],na:=2},ld:=[⟨15,zS.d15 F⟩],N:=20,H:=zS.h,HL:=zS.hl,L:=mkL zS.hl [⟨2,fun x R K=>zS.L2 F R K F x⟩]}
theorem zS.ok (m:Int) (F:Nat):OKP m 82 zS.sg (zS.sp F) :=
 okp (zS.X m F) Go.Proofs.Tryd.func82 trivial ⟨Yn ⟨⟨83,by kernel_rfl,yX.ok m F⟩,⟨81,by kernel_rfl,yq.ok m F⟩,trivial⟩,trivial⟩ 1 0 (yI (FX.loopk 2 F (zS.L2 F)) zv) zv
theorem yn.ok (m:Int) (F:Nat):OK Go.Proofs.Tryd.prog (G m) 88 yn.sg (yn.sp F):=yn.ok' F Go.Proofs.Tryd.func88 (by kernel_rfl) (g:=3) (by kernel_rfl) (fun s sub w h1 h2=>Go.Proofs.Tryd.strings_Contains s sub m w h1 h2)
def xp.te:TEs:=[(0,.c .str),(2,kB)]
def xp.h:SH:=shN xp.te [] [] [(0,1,0,0),(1,2,0,0)]
def xp.X (m:Int) (F:Nat):FX TI (G m) Sg:={hn:={na:=1},lv:=[⟨82,zS.sp F⟩,⟨88,yn.sp F⟩],N:=18,H:=xp.h}
theorem xp.ok (m:Int) (F:Nat):OKP m 84 xp.sg (xp.sp F) :=
 okp (xp.X m F) Go.Proofs.Tryd.func84 ⟨zS.ok m F,yn.ok m F,trivial⟩ trivial 0 0 zv zv
def xi.te:TEs:=[(0,.c .str),(2,kB)]
def xi.h:SH:=shN xi.te [] [] [(0,1,0,0),(1,2,0,0)]
def xi.X (m:Int) (F:Nat):FX TI (G m) Sg:={hn:={na:=1},lv:=[⟨81,yq.sp F⟩,⟨82,zS.sp F⟩,⟨84,xp.sp F⟩],N:=27,H:=xi.h}
theorem xi.ok (m:Int) (F:Nat):OKP m 72 xi.sg (xi.sp F) :=
 okp (xi.X m F) Go.Proofs.Tryd.func72 ⟨yq.ok m F,zS.ok m F,xp.ok m F,trivial⟩ trivial 0 0 zv zv
def yH.te:TEs:=[(1,.p yK),kL 2,(3,kB)]
def yH.tb:TEs:=[(2,.g yK)]
def yH.h:SH:=shN yH.te yH.tb [] [(0,3,1,0),(1,4,0,0)]
def yH.X (m:Int) (F:Nat):FX TI (G m) Sg:={hn:={na:=2},N:=9,H:=yH.h}
theorem yH.ok (m:Int) (F:Nat):OKP m 73 yH.sg (yH.sp F) :=
 okp (yH.X m F) Go.Proofs.Tryd.func73 trivial trivial 0 0 zv zv
def zb.te:TEs:=[(0,.b yK),(1,.cl yK),(4,kI),(5,kI),(7,kI),(8,kI),(9,kB),(16,kB)]
def zb.h:SH:=shN zb.te [] [] [(0,3,0,0),(1,51,0,0),(2,115,0,0),(3,59,0,0),(4,187,0,0),(5,4,0,0),(6,51,0,0),(7,4,0,0)]
def zb.hl:SH:=shN zb.te [] [] [(2,51,0,0)]
def zb.L2 (F:Nat) (R:Type) (K:KK R) (n:Nat) (x:((List yK.T)×(Nat×yK.T)×Int×Int×Unit)×(Unit)×(Unit)):Option R :=
 zb.l2 F (fun r4=>K .ret (yQ (zb.h 5) ((r4,()),(),()))) (fun s f t7 t8 t9=>K (.exit 0) (yQ (zb.h 2) ((s,f,t7,t8,t9,()),(),()))) n x.1.1 x.1.2.1 x.1.2.2.1 x.1.2.2.2.1
def zb.X (m:Int) (F:Nat):FX TI (G m) Sg:={hn:={DS:=fun d=>lk none d [(16,some zb.ds16)],na:=2},ld:=[⟨16,zb.d16 F⟩],N:=19,H:=zb.h,HL:=zb.hl,L:=mkL zb.hl [⟨2,fun x R K=>zb.L2 F R K F x⟩]}
theorem zb.ok (m:Int) (F:Nat):OKP m 85 zb.sg (zb.sp F) :=
 okp (zb.X m F) Go.Proofs.Tryd.func85 trivial ⟨Yn ⟨⟨73,by kernel_rfl,yH.ok m F⟩,trivial⟩,trivial⟩ 1 0 (yI (FX.loopk 2 F (zb.L2 F)) zv) zv
def zI.te:TEs:=[(0,.b yK),(1,.cl yK),(4,kB)]
def zI.h:SH:=shN zI.te [] [] [(0,3,0,0),(1,4,0,0)]
def zI.X (m:Int) (F:Nat):FX TI (G m) Sg:={hn:={na:=2},lv:=[⟨85,zb.sp F⟩],N:=9,H:=zI.h}
theorem zI.ok (m:Int) (F:Nat):OKP m 74 zI.sg (zI.sp F) :=
 okp (zI.X m F) Go.Proofs.Tryd.func74 ⟨zb.ok m F,trivial⟩ trivial 0 0 zv zv
def zL.te:TEs:=[kL 1,(2,kI),(3,kI),kL 4,(4,.p yK),(5,.cl yK),(9,kB),(19,kB),(21,.c (.sl yK)),(22,kI),(23,kI),(24,kB),(40,kB),(48,kB),(57,kB)]
def zL.tb:TEs:=[(1,.g ya),(4,.g yK)]
def zL.h:SH:=shN zL.te zL.tb [] [(0,1,1,0),(1,65,1,0),(2,2,0,0),(3,129,1,0),(4,2,0,0),(5,1793,1,0),(6,3841,1,0),(7,1805,3,0),(8,1845,1,0),(9,5905,1,0),(10,2,0,0),(11,9985,1,0),(12,2,0,0),(13,1793,1,0),(14,16384,0,0),(15,2,0,0),(16,2,0,0)]
def zL.hl:SH:=shN zL.te zL.tb [] [(6,1793,1,0)]
def zL.L6 (F:Nat) (R:Type) (K:KK R) (n:Nat) (x:(Unit×(List yK.T)×Int×Int×Unit)×(ya.T×Unit)×(Unit)):Option R :=
 zL.l6 F (fun r2=>K .ret (yQ (zL.h 10) ((r2,()),(),()))) (fun r2=>K .ret (yQ (zL.h 12) ((r2,()),(),()))) (fun t21 t22 t23 t24 p=>K (.exit 0) (yQ (zL.h 6) (((),t21,t22,t23,t24,()),(p,()),()))) n x.1.2.1 x.1.2.2.1 x.1.2.2.2.1 x.2.1.1
def zL.X (m:Int) (F:Nat):FX TI (G m) Sg:={hn:={CT:=fun d=>lk .unit d [(28,yK)],na:=1},lv:=[⟨72,xi.sp F⟩,⟨74,zI.sp F⟩],N:=58,H:=zL.h,HL:=zL.hl,L:=mkL zL.hl [⟨6,fun x R K=>zL.L6 F R K F x⟩]}
theorem zL.ok (m:Int) (F:Nat):OKP m 53 zL.sg (zL.sp F) :=
 okp (zL.X m F) Go.Proofs.Tryd.func53 ⟨xi.ok m F,zI.ok m F,trivial⟩ trivial 1 0 (yI (FX.loopk 6 F (zL.L6 F)) zv) zv
def yk.te:TEs:=[kL 1,(2,kI),(3,kI),(10,kB)]
def yk.tb:TEs:=[(1,.g zm)]
def yk.h:SH:=shN yk.te yk.tb [] [(0,1,1,0),(1,5,1,0),(2,13,1,0),(3,2,0,0),(4,2,0,0)]
def yk.X (m:Int) (F:Nat):FX TI (G m) Sg:={hn:={na:=1},N:=14,H:=yk.h}
theorem yk.ok (m:Int) (F:Nat):OKP m 46 yk.sg (yk.sp F) :=
 okp (yk.X m F) Go.Proofs.Tryd.func46 trivial trivial 0 0 zv zv
def zy.te:TEs:=[(0,.b zO),(2,kB),(3,kI),kL 4,(19,kB),(20,.b zO),(21,kI),(22,kI),(23,kB),(54,kB)]
def zy.tb:TEs:=[(4,.g zO)]
def zy.h:SH:=shN zy.te zy.tb [] [(0,1,0,0),(1,17,0,0),(2,2,0,0),(3,225,0,0),(4,481,0,0),(5,237,1,0),(6,737,0,0),(7,2,0,0),(8,225,0,0),(9,2,0,0)]
def zy.hl:SH:=shN zy.te zy.tb [] [(4,225,0,0)]
def zy.L4 (F:Nat) (R:Type) (K:KK R) (n:Nat) (x:((List zO.T)×(List zO.T)×Int×Int×Unit)×(Unit)×(Unit)):Option R :=
 zy.l4 F (fun r2=>K .ret (yQ (zy.h 7) ((r2,()),(),()))) (fun tiers t20 t21 t22 t23=>K (.exit 0) (yQ (zy.h 4) ((tiers,t20,t21,t22,t23,()),(),()))) n x.1.1 x.1.2.1 x.1.2.2.1 x.1.2.2.2.1
def zy.X (m:Int) (F:Nat):FX TI (G m) Sg:={hn:={na:=1},N:=56,H:=zy.h,HL:=zy.hl,L:=mkL zy.hl [⟨4,fun x R K=>zy.L4 F R K F x⟩]}
theorem zy.ok (m:Int) (F:Nat):OKP m 75 zy.sg (zy.sp F) :=
 okp (zy.X m F) Go.Proofs.Tryd.func75 trivial trivial 1 0 (yI (FX.loopk 4 F (zy.L4 F)) zv) zv
def zH.te:TEs:=[(1,kI),(2,kI),kL 3,(6,kI),kL 7,(8,kI),(9,kB),(10,kB),(18,kB),(26,kB),(34,kB),(47,kB),(89,kB),(97,kB)]
def zH.tb:TEs:=[(3,.g zm),(7,.g yC)]
def zH.h:SH:=shN zH.te zH.tb [] [(0,7,1,0),(1,263,1,0),(2,8,0,0),(3,23,3,0),(4,55,3,0),(5,567,3,0),(6,54,3,0),(7,118,3,0),(8,1142,3,0),(9,118,3,0),(10,246,3,0),(11,2294,3,0),(12,246,3,0),(13,4116,3,0),(14,8,0,0),(15,8192,0,0),(16,8,0,0),(17,8,0,0)]
def zH.hj:Nat->Option Shape:=shO zH.te zH.tb [] [(7,54,3,0),(10,118,3,0),(13,246,3,0)]
def zH.J13 (F:Nat) (x:(Int×Unit×Unit×Int×Bool×Bool×Unit)×(zm.T×yC.T×Unit)×(Unit)) (R:Type) (K:KK R):Option R :=
 zH.j13 F (fun r6=>K .ret (yQ (zH.h 14) ((r6,()),(),()))) (fun r6=>K .ret (yQ (zH.h 16) ((r6,()),(),()))) (fun r6=>K .ret (yQ (zH.h 17) ((r6,()),(),()))) x.1.1 x.1.2.2.2.1 x.1.2.2.2.2.1 x.1.2.2.2.2.2.1 x.2.1.1 x.2.1.2.1
def zH.J10 (F:Nat) (x:(Int×Unit×Unit×Int×Bool×Unit)×(zm.T×yC.T×Unit)×(Unit)) (R:Type) (K:KK R):Option R :=
 zH.j10 F (fun r6=>K .ret (yQ (zH.h 14) ((r6,()),(),()))) (fun r6=>K .ret (yQ (zH.h 16) ((r6,()),(),()))) (fun r6=>K .ret (yQ (zH.h 17) ((r6,()),(),()))) x.1.1 x.1.2.2.2.1 x.1.2.2.2.2.1 x.2.1.1 x.2.1.2.1
def zH.J7 (F:Nat) (x:(Int×Unit×Unit×Int×Unit)×(zm.T×yC.T×Unit)×(Unit)) (R:Type) (K:KK R):Option R :=
 zH.j7 F (fun r6=>K .ret (yQ (zH.h 14) ((r6,()),(),()))) (fun r6=>K .ret (yQ (zH.h 16) ((r6,()),(),()))) (fun r6=>K .ret (yQ (zH.h 17) ((r6,()),(),()))) x.1.1 x.1.2.2.2.1 x.2.1.1 x.2.1.2.1
def zH.X (m:Int) (F:Nat):FX TI (G m) Sg:={hn:={na:=3},lv:=[⟨46,yk.sp F⟩,⟨75,zy.sp F⟩],N:=98,H:=zH.h,HJ:=zH.hj,J:=mkJ zH.hj [⟨13,zH.J13 F⟩,⟨10,zH.J10 F⟩,⟨7,zH.J7 F⟩]}
theorem zH.ok (m:Int) (F:Nat):OKP m 54 zH.sg (zH.sp F) :=
 okp (zH.X m F) Go.Proofs.Tryd.func54 ⟨yk.ok m F,zy.ok m F,trivial⟩ trivial 0 3 zv (yI (FX.cutk 13) (yI (FX.cutk 10) (yI (FX.cutk 7) zv)))
def zA.te:TEs:=[kL 1,(2,kI),(3,kI),(4,kI),(5,kI),(6,kI),kL 7,(8,kI),(12,kB),(17,kB),(19,.c (.sl zm)),(20,kI),(21,kI),(22,kB),(33,kB),(43,kB)]
def zA.tb:TEs:=[(1,.g ya),(7,.g zm)]
def zA.h:SH:=shN zA.te zA.tb [] [(0,1,1,0),(1,9,1,0),(2,265,1,0),(3,6,0,0),(4,513,1,0),(5,6,0,0),(6,17,1,0),(7,7185,1,0),(8,15377,1,0),(9,7281,3,0),(10,7409,3,0),(11,23793,3,0),(12,6,0,0),(13,7185,1,0),(14,7185,1,0),(15,32769,1,0),(16,6,0,0),(17,6,0,0)]
def zA.hl:SH:=shN zA.te zA.tb [] [(8,7185,1,0)]
def zA.L8 (F:Nat) (R:Type) (K:KK R) (n:Nat) (x:(Unit×Int×(List zm.T)×Int×Int×Unit)×(ya.T×Unit)×(Unit)):Option R :=
 zA.l8 F (fun r2 r3=>K .ret (yQ (zA.h 12) ((r2,r3,()),(),()))) (fun pile t19 t20 t21 t22 p=>K (.exit 0) (yQ (zA.h 8) (((),pile,t19,t20,t21,t22,()),(p,()),()))) n x.1.2.1 x.1.2.2.1 x.1.2.2.2.1 x.1.2.2.2.2.1 x.2.1.1
def zA.X (m:Int) (F:Nat):FX TI (G m) Sg:={hn:={na:=1},lv:=[⟨53,zL.sp F⟩,⟨54,zH.sp F⟩,⟨46,yk.sp F⟩],N:=47,H:=zA.h,HL:=zA.hl,L:=mkL zA.hl [⟨8,fun x R K=>zA.L8 F R K F x⟩]}
theorem zA.ok (m:Int) (F:Nat):OKP m 43 zA.sg (zA.sp F) :=
 okp (zA.X m F) Go.Proofs.Tryd.func43 ⟨zL.ok m F,zH.ok m F,yk.ok m F,trivial⟩ trivial 1 0 (yI (FX.loopk 8 F (zA.L8 F)) zv) zv
def zq.te:TEs:=[kL 1,(2,.c (.sl (.int .i64))),(3,.c (.sl (.int .i64))),(3,.ow 3),(4,.ow 4),(5,kI),kL 6,(7,kI),(8,kI),(10,.c (.sl zm)),(11,kI),(12,kI),(13,kB),(21,kB)]
def zq.tb:TEs:=[(1,.g ya),(6,.g zm)]
def zq.tp:List ve:=[⟨3,.env 3,(.int .i64)⟩,⟨4,.env 4,(.int .i64)⟩]
def zq.h:SH:=shN zq.te zq.tb zq.tp [(0,1,1,0),(1,25,1,3),(2,3608,0,3),(3,7704,0,3),(4,3704,2,3),(5,3800,2,3),(6,3992,0,3),(7,12184,0,3),(8,3992,0,3),(9,3736,0,3),(10,3736,0,3),(11,3608,0,3),(12,3608,0,3),(13,2,0,0)]
def zq.hl:SH:=shN zq.te zq.tb zq.tp [(3,3608,0,3)]
def zq.hj:Nat->Option Shape:=shO zq.te zq.tb zq.tp [(13,4,0,0)]
def zq.L3 (F:Nat) (R:Type) (K:KK R) (n:Nat) (x:(Unit×Unit×(List zm.T)×Int×Int×Unit)×(Unit)×((List Int)×(List Int)×Unit)):Option R :=
 zq.l3 F (fun t10 t11 t12 t13 list pile=>K (.exit 0) (yQ (zq.h 3) (((),(),t10,t11,t12,t13,()),(),(list,pile,())))) n x.1.2.2.1 x.1.2.2.2.1 x.1.2.2.2.2.1 x.2.2.1 x.2.2.2.1
def zq.J13 (F:Nat) (x:((List Int)×Unit)×(Unit)×(Unit)) (R:Type) (K:KK R):Option R :=
 zq.j13 F (fun r2=>K .ret (yQ (zq.h 13) ((r2,()),(),()))) x.1.1
def zq.X (m:Int) (F:Nat):FX TI (G m) Sg:={hn:={MU:=fun s=>lk false s [(38,true),(42,true)],na:=1,fzJ:=fun r=>lk [] r [(13,[3])]},lv:=[⟨46,yk.sp F⟩],N:=45,H:=zq.h,HL:=zq.hl,HJ:=zq.hj,L:=mkL zq.hl [⟨3,fun x R K=>zq.L3 F R K F x⟩],J:=mkJ zq.hj [⟨13,zq.J13 F⟩]}
theorem zq.ok (m:Int) (F:Nat):OKP m 76 zq.sg (zq.sp F) :=
 okp (zq.X m F) Go.Proofs.Tryd.func76 ⟨yk.ok m F,trivial⟩ trivial 1 1 (yI (FX.loopk 3 F (zq.L3 F)) zv) (yI (FX.cutk 13) zv)
def yL.te:TEs:=[kL 1,(2,.c (.sl (.int .i64))),(3,kI),(5,kI),(12,kB)]
def yL.tb:TEs:=[(1,.g ya)]
def yL.h:SH:=shN yL.te yL.tb [] [(0,1,1,0),(1,9,1,0),(2,25,1,0),(3,6,0,0),(4,6,0,0)]
def yL.X (m:Int) (F:Nat):FX TI (G m) Sg:={hn:={na:=1},lv:=[⟨43,zA.sp F⟩,⟨76,zq.sp F⟩],N:=16,H:=yL.h}
theorem yL.ok (m:Int) (F:Nat):OKP m 55 yL.sg (yL.sp F) :=
 okp (yL.X m F) Go.Proofs.Tryd.func55 ⟨zA.ok m F,zq.ok m F,trivial⟩ trivial 0 0 zv zv
def zk.te:TEs:=[kL 1,(2,.c (.sl .bool)),(3,kI),(4,.c (.sl (.int .i64))),(5,kI),(6,kI),(7,.c (.sl .bool)),(7,.ow 7),(8,kI),kL 9,(16,kB),(22,.c (.sl zm)),(23,kI),(24,kI),(25,kB),(36,kB)]
def zk.tb:TEs:=[(1,.g ya),(9,.g zm)]
def zk.tp:List ve:=[⟨7,.env 7,.bool⟩]
def zk.h:SH:=shN zk.te zk.tb zk.tp [(0,1,1,0),(1,25,1,0),(2,1049,1,0),(3,6,0,0),(4,41,1,0),(5,169,1,1),(6,14504,0,1),(7,30888,0,1),(8,15272,2,1),(9,47528,0,1),(10,14760,0,1),(11,14504,0,1),(12,14504,0,1),(13,6,0,0)]
def zk.hl:SH:=shN zk.te zk.tb zk.tp [(7,14504,0,1)]
def zk.hj:Nat->Option Shape:=shO zk.te zk.tb zk.tp [(13,64,0,0)]
def zk.L7 (F:Nat) (R:Type) (K:KK R) (n:Nat) (x:((List Int)×Int×Unit×(List zm.T)×Int×Int×Unit)×(Unit)×((List Bool)×Unit)):Option R :=
 zk.l7 F (fun list last t22 t23 t24 t25 out=>K (.exit 0) (yQ (zk.h 7) ((list,last,(),t22,t23,t24,t25,()),(),(out,())))) n x.1.1 x.1.2.1 x.1.2.2.2.1 x.1.2.2.2.2.1 x.1.2.2.2.2.2.1 x.2.2.1
def zk.J13 (F:Nat) (x:((List Bool)×Unit)×(Unit)×(Unit)) (R:Type) (K:KK R):Option R :=
 zk.j13 F (fun r2 r3=>K .ret (yQ (zk.h 13) ((r2,r3,()),(),()))) x.1.1
def zk.X (m:Int) (F:Nat):FX TI (G m) Sg:={hn:={MU:=fun s=>lk false s [(20,true)],na:=1,fzJ:=fun r=>lk [] r [(13,[7])]},lv:=[⟨55,yL.sp F⟩],N:=49,H:=zk.h,HL:=zk.hl,HJ:=zk.hj,L:=mkL zk.hl [⟨7,fun x R K=>zk.L7 F R K F x⟩],J:=mkJ zk.hj [⟨13,zk.J13 F⟩]}
theorem zk.ok (m:Int) (F:Nat):OKP m 44 zk.sg (zk.sp F) :=
 okp (zk.X m F) Go.Proofs.Tryd.func44 ⟨yL.ok m F,trivial⟩ trivial 1 1 (yI (FX.loopk 7 F (zk.L7 F)) zv) (yI (FX.cutk 13) zv)
def yU.te:TEs:=[(0,kI),(2,.c .fn),(3,kI),(4,.c (.sl (.pair .fn (.int .i64))))]
def yU.h:SH:=shN yU.te [] [] [(0,1,0,0),(1,9,0,0),(2,6,0,0)]
def yU.X (m:Int) (F:Nat):FX TI (G m) Sg:={hn:={na:=1},N:=32,H:=yU.h}
theorem yU.ok (m:Int) (F:Nat):OKP m 45 yU.sg (yU.sp F) :=
 okp (yU.X m F) Go.Proofs.Tryd.func45 trivial trivial 0 0 zv zv
def zp.te:TEs:=[(1,kI),kL 2,(4,kI),(6,kI),(10,.b (.int .i64)),(11,kI),(12,kI),(13,kB),(22,kB)]
def zp.tb:TEs:=[(2,.g zZ)]
def zp.h:SH:=shN zp.te zp.tb [] [(0,3,1,0),(1,115,1,0),(2,243,1,0),(3,123,1,0),(4,371,1,0),(5,4,0,0),(6,115,1,0),(7,4,0,0)]
def zp.hl:SH:=shN zp.te zp.tb [] [(2,115,1,0)]
def zp.L2 (F:Nat) (R:Type) (K:KK R) (n:Nat) (x:(Int×Unit×(List Int)×Int×Int×Unit)×(zZ.T×Unit)×(Unit)):Option R :=
 zp.l2 F (fun r4=>K .ret (yQ (zp.h 5) ((r4,()),(),()))) (fun from_ t10 t11 t12 t13 n=>K (.exit 0) (yQ (zp.h 2) ((from_,(),t10,t11,t12,t13,()),(n,()),()))) n x.1.1 x.1.2.2.1 x.1.2.2.2.1 x.1.2.2.2.2.1 x.2.1.1
def zp.X (m:Int) (F:Nat):FX TI (G m) Sg:={hn:={na:=2},N:=29,H:=zp.h,HL:=zp.hl,L:=mkL zp.hl [⟨2,fun x R K=>zp.L2 F R K F x⟩]}
theorem zp.ok (m:Int) (F:Nat):OKP m 77 zp.sg (zp.sp F) :=
 okp (zp.X m F) Go.Proofs.Tryd.func77 trivial trivial 1 0 (yI (FX.loopk 2 F (zp.L2 F)) zv) zv
def zU.te:TEs:=[kL 1,(2,kI)]
def zU.tb:TEs:=[(1,.g zZ)]
def zU.h:SH:=shN zU.te zU.tb [] [(0,1,1,0),(1,2,0,0)]
def zU.X (m:Int) (F:Nat):FX TI (G m) Sg:={hn:={na:=1},lv:=[⟨77,zp.sp F⟩],N:=5,H:=zU.h}
theorem zU.ok (m:Int) (F:Nat):OKP m 60 zU.sg (zU.sp F) :=
 okp (zU.X m F) Go.Proofs.Tryd.func60 ⟨zp.ok m F,trivial⟩ trivial 0 0 zv zv
def ye.te:TEs:=[kL 1,(2,kI)]
def ye.tb:TEs:=[(1,.g zZ)]
def ye.h:SH:=shN ye.te ye.tb [] [(0,1,1,0),(1,2,0,0)]
def ye.X (m:Int) (F:Nat):FX TI (G m) Sg:={hn:={na:=1},N:=8,H:=ye.h}
theorem ye.ok (m:Int) (F:Nat):OKP m 59 ye.sg (ye.sp F) :=
 okp (ye.X m F) Go.Proofs.Tryd.func59 trivial trivial 0 0 zv zv
def yh.te:TEs:=[(0,kI),(2,kB)]
def yh.h:SH:=shN yh.te [] [] [(0,1,0,0),(1,2,0,0)]
def yh.X (m:Int) (F:Nat):FX TI (G m) Sg:={hn:={na:=1},N:=5,H:=yh.h}
theorem yh.ok (m:Int) (F:Nat):OKP m 78 yh.sg (yh.sp F) :=
 okp (yh.X m F) Go.Proofs.Tryd.func78 trivial trivial 0 0 zv zv
def zT.te:TEs:=[kL 1,(2,kI),(7,kB)]
def zT.tb:TEs:=[(1,.g zZ)]
def zT.h:SH:=shN zT.te zT.tb [] [(0,1,1,0),(1,5,1,0),(2,2,0,0),(3,2,0,0)]
def zT.X (m:Int) (F:Nat):FX TI (G m) Sg:={hn:={na:=1},lv:=[⟨78,yh.sp F⟩],N:=12,H:=zT.h}
theorem zT.ok (m:Int) (F:Nat):OKP m 62 zT.sg (zT.sp F) :=
 okp (zT.X m F) Go.Proofs.Tryd.func62 ⟨yh.ok m F,trivial⟩ trivial 0 0 zv zv
def yt.te:TEs:=[(2,kI)]
def yt.h:SH:=shN yt.te [] [] [(1,1,0,0)]
def yt.X (m:Int) (F:Nat):FX TI (G m) Sg:={hn:={na:=1},N:=3,H:=yt.h}
theorem yt.ok (m:Int) (F:Nat):OKP m 57 yt.sg (yt.sp F) :=
 okp (yt.X m F) Go.Proofs.Tryd.func57 trivial trivial 0 0 zv zv
def yp.te:TEs:=[(2,kI)]
def yp.h:SH:=shN yp.te [] [] [(1,1,0,0)]
def yp.X (m:Int) (F:Nat):FX TI (G m) Sg:={hn:={na:=1},N:=3,H:=yp.h}
theorem yp.ok (m:Int) (F:Nat):OKP m 56 yp.sg (yp.sp F) :=
 okp (yp.X m F) Go.Proofs.Tryd.func56 trivial trivial 0 0 zv zv
def yo.te:TEs:=[kL 1,(2,kI),(7,kB)]
def yo.tb:TEs:=[(1,.g zZ)]
def yo.h:SH:=shN yo.te yo.tb [] [(0,1,1,0),(1,4,0,0),(2,2,0,0),(3,2,0,0)]
def yo.X (m:Int) (F:Nat):FX TI (G m) Sg:={hn:={na:=1},N:=8,H:=yo.h}
theorem yo.ok (m:Int) (F:Nat):OKP m 64 yo.sg (yo.sp F) :=
 okp (yo.X m F) Go.Proofs.Tryd.func64 trivial trivial 0 0 zv zv
def z7.te:TEs:=[kL 1,(2,kI),(7,kB)]
def z7.tb:TEs:=[(1,.g zZ)]
def z7.h:SH:=shN z7.te z7.tb [] [(0,1,1,0),(1,4,0,0),(2,2,0,0),(3,2,0,0)]
def z7.X (m:Int) (F:Nat):FX TI (G m) Sg:={hn:={na:=1},lv:=[⟨78,yh.sp F⟩],N:=8,H:=z7.h}
theorem z7.ok (m:Int) (F:Nat):OKP m 63 z7.sg (z7.sp F) :=
 okp (z7.X m F) Go.Proofs.Tryd.func63 ⟨yh.ok m F,trivial⟩ trivial 0 0 zv zv
def zY.te:TEs:=[kL 1,(2,kI),(3,kI),(4,kI),(13,kB),(17,kB),(21,kB)]
def zY.tb:TEs:=[(1,.g zZ)]
def zY.h:SH:=shN zY.te zY.tb [] [(0,1,1,0),(1,12,0,0),(2,28,0,0),(3,2,0,0),(4,44,0,0),(5,2,0,0),(6,76,0,0),(7,64,0,0),(8,2,0,0),(9,2,0,0)]
def zY.X (m:Int) (F:Nat):FX TI (G m) Sg:={hn:={na:=1},lv:=[⟨78,yh.sp F⟩],N:=34,H:=zY.h}
theorem zY.ok (m:Int) (F:Nat):OKP m 61 zY.sg (zY.sp F) :=
 okp (zY.X m F) Go.Proofs.Tryd.func61 ⟨yh.ok m F,trivial⟩ trivial 0 0 zv zv
def zW.te:TEs:=[kL 1,(2,kI)]
def zW.tb:TEs:=[(1,.g zZ)]
def zW.h:SH:=shN zW.te zW.tb [] [(0,1,1,0),(1,2,0,0)]
def zW.X (m:Int) (F:Nat):FX TI (G m) Sg:={hn:={na:=1},N:=8,H:=zW.h}
theorem zW.ok (m:Int) (F:Nat):OKP m 58 zW.sg (zW.sp F) :=
 okp (zW.X m F) Go.Proofs.Tryd.func58 trivial trivial 0 0 zv zv
def yi.te:TEs:=[kL 1,(2,kI),(7,kB)]
def yi.tb:TEs:=[(1,.g zZ)]
def yi.h:SH:=shN yi.te yi.tb [] [(0,1,1,0),(1,5,1,0),(2,2,0,0),(3,2,0,0)]
def yi.X (m:Int) (F:Nat):FX TI (G m) Sg:={hn:={na:=1},lv:=[⟨78,yh.sp F⟩,⟨77,zp.sp F⟩],N:=10,H:=yi.h}
theorem yi.ok (m:Int) (F:Nat):OKP m 65 yi.sg (yi.sp F) :=
 okp (yi.X m F) Go.Proofs.Tryd.func65 ⟨yh.ok m F,zp.ok m F,trivial⟩ trivial 0 0 zv zv
def zh.te:TEs:=[kL 1,(2,.c (.sl (.int .i64))),(3,kI),(4,kI),(5,kI),(6,kI),(7,.c (.sl .bool)),(9,.c (.sl (.int .i64))),(9,.ow 9),(10,.c (.sl (.int .i64))),(10,.ow 10),(11,.ow 11),(12,kI),kL 13,(14,.c .fn),(15,kI),(16,kI),(17,kI),(24,kB),(33,.c (.sl zm)),(34,kI),(35,kI),(36,kB),(47,kB),(65,kB),(84,kB),(109,kB)]
def zh.tb:TEs:=[(1,.g ya),(13,.g zm)]
def zh.tp:List ve:=[⟨9,.env 9,(.int .i64)⟩,⟨10,.env 10,(.int .i64)⟩,⟨11,.env 11,.bool⟩]
def zh.h:SH:=shN zh.te zh.tb zh.tp [(0,1,1,0),(1,49,1,0),(2,262193,1,0),(3,14,0,0),(4,65,1,0),(5,1345,1,3),(6,3393,1,7),(7,3673408,0,7),(8,7867712,0,7),(9,3685696,2,7),(10,3734848,2,7),(11,12123456,2,7),(12,3734848,2,7),(13,3767616,2,7),(14,3882304,2,7),(15,20659520,2,7),(16,14,0,0),(17,37428544,0,7),(18,14,0,0),(19,3874112,0,7),(20,3743040,0,7),(21,3673408,0,7),(22,3673408,0,7),(23,67108992,0,0),(24,14,0,0),(25,14,0,0)]
def zh.hl:SH:=shN zh.te zh.tb zh.tp [(8,3673408,0,7)]
def zh.hj:Nat->Option Shape:=shO zh.te zh.tb zh.tp [(23,640,0,0)]
def zh.L8 (F:Nat) (R:Type) (K:KK R) (n:Nat) (x:((List Bool)×Unit×Unit×Unit×(List zm.T)×Int×Int×Unit)×(Unit)×((List Int)×(List Int)×(List Bool)×Unit)):Option R :=
 zh.l8 F (fun r2 r3 r4=>K .ret (yQ (zh.h 16) ((r2,r3,r4,()),(),()))) (fun r2 r3 r4=>K .ret (yQ (zh.h 18) ((r2,r3,r4,()),(),()))) (fun fixed t33 t34 t35 t36 types pile fix=>K (.exit 0) (yQ (zh.h 8) ((fixed,(),(),(),t33,t34,t35,t36,()),(),(types,pile,fix,())))) n x.1.1 x.1.2.2.2.2.1 x.1.2.2.2.2.2.1 x.1.2.2.2.2.2.2.1 x.2.2.1 x.2.2.2.1 x.2.2.2.2.1
def zh.J23 (F:Nat) (x:((List Int)×(List Int)×Unit)×(Unit)×(Unit)) (R:Type) (K:KK R):Option R :=
 zh.j23 F (fun r2 r3 r4=>K .ret (yQ (zh.h 24) ((r2,r3,r4,()),(),()))) (fun r2 r3 r4=>K .ret (yQ (zh.h 25) ((r2,r3,r4,()),(),()))) x.1.1 x.1.2.1
def zh.X (m:Int) (F:Nat):FX TI (G m) Sg:={hn:={MU:=fun s=>lk false s [(89,true),(95,true),(104,true)],DS:=fun d=>lk none d [(63,some zh.ds63)],na:=1,fzJ:=fun r=>lk [] r [(23,[9,10])]},lv:=[⟨43,zA.sp F⟩,⟨44,zk.sp F⟩,⟨45,yU.sp F⟩],ld:=[⟨63,zh.d63 F⟩],N:=114,H:=zh.h,HL:=zh.hl,HJ:=zh.hj,L:=mkL zh.hl [⟨8,fun x R K=>zh.L8 F R K F x⟩],J:=mkJ zh.hj [⟨23,zh.J23 F⟩]}
theorem zh.ok (m:Int) (F:Nat):OKP m 28 zh.sg (zh.sp F) :=
 okp (zh.X m F) Go.Proofs.Tryd.func28 ⟨zA.ok m F,zk.ok m F,yU.ok m F,trivial⟩ ⟨Yn ⟨⟨60,by kernel_rfl,zU.ok m F⟩,⟨59,by kernel_rfl,ye.ok m F⟩,⟨62,by kernel_rfl,zT.ok m F⟩,⟨57,by kernel_rfl,yt.ok m F⟩,⟨56,by kernel_rfl,yp.ok m F⟩,⟨64,by kernel_rfl,yo.ok m F⟩,⟨63,by kernel_rfl,z7.ok m F⟩,⟨61,by kernel_rfl,zY.ok m F⟩,⟨58,by kernel_rfl,zW.ok m F⟩,⟨65,by kernel_rfl,yi.ok m F⟩,trivial⟩,trivial⟩ 1 1 (yI (FX.loopk 8 F (zh.L8 F)) zv) (yI (FX.cutk 23) zv)
def zt.te:TEs:=[(0,.b (.int .i64)),(2,kI),(3,kI),(4,kI),(7,kB),(15,kB)]
def zt.h:SH:=shN zt.te [] [] [(0,1,0,0),(1,17,0,0),(3,5,0,0),(4,13,0,0),(5,45,0,0),(6,13,0,0),(7,13,0,0),(8,2,0,0)]
def zt.hl:SH:=shN zt.te [] [] [(5,13,0,0)]
def zt.L5 (F:Nat) (R:Type) (K:KK R) (n:Nat) (x:((List Int)×Int×Int×Unit)×(Unit)×(Unit)):Option R :=
 zt.l5 F (fun x m i t15=>K (.exit 0) (yQ (zt.h 5) ((x,m,i,t15,()),(),()))) n x.1.1 x.1.2.1 x.1.2.2.1
def zt.X (m:Int) (F:Nat):FX TI (G m) Sg:={hn:={na:=1},N:=25,H:=zt.h,HL:=zt.hl,L:=mkL zt.hl [⟨5,fun x R K=>zt.L5 F R K F x⟩]}
theorem zt.ok (m:Int) (F:Nat):OKP m 47 zt.sg (zt.sp F) :=
 okp (zt.X m F) Go.Proofs.Tryd.func47 trivial trivial 1 0 (yI (FX.loopk 5 F (zt.L5 F)) zv) zv
def zu.te:TEs:=[kL 1,(2,kI),(3,kI),(5,kI),(6,.c (.sl (.int .i64))),(6,.ow 6),kL 8,(9,kI),(10,kI),(17,kB),(20,.c (.sl zm)),(21,kI),(22,kI),(23,kB),(29,kB),(45,kB)]
def zu.tb:TEs:=[(1,.g ya),(8,.g zm)]
def zu.tp:List ve:=[⟨6,.env 6,(.int .i64)⟩]
def zu.h:SH:=shN zu.te zu.tb zu.tp [(0,1,1,0),(1,9,1,0),(2,521,1,0),(3,6,0,0),(4,33,1,1),(5,7200,0,1),(6,15392,0,1),(7,7264,2,1),(8,7392,2,1),(9,7648,2,1),(10,24032,2,1),(11,7648,2,1),(12,7392,2,1),(13,40096,0,1),(14,7328,0,1),(15,7200,0,1),(16,7200,0,1),(17,6,0,0)]
def zu.hl:SH:=shN zu.te zu.tb zu.tp [(6,7200,0,1)]
def zu.hj:Nat->Option Shape:=shO zu.te zu.tb zu.tp [(17,16,0,0)]
def zu.L6 (F:Nat) (R:Type) (K:KK R) (n:Nat) (x:(Unit×(List zm.T)×Int×Int×Unit)×(Unit)×((List Int)×Unit)):Option R :=
 zu.l6 F (fun t20 t21 t22 t23 pile=>K (.exit 0) (yQ (zu.h 6) (((),t20,t21,t22,t23,()),(),(pile,())))) n x.1.2.1 x.1.2.2.1 x.1.2.2.2.1 x.2.2.1
def zu.J17 (F:Nat) (x:((List Int)×Unit)×(Unit)×(Unit)) (R:Type) (K:KK R):Option R :=
 zu.j17 F (fun r2 r3=>K .ret (yQ (zu.h 17) ((r2,r3,()),(),()))) x.1.1
def zu.X (m:Int) (F:Nat):FX TI (G m) Sg:={hn:={MU:=fun s=>lk false s [(51,true)],na:=1,fzJ:=fun r=>lk [] r [(17,[6])]},lv:=[⟨43,zA.sp F⟩,⟨46,yk.sp F⟩,⟨47,zt.sp F⟩],N:=56,H:=zu.h,HL:=zu.hl,HJ:=zu.hj,L:=mkL zu.hl [⟨6,fun x R K=>zu.L6 F R K F x⟩],J:=mkJ zu.hj [⟨17,zu.J17 F⟩]}
theorem zu.ok (m:Int) (F:Nat):OKP m 29 zu.sg (zu.sp F) :=
 okp (zu.X m F) Go.Proofs.Tryd.func29 ⟨zA.ok m F,yk.ok m F,zt.ok m F,trivial⟩ trivial 1 1 (yI (FX.loopk 6 F (zu.L6 F)) zv) (yI (FX.cutk 17) zv)
def zC.te:TEs:=[(0,kI),kL 2]
def zC.tb:TEs:=[(2,.g za)]
def zC.h:SH:=shN zC.te zC.tb [] [(0,3,1,0),(1,2,1,0)]
def zC.X (m:Int) (F:Nat):FX TI (G m) Sg:={hn:={na:=1},N:=8,H:=zC.h}
theorem zC.ok (m:Int) (F:Nat):OKP m 7 zC.sg (zC.sp F) :=
 okp (zC.X m F) Go.Proofs.Tryd.func7 trivial trivial 0 0 zv zv
theorem zJ.ok (m:Int) (F:Nat):OK Go.Proofs.Tryd.prog (G m) 20 zJ.sg (zJ.sp F):=zJ.ok' F Go.Proofs.Tryd.func20 (by kernel_rfl) (by kernel_rfl) (by kernel_rfl)
def yT.te:TEs:=[kL 1,(2,.c (.int .u64)),(3,.c (.int .u64)),(4,.c (.int .u64)),(5,.c (.int .u64)),(6,.c (.int .u64)),(10,kB)]
def yT.tb:TEs:=[(1,.g za)]
def yT.h:SH:=shN yT.te yT.tb [] [(0,1,1,0),(1,65,1,0),(2,6,0,0),(3,25,1,0),(4,40,0,0),(5,6,0,0)]
def yT.X (m:Int) (F:Nat):FX TI (G m) Sg:={hn:={na:=1},lv:=[⟨20,zJ.sp F⟩],N:=32,H:=yT.h}
theorem yT.ok (m:Int) (F:Nat):OKP m 15 yT.sg (yT.sp F) :=
 okp (yT.X m F) Go.Proofs.Tryd.func15 ⟨zJ.ok m F,trivial⟩ trivial 0 0 zv zv
def yj.te:TEs:=[(0,.c (.int .u64)),(1,.c (.int .u64)),(4,.c (.int .u64)),(5,.c (.int .u64)),(6,.c (.int .u64)),(7,.c (.int .u64)),(8,.c (.int .u64)),(9,.c (.int .u64)),(10,.c (.int .u64)),(11,.c (.int .u64)),(12,.c (.int .u64)),(13,.c (.int .u64))]
def yj.h:SH:=shN yj.te [] [] [(0,3,0,0),(1,19,0,0),(2,51,0,0),(3,115,0,0),(4,243,0,0),(5,499,0,0),(6,691,0,0),(7,1715,0,0),(8,3251,0,0),(9,3235,0,0),(10,7,0,0),(11,12,0,0)]
def yj.X (m:Int) (F:Nat):FX TI (G m) Sg:={hn:={na:=2},N:=51,H:=yj.h}
theorem yj.ok (m:Int) (F:Nat):OKP m 16 yj.sg (yj.sp F) :=
 okp (yj.X m F) Go.Proofs.Tryd.func16 trivial trivial 0 0 zv zv
def xa.te:TEs:=[(0,kB),(1,.c (.int .u64)),(2,.c (.int .u64)),(6,.c (.int .u64)),(7,kB)]
def xa.h:SH:=shN xa.te [] [] [(0,7,0,0),(1,22,0,0),(2,8,0,0),(3,8,0,0)]
def xa.X (m:Int) (F:Nat):FX TI (G m) Sg:={hn:={na:=3},N:=10,H:=xa.h}
theorem xa.ok (m:Int) (F:Nat):OKP m 17 xa.sg (xa.sp F) :=
 okp (xa.X m F) Go.Proofs.Tryd.func17 trivial trivial 0 0 zv zv
theorem zQ.ok (m:Int) (F:Nat):OK Go.Proofs.Tryd.prog (G m) 18 zQ.sg (zQ.sp F):=zQ.ok' F Go.Proofs.Tryd.func18 (by kernel_rfl) (by kernel_rfl) (by kernel_rfl)
def yS.te:TEs:=[kL 2,kL 3,kL 4,(5,kI),(6,.c (.int .u64)),(7,.c (.int .u64)),(8,.c (.int .u64)),kL 10,(49,kB)]
def yS.tb:TEs:=[(2,.g za),(3,.g za),(4,.g za),(10,.g za)]
def yS.h:SH:=shN yS.te yS.tb [] [(0,7,7,0),(1,55,7,0),(2,87,7,0),(3,135,15,0),(4,388,12,0),(5,12,4,0),(6,12,4,0)]
def yS.X (m:Int) (F:Nat):FX TI (G m) Sg:={hn:={na:=2},lv:=[⟨20,zJ.sp F⟩],N:=52,H:=yS.h}
theorem yS.ok (m:Int) (F:Nat):OKP m 9 yS.sg (yS.sp F) :=
 okp (yS.X m F) Go.Proofs.Tryd.func9 ⟨zJ.ok m F,trivial⟩ trivial 0 0 zv zv
def xA.te:TEs:=[kL 1,kL 2,(3,kI)]
def xA.tb:TEs:=[(1,.g za),(2,.g za)]
def xA.h:SH:=shN xA.te xA.tb [] [(0,3,3,0),(1,6,2,0)]
def xA.X (m:Int) (F:Nat):FX TI (G m) Sg:={hn:={na:=1},lv:=[⟨9,yS.sp F⟩],N:=9,H:=xA.h}
theorem xA.ok (m:Int) (F:Nat):OKP m 27 xA.sg (xA.sp F) :=
 okp (xA.X m F) Go.Proofs.Tryd.func27 ⟨yS.ok m F,trivial⟩ trivial 0 0 zv zv
def yV.te:TEs:=[(0,kB),(1,.c (.int .u64)),(2,.c (.int .u64)),kL 6,(7,kI),kL 8,(11,kB),(16,kB),(30,kB)]
def yV.tb:TEs:=[(6,.g za),(8,.g za)]
def yV.h:SH:=shN yV.te yV.tb [] [(0,15,1,0),(1,79,1,0),(2,41,3,0),(3,168,3,0),(4,24,1,0),(5,24,1,0),(6,264,1,0),(7,24,1,0),(8,24,1,0)]
def yV.X (m:Int) (F:Nat):FX TI (G m) Sg:={hn:={na:=3},lv:=[⟨27,xA.sp F⟩],N:=33,H:=yV.h}
theorem yV.ok (m:Int) (F:Nat):OKP m 19 yV.sg (yV.sp F) :=
 okp (yV.X m F) Go.Proofs.Tryd.func19 ⟨xA.ok m F,trivial⟩ trivial 0 0 zv zv
def z8.te:TEs:=[kL 2,kL 3,kL 4,(5,kI),(6,.c (.int .u64)),(7,.c (.int .u64)),(8,.c (.int .u64)),(9,.c (.int .u64)),(10,.c (.int .u64)),(11,.c (.int .u64)),(12,.c (.int .u64)),(13,.c (.int .u64)),(14,.c (.int .u64)),(30,kB),(61,kB)]
def z8.tb:TEs:=[(2,.g za),(3,.g za),(4,.g za)]
def z8.h:SH:=shN z8.te z8.tb [] [(0,7,7,0),(1,55,7,0),(2,247,7,0),(3,8439,7,0),(4,12,4,0),(5,1015,7,0),(6,3847,7,0),(7,5895,7,0),(8,17159,7,0),(9,12,4,0),(10,12,4,0)]
def z8.hj:Nat->Option Shape:=shO z8.te z8.tb [] [(5,247,7,0)]
def z8.J5 (F:Nat) (x:(Unit×Unit×Unit×Int×Int×Int×Int×Unit)×(za.T×za.T×za.T×Unit)×(Unit)) (R:Type) (K:KK R):Option R :=
 z8.j5 F (fun r5 r4=>K .ret (yQ (z8.h 9) (((),r5,()),(r4,()),()))) (fun r5 r4=>K .ret (yQ (z8.h 10) (((),r5,()),(r4,()),()))) x.1.2.2.2.1 x.1.2.2.2.2.1 x.1.2.2.2.2.2.1 x.1.2.2.2.2.2.2.1 x.2.1.1 x.2.1.2.1 x.2.1.2.2.1
def z8.X (m:Int) (F:Nat):FX TI (G m) Sg:={hn:={na:=2},lv:=[⟨15,yT.sp F⟩,⟨16,yj.sp F⟩,⟨17,xa.sp F⟩,⟨18,zQ.sp F⟩,⟨19,yV.sp F⟩],N:=75,H:=z8.h,HJ:=z8.hj,J:=mkJ z8.hj [⟨5,z8.J5 F⟩]}
theorem z8.ok (m:Int) (F:Nat):OKP m 8 z8.sg (z8.sp F) :=
 okp (z8.X m F) Go.Proofs.Tryd.func8 ⟨yT.ok m F,yj.ok m F,xa.ok m F,zQ.ok m F,yV.ok m F,trivial⟩ trivial 0 1 zv (yI (FX.cutk 5) zv)
def zE.te:TEs:=[(0,kI),kL 2,(3,kI),kL 4,(6,kB),(9,kB),(12,kI),(13,kI),(14,kB)]
def zE.tb:TEs:=[(2,.g za),(4,.g za)]
def zE.h:SH:=shN zE.te zE.tb [] [(0,3,1,0),(1,19,1,0),(2,6,1,0),(3,35,1,0),(4,6,1,0),(5,11,3,0),(6,202,3,0),(7,458,3,0),(8,202,3,0),(9,202,3,0),(10,6,1,0)]
def zE.hl:SH:=shN zE.te zE.tb [] [(7,202,3,0)]
def zE.L7 (F:Nat) (R:Type) (K:KK R) (n:Nat) (x:(Unit×Unit×Int×Int×Unit)×(za.T×za.T×Unit)×(Unit)):Option R :=
 zE.l7 F (fun t12 t13 t14 r2 p=>K (.exit 0) (yQ (zE.h 7) (((),(),t12,t13,t14,()),(r2,p,()),()))) n x.1.2.2.1 x.1.2.2.2.1 x.2.1.1 x.2.1.2.1
def zE.X (m:Int) (F:Nat):FX TI (G m) Sg:={hn:={na:=1},lv:=[⟨7,zC.sp F⟩,⟨8,z8.sp F⟩],N:=23,H:=zE.h,HL:=zE.hl,L:=mkL zE.hl [⟨7,fun x R K=>zE.L7 F R K F x⟩]}
theorem zE.ok (m:Int) (F:Nat):OKP m 30 zE.sg (zE.sp F) :=
 okp (zE.X m F) Go.Proofs.Tryd.func30 ⟨zC.ok m F,z8.ok m F,trivial⟩ trivial 1 0 (yI (FX.loopk 7 F (zE.L7 F)) zv) zv
def zF.te:TEs:=[kL 1,(2,kI),(4,kI),(5,kB),(10,kB),(14,kB),(19,kB)]
def zF.tb:TEs:=[(1,.g zm)]
def zF.h:SH:=shN zF.te zF.tb [] [(0,1,1,0),(1,5,1,0),(2,13,1,0),(3,13,1,0),(4,13,1,0),(5,13,1,0),(6,2,0,0),(7,21,1,0),(8,21,1,0),(9,21,1,0),(10,2,0,0),(11,37,1,0),(12,37,1,0),(13,2,0,0),(14,64,0,0),(15,2,0,0),(16,2,0,0)]
def zF.hj:Nat->Option Shape:=shO zF.te zF.tb [] [(6,13,1,0),(10,21,1,0)]
def zF.J10 (F:Nat) (x:(Unit×Int×Bool×Unit)×(zm.T×Unit)×(Unit)) (R:Type) (K:KK R):Option R :=
 zF.j10 F (fun r2=>K .ret (yQ (zF.h 10) ((r2,()),(),()))) (fun r2=>K .ret (yQ (zF.h 13) ((r2,()),(),()))) (fun r2=>K .ret (yQ (zF.h 15) ((r2,()),(),()))) (fun t19=>K .normal (yQ (zF.h 14) ((t19,()),(),()))) x.1.2.1 x.1.2.2.1 x.2.1.1
def zF.J6 (F:Nat) (x:(Unit×Int×Bool×Unit)×(zm.T×Unit)×(Unit)) (R:Type) (K:KK R):Option R :=
 zF.j6 F (fun r2=>K .ret (yQ (zF.h 6) ((r2,()),(),()))) (fun r2=>K .ret (yQ (zF.h 10) ((r2,()),(),()))) (fun r2=>K .ret (yQ (zF.h 13) ((r2,()),(),()))) (fun r2=>K .ret (yQ (zF.h 15) ((r2,()),(),()))) (fun t19=>K .normal (yQ (zF.h 14) ((t19,()),(),()))) x.1.2.1 x.1.2.2.1 x.2.1.1
def zF.X (m:Int) (F:Nat):FX TI (G m) Sg:={hn:={na:=1},N:=21,H:=zF.h,HJ:=zF.hj,J:=mkJ zF.hj [⟨10,zF.J10 F⟩,⟨6,zF.J6 F⟩]}
theorem zF.ok (m:Int) (F:Nat):OKP m 48 zF.sg (zF.sp F) :=
 okp (zF.X m F) Go.Proofs.Tryd.func48 trivial trivial 0 2 zv (yI (FX.cutk 10) (yI (FX.cutk 6) zv))
def zN.te:TEs:=[kL 0,(2,kI),kL 4,kL 6]
def zN.tb:TEs:=[(0,.g yd),(4,.g za),(6,.g za)]
def zN.h:SH:=shN zN.te zN.tb [] [(0,15,7,0),(1,12,7,0),(2,8,5,0)]
def zN.X (m:Int) (F:Nat):FX TI (G m) Sg:={hn:={na:=3},N:=19,H:=zN.h}
theorem zN.ok (m:Int) (F:Nat):OKP m 67 zN.sg (zN.sp F) :=
 okp (zN.X m F) Go.Proofs.Tryd.func67 trivial trivial 0 0 zv zv
def zM.te:TEs:=[kL 0,kL 4,kL 5,kL 6]
def zM.tb:TEs:=[(0,.g yd),(4,.g za),(5,.g za),(6,.g za)]
def zM.h:SH:=shN zM.te zM.tb [] [(0,15,15,0),(1,8,9,0)]
def zM.X (m:Int) (F:Nat):FX TI (G m) Sg:={hn:={na:=3},lv:=[⟨8,z8.sp F⟩,⟨67,zN.sp F⟩],N:=14,H:=zM.h}
theorem zM.ok (m:Int) (F:Nat):OKP m 66 zM.sg (zM.sp F) :=
 okp (zM.X m F) Go.Proofs.Tryd.func66 ⟨z8.ok m F,zN.ok m F,trivial⟩ trivial 0 0 zv zv
def zz.te:TEs:=[(0,.c (.int .u64)),(2,kI),(4,kB),(8,kB),(14,kB)]
def zz.h:SH:=shN zz.te [] [] [(0,3,0,0),(1,7,0,0),(2,1,0,0),(3,3,0,0),(4,11,0,0),(5,3,0,0),(6,3,0,0),(7,19,0,0),(8,3,0,0),(9,3,0,0),(10,2,0,0)]
def zz.hj:Nat->Option Shape:=shO zz.te [] [] [(4,3,0,0),(7,3,0,0)]
def zz.J7 (F:Nat) (x:(Int×Int×Unit)×(Unit)×(Unit)) (R:Type) (K:KK R):Option R :=
 zz.j7 F (fun n=>K .ret (yQ (zz.h 10) ((n,()),(),()))) x.1.1 x.1.2.1
def zz.J4 (F:Nat) (x:(Int×Int×Unit)×(Unit)×(Unit)) (R:Type) (K:KK R):Option R :=
 zz.j4 F (fun n=>K .ret (yQ (zz.h 10) ((n,()),(),()))) x.1.1 x.1.2.1
def zz.X (m:Int) (F:Nat):FX TI (G m) Sg:={hn:={na:=1},N:=25,H:=zz.h,HJ:=zz.hj,J:=mkJ zz.hj [⟨7,zz.J7 F⟩,⟨4,zz.J4 F⟩]}
theorem zz.ok (m:Int) (F:Nat):OKP m 86 zz.sg (zz.sp F) :=
 okp (zz.X m F) Go.Proofs.Tryd.func86 trivial trivial 0 2 zv (yI (FX.cutk 7) (yI (FX.cutk 4) zv))
def zG.te:TEs:=[(0,.c (.int .u64)),(2,kI)]
def zG.h:SH:=shN zG.te [] [] [(0,1,0,0),(1,2,0,0)]
def zG.X (m:Int) (F:Nat):FX TI (G m) Sg:={hn:={na:=1},lv:=[⟨86,zz.sp F⟩],N:=6,H:=zG.h}
theorem zG.ok (m:Int) (F:Nat):OKP m 80 zG.sg (zG.sp F) :=
 okp (zG.X m F) Go.Proofs.Tryd.func80 ⟨zz.ok m F,trivial⟩ trivial 0 0 zv zv
def zd.te:TEs:=[(0,.c (.int .u64)),(1,.c (.int .u64)),(2,.c (.int .u64)),(6,.c (.int .u64)),(7,.c (.int .u64)),(8,.c (.int .u64)),(9,.c (.int .u64)),(10,.c (.int .u64)),(11,.c (.int .u64)),(12,.c (.int .u64)),(13,.c (.int .u64)),(14,.c (.int .u64)),(15,.c (.int .u64)),(16,.c (.int .u64)),(17,.c (.int .u64)),(18,.c (.int .u64)),(20,kB),(24,kB),(27,kB),(78,kB),(85,kB),(113,kB),(120,kB)]
def zd.h:SH:=shN zd.te [] [] [(0,7,0,0),(1,65543,0,0),(3,131079,0,0),(5,262151,0,0),(6,24,0,0),(7,39,0,0),(8,39,0,0),(9,103,0,0),(10,231,0,0),(11,486,0,0),(12,996,0,0),(13,2020,0,0),(14,3556,0,0),(15,7652,0,0),(16,15844,0,0),(17,540132,0,0),(18,15844,0,0),(19,15844,0,0),(20,1064420,0,0),(21,22756,0,0),(22,55524,0,0),(23,63716,0,0),(24,2160868,0,0),(25,63716,0,0),(26,63716,0,0),(27,4258020,0,0),(28,24,0,0)]
def zd.hl:SH:=shN zd.te [] [] [(17,15844,0,0),(24,63716,0,0)]
def zd.hj:Nat->Option Shape:=shO zd.te [] [] [(21,7652,0,0),(28,55332,0,0)]
def zd.L17 (F:Nat) (R:Type) (K:KK R) (n:Nat) (x:(Int×Int×Int×Int×Int×Int×Int×Int×Int×Unit)×(Unit)×(Unit)):Option R :=
 zd.l17 F (fun y s yn1 yn0 un32 un1 un0 q1 rhat t85=>K (.exit 0) (yQ (zd.h 20) ((y,s,yn1,yn0,un32,un1,un0,q1,rhat,t85,()),(),()))) (fun y s yn1 yn0 un32 un1 un0 q1 rhat t78=>K (.exit 0) (yQ (zd.h 17) ((y,s,yn1,yn0,un32,un1,un0,q1,rhat,t78,()),(),()))) n x.1.1 x.1.2.1 x.1.2.2.1 x.1.2.2.2.1 x.1.2.2.2.2.1 x.1.2.2.2.2.2.1 x.1.2.2.2.2.2.2.1 x.1.2.2.2.2.2.2.2.1 x.1.2.2.2.2.2.2.2.2.1
def zd.L24 (F:Nat) (R:Type) (K:KK R) (n:Nat) (x:(Int×Int×Int×Int×Int×Int×Int×Int×Int×Unit)×(Unit)×(Unit)):Option R :=
 zd.l24 F (fun y s yn1 yn0 un0 q1 rhat un21 q0 t120=>K (.exit 2) (yQ (zd.h 27) ((y,s,yn1,yn0,un0,q1,rhat,un21,q0,t120,()),(),()))) (fun y s yn1 yn0 un0 q1 rhat un21 q0 t113=>K (.exit 2) (yQ (zd.h 24) ((y,s,yn1,yn0,un0,q1,rhat,un21,q0,t113,()),(),()))) n x.1.1 x.1.2.1 x.1.2.2.1 x.1.2.2.2.1 x.1.2.2.2.2.1 x.1.2.2.2.2.2.1 x.1.2.2.2.2.2.2.1 x.1.2.2.2.2.2.2.2.1 x.1.2.2.2.2.2.2.2.2.1
def zd.J28 (F:Nat) (x:(Int×Int×Int×Int×Int×Int×Unit)×(Unit)×(Unit)) (R:Type) (K:KK R):Option R :=
 zd.j28 F (fun quo rem=>K .ret (yQ (zd.h 28) ((quo,rem,()),(),()))) x.1.1 x.1.2.1 x.1.2.2.1 x.1.2.2.2.1 x.1.2.2.2.2.1 x.1.2.2.2.2.2.1
def zd.J21 (F:Nat) (x:(Int×Int×Int×Int×Int×Int×Int×Int×Unit)×(Unit)×(Unit)) (R:Type) (K:KK R):Option R :=
 zd.j21 F (fun quo rem=>K .ret (yQ (zd.h 28) ((quo,rem,()),(),()))) x.1.1 x.1.2.1 x.1.2.2.1 x.1.2.2.2.1 x.1.2.2.2.2.1 x.1.2.2.2.2.2.1 x.1.2.2.2.2.2.2.1 x.1.2.2.2.2.2.2.2.1
def zd.X (m:Int) (F:Nat):FX TI (G m) Sg:={hn:={na:=3},lv:=[⟨80,zG.sp F⟩],N:=135,H:=zd.h,HL:=zd.hl,HJ:=zd.hj,L:=mkL zd.hl [⟨17,fun x R K=>zd.L17 F R K F x⟩,⟨24,fun x R K=>zd.L24 F R K F x⟩],J:=mkJ zd.hj [⟨28,zd.J28 F⟩,⟨21,zd.J21 F⟩]}
theorem zd.ok (m:Int) (F:Nat):OKP m 71 zd.sg (zd.sp F) :=
 okp (zd.X m F) Go.Proofs.Tryd.func71 ⟨zG.ok m F,trivial⟩ trivial 2 2 (yI (FX.loopk 24 F (zd.L24 F)) (yI (FX.loopk 17 F (zd.L17 F)) zv)) (yI (FX.cutk 28) (yI (FX.cutk 21) zv))
def zD.te:TEs:=[(0,.c (.int .u64)),(1,.c (.int .u64)),(2,.c (.int .u64)),(3,.c (.int .u64)),(8,.c (.int .u64)),(9,.c (.int .u64)),(10,.c (.int .u64)),(11,.c (.int .u64)),(12,kI),(13,.c (.int .u64)),(15,kB),(34,kB),(61,kB)]
def zD.h:SH:=shN zD.te [] [] [(0,47,0,0),(1,1071,0,0),(2,154,0,0),(3,176,0,0),(4,240,0,0),(5,238,0,0),(6,494,0,0),(7,2542,0,0),(8,494,0,0),(9,494,0,0),(10,494,0,0),(11,4590,0,0),(12,494,0,0),(13,1006,0,0),(14,494,0,0),(15,494,0,0),(16,240,0,0)]
def zD.hl:SH:=shN zD.te [] [] [(7,494,0,0)]
def zD.L7 (F:Nat) (R:Type) (K:KK R) (n:Nat) (x:(Int×Int×Int×Int×Int×Int×Int×Unit)×(Unit)×(Unit)):Option R :=
 zD.l7 F (fun al bh bl ql rh rl i t34=>K (.exit 0) (yQ (zD.h 7) ((al,bh,bl,ql,rh,rl,i,t34,()),(),()))) n x.1.1 x.1.2.1 x.1.2.2.1 x.1.2.2.2.1 x.1.2.2.2.2.1 x.1.2.2.2.2.2.1 x.1.2.2.2.2.2.2.1
def zD.X (m:Int) (F:Nat):FX TI (G m) Sg:={hn:={na:=4},lv:=[⟨71,zd.sp F⟩,⟨20,zJ.sp F⟩],N:=82,H:=zD.h,HL:=zD.hl,L:=mkL zD.hl [⟨7,fun x R K=>zD.L7 F R K F x⟩]}
theorem zD.ok (m:Int) (F:Nat):OKP m 52 zD.sg (zD.sp F) :=
 okp (zD.X m F) Go.Proofs.Tryd.func52 ⟨zd.ok m F,zJ.ok m F,trivial⟩ trivial 1 0 (yI (FX.loopk 7 F (zD.L7 F)) zv) zv
def yv.te:TEs:=[kL 2,kL 3,kL 4,kL 5,(6,kI),(7,.c (.int .u64)),(8,.c (.int .u64)),(9,.c (.int .u64)),(10,.c (.int .u64)),(11,.c (.int .u64)),(12,.c (.int .u64)),(13,.c (.int .u64)),(14,.c (.int .u64)),kL 15,(16,kI),kL 17,(20,kB),(57,kB)]
def yv.tb:TEs:=[(2,.g za),(3,.g za),(4,.g za),(5,.g za),(15,.g za),(17,.g za)]
def yv.h:SH:=shN yv.te yv.tb [] [(0,15,15,0),(1,65551,15,0),(2,28,12,0),(3,111,15,0),(4,495,15,0),(5,7695,15,0),(6,30733,29,0),(7,161805,29,0),(8,28,12,0),(9,57356,60,0),(10,28,12,0)]
def yv.X (m:Int) (F:Nat):FX TI (G m) Sg:={hn:={na:=2},lv:=[⟨15,yT.sp F⟩,⟨52,zD.sp F⟩,⟨19,yV.sp F⟩],N:=73,H:=yv.h}
theorem yv.ok (m:Int) (F:Nat):OKP m 40 yv.sg (yv.sp F) :=
 okp (yv.X m F) Go.Proofs.Tryd.func40 ⟨yT.ok m F,zD.ok m F,yV.ok m F,trivial⟩ trivial 0 0 zv zv
def yO.te:TEs:=[(3,kI),kL 4,kL 5,kL 6,(8,kB),(9,kB),(10,.c (.int .u64)),(11,.c (.int .u64)),(12,.c (.int .u64)),(13,.c (.int .u64)),(14,.c (.int .u64)),(15,.c (.int .u64)),(16,.c (.int .u64)),(25,kI),(26,kB),(29,kB),(33,kB),(58,kB),(72,kB)]
def yO.tb:TEs:=[(4,.g za),(5,.g za),(6,.g za)]
def yO.h:SH:=shN yO.te yO.tb [] [(0,15,7,0),(1,47,7,0),(2,8239,7,0),(3,24623,7,0),(4,16,0,0),(5,41007,7,0),(6,16,0,0),(7,65551,7,0),(8,16,0,0),(9,203,5,0),(10,963,1,0),(11,3523,1,0),(12,5315,1,0),(13,136387,1,0),(14,16,0,0),(15,262147,1,0),(16,16,0,0),(17,16,0,0)]
def yO.X (m:Int) (F:Nat):FX TI (G m) Sg:={hn:={na:=4},lv:=[⟨15,yT.sp F⟩,⟨20,zJ.sp F⟩],N:=89,H:=yO.h}
theorem yO.ok (m:Int) (F:Nat):OKP m 41 yO.sg (yO.sp F) :=
 okp (yO.X m F) Go.Proofs.Tryd.func41 ⟨yT.ok m F,zJ.ok m F,trivial⟩ trivial 0 0 zv zv
def y7.te:TEs:=[kL 2,kL 3,kL 4,(5,kI),(6,.c (.int .u64)),(7,.c (.int .u64)),(8,.c (.int .u64)),kL 10,(49,kB)]
def y7.tb:TEs:=[(2,.g za),(3,.g za),(4,.g za),(10,.g za)]
def y7.h:SH:=shN y7.te y7.tb [] [(0,7,7,0),(1,55,7,0),(2,87,7,0),(3,135,15,0),(4,388,12,0),(5,12,4,0),(6,12,4,0)]
def y7.X (m:Int) (F:Nat):FX TI (G m) Sg:={hn:={na:=2},lv:=[⟨18,zQ.sp F⟩],N:=52,H:=y7.h}
theorem y7.ok (m:Int) (F:Nat):OKP m 42 y7.sg (y7.sp F) :=
 okp (y7.X m F) Go.Proofs.Tryd.func42 ⟨zQ.ok m F,trivial⟩ trivial 0 0 zv zv
def yF.te:TEs:=[(2,kI),kL 3,kL 4,kL 6,(7,kI),kL 8,kL 9,(10,kI),(16,kB),(39,kB),(48,kB)]
def yF.tb:TEs:=[(3,.g za),(4,.g za),(6,.g za),(8,.g za),(9,.g za)]
def yF.h:SH:=shN yF.te yF.tb [] [(0,15,7,0),(1,271,7,0),(2,24,4,0),(3,239,31,0),(4,686,15,0),(5,24,4,0),(6,1064,12,0),(7,24,4,0),(8,24,4,0)]
def yF.X (m:Int) (F:Nat):FX TI (G m) Sg:={hn:={na:=3},lv:=[⟨40,yv.sp F⟩,⟨41,yO.sp F⟩,⟨7,zC.sp F⟩,⟨9,yS.sp F⟩,⟨42,y7.sp F⟩],N:=59,H:=yF.h}
theorem yF.ok (m:Int) (F:Nat):OKP m 25 yF.sg (yF.sp F) :=
 okp (yF.X m F) Go.Proofs.Tryd.func25 ⟨yv.ok m F,yO.ok m F,zC.ok m F,yS.ok m F,y7.ok m F,trivial⟩ trivial 0 0 zv zv
def xg.te:TEs:=[(0,kI),(2,kI)]
def xg.h:SH:=shN xg.te [] [] [(0,1,0,0),(1,2,0,0)]
def xg.X (m:Int) (F:Nat):FX TI (G m) Sg:={hn:={na:=1},N:=7,H:=xg.h}
theorem xg.ok (m:Int) (F:Nat):OKP m 79 xg.sg (xg.sp F) :=
 okp (xg.X m F) Go.Proofs.Tryd.func79 trivial trivial 0 0 zv zv
def zP.te:TEs:=[kL 0,kL 4,kL 5,kL 6]
def zP.tb:TEs:=[(0,.g yd),(4,.g za),(5,.g za),(6,.g za)]
def zP.h:SH:=shN zP.te zP.tb [] [(0,15,15,0),(1,8,9,0)]
def zP.X (m:Int) (F:Nat):FX TI (G m) Sg:={hn:={na:=3},lv:=[⟨42,y7.sp F⟩,⟨67,zN.sp F⟩],N:=14,H:=zP.h}
theorem zP.ok (m:Int) (F:Nat):OKP m 70 zP.sg (zP.sp F) :=
 okp (zP.X m F) Go.Proofs.Tryd.func70 ⟨y7.ok m F,zN.ok m F,trivial⟩ trivial 0 0 zv zv
def zj.te:TEs:=[kL 0,(2,.b zO),kL 4,kL 6,(7,kI),kL 8,(9,kI),kL 10,kL 11,(13,.b zO),(14,kI),(15,kI),(16,kB),(29,kB)]
def zj.tb:TEs:=[(0,.g yd),(4,.g za),(6,.g za),(8,.g za),(10,.g zO),(11,.g za)]
def zj.h:SH:=shN zj.te zj.tb [] [(0,15,7,0),(1,63,15,0),(2,3647,15,0),(3,7743,15,0),(4,3839,31,0),(5,3839,31,0),(6,12031,31,0),(7,3647,15,0),(8,3647,15,0),(9,313,45,0),(10,8,5,0)]
def zj.hl:SH:=shN zj.te zj.tb [] [(3,3647,15,0)]
def zj.L3 (F:Nat) (R:Type) (K:KK R) (n:Nat) (x:(Unit×(List zO.T)×Unit×Unit×Int×Unit×(List zO.T)×Int×Int×Unit)×(yd.T×za.T×za.T×za.T×Unit)×(Unit)):Option R :=
 zj.l3 F (fun tiers rate t13 t14 t15 t16 m x r6 ways=>K (.exit 0) (yQ (zj.h 3) (((),tiers,(),(),rate,(),t13,t14,t15,t16,()),(m,x,r6,ways,()),()))) n x.1.2.1 x.1.2.2.2.2.1 x.1.2.2.2.2.2.2.1 x.1.2.2.2.2.2.2.2.1 x.1.2.2.2.2.2.2.2.2.1 x.2.1.1 x.2.1.2.1 x.2.1.2.2.1 x.2.1.2.2.2.1
def zj.X (m:Int) (F:Nat):FX TI (G m) Sg:={hn:={na:=3,sp:=fun s=>lk 0 s [(0,2)]},lv:=[⟨79,xg.sp F⟩,⟨7,zC.sp F⟩,⟨66,zM.sp F⟩,⟨70,zP.sp F⟩],N:=75,H:=zj.h,HL:=zj.hl,L:=mkL zj.hl [⟨3,fun x R K=>zj.L3 F R K F x⟩]}
theorem zj.ok (m:Int) (F:Nat):OKP m 68 zj.sg (zj.sp F) :=
 okp (zj.X m F) Go.Proofs.Tryd.func68 ⟨xg.ok m F,zC.ok m F,zM.ok m F,zP.ok m F,trivial⟩ trivial 1 0 (yI (FX.loopk 3 F (zj.L3 F)) zv) zv
def zX.te:TEs:=[(0,.b za),kL 2,(3,kI),(4,.c (.int .u64)),(5,.c (.int .u64)),(6,kI),kL 8,(9,.c (.int .u64)),kL 10,(11,.b za),(12,kI),(13,kI),(14,kB),(50,kB)]
def zX.tb:TEs:=[(2,.g za),(8,.g za),(10,.g za)]
def zX.h:SH:=shN zX.te zX.tb [] [(0,3,1,0),(1,27,1,0),(2,59,1,0),(3,3642,1,0),(4,7738,1,0),(5,3706,3,0),(6,3706,3,0),(7,3834,3,0),(8,3834,3,0),(9,3642,1,0),(10,3642,1,0),(11,290,5,0),(12,8450,5,0),(13,6,1,0),(14,6,1,0)]
def zX.hl:SH:=shN zX.te zX.tb [] [(4,3642,1,0)]
def zX.L4 (F:Nat) (R:Type) (K:KK R) (n:Nat) (x:(Unit×Int×Int×Int×(List za.T)×Int×Int×Unit)×(za.T×Unit)×(Unit)):Option R :=
 zX.l4 F (fun lo hi top t11 t12 t13 t14 r2=>K (.exit 0) (yQ (zX.h 4) (((),lo,hi,top,t11,t12,t13,t14,()),(r2,()),()))) n x.1.2.1 x.1.2.2.1 x.1.2.2.2.1 x.1.2.2.2.2.1 x.1.2.2.2.2.2.1 x.1.2.2.2.2.2.2.1 x.2.1.1
def zX.X (m:Int) (F:Nat):FX TI (G m) Sg:={hn:={na:=1},lv:=[⟨18,zQ.sp F⟩],N:=53,H:=zX.h,HL:=zX.hl,L:=mkL zX.hl [⟨4,fun x R K=>zX.L4 F R K F x⟩]}
theorem zX.ok (m:Int) (F:Nat):OKP m 69 zX.sg (zX.sp F) :=
 okp (zX.X m F) Go.Proofs.Tryd.func69 ⟨zQ.ok m F,trivial⟩ trivial 1 0 (yI (FX.loopk 4 F (zX.L4 F)) zv) zv
def zo.te:TEs:=[kL 0,(3,.b za),kL 5,kL 6,kL 8,kL 9,(11,kI),(12,kB),(17,kB),(28,kB),(31,kB),(47,kB),(57,kB),(67,kB),(96,kB)]
def zo.tb:TEs:=[(0,.g yd),(5,.g ya),(6,.g zm),(8,.g za),(9,.g za)]
def zo.h:SH:=shN zo.te zo.tb [] [(0,31,15,0),(1,95,15,0),(2,223,15,0),(3,16,9,0),(4,351,15,0),(5,16,9,0),(6,607,15,0),(7,16,9,0),(8,1119,15,0),(9,16,9,0),(10,2139,13,0),(11,16,9,0),(12,4187,13,0),(13,4187,13,0),(14,16,9,0),(15,8219,13,0),(16,18,9,0),(17,16,9,0),(18,57,29,0),(19,16441,29,0),(20,48,25,0),(21,16,9,0)]
def zo.hj:Nat->Option Shape:=shO zo.te zo.tb [] [(18,27,13,0)]
def zo.J18 (F:Nat) (x:(Unit×(List za.T)×Unit×Unit×Unit)×(yd.T×zm.T×za.T×Unit)×(Unit)) (R:Type) (K:KK R):Option R :=
 zo.j18 F (fun m r8=>K .ret (yQ (zo.h 21) (((),()),(m,r8,()),()))) x.1.2.1 x.2.1.1 x.2.1.2.1 x.2.1.2.2.1
def zo.X (m:Int) (F:Nat):FX TI (G m) Sg:={hn:={na:=4},lv:=[⟨7,zC.sp F⟩,⟨66,zM.sp F⟩,⟨25,yF.sp F⟩,⟨67,zN.sp F⟩,⟨68,zj.sp F⟩,⟨69,zX.sp F⟩,⟨70,zP.sp F⟩],N:=104,H:=zo.h,HJ:=zo.hj,J:=mkJ zo.hj [⟨18,zo.J18 F⟩]}
theorem zo.ok (m:Int) (F:Nat):OKP m 49 zo.sg (zo.sp F) :=
 okp (zo.X m F) Go.Proofs.Tryd.func49 ⟨zC.ok m F,zM.ok m F,yF.ok m F,zN.ok m F,zj.ok m F,zX.ok m F,zP.ok m F,trivial⟩ trivial 0 1 zv (yI (FX.cutk 18) zv)
def yB.te:TEs:=[kL 2,kL 3,(4,kI),(5,kB),(9,kB)]
def yB.tb:TEs:=[(2,.g za),(3,.g za)]
def yB.h:SH:=shN yB.te yB.tb [] [(0,3,3,0),(1,11,3,0),(2,4,0,0),(3,19,3,0),(4,16,0,0),(5,4,0,0),(6,4,0,0)]
def yB.X (m:Int) (F:Nat):FX TI (G m) Sg:={hn:={na:=2},N:=27,H:=yB.h}
theorem yB.ok (m:Int) (F:Nat):OKP m 11 yB.sg (yB.sp F) :=
 okp (yB.X m F) Go.Proofs.Tryd.func11 trivial trivial 0 0 zv zv
def yJ.te:TEs:=[kL 2,kL 3,(4,kB),kL 5,(9,kB)]
def yJ.tb:TEs:=[(2,.g zm),(3,.g za),(5,.g za)]
def yJ.h:SH:=shN yJ.te yJ.tb [] [(0,3,3,0),(1,11,7,0),(2,26,6,0),(3,10,6,0),(4,4,0,0)]
def yJ.X (m:Int) (F:Nat):FX TI (G m) Sg:={hn:={na:=2},lv:=[⟨7,zC.sp F⟩,⟨8,z8.sp F⟩,⟨11,yB.sp F⟩],N:=20,H:=yJ.h}
theorem yJ.ok (m:Int) (F:Nat):OKP m 50 yJ.sg (yJ.sp F) :=
 okp (yJ.X m F) Go.Proofs.Tryd.func50 ⟨zC.ok m F,z8.ok m F,yB.ok m F,trivial⟩ trivial 0 0 zv zv
def zi.te:TEs:=[kL 2,kL 3,(4,.c (.sl za)),(5,kI),(6,.c (.sl za)),(6,.ow 6),(7,.ow 7),(8,.loc 15),(9,kI),kL 10,(11,kI),kL 12,(17,.c (.sl zm)),(18,kI),(19,kI),(20,kB),(44,kB)]
def zi.tb:TEs:=[(2,.g ya),(3,.g za),(10,.g zm),(12,.g za),(15,.g yd)]
def zi.tp:List ve:=[⟨6,.env 6,za⟩,⟨7,.env 7,za⟩]
def zi.h:SH:=shN zi.te zi.tb zi.tp [(0,3,3,0),(1,99,3,3),(2,225,17,3),(3,28897,17,3),(4,61665,17,3),(5,29665,21,3),(6,30689,21,3),(7,32737,29,3),(8,97761,25,3),(9,12,0,0),(10,31969,25,3),(11,28897,17,3),(12,28897,17,3),(13,12,0,0)]
def zi.hl:SH:=shN zi.te zi.tb zi.tp [(4,28897,17,3)]
def zi.hj:Nat->Option Shape:=shO zi.te zi.tb zi.tp [(13,16,0,0)]
def zi.L4 (F:Nat) (R:Type) (K:KK R) (n:Nat) (x:(Unit×Unit×Unit×Unit×(List zm.T)×Int×Int×Unit)×(ya.T×yd.T×Unit)×((List za.T)×(List za.T)×Unit)):Option R :=
 zi.l4 F (fun r4 r5=>K .ret (yQ (zi.h 9) ((r4,r5,()),(),()))) (fun t17 t18 t19 t20 p m mags pile=>K (.exit 0) (yQ (zi.h 4) (((),(),(),(),t17,t18,t19,t20,()),(p,m,()),(mags,pile,())))) n x.1.2.2.2.2.1 x.1.2.2.2.2.2.1 x.1.2.2.2.2.2.2.1 x.2.1.1 x.2.1.2.1 x.2.2.1 x.2.2.2.1
def zi.J13 (F:Nat) (x:((List za.T)×Unit)×(Unit)×(Unit)) (R:Type) (K:KK R):Option R :=
 zi.j13 F (fun r4 r5=>K .ret (yQ (zi.h 13) ((r4,r5,()),(),()))) x.1.1
def zi.X (m:Int) (F:Nat):FX TI (G m) Sg:={hn:={MU:=fun s=>lk false s [(49,true),(55,true)],na:=2,fzJ:=fun r=>lk [] r [(13,[6])]},lv:=[⟨48,zF.sp F⟩,⟨49,zo.sp F⟩,⟨50,yJ.sp F⟩],N:=58,H:=zi.h,HL:=zi.hl,HJ:=zi.hj,L:=mkL zi.hl [⟨4,fun x R K=>zi.L4 F R K F x⟩],J:=mkJ zi.hj [⟨13,zi.J13 F⟩]}
theorem zi.ok (m:Int) (F:Nat):OKP m 31 zi.sg (zi.sp F) :=
 okp (zi.X m F) Go.Proofs.Tryd.func31 ⟨zF.ok m F,zo.ok m F,yJ.ok m F,trivial⟩ trivial 1 1 (yI (FX.loopk 4 F (zi.L4 F)) zv) (yI (FX.cutk 13) zv)
def yD.te:TEs:=[kL 1,kL 2,(3,kI),(4,kI),(6,kI),(7,kI),(8,kI),kL 10,(11,kI),(13,kI),(21,kB),(31,kB),(49,kB)]
def yD.tb:TEs:=[(1,.g ya),(2,.g za),(10,.g za)]
def yD.h:SH:=shN yD.te yD.tb [] [(0,3,3,0),(1,51,3,0),(2,1075,3,0),(3,14,2,0),(4,67,3,0),(5,2115,3,0),(6,14,2,0),(7,387,7,0),(8,898,6,0),(9,4994,6,0),(10,14,2,0),(11,14,2,0)]
def yD.X (m:Int) (F:Nat):FX TI (G m) Sg:={hn:={na:=1},lv:=[⟨28,zh.sp F⟩,⟨29,zu.sp F⟩,⟨30,zE.sp F⟩,⟨31,zi.sp F⟩],N:=54,H:=yD.h}
theorem yD.ok (m:Int) (F:Nat):OKP m 21 yD.sg (yD.sp F) :=
 okp (yD.X m F) Go.Proofs.Tryd.func21 ⟨zh.ok m F,zu.ok m F,zE.ok m F,zi.ok m F,trivial⟩ trivial 0 0 zv zv
def zV.te:TEs:=[kL 1,(2,kI),(4,kI),(5,kB),(10,kB),(14,kB),(19,kB)]
def zV.tb:TEs:=[(1,.g zm)]
def zV.h:SH:=shN zV.te zV.tb [] [(0,1,1,0),(1,5,1,0),(2,13,1,0),(3,13,1,0),(4,13,1,0),(5,13,1,0),(6,2,0,0),(7,21,1,0),(8,21,1,0),(9,21,1,0),(10,2,0,0),(11,37,1,0),(12,37,1,0),(13,2,0,0),(14,64,0,0),(15,2,0,0),(16,2,0,0)]
def zV.hj:Nat->Option Shape:=shO zV.te zV.tb [] [(6,13,1,0),(10,21,1,0)]
def zV.J10 (F:Nat) (x:(Unit×Int×Bool×Unit)×(zm.T×Unit)×(Unit)) (R:Type) (K:KK R):Option R :=
 zV.j10 F (fun r2=>K .ret (yQ (zV.h 10) ((r2,()),(),()))) (fun r2=>K .ret (yQ (zV.h 13) ((r2,()),(),()))) (fun r2=>K .ret (yQ (zV.h 15) ((r2,()),(),()))) (fun t19=>K .normal (yQ (zV.h 14) ((t19,()),(),()))) x.1.2.1 x.1.2.2.1 x.2.1.1
def zV.J6 (F:Nat) (x:(Unit×Int×Bool×Unit)×(zm.T×Unit)×(Unit)) (R:Type) (K:KK R):Option R :=
 zV.j6 F (fun r2=>K .ret (yQ (zV.h 6) ((r2,()),(),()))) (fun r2=>K .ret (yQ (zV.h 10) ((r2,()),(),()))) (fun r2=>K .ret (yQ (zV.h 13) ((r2,()),(),()))) (fun r2=>K .ret (yQ (zV.h 15) ((r2,()),(),()))) (fun t19=>K .normal (yQ (zV.h 14) ((t19,()),(),()))) x.1.2.1 x.1.2.2.1 x.2.1.1
def zV.X (m:Int) (F:Nat):FX TI (G m) Sg:={hn:={na:=1},N:=21,H:=zV.h,HJ:=zV.hj,J:=mkJ zV.hj [⟨10,zV.J10 F⟩,⟨6,zV.J6 F⟩]}
theorem zV.ok (m:Int) (F:Nat):OKP m 22 zV.sg (zV.sp F) :=
 okp (zV.X m F) Go.Proofs.Tryd.func22 trivial trivial 0 2 zv (yI (FX.cutk 10) (yI (FX.cutk 6) zv))
def y6.te:TEs:=[kL 2,kL 3,kL 4,kL 5]
def y6.tb:TEs:=[(2,.g za),(3,.g za),(4,.g za),(5,.g za)]
def y6.h:SH:=shN y6.te y6.tb [] [(0,7,7,0),(1,12,12,0),(2,4,4,0)]
def y6.X (m:Int) (F:Nat):FX TI (G m) Sg:={hn:={na:=2},lv:=[⟨9,yS.sp F⟩],N:=14,H:=y6.h}
theorem y6.ok (m:Int) (F:Nat):OKP m 32 y6.sg (y6.sp F) :=
 okp (y6.X m F) Go.Proofs.Tryd.func32 ⟨yS.ok m F,trivial⟩ trivial 0 0 zv zv
def y9.te:TEs:=[kL 2,kL 3,kL 4,kL 5]
def y9.tb:TEs:=[(2,.g za),(3,.g za),(4,.g za),(5,.g za)]
def y9.h:SH:=shN y9.te y9.tb [] [(0,7,7,0),(1,12,12,0),(2,4,4,0)]
def y9.X (m:Int) (F:Nat):FX TI (G m) Sg:={hn:={na:=2},lv:=[⟨42,y7.sp F⟩],N:=14,H:=y9.h}
theorem y9.ok (m:Int) (F:Nat):OKP m 33 y9.sg (y9.sp F) :=
 okp (y9.X m F) Go.Proofs.Tryd.func33 ⟨y7.ok m F,trivial⟩ trivial 0 0 zv zv
def yE.te:TEs:=[kL 2,kL 3,kL 4,kL 5]
def yE.tb:TEs:=[(2,.g za),(3,.g za),(4,.g za),(5,.g za)]
def yE.h:SH:=shN yE.te yE.tb [] [(0,7,7,0),(1,12,12,0),(2,4,4,0)]
def yE.X (m:Int) (F:Nat):FX TI (G m) Sg:={hn:={na:=2},lv:=[⟨8,z8.sp F⟩],N:=14,H:=yE.h}
theorem yE.ok (m:Int) (F:Nat):OKP m 34 yE.sg (yE.sp F) :=
 okp (yE.X m F) Go.Proofs.Tryd.func34 ⟨z8.ok m F,trivial⟩ trivial 0 0 zv zv
def ze.te:TEs:=[(0,.b za),(1,.c .fn),kL 4,kL 5,(6,kI),(9,kB),(17,kB),(27,kB)]
def ze.tb:TEs:=[(4,.g za),(5,.g za)]
def ze.h:SH:=shN ze.te ze.tb [] [(0,7,1,0),(1,39,1,0),(3,15,3,0),(4,31,3,0),(5,95,3,0),(6,31,3,0),(7,159,3,0),(8,31,3,0),(9,4,1,0)]
def ze.hl:SH:=shN ze.te ze.tb [] [(5,31,3,0)]
def ze.L5 (F:Nat) (R:Type) (K:KK R) (n:Nat) (x:((List za.T)×Nat×Unit×Unit×Int×Unit)×(za.T×za.T×Unit)×(Unit)):Option R :=
 ze.l5 F (fun x cmp i t17 r4 m=>K (.exit 0) (yQ (ze.h 5) ((x,cmp,(),(),i,t17,()),(r4,m,()),()))) n x.1.1 x.1.2.1 x.1.2.2.2.2.1 x.2.1.1 x.2.1.2.1
def ze.X (m:Int) (F:Nat):FX TI (G m) Sg:={hn:={DS:=fun d=>lk none d [(26,some ze.ds26)],na:=2},ld:=[⟨26,ze.d26 F⟩],N:=33,H:=ze.h,HL:=ze.hl,L:=mkL ze.hl [⟨5,fun x R K=>ze.L5 F R K F x⟩]}
theorem ze.ok (m:Int) (F:Nat):OKP m 35 ze.sg (ze.sp F) :=
 okp (ze.X m F) Go.Proofs.Tryd.func35 trivial ⟨Yn ⟨⟨11,by kernel_rfl,yB.ok m F⟩,trivial⟩,trivial⟩ 1 0 (yI (FX.loopk 5 F (ze.L5 F)) zv) zv
def zf.te:TEs:=[(0,.b za),(1,.c .fn),kL 4,kL 5,(6,kI),(9,kB),(17,kB),(27,kB)]
def zf.tb:TEs:=[(4,.g za),(5,.g za)]
def zf.h:SH:=shN zf.te zf.tb [] [(0,7,1,0),(1,39,1,0),(3,15,3,0),(4,31,3,0),(5,95,3,0),(6,31,3,0),(7,159,3,0),(8,31,3,0),(9,4,1,0)]
def zf.hl:SH:=shN zf.te zf.tb [] [(5,31,3,0)]
def zf.L5 (F:Nat) (R:Type) (K:KK R) (n:Nat) (x:((List za.T)×Nat×Unit×Unit×Int×Unit)×(za.T×za.T×Unit)×(Unit)):Option R :=
 zf.l5 F (fun x cmp i t17 r4 m=>K (.exit 0) (yQ (zf.h 5) ((x,cmp,(),(),i,t17,()),(r4,m,()),()))) n x.1.1 x.1.2.1 x.1.2.2.2.2.1 x.2.1.1 x.2.1.2.1
def zf.X (m:Int) (F:Nat):FX TI (G m) Sg:={hn:={DS:=fun d=>lk none d [(26,some zf.ds26)],na:=2},ld:=[⟨26,zf.d26 F⟩],N:=33,H:=zf.h,HL:=zf.hl,L:=mkL zf.hl [⟨5,fun x R K=>zf.L5 F R K F x⟩]}
theorem zf.ok (m:Int) (F:Nat):OKP m 36 zf.sg (zf.sp F) :=
 okp (zf.X m F) Go.Proofs.Tryd.func36 trivial ⟨Yn ⟨⟨11,by kernel_rfl,yB.ok m F⟩,trivial⟩,trivial⟩ 1 0 (yI (FX.loopk 5 F (zf.L5 F)) zv) zv
def z6.te:TEs:=[(1,.b zO),kL 2,(4,kI),(5,kI),(22,kB)]
def z6.tb:TEs:=[(2,.g za)]
def z6.h:SH:=shN z6.te z6.tb [] [(0,3,1,0),(1,11,1,0),(2,27,1,0),(3,11,1,0),(4,4,0,0)]
def z6.hl:SH:=shN z6.te z6.tb [] [(2,11,1,0)]
def z6.L2 (F:Nat) (R:Type) (K:KK R) (n:Nat) (x:((List zO.T)×Unit×Int×Unit)×(za.T×Unit)×(Unit)):Option R :=
 z6.l2 F (fun tiers k t22 x=>K (.exit 0) (yQ (z6.h 2) ((tiers,(),k,t22,()),(x,()),()))) n x.1.1 x.1.2.2.1 x.2.1.1
def z6.X (m:Int) (F:Nat):FX TI (G m) Sg:={hn:={na:=2},lv:=[⟨7,zC.sp F⟩,⟨11,yB.sp F⟩],N:=26,H:=z6.h,HL:=z6.hl,L:=mkL z6.hl [⟨2,fun x R K=>z6.L2 F R K F x⟩]}
theorem z6.ok (m:Int) (F:Nat):OKP m 51 z6.sg (z6.sp F) :=
 okp (z6.X m F) Go.Proofs.Tryd.func51 ⟨zC.ok m F,yB.ok m F,trivial⟩ trivial 1 0 (yI (FX.loopk 2 F (z6.L2 F)) zv) zv
def zw.te:TEs:=[(1,.b zO),kL 2,kL 4,kL 5,(6,kI),(7,kI),(14,kB),(40,kB)]
def zw.tb:TEs:=[(2,.g za),(4,.g za),(5,.g za)]
def zw.h:SH:=shN zw.te zw.tb [] [(0,7,3,0),(1,31,7,0),(2,63,7,0),(3,127,7,0),(4,63,7,0),(5,63,7,0),(6,159,7,0),(7,12,6,0),(8,4,2,0)]
def zw.hl:SH:=shN zw.te zw.tb [] [(3,63,7,0)]
def zw.L3 (F:Nat) (R:Type) (K:KK R) (n:Nat) (x:((List zO.T)×Unit×Unit×Unit×Int×Int×Unit)×(za.T×za.T×za.T×Unit)×(Unit)):Option R :=
 zw.l3 F (fun tiers k i t14 x r4 sum=>K (.exit 0) (yQ (zw.h 3) ((tiers,(),(),(),k,i,t14,()),(x,r4,sum,()),()))) n x.1.1 x.1.2.2.2.2.1 x.1.2.2.2.2.2.1 x.2.1.1 x.2.1.2.1 x.2.1.2.2.1
def zw.X (m:Int) (F:Nat):FX TI (G m) Sg:={hn:={na:=2},lv:=[⟨51,z6.sp F⟩,⟨7,zC.sp F⟩,⟨34,yE.sp F⟩,⟨33,y9.sp F⟩,⟨32,y6.sp F⟩],N:=59,H:=zw.h,HL:=zw.hl,L:=mkL zw.hl [⟨3,fun x R K=>zw.L3 F R K F x⟩]}
theorem zw.ok (m:Int) (F:Nat):OKP m 37 zw.sg (zw.sp F) :=
 okp (zw.X m F) Go.Proofs.Tryd.func37 ⟨z6.ok m F,zC.ok m F,yE.ok m F,y9.ok m F,y6.ok m F,trivial⟩ trivial 1 0 (yI (FX.loopk 3 F (zw.L3 F)) zv) zv
def yM.te:TEs:=[(1,.b zO),kL 2,kL 4,(5,kI),(10,kB)]
def yM.tb:TEs:=[(2,.g za),(4,.g za)]
def yM.h:SH:=shN yM.te yM.tb [] [(0,7,3,0),(1,15,3,0),(2,31,3,0),(3,4,2,0),(4,4,2,0)]
def yM.X (m:Int) (F:Nat):FX TI (G m) Sg:={hn:={na:=2},lv:=[⟨51,z6.sp F⟩,⟨7,zC.sp F⟩,⟨34,yE.sp F⟩],N:=20,H:=yM.h}
theorem yM.ok (m:Int) (F:Nat):OKP m 38 yM.sg (yM.sp F) :=
 okp (yM.X m F) Go.Proofs.Tryd.func38 ⟨z6.ok m F,zC.ok m F,yE.ok m F,trivial⟩ trivial 0 0 zv zv
def yY.te:TEs:=[(2,kI),kL 3,kL 4,(6,kB),(7,kI),(11,kI),(12,kB),(16,kB),(20,kB),(24,kB),(28,kB)]
def yY.tb:TEs:=[(3,.g za),(4,.g za)]
def yY.h:SH:=shN yY.te yY.tb [] [(0,7,3,0),(1,17,0,0),(2,48,0,0),(3,112,0,0),(4,8,0,0),(5,176,0,0),(6,8,0,0),(7,304,0,0),(8,8,0,0),(9,560,0,0),(10,8,0,0),(11,1040,0,0),(12,8,0,0),(13,8,0,0)]
def yY.X (m:Int) (F:Nat):FX TI (G m) Sg:={hn:={na:=3},lv:=[⟨11,yB.sp F⟩],N:=34,H:=yY.h}
theorem yY.ok (m:Int) (F:Nat):OKP m 39 yY.sg (yY.sp F) :=
 okp (yY.X m F) Go.Proofs.Tryd.func39 ⟨yB.ok m F,trivial⟩ trivial 0 0 zv zv
def yl.te:TEs:=[(2,.b za),kL 3,kL 4,kL 6,kL 7,kL 8,kL 9,(18,kI),(19,kB),(24,kB),(31,kB),(38,kB),(45,kB),(49,kB),(53,kB),(61,kB),(67,kB),(75,kB),(83,kB),(101,kB)]
def yl.tb:TEs:=[(3,.g zm),(4,.g za),(6,.g za),(7,.g za),(8,.g za),(9,.g za)]
def yl.h:SH:=shN yl.te yl.tb [] [(0,15,7,0),(1,63,31,0),(2,191,31,0),(3,447,31,0),(4,8,4,0),(5,703,31,0),(6,8,4,0),(7,1215,31,0),(8,8,4,0),(9,2239,31,0),(10,8,4,0),(11,4287,31,0),(12,8,4,0),(13,8383,31,0),(14,8,4,0),(15,16575,31,0),(16,8,4,0),(17,32959,31,0),(18,8,4,0),(19,65727,31,0),(20,8,4,0),(21,131263,31,0),(22,8,4,0),(23,262203,29,0),(24,72,36,0),(25,8,4,0),(26,524297,4,0),(27,8,4,0),(28,8,4,0)]
def yl.X (m:Int) (F:Nat):FX TI (G m) Sg:={hn:={na:=3},lv:=[⟨7,zC.sp F⟩,⟨32,y6.sp F⟩,⟨33,y9.sp F⟩,⟨34,yE.sp F⟩,⟨35,ze.sp F⟩,⟨36,zf.sp F⟩,⟨37,zw.sp F⟩,⟨38,yM.sp F⟩,⟨25,yF.sp F⟩,⟨39,yY.sp F⟩],N:=108,H:=yl.h}
theorem yl.ok (m:Int) (F:Nat):OKP m 23 yl.sg (yl.sp F) :=
 okp (yl.X m F) Go.Proofs.Tryd.func23 ⟨zC.ok m F,y6.ok m F,y9.ok m F,yE.ok m F,ze.ok m F,zf.ok m F,zw.ok m F,yM.ok m F,yF.ok m F,yY.ok m F,trivial⟩ trivial 0 0 zv zv
def yP.te:TEs:=[(3,.b (.int .i64)),kL 4,kL 5,kL 6,kL 8,(9,kI),(11,kI),(12,kB),(17,kB),(24,kB)]
def yP.tb:TEs:=[(4,.g ya),(5,.g zm),(6,.g za),(8,.g za)]
def yP.h:SH:=shN yP.te yP.tb [] [(0,31,15,0),(1,95,15,0),(2,223,15,0),(3,16,8,0),(4,351,15,0),(5,16,8,0),(6,535,11,0),(7,16,8,0),(8,53,10,0),(9,16,8,0)]
def yP.X (m:Int) (F:Nat):FX TI (G m) Sg:={hn:={na:=4},lv:=[⟨7,zC.sp F⟩,⟨34,yE.sp F⟩],N:=56,H:=yP.h}
theorem yP.ok (m:Int) (F:Nat):OKP m 24 yP.sg (yP.sp F) :=
 okp (yP.X m F) Go.Proofs.Tryd.func24 ⟨zC.ok m F,yE.ok m F,trivial⟩ trivial 0 0 zv zv
def zg.te:TEs:=[(1,.b (.int .i64)),kL 2,(4,.c (.sl za)),(5,kI),kL 6,(8,kI),(10,kI),(11,.c (.sl za)),(11,.ow 11),(12,.ow 12),kL 14,kL 15,(16,kI),(24,kB),(31,kB),(32,.b (.int .i64)),(33,kI),(34,kI),(35,kB),(43,kB),(46,.c (.sl zm)),(47,kI),(48,kI),(49,kB),(61,kB)]
def zg.tb:TEs:=[(2,.g ya),(6,.g za),(14,.g zm),(15,.g za)]
def zg.tp:List ve:=[⟨11,.env 11,za⟩,⟨12,.env 12,za⟩]
def zg.h:SH:=shN zg.te zg.tb zg.tp [(0,3,1,0),(1,51,3,0),(2,8243,3,0),(3,12,0,0),(4,16403,3,0),(5,12,0,0),(6,229395,3,0),(7,491539,3,0),(8,229459,3,0),(9,753683,3,0),(10,12,0,0),(11,229395,3,0),(12,787,3,3),(13,7340819,3,3),(14,15729427,3,3),(15,7341843,7,3),(16,7343891,15,3),(17,7347987,15,3),(18,24125203,15,3),(19,7346963,11,3),(20,7346963,11,3),(21,7346963,11,3),(22,7340819,3,3),(23,7340819,3,3),(24,12,0,0)]
def zg.hl:SH:=shN zg.te zg.tb zg.tp [(7,229395,3,0),(14,7340819,3,3)]
def zg.hj:Nat->Option Shape:=shO zg.te zg.tb zg.tp [(24,128,0,0)]
def zg.L7 (F:Nat) (R:Type) (K:KK R) (n:Nat) (x:((List Int)×Unit×Unit×(List Int)×Int×Int×Unit)×(ya.T×za.T×Unit)×(Unit)):Option R :=
 zg.l7 F (fun r4 r5=>K .ret (yQ (zg.h 10) ((r4,r5,()),(),()))) (fun q t32 t33 t34 t35 p unit=>K (.exit 0) (yQ (zg.h 7) ((q,(),(),t32,t33,t34,t35,()),(p,unit,()),()))) n x.1.1 x.1.2.2.2.1 x.1.2.2.2.2.1 x.1.2.2.2.2.2.1 x.2.1.1 x.2.1.2.1
def zg.L14 (F:Nat) (R:Type) (K:KK R) (n:Nat) (x:((List Int)×Unit×Unit×Unit×Unit×(List zm.T)×Int×Int×Unit)×(ya.T×za.T×Unit)×((List za.T)×(List za.T)×Unit)):Option R :=
 zg.l14 F (fun q t46 t47 t48 t49 p unit values pile=>K (.exit 2) (yQ (zg.h 14) ((q,(),(),(),(),t46,t47,t48,t49,()),(p,unit,()),(values,pile,())))) n x.1.1 x.1.2.2.2.2.2.1 x.1.2.2.2.2.2.2.1 x.1.2.2.2.2.2.2.2.1 x.2.1.1 x.2.1.2.1 x.2.2.1 x.2.2.2.1
def zg.J24 (F:Nat) (x:((List za.T)×Unit)×(Unit)×(Unit)) (R:Type) (K:KK R):Option R :=
 zg.j24 F (fun r4 r5=>K .ret (yQ (zg.h 24) ((r4,r5,()),(),()))) x.1.1
def zg.X (m:Int) (F:Nat):FX TI (G m) Sg:={hn:={MU:=fun s=>lk false s [(76,true),(82,true)],na:=2,fzJ:=fun r=>lk [] r [(24,[11])]},lv:=[⟨21,yD.sp F⟩,⟨22,zV.sp F⟩,⟨23,yl.sp F⟩,⟨24,yP.sp F⟩],N:=85,H:=zg.h,HL:=zg.hl,HJ:=zg.hj,L:=mkL zg.hl [⟨7,fun x R K=>zg.L7 F R K F x⟩,⟨14,fun x R K=>zg.L14 F R K F x⟩],J:=mkJ zg.hj [⟨24,zg.J24 F⟩]}
theorem zg.ok (m:Int) (F:Nat):OKP m 12 zg.sg (zg.sp F) :=
 okp (zg.X m F) Go.Proofs.Tryd.func12 ⟨yD.ok m F,zV.ok m F,yl.ok m F,yP.ok m F,trivial⟩ trivial 2 1 (yI (FX.loopk 14 F (zg.L14 F)) (yI (FX.loopk 7 F (zg.L7 F)) zv)) (yI (FX.cutk 24) zv)
def ym.te:TEs:=[(1,.b (.int .i64)),kL 2,kL 4,(5,kI),(6,.c (.sl za)),(7,kI),(15,kB)]
def ym.tb:TEs:=[(2,.g ya),(4,.g za)]
def ym.h:SH:=shN ym.te ym.tb [] [(0,7,3,0),(1,52,2,0),(2,116,2,0),(3,12,2,0),(4,12,2,0)]
def ym.X (m:Int) (F:Nat):FX TI (G m) Sg:={hn:={na:=2},lv:=[⟨12,zg.sp F⟩],N:=24,H:=ym.h}
theorem ym.ok (m:Int) (F:Nat):OKP m 6 ym.sg (ym.sp F) :=
 okp (ym.X m F) Go.Proofs.Tryd.func6 ⟨zg.ok m F,trivial⟩ trivial 0 0 zv zv
def xE.te:TEs:=[kL 1,(2,kI),(3,kB),(4,kI),(12,kB)]
def xE.tb:TEs:=[(1,.g za)]
def xE.h:SH:=shN xE.te xE.tb [] [(0,1,1,0),(1,9,1,0),(2,24,0,0),(3,6,0,0),(4,6,0,0)]
def xE.X (m:Int) (F:Nat):FX TI (G m) Sg:={hn:={na:=1},N:=14,H:=xE.h}
theorem xE.ok (m:Int) (F:Nat):OKP m 26 xE.sg (xE.sp F) :=
 okp (xE.X m F) Go.Proofs.Tryd.func26 trivial trivial 0 0 zv zv
def xf.te:TEs:=[(1,.b (.int .i64)),kL 2,(4,kI),(5,kI),kL 6,(7,kI),kL 8,kL 11,(13,kI),(14,kB),(22,kB),(52,kB)]
def xf.tb:TEs:=[(2,.g ya),(6,.g za),(8,.g za),(11,.g za)]
def xf.h:SH:=shN xf.te xf.tb [] [(0,3,1,0),(1,50,3,0),(2,1074,3,0),(3,12,0,0),(4,82,7,0),(5,128,8,0),(6,768,0,0),(7,2304,0,0),(8,12,0,0),(9,12,0,0)]
def xf.X (m:Int) (F:Nat):FX TI (G m) Sg:={hn:={na:=2},lv:=[⟨6,ym.sp F⟩,⟨21,yD.sp F⟩,⟨25,yF.sp F⟩,⟨26,xE.sp F⟩],N:=54,H:=xf.h}
theorem xf.ok (m:Int) (F:Nat):OKP m 13 xf.sg (xf.sp F) :=
 okp (xf.X m F) Go.Proofs.Tryd.func13 ⟨ym.ok m F,yD.ok m F,yF.ok m F,xE.ok m F,trivial⟩ trivial 0 0 zv zv
def zx.te:TEs:=[(0,.b za),(1,.b za),(4,kB),(5,kI),(10,kB),(14,kB),(25,kB)]
def zx.h:SH:=shN zx.te [] [] [(0,3,0,0),(1,19,0,0),(2,4,0,0),(3,11,0,0),(4,43,0,0),(5,11,0,0),(6,75,0,0),(7,4,0,0),(8,4,0,0)]
def zx.hl:SH:=shN zx.te [] [] [(4,11,0,0)]
def zx.L4 (F:Nat) (R:Type) (K:KK R) (n:Nat) (x:((List za.T)×(List za.T)×Int×Unit)×(Unit)×(Unit)):Option R :=
 zx.l4 F (fun r4=>K .ret (yQ (zx.h 7) ((r4,()),(),()))) (fun a b i t14=>K (.exit 0) (yQ (zx.h 4) ((a,b,i,t14,()),(),()))) n x.1.1 x.1.2.1 x.1.2.2.1
def zx.X (m:Int) (F:Nat):FX TI (G m) Sg:={hn:={na:=2},N:=26,H:=zx.h,HL:=zx.hl,L:=mkL zx.hl [⟨4,fun x R K=>zx.L4 F R K F x⟩]}
theorem zx.ok (m:Int) (F:Nat):OKP m 14 zx.sg (zx.sp F) :=
 okp (zx.X m F) Go.Proofs.Tryd.func14 trivial trivial 1 0 (yI (FX.loopk 4 F (zx.L4 F)) zv) zv
def yf.te:TEs:=[(0,kB),kL 1,(2,.c (.sl za)),(3,kI),(4,kI),(5,kI),(7,kI),kL 8,(9,kI)]
def yf.tb:TEs:=[(1,.g ya),(8,.g za)]
def yf.h:SH:=shN yf.te yf.tb [] [(1,2,1,0),(2,14,1,0),(3,62,1,0),(4,124,0,0),(5,508,2,0),(6,1,0,0)]
def yf.X (m:Int) (F:Nat):FX TI (G m) Sg:={hn:={na:=0,fz:=fun r=>lk [] r [(1,[100600])],fzO:=fun r=>lk [] r [(39,[101480])]},lv:=[⟨5,zR.sp F⟩,⟨12,zg.sp F⟩,⟨13,xf.sp F⟩,⟨6,ym.sp F⟩,⟨7,zC.sp F⟩,⟨14,zx.sp F⟩],N:=74,H:=yf.h}
theorem yf.ok (m:Int) (F:Nat):OKP m 4 yf.sg (yf.sp F) :=
 okp (yf.X m F) Go.Proofs.Tryd.func4 ⟨zR.ok m F,zg.ok m F,xf.ok m F,ym.ok m F,zC.ok m F,zx.ok m F,trivial⟩ trivial 0 0 zv zv
def xh.te:TEs:=[kL 1,(2,kI),(3,kB),(7,kB)]
def xh.tb:TEs:=[(1,.g za)]
def xh.h:SH:=shN xh.te xh.tb [] [(0,1,1,0),(1,5,1,0),(2,2,0,0),(3,8,0,0),(4,2,0,0),(5,2,0,0)]
def xh.X (m:Int) (F:Nat):FX TI (G m) Sg:={hn:={na:=1},N:=11,H:=xh.h}
theorem xh.ok (m:Int) (F:Nat):OKP m 10 xh.sg (xh.sp F) :=
 okp (xh.X m F) Go.Proofs.Tryd.func10 trivial trivial 0 0 zv zv
def zn.te:TEs:=[(0,kI),(1,kI),(2,kI),(6,kB),kL 7,kL 8,(9,kI),kL 10,kL 11,(12,kI),kL 13,(14,kI),kL 15,(16,kI),(18,kB),(44,kB),(63,kB)]
def zn.tb:TEs:=[(7,.g ya),(8,.g za),(10,.g ya),(10,.go ya [(1,11001)]),(11,.g za),(13,.g za),(15,.g za)]
def zn.tp:List ve:=[⟨11001,.cell 10 1,yK⟩]
def zn.h:SH:=shN zn.te zn.tb zn.tp [(0,7,0,0),(1,16391,0,0),(2,8,0,0),(3,23,1,0),(4,103,2,0),(5,32839,0,0),(6,8,0,0),(7,199,8,1),(8,199,4,0),(9,839,16,0),(10,65863,16,0),(11,8,0,0),(12,3143,32,0),(13,14403,64,0),(14,8,0,0)]
def zn.hj:Nat->Option Shape:=shO zn.te zn.tb zn.tp [(7,71,0,0)]
def zn.J7 (F:Nat) (x:(Int×Int×Int×Int×Unit)×(Unit)×(Unit)) (R:Type) (K:KK R):Option R :=
 zn.j7 F (fun r6=>K .ret (yQ (zn.h 11) ((r6,()),(),()))) (fun r6=>K .ret (yQ (zn.h 14) ((r6,()),(),()))) x.1.1 x.1.2.1 x.1.2.2.1 x.1.2.2.2.1
def zn.X (m:Int) (F:Nat):FX TI (G m) Sg:={hn:={na:=3,fz:=fun r=>lk [] r [(3,[101160]),(8,[11001])]},lv:=[⟨4,yf.sp F⟩,⟨5,zR.sp F⟩,⟨6,ym.sp F⟩,⟨7,zC.sp F⟩,⟨8,z8.sp F⟩,⟨9,yS.sp F⟩,⟨10,xh.sp F⟩,⟨11,yB.sp F⟩],N:=122,H:=zn.h,HJ:=zn.hj,J:=mkJ zn.hj [⟨7,zn.J7 F⟩]}
theorem zn.ok (m:Int) (F:Nat):OKP m 3 zn.sg (zn.sp F) :=
 okp (zn.X m F) Go.Proofs.Tryd.func3 ⟨yf.ok m F,zR.ok m F,ym.ok m F,zC.ok m F,z8.ok m F,yS.ok m F,xh.ok m F,yB.ok m F,trivial⟩ trivial 0 1 zv (yI (FX.cutk 7) zv)
end Go.VS
