import Derived.Test.YtepflleaeogafaaGreatDoorQC1
set_option linter.unusedVariables false
set_option linter.unusedSimpArgs false
set_option linter.unusedSectionVars false
set_option linter.unusedVariables false
set_option maxRecDepth 100000
namespace Go.VS
open Go
def zr.te:TEs:=[(1,.b (.sl zo)),kL 2,(4,.c (.sl zo)),(5,kB),(6,.c (.sl zo)),(7,kI),(8,.c (.sl zo)),(9,kB),(19,kB),(31,kB),(46,kB)]
def zr.tb:TEs:=[(2,.g za)]
def zr.h:SH:=shN zr.te zr.tb [] [(0,3,1,0),(1,259,1,0),(2,12,0,0),(3,19,1,0),(4,51,1,0),(5,563,1,0),(6,51,1,0),(7,227,1,0),(8,1123,1,0),(9,12,0,0),(10,51,1,0),(11,12,0,0)]
def zr.hl:SH:=shN zr.te zr.tb [] [(5,51,1,0)]
def zr.hj:Nat->Option Shape:=shO zr.te zr.tb [] [(3,3,1,0)]
def zr.L5 (F:Nat) (R:Type) (K:KK R) (n:Nat) (x:((List (List zo.T))×Unit×(List zo.T)×Int×Unit)×(za.T×Unit)×(Unit)):Option R :=
 zr.l5 F (fun r4 r5=>K .ret (xl (zr.h 9) ((r4,r5,()),(),()))) (fun kids l i t31 m=>K (.exit 0) (xl (zr.h 5) ((kids,(),l,i,t31,()),(m,()),()))) n x.1.1 x.1.2.2.1 x.1.2.2.2.1 x.2.1.1
def zr.J3 (F:Nat) (x:((List (List zo.T))×Unit×Unit)×(za.T×Unit)×(Unit)) (R:Type) (K:KK R):Option R :=
 zr.j3 F (fun r4 r5=>K .ret (xl (zr.h 9) ((r4,r5,()),(),()))) (fun r4 r5=>K .ret (xl (zr.h 11) ((r4,r5,()),(),()))) x.1.1 x.2.1.1
def zr.X (m:Int) (F:Nat):FX TI (G m) Sg:={hn:={na:=2},lv:=[⟨65,zd.sp F⟩],N:=49,H:=zr.h,HL:=zr.hl,HJ:=zr.hj,L:=mkL zr.hl [⟨5,fun x R K=>zr.L5 F R K F x⟩],J:=mkJ zr.hj [⟨3,zr.J3 F⟩]}
theorem zr.ok (m:Int) (F:Nat):OKP m 31 zr.sg (zr.sp F) :=
 okp (zr.X m F) Go.Proofs.Tryz.func31 ⟨zd.ok m F,trivial⟩ trivial 1 1 (yB (FX.loopk 5 F (zr.L5 F)) zp) (yB (FX.cutk 3) zp)
def zF.te:TEs:=[kL 1,kL 2,(3,kI),(4,kI),kL 5,(6,kI),(7,kI),(8,.c (.sl (.sl zo))),(8,.ow 8),(9,kI),(10,kI),(11,kI),kL 12,(13,.c (.sl zo)),(14,kB),(15,kI),kL 17,(25,kB),(32,kB),(38,kB),(48,kB),(84,kB)]
def zF.tb:TEs:=[(1,.g yr),(2,.g wY),(5,.g zh),(12,.g za),(17,.g wY)]
def zF.tp:List qF:=[⟨8,.env 8,(.sl zo)⟩]
def zF.h:SH:=shN zF.te zF.tb zF.tp [(0,3,3,0),(1,115,7,0),(2,131187,7,0),(3,14,2,0),(4,262163,7,0),(5,14,2,0),(6,275,7,1),(7,787,7,1),(8,525075,7,1),(9,787,7,1),(10,1811,7,1),(11,1050387,7,1),(12,787,7,1),(13,2835,7,1),(14,6931,15,1),(15,27411,7,1),(16,2108179,7,1),(17,14,2,0),(18,787,7,1),(19,32899,3,0),(20,65538,18,0),(21,14,2,0)]
def zF.hl:SH:=shN zF.te zF.tb zF.tp [(8,787,7,1)]
def zF.hj:Nat->Option Shape:=shO zF.te zF.tb zF.tp [(19,131,3,0)]
def zF.L8 (F:Nat) (R:Type) (K:KK R) (n:Nat) (x:(Unit×Unit×Unit×Unit×Int×Unit)×(yr.T×wY.T×zh.T×Unit)×((List (List zo.T))×Unit)):Option R :=
 zF.l8 F (fun r3 r4 r2=>K .ret (xl (zF.h 17) (((),r3,r4,()),(r2,()),()))) (fun i t38 p r2 unit pile=>K (.exit 0) (xl (zF.h 8) (((),(),(),(),i,t38,()),(p,r2,unit,()),(pile,())))) n x.1.2.2.2.2.1 x.2.1.1 x.2.1.2.1 x.2.1.2.2.1 x.2.2.1
def zF.J19 (F:Nat) (x:(Unit×Unit×(List (List zo.T))×Unit)×(yr.T×wY.T×Unit)×(Unit)) (R:Type) (K:KK R):Option R :=
 zF.j19 F (fun r3 r4 r2=>K .ret (xl (zF.h 21) (((),r3,r4,()),(r2,()),()))) x.1.2.2.1 x.2.1.1 x.2.1.2.1
def zF.X (m:Int) (F:Nat):FX TI (G m) Sg:={hn:={MU:=fun s=>lk false s [(58,true),(92,true)],na:=1,fzJ:=fun r=>lk [] r [(19,[8])]},lv:=[⟨28,xN.sp F⟩,⟨29,zv.sp F⟩,⟨30,wm.sp F⟩,⟨31,zr.sp F⟩,⟨32,zm.sp F⟩],N:=109,H:=zF.h,HL:=zF.hl,HJ:=zF.hj,L:=mkL zF.hl [⟨8,fun x R K=>zF.L8 F R K F x⟩],J:=mkJ zF.hj [⟨19,zF.J19 F⟩]}
theorem zF.ok (m:Int) (F:Nat):OKP m 9 zF.sg (zF.sp F) :=
 okp (zF.X m F) Go.Proofs.Tryz.func9 ⟨xN.ok m F,zv.ok m F,wm.ok m F,zr.ok m F,zm.ok m F,trivial⟩ trivial 1 1 (yB (FX.loopk 8 F (zF.L8 F)) zp) (yB (FX.cutk 19) zp)
def yy.te:TEs:=[kL 1,(2,kB),kL 3,(4,kI),(5,kI),kL 6,(7,kI),(8,kI),(10,kB)]
def yy.tb:TEs:=[(1,.g yr),(3,.g wY),(6,.g wY)]
def yy.h:SH:=shN yy.te yy.tb [] [(0,1,1,0),(1,257,1,0),(2,2,0,0),(3,29,3,0),(4,252,6,0),(5,2,0,0)]
def yy.X (m:Int) (F:Nat):FX TI (G m) Sg:={hn:={na:=1},lv:=[⟨7,xW.sp F⟩,⟨8,zQ.sp F⟩,⟨9,zF.sp F⟩,⟨10,yg.sp F⟩],N:=36,H:=yy.h}
theorem yy.ok (m:Int) (F:Nat):OKP m 3 yy.sg (yy.sp F) :=
 okp (yy.X m F) Go.Proofs.Tryz.func3 ⟨xW.ok m F,zQ.ok m F,zF.ok m F,yg.ok m F,trivial⟩ trivial 0 0 zp zp
end Go.VS
