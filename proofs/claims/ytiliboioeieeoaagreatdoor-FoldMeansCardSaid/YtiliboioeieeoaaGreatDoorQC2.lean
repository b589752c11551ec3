import Derived.Test.YtiliboioeieeoaaGreatDoorQC1
set_option linter.unusedVariables false
set_option linter.unusedSimpArgs false
set_option linter.unusedSectionVars false
set_option linter.unusedVariables false
set_option maxRecDepth 100000
namespace Go.VS
open Go
def xB.te:TEs:=[(3,.b (.int .i64)),kL 4,kL 5,kL 6,kL 8,(9,kI),(11,kI),(12,kB),(17,kB),(24,kB)]
def xB.tb:TEs:=[(4,.g zL),(5,.g zb),(6,.g zd),(8,.g zd)]
def xB.h:SH:=shN xB.te xB.tb [] [(0,31,15,0),(1,95,15,0),(2,223,15,0),(3,16,8,0),(4,351,15,0),(5,16,8,0),(6,535,11,0),(7,16,8,0),(8,53,10,0),(9,16,8,0)]
def xB.X (m:Int) (F:Nat):FX TI (G m) Sg:={hn:={na:=4},lv:=[⟨38,zR.sp F⟩,⟨137,xi.sp F⟩],N:=56,H:=xB.h}
theorem xB.ok (m:Int) (F:Nat):OKP m 85 xB.sg (xB.sp F) :=
 okp (xB.X m F) Go.Proofs.Tryz.func85 ⟨zR.ok m F,xi.ok m F,trivial⟩ trivial 0 0 zx zx
def zq.te:TEs:=[(1,.b (.int .i64)),kL 2,(4,.c (.sl zd)),(5,kI),kL 6,(8,kI),(10,kI),(11,.c (.sl zd)),(11,.ow 11),(12,.ow 12),kL 14,kL 15,(16,kI),(24,kB),(31,kB),(32,.b (.int .i64)),(33,kI),(34,kI),(35,kB),(43,kB),(46,.c (.sl zb)),(47,kI),(48,kI),(49,kB),(61,kB)]
def zq.tb:TEs:=[(2,.g zL),(6,.g zd),(14,.g zb),(15,.g zd)]
def zq.tp:List ue:=[⟨11,.env 11,zd⟩,⟨12,.env 12,zd⟩]
def zq.h:SH:=shN zq.te zq.tb zq.tp [(0,3,1,0),(1,51,3,0),(2,8243,3,0),(3,12,0,0),(4,16403,3,0),(5,12,0,0),(6,229395,3,0),(7,491539,3,0),(8,229459,3,0),(9,753683,3,0),(10,12,0,0),(11,229395,3,0),(12,787,3,3),(13,7340819,3,3),(14,15729427,3,3),(15,7341843,7,3),(16,7343891,15,3),(17,7347987,15,3),(18,24125203,15,3),(19,7346963,11,3),(20,7346963,11,3),(21,7346963,11,3),(22,7340819,3,3),(23,7340819,3,3),(24,12,0,0)]
def zq.hl:SH:=shN zq.te zq.tb zq.tp [(7,229395,3,0),(14,7340819,3,3)]
def zq.hj:Nat->Option Shape:=shO zq.te zq.tb zq.tp [(24,128,0,0)]
def zq.L7 (F:Nat) (R:Type) (K:KK R) (n:Nat) (x:((List Int)×Unit×Unit×(List Int)×Int×Int×Unit)×(zL.T×zd.T×Unit)×(Unit)):Option R :=
 zq.l7 F (fun r4 r5=>K .ret (yU (zq.h 10) ((r4,r5,()),(),()))) (fun q t32 t33 t34 t35 p unit=>K (.exit 0) (yU (zq.h 7) ((q,(),(),t32,t33,t34,t35,()),(p,unit,()),()))) n x.1.1 x.1.2.2.2.1 x.1.2.2.2.2.1 x.1.2.2.2.2.2.1 x.2.1.1 x.2.1.2.1
def zq.L14 (F:Nat) (R:Type) (K:KK R) (n:Nat) (x:((List Int)×Unit×Unit×Unit×Unit×(List zb.T)×Int×Int×Unit)×(zL.T×zd.T×Unit)×((List zd.T)×(List zd.T)×Unit)):Option R :=
 zq.l14 F (fun q t46 t47 t48 t49 p unit values pile=>K (.exit 2) (yU (zq.h 14) ((q,(),(),(),(),t46,t47,t48,t49,()),(p,unit,()),(values,pile,())))) n x.1.1 x.1.2.2.2.2.2.1 x.1.2.2.2.2.2.2.1 x.1.2.2.2.2.2.2.2.1 x.2.1.1 x.2.1.2.1 x.2.2.1 x.2.2.2.1
def zq.J24 (F:Nat) (x:((List zd.T)×Unit)×(Unit)×(Unit)) (R:Type) (K:KK R):Option R :=
 zq.j24 F (fun r4 r5=>K .ret (yU (zq.h 24) ((r4,r5,()),(),()))) x.1.1
def zq.X (m:Int) (F:Nat):FX TI (G m) Sg:={hn:={MU:=fun s=>lk false s [(76,true),(82,true)],na:=2,fzJ:=fun r=>lk [] r [(24,[11])]},lv:=[⟨18,yX.sp F⟩,⟨83,ym.sp F⟩,⟨84,yM.sp F⟩,⟨85,xB.sp F⟩],N:=85,H:=zq.h,HL:=zq.hl,HJ:=zq.hj,L:=mkL zq.hl [⟨7,fun x R K=>zq.L7 F R K F x⟩,⟨14,fun x R K=>zq.L14 F R K F x⟩],J:=mkJ zq.hj [⟨24,zq.J24 F⟩]}
theorem zq.ok (m:Int) (F:Nat):OKP m 41 zq.sg (zq.sp F) :=
 okp (zq.X m F) Go.Proofs.Tryz.func41 ⟨yX.ok m F,ym.ok m F,yM.ok m F,xB.ok m F,trivial⟩ trivial 2 1 (yA (FX.loopk 14 F (zq.L14 F)) (yA (FX.loopk 7 F (zq.L7 F)) zx)) (yA (FX.cutk 24) zx)
def xd.te:TEs:=[(1,.b (.int .i64)),kL 2,kL 4,(5,kI),(6,.c (.sl zd)),(7,kI),(15,kB)]
def xd.tb:TEs:=[(2,.g zL),(4,.g zd)]
def xd.h:SH:=shN xd.te xd.tb [] [(0,7,3,0),(1,52,2,0),(2,116,2,0),(3,12,2,0),(4,12,2,0)]
def xd.X (m:Int) (F:Nat):FX TI (G m) Sg:={hn:={na:=2},lv:=[⟨41,zq.sp F⟩],N:=24,H:=xd.h}
theorem xd.ok (m:Int) (F:Nat):OKP m 15 xd.sg (xd.sp F) :=
 okp (xd.X m F) Go.Proofs.Tryz.func15 ⟨zq.ok m F,trivial⟩ trivial 0 0 zx zx
def xj.te:TEs:=[(1,.b (.int .i64)),kL 2,(4,kI),(5,kI),kL 6,(7,kI),kL 8,kL 11,(13,kI),(14,kB),(22,kB),(52,kB)]
def xj.tb:TEs:=[(2,.g zL),(6,.g zd),(8,.g zd),(11,.g zd)]
def xj.h:SH:=shN xj.te xj.tb [] [(0,3,1,0),(1,50,3,0),(2,1074,3,0),(3,12,0,0),(4,82,7,0),(5,128,8,0),(6,768,0,0),(7,2304,0,0),(8,12,0,0),(9,12,0,0)]
def xj.X (m:Int) (F:Nat):FX TI (G m) Sg:={hn:={na:=2},lv:=[⟨15,xd.sp F⟩,⟨18,yX.sp F⟩,⟨39,y9.sp F⟩,⟨40,xU.sp F⟩],N:=54,H:=xj.h}
theorem xj.ok (m:Int) (F:Nat):OKP m 14 xj.sg (xj.sp F) :=
 okp (xj.X m F) Go.Proofs.Tryz.func14 ⟨xd.ok m F,yX.ok m F,y9.ok m F,xU.ok m F,trivial⟩ trivial 0 0 zx zx
def zr.te:TEs:=[(1,.b (.sl (.int .i64))),kL 2,(4,kB),kL 5,(6,kI),(7,kI),(8,kI),(9,kI),(10,kI),kL 11,(12,kI),(13,kI),(14,kI),(15,kI),(16,kI),(17,kI),kL 18,kL 19,kL 20,(21,kI),(23,kB),(40,kB),(55,kB),(64,kB),(72,kB),(100,kB),(121,kB),(138,kB)]
def zr.tb:TEs:=[(2,.g zL),(5,.g zL),(11,.g zd),(18,.g zd),(19,.g zd),(20,.g zd)]
def zr.h:SH:=shN zr.te zr.tb [] [(0,3,1,0),(1,1048579,1,0),(2,4,0,0),(3,27,3,0),(4,123,3,0),(5,507,3,0),(6,2097643,3,0),(7,4,0,0),(8,4194475,3,0),(9,4,0,0),(10,1547,7,0),(11,8389131,7,0),(12,4,0,0),(13,2571,7,0),(14,16779787,7,0),(15,2571,7,0),(16,14859,7,0),(17,64011,7,0),(18,33557003,7,0),(19,4,0,0),(20,76299,15,0),(21,240139,31,0),(22,67316235,31,0),(23,4,0,0),(24,862731,47,0),(25,134220299,7,0),(26,4,0,0),(27,4,0,0)]
def zr.hl:SH:=shN zr.te zr.tb [] [(14,2571,7,0)]
def zr.L14 (F:Nat) (R:Type) (K:KK R) (n:Nat) (x:((List (List Int))×Unit×Unit×Unit×Int×Unit)×(zL.T×zL.T×zd.T×Unit)×(Unit)):Option R :=
 zr.l14 F (fun r4=>K .ret (yU (zr.h 19) ((r4,()),(),()))) (fun r4=>K .ret (yU (zr.h 23) ((r4,()),(),()))) (fun r4=>K .ret (yU (zr.h 26) ((r4,()),(),()))) (fun list i t72 p q k=>K (.exit 0) (yU (zr.h 14) ((list,(),(),(),i,t72,()),(p,q,k,()),()))) n x.1.1 x.1.2.2.2.2.1 x.2.1.1 x.2.1.2.1 x.2.1.2.2.1
def zr.X (m:Int) (F:Nat):FX TI (G m) Sg:={hn:={na:=2},lv:=[⟨7,yx.sp F⟩,⟨8,xk.sp F⟩,⟨12,zF.sp F⟩,⟨13,zQ.sp F⟩,⟨14,xj.sp F⟩,⟨15,xd.sp F⟩,⟨16,yf.sp F⟩],N:=139,H:=zr.h,HL:=zr.hl,L:=mkL zr.hl [⟨14,fun x R K=>zr.L14 F R K F x⟩]}
theorem zr.ok (m:Int) (F:Nat):OKP m 6 zr.sg (zr.sp F) :=
 okp (zr.X m F) Go.Proofs.Tryz.func6 ⟨yx.ok m F,xk.ok m F,zF.ok m F,zQ.ok m F,xj.ok m F,xd.ok m F,yf.ok m F,trivial⟩ trivial 1 0 (yA (FX.loopk 14 F (zr.L14 F)) zx) zx
end Go.VS
