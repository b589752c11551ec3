import Derived.Test.YtiliboioeieeoaaGreatDoorQO9
set_option linter.unusedVariables false
set_option linter.unusedSimpArgs false
set_option linter.unusedSectionVars false
set_option linter.unusedVariables false
set_option linter.unusedSimpArgs false
set_option maxRecDepth 100000
namespace Go.VS
open Go
theorem zbs {u v:Int} (hv:1<=v) (hle:v<=u) {D:List yr.T} {dims:Nat} {n:zb.T} (hn:wo dims n (ar n)=0) {vs:List Int} (h:∀x∈vs,0<=x):yO v D n vs<=yO u D n vs:=by
 obtain ⟨g1,g2,g3,g4,g5,g6,g7,g8⟩:=xB hn;have h0:0<=vs.getD 0 0:=by
  cases vs with
  | nil=>exact Int.le_refl _
  | cons a r=>exact h a (by simp)
 have sc:(nK n=13\/nK n=14)->yO v D n vs<=yO u D n vs:=by
  intro hk;have hb:qA (nT n)=true:=g8 (by
   unfold ul uw;rcases hk with hk | hk<;>(rw[hk]; rfl))
  obtain ⟨l1,l2,l3⟩:=up hb;have hr:=(Xo (nT n) 0 (-1) (by omega) (by omega) l3).1;have hw:=(tc (nT n) (-1) (by omega) l3).1;have hl:=(tX (nT n) (-1) (by omega) l3).1;have e:∀u:Int,yO u D n vs=u*(wD 0 (nT n)*(vs.getD 0 0+wz (nT n))+vg (nT n)):=by
   intro u; unfold yO;rcases hk with hk | hk<;>(rw[hk]; rfl)
  rw[e,e];have h1:0<=wD 0 (nT n)*(vs.getD 0 0+wz (nT n)):=Int.mul_nonneg hr (by omega);exact Int.mul_le_mul_of_nonneg_right hle (by omega)
 rcases ue g1 with hh | hh | hh | hh | hh | hh | hh | hh | hh | hh | hh | hh | hh | hh | hh | hh
 ·unfold yO; rw[hh]; exact Int.le_refl _
 ·have e:∀u:Int,yO u D n vs=nN n*u:=by intro u; unfold yO; rw[hh]; rfl
  rw[e,e];exact Int.mul_le_mul_of_nonneg_left hle g2
 ·unfold yO; rw[hh]; exact Int.le_refl _
 ·unfold yO; rw[hh]; exact Int.le_refl _
 ·unfold yO; rw[hh]; exact Int.le_refl _
 ·unfold yO; rw[hh]; exact Int.le_refl _
 ·unfold yO; rw[hh]; exact Int.le_refl _
 ·unfold yO; rw[hh]; exact Int.le_refl _
 ·unfold yO; rw[hh]; exact Int.le_refl _
 ·unfold yO; rw[hh]; exact Int.le_refl _
 ·unfold yO; rw[hh]; exact Int.le_refl _
 ·unfold yO; rw[hh]; exact Int.le_refl _
 ·exact sc (.inl hh)
 ·exact sc (.inr hh)
 ·unfold yO; rw[hh]; exact Int.le_refl _
 ·unfold yO; rw[hh]; exact Int.le_refl _
theorem OKT.unit {u v:Int} {D:List yr.T} (c:Cxt u D) (hv:1<=v) (hle:v<=u) (t:Tree):OKT u D t->OKT v D t/\mag v D t<=mag u D t:=by
 have c':Cxt v D:=⟨hv,by have:=c.hu2; omega,c.hD,c.hd4⟩;refine Tree.ind (P:=fun t=>OKT u D t->OKT v D t/\mag v D t<=mag u D t) (fun n ks ih h=>?_) t;have hk:=fun k hk=>ih k hk (h.kid hk)
 have hm:mag v D (.nd n ks)<=mag u D (.nd n ks):=by
  rw[uD,uD];refine Int.le_trans (TJ (u:=v) hv h.node h.len fun k hkm=>⟨ZT c' (hk k hkm).1,(hk k hkm).2⟩) (zbs hv hle h.node fun x hx=>?_);obtain ⟨k,hkm,rfl⟩:=List.mem_map.1 hx;exact ZT c (h.kid hkm)
 exact ⟨OKT.mk' h.len h.node h.size (vH.1 h.tys).1 (UK hm (vH.1 h.mgs).1) fun k hkm=>(hk k hkm).1,hm⟩
theorem UB {p:zZ.T} {t:Tree} (h:Good p t) (hu:(vq p.2.1 t).2.2=0):Cxt (wu t) p.2.1/\OKT (wu t) p.2.1 t/\ty t=1/\deep t<=6:=by
 obtain ⟨a1,a2,a3,a4,a5⟩:=zal h hu;have hh:=uY h.head;have hd:=(uh t).1;have hb:=Xd (t:=t) a1;have hs:t.size=p.2.2.2.length:=by rw[Tree.size,h.flat]
 refine ⟨⟨hb.1,hb.2,hh.2.2.1,hh.2.1⟩,⟨h.wf,by rw[hs]; exact h.len,Y1 a2,fun s hs=>?_⟩,a3,a1⟩;have:=Y1 a4 s hs;unfold XV at this;cases hd:decide (w9 s.root (mag (wu t) p.2.1 s)>BND) with
 | true=>rw[hd] at this; exact absurd (show (90:Int)=0 from this) (by decide)
 | false=>have:=of_decide_eq_false hd; omega
theorem VZ {a b:Tree} (h:deep b<=deep a):∃k:Nat,wu a=(10000:Int)^k*wu b/\(k:Int)=deep a-deep b:=by
 have h1:=(uh a).1;have h2:=(uh b).1;refine ⟨(deep a-deep b).toNat,?_,by omega⟩;unfold wu;rw[<-Int.pow_add];congr 1
 omega
theorem Qu {D:List yr.T} {y:Tree} (h:OKT (wu y) D y) (ht:ty y=1) (hd:deep y<=6):vq D y=(mk (wu y),0,0):=by
 rw[zc2 (Y2 0 h.tys) ht hd];have:wL (XV (wu y) D) y.subs 0=none:=Y2 0 fun s hs=>by
  unfold XV;rw[decide_eq_false (by have:=h.mgs s hs; omega)]; rfl
 unfold qp;rw[this];rfl
noncomputable def Zx (D:List yr.T) (t:Tree):Tree:=wQ (wu t) D FU t
structure Fd (p:zZ.T) (t y:Tree):Prop where
 fk:FK (wu t) p.2.1 t y
 clean:∀s∈y.subs,tU (wu t) p.2.1 s=none
 okt:OKT (wu y) p.2.1 y
 good:Good (p.1,p.2.1,p.2.2.1,y.flat) y
 unit:vq p.2.1 y=(mk (wu y),0,0)
theorem RX {p:zZ.T} {t:Tree} (h:Good p t) (hu:(vq p.2.1 t).2.2=0):Fd p t (Zx p.2.1 t):=by
 obtain ⟨c,o,h1,h6⟩:=UB h hu;have hs:=o.size;have hF:(4096:Nat)<FU:=uc;obtain ⟨k1,k2⟩:=Zh c FU t (by omega) o;have hy:wQ (wu t) p.2.1 FU t=Zx p.2.1 t:=rfl;rw[hy] at k1 k2;generalize Zx p.2.1 t=y at*;have hd:=k1.deep;have ub:=Xd (t:=y) (by omega);have hle:wu y<=wu t:=by
  obtain ⟨k,e,_⟩:=VZ hd;rw[e];have:(1:Int)<=(10000:Int)^k:=by
   have:=Int.pow_pos (n:=10000) (m:=k) (by decide);omega
  have:=Int.mul_le_mul_of_nonneg_right (c:=wu y) this (by omega);omega
 have oy:=(OKT.unit c ub.1 hle y k1.okt).1;exact ⟨k1,k2,oy,good_of h.head oy.wf oy.size,Qu oy (by rw[k1.ty,h1]) (by omega)⟩
theorem zdB (F:Nat) (hF:F=FU) {p:zZ.T} {t:Tree} (h:Good p t) (hU:xk.sh F p=some (((vq p.2.1 t).1,(vq p.2.1 t).2.1,(vq p.2.1 t).2.2,()),())) :
  xa.sh F p=some ((bif (vq p.2.1 t).2.2 != 0 then ((⟨#[]⟩:ByteArray),[],0,[]) else (p.1,p.2.1,p.2.2.1,(Zx p.2.1 t).flat),(vq p.2.1 t).2.2,()),()):=by
 have hFb:4096<F:=by rw[hF]; exact uc
 unfold xa.sh;rw[hU,zq];simp only;cases hu:((vq p.2.1 t).2.2 != 0) with
 | true=>rfl
 | false =>
  simp only[cond_false];have hu:(vq p.2.1 t).2.2=0:=by simpa using hu
  obtain ⟨c,o,h1,h6⟩:=UB h hu;have hs:=o.size;have hd:=(uY h.head).2.1;have fd:=RX h hu;have ys:=fd.okt.size;have e5:(vq p.2.1 t).1=mk (wu t):=by rw[(zal h hu).2.2.2.2]
  rw[zcR F hFb h,zq,e5];rw[show za.sh F (mk (wu t)) (toL t)=za.it F F (mk (wu t)) (toL t) from rfl,WX F hF c F t (by omega) o,zq,zbK F (by omega),zq];rw[show wQ (wu t) p.2.1 F t=Zx p.2.1 t by rw[hF]; rfl];rw[show zn.sh F (toL (Zx p.2.1 t)) []=zn.it F F (toL (Zx p.2.1 t)) [] from rfl,laid_it F hFb (Zx p.2.1 t) fd.okt.wf F [] (by omega) (by simp; omega),zq,List.nil_append,hu]
theorem Fold_eq {p:zZ.T} {t:Tree} (h:Good p t):xa.sh FU p=some ((bif (vq p.2.1 t).2.2 != 0 then ((⟨#[]⟩:ByteArray),[],0,[]) else (p.1,p.2.1,p.2.2.1,(Zx p.2.1 t).flat),(vq p.2.1 t).2.2,()),()):=zdB FU rfl h (Unit_eq h)
theorem zdC {p:zZ.T} (h:(vf p).2≠0):xa.sh FU p=some (((⟨#[]⟩,[],0,[]),(vf p).2,()),()):=by
 unfold xa.sh;rw[zdy h,zq];simp only;rw[show ((vf p).2 != 0)=true by simpa using h];rfl
end Go.VS
