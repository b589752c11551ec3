import Derived.Test.YtiliboioeieeoaaGreatDoorQO9
set_option linter.unusedVariables false
set_option linter.unusedSimpArgs false
set_option linter.unusedSectionVars false
set_option linter.unusedVariables false
set_option linter.unusedSimpArgs false
set_option maxRecDepth 100000
namespace Go.VS
open Go
theorem zbI {u v:Int} (hv:1<=v) (hle:v<=u) {D:List yy.T} {dims:Nat} {n:zb.T} (hn:wD dims n (ar n)=0) {vs:List Int} (h:∀x∈vs,0<=x):yQ v D n vs<=yQ u D n vs:=by
 obtain ⟨g1,g2,g3,g4,g5,g6,g7,g8⟩:=xF hn;have h0:0<=vs.getD 0 0:=by
  cases vs with
  | nil=>exact Int.le_refl _
  | cons a r=>exact h a (by simp)
 have sc:(nK n=13\/nK n=14)->yQ v D n vs<=yQ u D n vs:=by
  intro hk;have hb:qJ (nT n)=true:=g8 (by
   unfold ut uB;rcases hk with hk | hk<;>(rw[hk]; rfl))
  obtain ⟨l1,l2,l3⟩:=uw hb;have hr:=(XA (nT n) 0 (-1) (by omega) (by omega) l3).1;have hw:=(tg (nT n) (-1) (by omega) l3).1;have hl:=(qd (nT n) (-1) (by omega) l3).1;have e:∀u:Int,yQ u D n vs=u*(wN 0 (nT n)*(vs.getD 0 0+wK (nT n))+vp (nT n)):=by
   intro u; unfold yQ;rcases hk with hk | hk<;>(rw[hk]; rfl)
  rw[e,e];have h1:0<=wN 0 (nT n)*(vs.getD 0 0+wK (nT n)):=Int.mul_nonneg hr (by omega);exact Int.mul_le_mul_of_nonneg_right hle (by omega)
 rcases v8 g1 with hh | hh | hh | hh | hh | hh | hh | hh | hh | hh | hh | hh | hh | hh | hh | hh
 ·unfold yQ; rw[hh]; exact Int.le_refl _
 ·have e:∀u:Int,yQ u D n vs=nN n*u:=by intro u; unfold yQ; rw[hh]; rfl
  rw[e,e];exact Int.mul_le_mul_of_nonneg_left hle g2
 ·unfold yQ; rw[hh]; exact Int.le_refl _
 ·unfold yQ; rw[hh]; exact Int.le_refl _
 ·unfold yQ; rw[hh]; exact Int.le_refl _
 ·unfold yQ; rw[hh]; exact Int.le_refl _
 ·unfold yQ; rw[hh]; exact Int.le_refl _
 ·unfold yQ; rw[hh]; exact Int.le_refl _
 ·unfold yQ; rw[hh]; exact Int.le_refl _
 ·unfold yQ; rw[hh]; exact Int.le_refl _
 ·unfold yQ; rw[hh]; exact Int.le_refl _
 ·unfold yQ; rw[hh]; exact Int.le_refl _
 ·exact sc (.inl hh)
 ·exact sc (.inr hh)
 ·unfold yQ; rw[hh]; exact Int.le_refl _
 ·unfold yQ; rw[hh]; exact Int.le_refl _
theorem OKT.unit {u v:Int} {D:List yy.T} (c:Cxt u D) (hv:1<=v) (hle:v<=u) (t:Tree):OKT u D t->OKT v D t/\mag v D t<=mag u D t:=by
 have c':Cxt v D:=⟨hv,by have:=c.hu2; omega,c.hD,c.hd4⟩;refine Tree.ind (P:=fun t=>OKT u D t->OKT v D t/\mag v D t<=mag u D t) (fun n ks ih h=>?_) t;have hk:=fun k hk=>ih k hk (h.kid hk)
 have hm:mag v D (.nd n ks)<=mag u D (.nd n ks):=by
  rw[uI,uI];refine Int.le_trans (T4 (u:=v) hv h.node h.len fun k hkm=>⟨Z3 c' (hk k hkm).1,(hk k hkm).2⟩) (zbI hv hle h.node fun x hx=>?_);obtain ⟨k,hkm,rfl⟩:=List.mem_map.1 hx;exact Z3 c (h.kid hkm)
 exact ⟨OKT.mk' h.len h.node h.size (vX.1 h.tys).1 (UZ hm (vX.1 h.mgs).1) fun k hkm=>(hk k hkm).1,hm⟩
theorem Wa {p:zL.T} {t:Tree} (h:Good p t) (hu:(wi p.2.1 t).2.2=0):Cxt (xH t) p.2.1/\OKT (xH t) p.2.1 t/\ty t=1/\deep t<=6:=by
 obtain ⟨a1,a2,a3,a4,a5⟩:=Xo h hu;have hh:=uj h.head;have hd:=(ud t).1;have hb:=tZ (t:=t) a1;have hs:t.size=p.2.2.2.length:=by rw[Tree.size,h.flat]
 refine ⟨⟨hb.1,hb.2,hh.2.2.1,hh.2.1⟩,⟨h.wf,by rw[hs]; exact h.len,qi a2,fun s hs=>?_⟩,a3,a1⟩;have:=qi a4 s hs;unfold ZO at this;cases hd:decide (vj s.root (mag (xH t) p.2.1 s)>BND) with
 | true=>rw[hd] at this; exact absurd (show (90:Int)=0 from this) (by decide)
 | false=>have:=of_decide_eq_false hd; omega
theorem Uc {a b:Tree} (h:deep b<=deep a):∃k:Nat,xH a=(10000:Int)^k*xH b/\(k:Int)=deep a-deep b:=by
 have h1:=(ud a).1;have h2:=(ud b).1;refine ⟨(deep a-deep b).toNat,?_,by omega⟩;unfold xH;rw[<-Int.pow_add];congr 1
 omega
theorem QL {D:List yy.T} {y:Tree} (h:OKT (xH y) D y) (ht:ty y=1) (hd:deep y<=6):wi D y=(mk (xH y),0,0):=by
 rw[zci (Xd 0 h.tys) ht hd];have:wu (ZO (xH y) D) y.subs 0=none:=Xd 0 fun s hs=>by
  unfold ZO;rw[decide_eq_false (by have:=h.mgs s hs; omega)]; rfl
 unfold qy;rw[this];rfl
noncomputable def Z8 (D:List yy.T) (t:Tree):Tree:=vR (xH t) D FU t
structure Fd (p:zL.T) (t y:Tree):Prop where
 fk:FK (xH t) p.2.1 t y
 clean:∀s∈y.subs,YN (xH t) p.2.1 s=none
 okt:OKT (xH y) p.2.1 y
 good:Good (p.1,p.2.1,p.2.2.1,y.flat) y
 unit:wi p.2.1 y=(mk (xH y),0,0)
theorem Qh {p:zL.T} {t:Tree} (h:Good p t) (hu:(wi p.2.1 t).2.2=0):Fd p t (Z8 p.2.1 t):=by
 obtain ⟨c,o,h1,h6⟩:=Wa h hu;have hs:=o.size;have hF:(4096:Nat)<FU:=vZ;obtain ⟨k1,k2⟩:=Zt c FU t (by omega) o;have hy:vR (xH t) p.2.1 FU t=Z8 p.2.1 t:=rfl;rw[hy] at k1 k2;generalize Z8 p.2.1 t=y at*;have hd:=k1.deep;have ub:=tZ (t:=y) (by omega);have hle:xH y<=xH t:=by
  obtain ⟨k,e,_⟩:=Uc hd;rw[e];have:(1:Int)<=(10000:Int)^k:=by
   have:=Int.pow_pos (n:=10000) (m:=k) (by decide);omega
  have:=Int.mul_le_mul_of_nonneg_right (c:=xH y) this (by omega);omega
 have oy:=(OKT.unit c ub.1 hle y k1.okt).1;exact ⟨k1,k2,oy,good_of h.head oy.wf oy.size,QL oy (by rw[k1.ty,h1]) (by omega)⟩
theorem zdY (F:Nat) (hF:F=FU) {p:zL.T} {t:Tree} (h:Good p t) (hU:yX.sh F p=some (((wi p.2.1 t).1,(wi p.2.1 t).2.1,(wi p.2.1 t).2.2,()),())) :
  xk.sh F p=some ((bif (wi p.2.1 t).2.2 != 0 then ((⟨#[]⟩:ByteArray),[],0,[]) else (p.1,p.2.1,p.2.2.1,(Z8 p.2.1 t).flat),(wi p.2.1 t).2.2,()),()):=by
 have hFb:4096<F:=by rw[hF]; exact vZ
 unfold xk.sh;rw[hU,zp];simp only;cases hu:((wi p.2.1 t).2.2 != 0) with
 | true=>rfl
 | false =>
  simp only[cond_false];have hu:(wi p.2.1 t).2.2=0:=by simpa using hu
  obtain ⟨c,o,h1,h6⟩:=Wa h hu;have hs:=o.size;have hd:=(uj h.head).2.1;have fd:=Qh h hu;have ys:=fd.okt.size;have e5:(wi p.2.1 t).1=mk (xH t):=by rw[(Xo h hu).2.2.2.2]
  rw[zd9 F hFb h,zp,e5];rw[show za.sh F (mk (xH t)) (toL t)=za.it F F (mk (xH t)) (toL t) from rfl,Va F hF c F t (by omega) o,zp,zc0 F (by omega),zp];rw[show vR (xH t) p.2.1 F t=Z8 p.2.1 t by rw[hF]; rfl];rw[show zn.sh F (toL (Z8 p.2.1 t)) []=zn.it F F (toL (Z8 p.2.1 t)) [] from rfl,laid_it F hFb (Z8 p.2.1 t) fd.okt.wf F [] (by omega) (by simp; omega),zp,List.nil_append,hu]
theorem Fold_eq {p:zL.T} {t:Tree} (h:Good p t):xk.sh FU p=some ((bif (wi p.2.1 t).2.2 != 0 then ((⟨#[]⟩:ByteArray),[],0,[]) else (p.1,p.2.1,p.2.2.1,(Z8 p.2.1 t).flat),(wi p.2.1 t).2.2,()),()):=zdY FU rfl h (Ry h)
theorem zdZ {p:zL.T} (h:(vd p).2≠0):xk.sh FU p=some (((⟨#[]⟩,[],0,[]),(vd p).2,()),()):=by
 unfold xk.sh;rw[zdT h,zp];simp only;rw[show ((vd p).2 != 0)=true by simpa using h];rfl
end Go.VS
