import Derived.Test.YtiliboioeieeoaaGreatDoorQO9
set_option linter.unusedVariables false
set_option linter.unusedSimpArgs false
set_option linter.unusedSectionVars false
set_option linter.unusedVariables false
set_option linter.unusedSimpArgs false
set_option maxRecDepth 100000
namespace Go.VS
open Go
theorem zbc {u v:Int} (hv:1<=v) (hle:v<=u) {D:List yv.T} {dims:Nat} {n:zb.T} (hn:wq dims n (ar n)=0) {vs:List Int} (h:∀x∈vs,0<=x):yM v D n vs<=yM u D n vs:=by
 obtain ⟨g1,g2,g3,g4,g5,g6,g7,g8⟩:=xB hn;have h0:0<=vs.getD 0 0:=by
  cases vs with
  | nil=>exact Int.le_refl _
  | cons a r=>exact h a (by simp)
 have sc:(nK n=13\/nK n=14)->yM v D n vs<=yM u D n vs:=by
  intro hk;have hb:qs (nT n)=true:=g8 (by
   unfold v8 uj;rcases hk with hk | hk<;>(rw[hk]; rfl))
  obtain ⟨l1,l2,l3⟩:=ud hb;have hr:=(Y9 (nT n) 0 (-1) (by omega) (by omega) l3).1;have hw:=(uX (nT n) (-1) (by omega) l3).1;have hl:=(tN (nT n) (-1) (by omega) l3).1;have e:∀u:Int,yM u D n vs=u*(wC 0 (nT n)*(vs.getD 0 0+wy (nT n))+vc (nT n)):=by
   intro u; unfold yM;rcases hk with hk | hk<;>(rw[hk]; rfl)
  rw[e,e];have h1:0<=wC 0 (nT n)*(vs.getD 0 0+wy (nT n)):=Int.mul_nonneg hr (by omega);exact Int.mul_le_mul_of_nonneg_right hle (by omega)
 rcases uE g1 with hh | hh | hh | hh | hh | hh | hh | hh | hh | hh | hh | hh | hh | hh | hh | hh
 ·unfold yM; rw[hh]; exact Int.le_refl _
 ·have e:∀u:Int,yM u D n vs=nN n*u:=by intro u; unfold yM; rw[hh]; rfl
  rw[e,e];exact Int.mul_le_mul_of_nonneg_left hle g2
 ·unfold yM; rw[hh]; exact Int.le_refl _
 ·unfold yM; rw[hh]; exact Int.le_refl _
 ·unfold yM; rw[hh]; exact Int.le_refl _
 ·unfold yM; rw[hh]; exact Int.le_refl _
 ·unfold yM; rw[hh]; exact Int.le_refl _
 ·unfold yM; rw[hh]; exact Int.le_refl _
 ·unfold yM; rw[hh]; exact Int.le_refl _
 ·unfold yM; rw[hh]; exact Int.le_refl _
 ·unfold yM; rw[hh]; exact Int.le_refl _
 ·unfold yM; rw[hh]; exact Int.le_refl _
 ·exact sc (.inl hh)
 ·exact sc (.inr hh)
 ·unfold yM; rw[hh]; exact Int.le_refl _
 ·unfold yM; rw[hh]; exact Int.le_refl _
theorem OKT.unit {u v:Int} {D:List yv.T} (c:Cxt u D) (hv:1<=v) (hle:v<=u) (t:Tree):OKT u D t->OKT v D t/\mag v D t<=mag u D t:=by
 have c':Cxt v D:=⟨hv,by have:=c.hu2; omega,c.hD,c.hd4⟩;refine Tree.ind (P:=fun t=>OKT u D t->OKT v D t/\mag v D t<=mag u D t) (fun n ks ih h=>?_) t;have hk:=fun k hk=>ih k hk (h.kid hk)
 have hm:mag v D (.nd n ks)<=mag u D (.nd n ks):=by
  rw[uq,uq];refine Int.le_trans (Tu (u:=v) hv h.node h.len fun k hkm=>⟨ZD c' (hk k hkm).1,(hk k hkm).2⟩) (zbc hv hle h.node fun x hx=>?_);obtain ⟨k,hkm,rfl⟩:=List.mem_map.1 hx;exact ZD c (h.kid hkm)
 exact ⟨OKT.mk' h.len h.node h.size (vM.1 h.tys).1 (Uw hm (vM.1 h.mgs).1) fun k hkm=>(hk k hkm).1,hm⟩
theorem RO {p:zQ.T} {t:Tree} (h:Good p t) (hu:(wo p.2.1 t).2.2=0):Cxt (wn t) p.2.1/\OKT (wn t) p.2.1 t/\ty t=1/\deep t<=6:=by
 obtain ⟨a1,a2,a3,a4,a5⟩:=za5 h hu;have hh:=uQ h.head;have hd:=(uK t).1;have hb:=YY (t:=t) a1;have hs:t.size=p.2.2.2.length:=by rw[Tree.size,h.flat]
 refine ⟨⟨hb.1,hb.2,hh.2.2.1,hh.2.1⟩,⟨h.wf,by rw[hs]; exact h.len,YN a2,fun s hs=>?_⟩,a3,a1⟩;have:=YN a4 s hs;unfold XJ at this;cases hd:decide (wX s.root (mag (wn t) p.2.1 s)>BND) with
 | true=>rw[hd] at this; exact absurd (show (90:Int)=0 from this) (by decide)
 | false=>have:=of_decide_eq_false hd; omega
theorem Qj {a b:Tree} (h:deep b<=deep a):∃k:Nat,wn a=(10000:Int)^k*wn b/\(k:Int)=deep a-deep b:=by
 have h1:=(uK a).1;have h2:=(uK b).1;refine ⟨(deep a-deep b).toNat,?_,by omega⟩;unfold wn;rw[<-Int.pow_add];congr 1
 omega
theorem Qk {D:List yv.T} {y:Tree} (h:OKT (wn y) D y) (ht:ty y=1) (hd:deep y<=6):wo D y=(mk (wn y),0,0):=by
 rw[zbI (YO 0 h.tys) ht hd];have:wK (XJ (wn y) D) y.subs 0=none:=YO 0 fun s hs=>by
  unfold XJ;rw[decide_eq_false (by have:=h.mgs s hs; omega)]; rfl
 unfold tk;rw[this];rfl
noncomputable def ZI (D:List yv.T) (t:Tree):Tree:=vC (wn t) D FU t
structure Fd (p:zQ.T) (t y:Tree):Prop where
 fk:FK (wn t) p.2.1 t y
 clean:∀s∈y.subs,Yn (wn t) p.2.1 s=none
 okt:OKT (wn y) p.2.1 y
 good:Good (p.1,p.2.1,p.2.2.1,y.flat) y
 unit:wo p.2.1 y=(mk (wn y),0,0)
theorem RQ {p:zQ.T} {t:Tree} (h:Good p t) (hu:(wo p.2.1 t).2.2=0):Fd p t (ZI p.2.1 t):=by
 obtain ⟨c,o,h1,h6⟩:=RO h hu;have hs:=o.size;have hF:(4096:Nat)<FU:=vN;obtain ⟨k1,k2⟩:=qX c FU t (by omega) o;have hy:vC (wn t) p.2.1 FU t=ZI p.2.1 t:=rfl;rw[hy] at k1 k2;generalize ZI p.2.1 t=y at*;have hd:=k1.deep;have ub:=YY (t:=y) (by omega);have hle:wn y<=wn t:=by
  obtain ⟨k,e,_⟩:=Qj hd;rw[e];have:(1:Int)<=(10000:Int)^k:=by
   have:=Int.pow_pos (n:=10000) (m:=k) (by decide);omega
  have:=Int.mul_le_mul_of_nonneg_right (c:=wn y) this (by omega);omega
 have oy:=(OKT.unit c ub.1 hle y k1.okt).1;exact ⟨k1,k2,oy,good_of h.head oy.wf oy.size,Qk oy (by rw[k1.ty,h1]) (by omega)⟩
theorem zde (F:Nat) (hF:F=FU) {p:zQ.T} {t:Tree} (h:Good p t) (hU:y7.sh F p=some (((wo p.2.1 t).1,(wo p.2.1 t).2.1,(wo p.2.1 t).2.2,()),())) :
  xc.sh F p=some ((bif (wo p.2.1 t).2.2 != 0 then ((⟨#[]⟩:ByteArray),[],0,[]) else (p.1,p.2.1,p.2.2.1,(ZI p.2.1 t).flat),(wo p.2.1 t).2.2,()),()):=by
 have hFb:4096<F:=by rw[hF]; exact vN
 unfold xc.sh;rw[hU,zr];simp only;cases hu:((wo p.2.1 t).2.2 != 0) with
 | true=>rfl
 | false =>
  simp only[cond_false];have hu:(wo p.2.1 t).2.2=0:=by simpa using hu
  obtain ⟨c,o,h1,h6⟩:=RO h hu;have hs:=o.size;have hd:=(uQ h.head).2.1;have fd:=RQ h hu;have ys:=fd.okt.size;have e5:(wo p.2.1 t).1=mk (wn t):=by rw[(za5 h hu).2.2.2.2]
  rw[zcu F hFb h,zr,e5];rw[show za.sh F (mk (wn t)) (toL t)=za.it F F (mk (wn t)) (toL t) from rfl,WM F hF c F t (by omega) o,zr,zbu F (by omega),zr];rw[show vC (wn t) p.2.1 F t=ZI p.2.1 t by rw[hF]; rfl];rw[show zn.sh F (toL (ZI p.2.1 t)) []=zn.it F F (toL (ZI p.2.1 t)) [] from rfl,laid_it F hFb (ZI p.2.1 t) fd.okt.wf F [] (by omega) (by simp; omega),zr,List.nil_append,hu]
theorem Fold_eq {p:zQ.T} {t:Tree} (h:Good p t):xc.sh FU p=some ((bif (wo p.2.1 t).2.2 != 0 then ((⟨#[]⟩:ByteArray),[],0,[]) else (p.1,p.2.1,p.2.2.1,(ZI p.2.1 t).flat),(wo p.2.1 t).2.2,()),()):=zde FU rfl h (zaP h)
theorem zdf {p:zQ.T} (h:(wg p).2≠0):xc.sh FU p=some (((⟨#[]⟩,[],0,[]),(wg p).2,()),()):=by
 unfold xc.sh;rw[Qg h,zr];simp only;rw[show ((wg p).2 != 0)=true by simpa using h];rfl
end Go.VS
