/- Plain laws, joined from smaller texts. -/
import Derived.Test.YtiliboioeieeoaaGreatDoorQKa
set_option linter.unusedVariables false
set_option linter.unusedSimpArgs false
set_option linter.unusedSectionVars false
set_option maxRecDepth 100000
namespace Go.VS
open Go IntKind
def okQ (D:List yy.T) (q:List Int):Prop:=q.length=D.length/\∀x∈q,0<=x/\x<=1099511627776
theorem okQ.at {D:List yy.T} {q:List Int} (h:okQ D q) {i:Nat} (hi:i<D.length):0<=q.getD i 0/\q.getD i 0<=1099511627776:=Yu h.2 (by rw[h.1]; exact hi)
theorem zdm (F:Nat) {u:Int} (hu:1<=u) (hu2:u<=1000000000000000000000000) {p:zL.T} (hD:dE [] p.2.1=0) (hd4:p.2.1.length<=4) {n:zb.T} {pile:Nat} (hn:wD p.2.1.length n pile=0) {q:List Int} (hq:okQ p.2.1 q) (ha:ar n=0) :
  xB.sh F p n (mk u) q=some ((mk (evN u p.2.1 q n []),()),())/\0<=evN u p.2.1 q n []/\evN u p.2.1 q n []<=yQ u p.2.1 n []:=by
 obtain ⟨g1,g2,g3,g4,g5,g6,g7,g8⟩:=xF hn;have hN2:=V0 hd4 g3 g1;have iu:inR u=true:=by rw[zP]; omega
 have iN:inR (nN n)=true:=by rw[zP]; omega
 have hc9:nK n=9\/nK n=10->False:=by
  intro h;rcases h with h | h<;>rw[uc h] at g4<;>rw[z8 h] at ha
  ·have g4:(decide (nC n>=2)&&decide (nC n<=16))=true:=g4
   have ha:(nC n).toNat=0:=ha;simp at g4; omega
  ·have g4:(decide (nC n>=2)&&decide (nC n<=16))=true:=g4
   have ha:(nC n).toNat=0:=ha;simp at g4; omega
 rcases v8 g1 with h | h | h | h | h | h | h | h | h | h | h | h | h | h | h | h
 ·have e:evN u p.2.1 q n []=nN n:=by unfold evN; rw[h]; rfl
  have m:yQ u p.2.1 n []=nN n:=by unfold yQ; rw[h]; rfl
  have h':n.1=1:=h;rw[e,m];refine ⟨?_,g2,Int.le_refl _⟩;unfold xB.sh;rw[h',vr F (v:=nN n) (by omega) (by omega)];rfl
 ·have e:evN u p.2.1 q n []=nN n*u:=by unfold evN; rw[h]; rfl
  have m:yQ u p.2.1 n []=nN n*u:=by unfold yQ; rw[h]; rfl
  have h':n.1=2:=h;have hb:=qM g2 hN2 (show 0<=u by omega) hu2;rw[e,m];refine ⟨?_,hb.1,Int.le_refl _⟩;unfold xB.sh;rw[h',vr F (v:=nN n) (by omega) (by omega)];simp only[Int.reduceBEq,cond_false,cond_true];rw[zp,qA F iN iu (by rw[zP]; omega),zp]
 ·have e:evN u p.2.1 q n []=q.getD (nN n).toNat 0:=by unfold evN; rw[h]; rfl
  have m:yQ u p.2.1 n []=1099511627776:=by unfold yQ; rw[h]; rfl
  have h':n.1=3:=h;rw[uR h] at g3;have g3:nN n<=(p.2.1.length:Int)-1:=g3;have hb:=hq.at (i:=(nN n).toNat) (by omega);rw[e,m];refine ⟨?_,hb.1,hb.2⟩;unfold xB.sh;rw[h',show idx n.2.1 q.length=true from Xa g2 (by rw[hq.1]; show nN n<_; omega),show get (.int .i64) q n.2.1.toNat=q.getD (nN n).toNat 0 from rfl,vr F (v:=q.getD (nN n).toNat 0) (by omega) (by omega)];rfl
 ·have e:evN u p.2.1 q n []=uq (q.getD (nN n).toNat 0) (dS (p.2.1.getD (nN n).toNat (ByteArray.empty,0))):=by unfold evN; rw[h]; rfl
  have m:yQ u p.2.1 n []=uq 1099511627776 (dS (p.2.1.getD (nN n).toNat (ByteArray.empty,0))):=by unfold yQ; rw[h]; rfl
  have h':n.1=4:=h;rw[uR h] at g3;have g3:nN n<=(p.2.1.length:Int)-1:=g3;have hb:=hq.at (i:=(nN n).toNat) (by omega);have hs:1<=dS (p.2.1.getD (nN n).toNat (ByteArray.empty,0))/\dS (p.2.1.getD (nN n).toNat (ByteArray.empty,0))<=1000000000000:=by
   have hlt:(nN n).toNat<p.2.1.length:=by omega
   rw[List.getD_eq_getElem?_getD,List.getElem?_eq_getElem hlt];exact U7 _ _ hD _ (List.getElem_mem _)
  have hcb:=zdE hb.1 hb.2 hs.1;rw[e,m];refine ⟨?_,hcb.1,hcb.2⟩;unfold xB.sh;rw[h',show idx n.2.1 q.length=true from Xa g2 (by rw[hq.1]; show nN n<_; omega),show idx n.2.1 p.2.1.length=true from Xa g2 (by show nN n<_; omega),show get (.int .i64) q n.2.1.toNat=q.getD (nN n).toNat 0 from rfl,
   show (get yy p.2.1 n.2.1.toNat).2=dS (p.2.1.getD (nN n).toNat (ByteArray.empty,0)) from rfl]
  generalize dS (p.2.1.getD (nN n).toNat (ByteArray.empty,0))=s at*;generalize q.getD (nN n).toNat 0=x at*;simp only[Int.reduceBEq,cond_false,cond_true];rw[show (s != 0)=true from bne_iff_ne.2 (by omega),Int.tdiv_eq_ediv_of_nonneg hb.1,Int.tmod_eq_emod_of_nonneg hb.1];have hx1:0<=x/s:=Int.ediv_nonneg hb.1 (by omega);have hx2:x/s<=x:=Int.ediv_le_self _ hb.1;have hm0:=Int.emod_nonneg x (show s≠0 by omega);have hmin:(if 1<x%s then 1 else x%s)=if x%s=0 then 0 else 1:=by split<;>split<;>omega
  rw[hmin,yV (n:=x/s) (by omega) (by omega)];simp only[cond_true];rw[show x/s+(if x%s=0 then 0 else 1)=uq x s from rfl];have hcc:uq x s<=1099511627777:=Int.le_trans hcb.2 (Qy hs.1).2;rw[yV (n:=uq x s) (by omega) (by omega),vr F (v:=uq x s) (by omega) (by omega),zp]
 ·rw[z8 h] at ha; exact absurd (show (1:Nat)=0 from ha) (by decide)
 ·rw[z8 h] at ha; exact absurd (show (2:Nat)=0 from ha) (by decide)
 ·rw[z8 h] at ha; exact absurd (show (2:Nat)=0 from ha) (by decide)
 ·rw[z8 h] at ha; exact absurd (show (2:Nat)=0 from ha) (by decide)
 ·exact absurd (.inl h) hc9
 ·exact absurd (.inr h) hc9
 ·rw[z8 h] at ha; exact absurd (show (1:Nat)=0 from ha) (by decide)
 ·rw[z8 h] at ha; exact absurd (show (1:Nat)=0 from ha) (by decide)
 ·rw[z8 h] at ha; exact absurd (show (1:Nat)=0 from ha) (by decide)
 ·rw[z8 h] at ha; exact absurd (show (1:Nat)=0 from ha) (by decide)
 ·rw[z8 h] at ha; exact absurd (show (1:Nat)=0 from ha) (by decide)
 ·rw[z8 h] at ha; exact absurd (show (3:Nat)=0 from ha) (by decide)
theorem zdu (a b:Int):tw 2 a b=tq a b:=by
 unfold tw awB;cases decide (tr a b=0)<;>rfl
theorem zcM {v N:Int} (h0:0<=N) (h1:N<=10000) (M:Int) (hl:-M<=v) (hh:v<=M):(-(M*10000)<=v*(10000-N)/\v*(10000-N)<=M*10000)/\-M<=tq (v*(10000-N)) 10000/\tq (v*(10000-N)) 10000<=M:=by
 have hb:=um hl hh (show -10000<=10000-N by omega) (show 10000-N<=10000 by omega);have h2:(aQ (v*(10000-N)) 10000)<=M:=by
  unfold aQ;rw[show (((10000:Int).natAbs:Nat):Int)=10000 from rfl];generalize v*(10000-N)=z at*;omega
 have h3:=(aQR (a:=v*(10000-N)) (b:=10000) (by decide)).1;refine ⟨hb,?_⟩;unfold tq;cases dsg (v*(10000-N)) 10000<;>simp only[cond_true,cond_false]<;>omega
theorem Zp {α:Type} {l:List α} (h:l.length=2):∃a b,l=[a,b]:=by
 match l,h with
 | [a,b],_=>exact ⟨a,b,rfl⟩
theorem len3 {α:Type} {l:List α} (h:l.length=3):∃a b c,l=[a,b,c]:=by
 match l,h with
 | [a,b,c],_=>exact ⟨a,b,c,rfl⟩
theorem zbU (F:Nat) (hF:128<F) {u:Int} (hu:1<=u) (hu2:u<=1000000000000000000000000) {D:List yy.T} (hd4:D.length<=4) {n:zb.T} {pile:Nat} (hn:wD D.length n pile=0) {q:List Int} {ks:List Tree} {V M:Tree->Int} (hk:Kids ks V M) (hl:ks.length=ar n) (ha:1<=ar n)
  (hfar:vj n (yQ u D n (ks.map M))<=BND) :
  yM.sh F n (mk u) (ks.map fun k=>mk (V k))=some ((mk (evN u D q n (ks.map V)),()),())/\-yQ u D n (ks.map M)<=evN u D q n (ks.map V)/\evN u D q n (ks.map V)<=yQ u D n (ks.map M):=by
 obtain ⟨g1,g2,g3,g4,g5,g6,g7,g8⟩:=xF hn;have hBND:BND=1329227995784915872903807060280344576:=rfl;have ha16:=zbi g1 g4;have hN2:=V0 hd4 g3 g1;have iu:inR u=true:=by rw[zP]; omega
 have iN:inR (nN n)=true:=by rw[zP]; omega
 have hof:=vr F (v:=nN n) (by omega) (by omega);have i0:idx 0 (ks.map fun k=>mk (V k)).length=true:=W8 (by simp; omega);have hmm:(ks.map fun k=>mk (V k))=(ks.map V).map mk:=by rw[List.map_map]; rfl
 have B:∀k∈ks,-M k<=V k/\V k<=M k/\M k<=BND/\inR (V k)=true:=fun k h=>⟨hk.lo k h,hk.hi k h,hk.bd k h,hk.inr _ (List.mem_map_of_mem h)⟩
 rcases v8 g1 with h | h | h | h | h | h | h | h | h | h | h | h | h | h | h | h
 ·rw[z8 h] at ha; exact absurd (show (1:Nat)<=0 from ha) (by decide)
 ·rw[z8 h] at ha; exact absurd (show (1:Nat)<=0 from ha) (by decide)
 ·rw[z8 h] at ha; exact absurd (show (1:Nat)<=0 from ha) (by decide)
 ·rw[z8 h] at ha; exact absurd (show (1:Nat)<=0 from ha) (by decide)
 ·
  have hl1:ks.length=1:=by rw[hl,z8 h]; rfl
  obtain ⟨a,rfl⟩:=List.length_eq_one_iff.1 hl1;have e:evN u D q n ([a].map V)=0-V a:=by unfold evN; rw[h]; rfl
  have m:yQ u D n ([a].map M)=M a:=by unfold yQ; rw[h]; simp[wx]
  have Ba:=B a (by simp);have h':n.1=5:=h;rw[e,m];refine ⟨?_,by omega,by omega⟩;unfold yM.sh;rw[i0,h',show zR.sh F n.2.1=some ((mk (nN n),()),()) from hof];simp only[Int.reduceBEq,cond_false,cond_true];rw[zp,show get zd ([a].map fun k=>mk (V k)) 0=mk (V a) from rfl,show ((0,0):Int×Int)=mk 0 from rfl,V6 F (by rw[zP]; omega) Ba.2.2.2 (by rw[zP]; omega),zp]
 ·
  have hl1:ks.length=2:=by rw[hl,z8 h]; rfl
  obtain ⟨a,b,rfl⟩:=Zp hl1;have e:evN u D q n ([a,b].map V)=V a+V b:=by unfold evN; rw[h]; rfl
  have m:yQ u D n ([a,b].map M)=M a+M b:=by unfold yQ; rw[h]; simp[wx]
  have hf:vj n (yQ u D n ([a,b].map M))=M a+M b:=by unfold vj; rw[h,m]; rfl
  rw[hf] at hfar;have Ba:=B a (by simp);have Bb:=B b (by simp);have h':n.1=6:=h;rw[e,m];refine ⟨?_,by omega,by omega⟩;unfold yM.sh;rw[i0,h',show zR.sh F n.2.1=some ((mk (nN n),()),()) from hof,show idx 1 ([a,b].map fun k=>mk (V k)).length=true from rfl];simp only[Int.reduceBEq,cond_false,cond_true];rw[zp,show get zd ([a,b].map fun k=>mk (V k)) 0=mk (V a) from rfl,show get zd ([a,b].map fun k=>mk (V k)) 1=mk (V b) from rfl,Ri F Ba.2.2.2 Bb.2.2.2 (by rw[zP]; omega),zp]
 ·
  have hl1:ks.length=2:=by rw[hl,z8 h]; rfl
  obtain ⟨a,b,rfl⟩:=Zp hl1;have e:evN u D q n ([a,b].map V)=V a-V b:=by unfold evN; rw[h]; rfl
  have m:yQ u D n ([a,b].map M)=M a+M b:=by unfold yQ; rw[h]; simp[wx]
  have hf:vj n (yQ u D n ([a,b].map M))=M a+M b:=by unfold vj; rw[h,m]; rfl
  rw[hf] at hfar;have Ba:=B a (by simp);have Bb:=B b (by simp);have h':n.1=7:=h;rw[e,m];refine ⟨?_,by omega,by omega⟩;unfold yM.sh;rw[i0,h',show zR.sh F n.2.1=some ((mk (nN n),()),()) from hof,show idx 1 ([a,b].map fun k=>mk (V k)).length=true from rfl];simp only[Int.reduceBEq,cond_false,cond_true];rw[zp,show get zd ([a,b].map fun k=>mk (V k)) 0=mk (V a) from rfl,show get zd ([a,b].map fun k=>mk (V k)) 1=mk (V b) from rfl,V6 F Ba.2.2.2 Bb.2.2.2 (by rw[zP]; omega),zp]
 ·
  have hl1:ks.length=2:=by rw[hl,z8 h]; rfl
  obtain ⟨a,b,rfl⟩:=Zp hl1;have e:evN u D q n ([a,b].map V)=V a*V b:=by unfold evN; rw[h]; rfl
  have m:yQ u D n ([a,b].map M)=M a*M b:=by unfold yQ; rw[h]; rfl
  have hf:vj n (yQ u D n ([a,b].map M))=M a*M b:=by unfold vj; rw[h,m]; rfl
  rw[hf] at hfar;have Ba:=B a (by simp);have Bb:=B b (by simp);have hb:=um Ba.1 Ba.2.1 Bb.1 Bb.2.1;have h':n.1=8:=h;rw[e,m];refine ⟨?_,hb.1,hb.2⟩;unfold yM.sh;rw[i0,h',show zR.sh F n.2.1=some ((mk (nN n),()),()) from hof,show idx 1 ([a,b].map fun k=>mk (V k)).length=true from rfl];simp only[Int.reduceBEq,cond_false,cond_true];rw[zp,show get zd ([a,b].map fun k=>mk (V k)) 0=mk (V a) from rfl,show get zd ([a,b].map fun k=>mk (V k)) 1=mk (V b) from rfl,qA F Ba.2.2.2 Bb.2.2.2 (by rw[zP]; omega),zp]
 ·
  have e:evN u D q n (ks.map V)=qN (ks.map V):=by unfold evN; rw[h]; rfl
  have m:yQ u D n (ks.map M)=wx (ks.map M):=by unfold yQ; rw[h]; rfl
  have h':n.1=9:=h;obtain ⟨k,hkm,hkv⟩:=List.mem_map.1 (Z0 (l:=ks.map V) (by simp; omega));have Bk:=B k hkm;have hs:=hk.sum k hkm;rw[e,m];refine ⟨?_,by omega,by omega⟩;unfold yM.sh;rw[i0,h',show zR.sh F n.2.1=some ((mk (nN n),()),()) from hof,hmm];simp only[Int.reduceBEq,cond_false,cond_true];rw[zp,S2 F hk.inr (by simp; omega) (by simp; omega) (by simp; omega),zp]
 ·
  have e:evN u D q n (ks.map V)=vT (ks.map V):=by unfold evN; rw[h]; rfl
  have m:yQ u D n (ks.map M)=wx (ks.map M):=by unfold yQ; rw[h]; rfl
  have h':n.1=10:=h;obtain ⟨k,hkm,hkv⟩:=List.mem_map.1 (Z1 (l:=ks.map V) (by simp; omega));have Bk:=B k hkm;have hs:=hk.sum k hkm;rw[e,m];refine ⟨?_,by omega,by omega⟩;unfold yM.sh;rw[i0,h',show zR.sh F n.2.1=some ((mk (nN n),()),()) from hof,hmm];simp only[Int.reduceBEq,cond_false,cond_true];rw[zp,S4 F hk.inr (by simp; omega) (by simp; omega) (by simp; omega),zp]
 ·
  have hl1:ks.length=1:=by rw[hl,z8 h]; rfl
  obtain ⟨a,rfl⟩:=List.length_eq_one_iff.1 hl1;have e:evN u D q n ([a].map V)=vT [0,V a-nN n]:=by unfold evN; rw[h]; rfl
  have m:yQ u D n ([a].map M)=M a+nN n:=by unfold yQ; rw[h]; simp[wx]
  have Ba:=B a (by simp);have h':n.1=11:=h;have i1:inR (V a-nN n)=true:=by rw[zP]; omega
  have hmx:vT [0,V a-nN n]=0\/vT [0,V a-nN n]=V a-nN n:=by have:=Z1 (l:=[0,V a-nN n]) (by simp); simpa using this
  rw[e,m];refine ⟨?_,by omega,by omega⟩;unfold yM.sh;rw[i0,h',show zR.sh F n.2.1=some ((mk (nN n),()),()) from hof];simp only[Int.reduceBEq,cond_false,cond_true];rw[zp,show get zd ([a].map fun k=>mk (V k)) 0=mk (V a) from rfl,V6 F Ba.2.2.2 iN i1,zp];have:=S4 F (l:=[0,V a-nN n]) (by intro v hv; simp at hv; rcases hv with rfl | rfl; rw[zP]; omega; exact i1) (by simp) (by simp; omega) (by simp)
  rw[show (([0,V a-nN n]:List Int).map mk)=[(0,0),mk (V a-nN n)] from rfl] at this;rw[this,zp]
 ·
  have hl1:ks.length=1:=by rw[hl,z8 h]; rfl
  obtain ⟨a,rfl⟩:=List.length_eq_one_iff.1 hl1;have e:evN u D q n ([a].map V)=qN [nN n,V a]:=by unfold evN; rw[h]; rfl
  have m:yQ u D n ([a].map M)=M a+nN n:=by unfold yQ; rw[h]; simp[wx]
  have Ba:=B a (by simp);have h':n.1=12:=h;have hmx:qN [nN n,V a]=nN n\/qN [nN n,V a]=V a:=by have:=Z0 (l:=[nN n,V a]) (by simp); simpa using this
  rw[e,m];refine ⟨?_,by omega,by omega⟩;unfold yM.sh;rw[i0,h',show zR.sh F n.2.1=some ((mk (nN n),()),()) from hof];simp only[Int.reduceBEq,cond_false,cond_true];rw[zp,show get zd ([a].map fun k=>mk (V k)) 0=mk (V a) from rfl];have:=S2 F (l:=[nN n,V a]) (by intro v hv; simp at hv; rcases hv with rfl | rfl; exact iN; exact Ba.2.2.2) (by simp) (by simp; omega) (by simp)
  rw[show (([nN n,V a]:List Int).map mk)=[mk (nN n),mk (V a)] from rfl] at this;rw[this,zp]
 ·
  have hl1:ks.length=1:=by rw[hl,z8 h]; rfl
  obtain ⟨a,rfl⟩:=List.length_eq_one_iff.1 hl1;have hr:=g8 (by unfold ut uB; rw[h]; rfl);have e:evN u D q n ([a].map V)=u*UQ (V a) (nT n):=by unfold evN; rw[h]; rfl
  have m:yQ u D n ([a].map M)=u*(wN 0 (nT n)*(M a+wK (nT n))+vp (nT n)):=by unfold yQ; rw[h]; rfl
  have hf:vj n (yQ u D n ([a].map M))=u*(wN 0 (nT n)*(M a+wK (nT n))+vp (nT n)):=by unfold vj; rw[h,m]; rfl
  rw[hf] at hfar;have Ba:=B a (by simp);have hgb:=zb0 hr Ba.2.1 (by omega);have hub:=um (show -u<=u by omega) (Int.le_refl u) hgb.1 hgb.2;have hle:=Q3 hu (show 0<=wN 0 (nT n)*(M a+wK (nT n))+vp (nT n) by omega);have h':n.1=13:=h;rw[e,m];refine ⟨?_,hub.1,hub.2⟩;unfold yM.sh;rw[i0,h',show zR.sh F n.2.1=some ((mk (nN n),()),()) from hof];simp only[Int.reduceBEq,cond_false,cond_true];rw[zp,show get zd ([a].map fun k=>mk (V k)) 0=mk (V a) from rfl,S9 F (by omega) hr Ba.2.2.2 Ba.2.1 (by omega) (by omega),zp,qA F iu (by rw[zP]; omega) (by rw[zP]; omega),zp]
 ·
  have hl1:ks.length=1:=by rw[hl,z8 h]; rfl
  obtain ⟨a,rfl⟩:=List.length_eq_one_iff.1 hl1;have hr:=g8 (by unfold ut uB; rw[h]; rfl);have e:evN u D q n ([a].map V)=u*vol (V a) (nT n):=by unfold evN; rw[h]; rfl
  have m:yQ u D n ([a].map M)=u*(wN 0 (nT n)*(M a+wK (nT n))+vp (nT n)):=by unfold yQ; rw[h]; rfl
  have hf:vj n (yQ u D n ([a].map M))=u*(wN 0 (nT n)*(M a+wK (nT n))+vp (nT n)):=by unfold vj; rw[h,m]; rfl
  rw[hf] at hfar;have Ba:=B a (by simp);have hgb:=vol_bd hr Ba.2.1 (by omega);have hub:=um (show -u<=u by omega) (Int.le_refl u) hgb.1 hgb.2;have hle:=Q3 hu (show 0<=wN 0 (nT n)*(M a+wK (nT n))+vp (nT n) by omega);have h':n.1=14:=h;rw[e,m];refine ⟨?_,hub.1,hub.2⟩;unfold yM.sh;rw[i0,h',show zR.sh F n.2.1=some ((mk (nN n),()),()) from hof];simp only[Int.reduceBEq,cond_false,cond_true];rw[zp,show get zd ([a].map fun k=>mk (V k)) 0=mk (V a) from rfl,zbk F (by omega) hr Ba.2.2.2 Ba.2.1 (by omega) (by omega),zp,qA F iu (by rw[zP]; omega) (by rw[zP]; omega),zp]
 ·
  have hl1:ks.length=1:=by rw[hl,z8 h]; rfl
  obtain ⟨a,rfl⟩:=List.length_eq_one_iff.1 hl1;have e:evN u D q n ([a].map V)=tw 2 (V a*(10000-nN n)) 10000:=by unfold evN; rw[h]; rfl
  have m:yQ u D n ([a].map M)=M a:=by unfold yQ; rw[h]; rfl
  have hf:vj n (yQ u D n ([a].map M))=M a*10000:=by unfold vj; rw[h,m]; rfl
  rw[hf] at hfar;rw[uR h] at g3;have g3:nN n<=10000:=g3;have Ba:=B a (by simp);have ho:=zcM g2 g3 (M a) Ba.1 Ba.2.1;have h':n.1=15:=h;rw[e,m,zdu];refine ⟨?_,ho.2.1,ho.2.2⟩;unfold yM.sh;rw[i0,h',show zR.sh F n.2.1=some ((mk (nN n),()),()) from hof];simp only[Int.reduceBEq,cond_false,cond_true];rw[zp,show get zd ([a].map fun k=>mk (V k)) 0=mk (V a) from rfl,yV (n:=10000-n.2.1) (show -9223372036854775808<=10000-nN n by omega) (show 10000-nN n<9223372036854775808 by omega),show (10000-n.2.1:Int)=10000-nN n from rfl,
   vr F (v:=10000-nN n) (by omega) (by omega),zp,qA F Ba.2.2.2 (Zr (by omega) (by omega)) (by rw[zP]; omega),zp,vr F (v:=10000) (by omega) (by omega),zp]
  rw[zaj F (by omega) (by rw[zP]; omega) (by rw[zP]; omega) (by decide) (by rw[zP]; omega) (by omega) (by omega),zp,zdu]
 ·
  have hl1:ks.length=3:=by rw[hl,z8 h]; rfl
  obtain ⟨a,b,c,rfl⟩:=len3 hl1;have e:evN u D q n ([a,b,c].map V)=bif qY (nO n) (V a) (nN n) then V b else V c:=by unfold evN; rw[h]; rfl
  have m:yQ u D n ([a,b,c].map M)=M a+(M b+M c)+nN n:=by unfold yQ; rw[h]; simp[wx]
  have Ba:=B a (by simp);have Bb:=B b (by simp);have Bc:=B c (by simp);have h':n.1=16:=h;rw[e,m];refine ⟨?_,by cases qY (nO n) (V a) (nN n)<;>simp only[cond_true,cond_false]<;>omega,by cases qY (nO n) (V a) (nN n)<;>simp only[cond_true,cond_false]<;>omega⟩;unfold yM.sh;rw[i0,h',show zR.sh F n.2.1=some ((mk (nN n),()),()) from hof,show idx 1 ([a,b,c].map fun k=>mk (V k)).length=true from rfl,show idx 2 ([a,b,c].map fun k=>mk (V k)).length=true from rfl];simp only[Int.reduceBEq,cond_false,cond_true];rw[zp,show get zd ([a,b,c].map fun k=>mk (V k)) 0=mk (V a) from rfl,zd8 F Ba.2.2.2 iN,zp];cases qY (nO n) (V a) (nN n)<;>rfl
theorem zdn (F:Nat) {n:zb.T} (hg:tI n=true) (hk:uy n=true):ym.sh F n=some (((ar n:Int),()),()):=by
 have h9:∀k:Int,(nK n=k)->(k=9\/k=10)->(ar n:Int)=nC n:=by
  intro k h hkk;rw[uc h] at hk;have hk:(decide (nC n>=2)&&decide (nC n<=16))=true:=by rcases hkk with rfl | rfl<;>exact hk
  simp at hk;have:ar n=(nC n).toNat:=by rw[z8 h]; rcases hkk with rfl | rfl<;>rfl
  omega
 unfold ym.sh ym.j6 ym.j10;rcases v8 hg with h | h | h | h | h | h | h | h | h | h | h | h | h | h | h | h<;>rw[show n.1=_ from h]
 ·rw[z8 h]; rfl
 ·rw[z8 h]; rfl
 ·rw[z8 h]; rfl
 ·rw[z8 h]; rfl
 ·rw[z8 h]; rfl
 ·rw[z8 h]; rfl
 ·rw[z8 h]; rfl
 ·rw[z8 h]; rfl
 ·rw[h9 9 h (.inl rfl)]; rfl
 ·rw[h9 10 h (.inr rfl)]; rfl
 ·rw[z8 h]; rfl
 ·rw[z8 h]; rfl
 ·rw[z8 h]; rfl
 ·rw[z8 h]; rfl
 ·rw[z8 h]; rfl
 ·rw[z8 h]; rfl
structure Inv (u:Int) (D:List yy.T) (q:List Int) (t:Tree):Prop where
 lo:-mag u D t<=ev u D q t
 hi:ev u D q t<=mag u D t
 bd:mag u D t<=BND
theorem Qb {u:Int} {D:List yy.T} {q:List Int} {l:List Tree} (h:∀t∈l,Inv u D q t):Kids l (ev u D q) (mag u D):=⟨fun k hk=>(h k hk).lo,fun k hk=>(h k hk).hi,fun k hk=>(h k hk).bd⟩
theorem zb5 {n:zb.T} {v:Int} (h0:0<=v) (h:vj n v<=BND):v<=BND:=by
 unfold vj at h;cases h15:(nK n==15) with
 | true=>rw[h15] at h; simp only[cond_true] at h; omega
 | false=>rw[h15] at h; exact h
theorem Ui (F:Nat) (hF:128<F) {u:Int} (hu:1<=u) (hu2:u<=1000000000000000000000000) {p:zL.T} (hD:dE [] p.2.1=0) (hd4:p.2.1.length<=4) {q:List Int} (hq:okQ p.2.1 q) {st:List Tree} {n:zb.T}
  (hn:wD p.2.1.length n st.length=0) (hI:∀t∈st,Inv u p.2.1 q t) (hE:ZO u p.2.1 (wh st n)=0) :
  Inv u p.2.1 q (wh st n)/\(ar n=0->xB.sh F p n (mk u) q=some ((mk (ev u p.2.1 q (wh st n)),()),())) /\
  (1<=ar n->yM.sh F n (mk u) ((st.drop (st.length-ar n)).map fun t=>mk (ev u p.2.1 q t))=some ((mk (ev u p.2.1 q (wh st n)),()),())):=by
 obtain ⟨g1,g2,g3,g4,g5,g6,g7,g8⟩:=xF hn;have hfar:vj n (mag u p.2.1 (wh st n))<=BND:=by
  unfold ZO at hE;rw[show (wh st n).root=n from rfl] at hE;cases hx:decide (vj n (mag u p.2.1 (wh st n))>BND) with
  | true=>rw[hx] at hE; exact absurd (show (90:Int)=0 from hE) (by decide)
  | false=>have:=of_decide_eq_false hx; omega
 have hm:mag u p.2.1 (wh st n)=yQ u p.2.1 n ((st.drop (st.length-ar n)).map (mag u p.2.1)):=by unfold wh; rw[uI]
 have hv:ev u p.2.1 q (wh st n)=evN u p.2.1 q n ((st.drop (st.length-ar n)).map (ev u p.2.1 q)):=by unfold wh; rw[uk]
 by_cases ha:ar n=0
 ·rw[ha,Nat.sub_zero,List.drop_of_length_le (Nat.le_refl _)] at hm hv
  simp only[List.map_nil] at hm hv;obtain ⟨h1,h2,h3⟩:=zdm F hu hu2 hD hd4 hn hq ha;rw[<-hv] at h1 h2 h3;rw[<-hm] at h3;exact ⟨⟨by omega,h3,zb5 (by omega) hfar⟩,fun _=>h1,fun h=>by omega⟩
 ·have hk:Kids (st.drop (st.length-ar n)) (ev u p.2.1 q) (mag u p.2.1):=Qb (fun t ht=>hI t (List.mem_of_mem_drop ht))
  rw[hm] at hfar;obtain ⟨h1,h2,h3⟩:=zbU F hF hu hu2 hd4 hn (q:=q) hk (by simp; omega) (by omega) hfar;rw[<-hv] at h1 h2 h3;rw[<-hm] at h2 h3 hfar;exact ⟨⟨h2,h3,zb5 (by omega) hfar⟩,fun h=>by omega,fun _=>h1⟩
theorem Qc {u:Int} (hu:1<=u) (hu2:u<=1000000000000000000000000) {p:zL.T} (hD:dE [] p.2.1=0) (hd4:p.2.1.length<=4) {q:List Int} (hq:okQ p.2.1 q):∀(xs:List zb.T) (st:List Tree),okS p.2.1.length st xs->
  (∀t∈st,Inv u p.2.1 q t)->wu (ZO u p.2.1) (news st xs) 0=none->∀t∈news st xs,Inv u p.2.1 q t
 | [],st,h,hI,hf=>by simp[news]
 | n::xs,st,h,hI,hf=>by
  simp only[news] at hf ⊢;have hE:=qi hf (wh st n) (by simp);have hs:=(Ui FU (by decide) hu hu2 hD hd4 hq h.1 hI hE).1;have ih:=Qc hu hu2 hD hd4 hq xs (wo st n) h.2 (by
   intro t ht;rcases List.mem_append.1 ht with ht | ht
   ·exact hI t (List.mem_of_mem_take ht)
   ·rw[List.mem_singleton.1 ht]; exact hs) (by
   simp only[wu] at hf;rw[show (ZO u p.2.1 (wh st n) != 0)=false by simpa using hE] at hf;exact Z9 0 hf)
  intro t ht;rcases List.mem_cons.1 ht with rfl | ht
  ·exact hs
  ·exact ih t ht
theorem zbl (F:Nat) (hF:128<F) {R:Type} {u:Int} (hu:1<=u) (hu2:u<=1000000000000000000000000) {p:zL.T} (hD:dE [] p.2.1=0) (hd4:p.2.1.length<=4) {q:List Int} (hq:okQ p.2.1 q) (kO:List zd.T->Option R) (L:List zb.T) (N:Int):∀(xs:List zb.T) (st:List Tree) (i:Int) (values:List zd.T),
  okS p.2.1.length st xs->(yH st).length+xs.length<=2048->values.length<=(yH st).length->(∀t∈st,Inv u p.2.1 q t)->wu (ZO u p.2.1) (news st xs) 0=none->
  zq.l14.rg F (fun _ _ _ _ _ _ _ values _=>kO values) L N xs i q p (mk u) values (st.map fun t=>mk (ev u p.2.1 q t))=kO (values++(news st xs).map fun t=>mk (ev u p.2.1 q t)):=by
 intro xs;induction xs with
 | nil=>intro st i values h h2 h3 h4 hf; simp[zq.l14.rg,news]
 | cons n xs ih =>
  intro st i values h h2 h3 h4 hf;obtain ⟨g1,g2,g3,g4,g5,g6,g7,g8⟩:=xF h.1;have hst:=wP st;have hfs:=congrArg List.length (vC st n);simp only[List.length_cons,List.length_append,List.length_nil] at h2 hfs;simp only[news] at hf ⊢;have hE:=qi hf (wh st n) (by simp);obtain ⟨s1,s2,s3⟩:=Ui F hF hu hu2 hD hd4 hq h.1 h4 hE;have hl:(st.map fun t=>mk (ev u p.2.1 q t)).length=st.length:=by simp
  have ew:=qP g7 (by omega);have hb1:=Zd (show st.length-ar n<=st.length by omega);have hb2:=tX (show st.length-ar n<=st.length by omega);have htk:(st.map fun t=>mk (ev u p.2.1 q t)).take st.length=st.map fun t=>mk (ev u p.2.1 q t):=List.take_of_length_le (by omega)
  have hbl1:∀y,Nat.ble (values.length+([y]:List zd.T).length) xu=true:=fun y=>vW (by simp; omega)
  have hbl2:∀y,Nat.ble (st.length-ar n+([y]:List zd.T).length) xu=true:=fun y=>vW (by simp; omega)
  have hstep:(wo st n).map (fun t=>mk (ev u p.2.1 q t))=(st.map fun t=>mk (ev u p.2.1 q t)).take (st.length-ar n)++[mk (ev u p.2.1 q (wh st n))]:=by
   unfold wo; simp[List.map_take]
  have IH:=ih (wo st n) (i+1) (values++[mk (ev u p.2.1 q (wh st n))]) h.2 (by omega) (by simp; omega) (by
   intro t ht;rcases List.mem_append.1 ht with ht | ht
   ·exact h4 t (List.mem_of_mem_take ht)
   ·rw[List.mem_singleton.1 ht]; exact s1) (by
   simp only[wu] at hf;rw[show (ZO u p.2.1 (wh st n) != 0)=false by simpa using hE] at hf;exact Z9 0 hf)
  rw[hstep] at IH;simp only[List.append_assoc,List.singleton_append] at IH;have hdm:(st.map fun t=>mk (ev u p.2.1 q t)).drop (st.length-ar n)=(st.drop (st.length-ar n)).map fun t=>mk (ev u p.2.1 q t):=by rw[<-List.map_drop]
  simp only[zq.l14.rg];rw[zdn F g1 g4,zp];simp only[hl,ew,hb1,hb2,htk,cond_true,hdm];by_cases ha:ar n=0
  ·rw[decide_eq_false (show ¬((st.length-ar n:Nat):Int)<(st.length:Int) by omega)]
   simp only[cond_false];rw[s2 ha,zp];simp only[hbl1,hbl2,cond_true];exact IH
  ·rw[decide_eq_true (show ((st.length-ar n:Nat):Int)<(st.length:Int) by omega)]
   simp only[cond_true];rw[s3 (by omega),zp];simp only[hbl1,hbl2,cond_true];exact IH
def qB (x:Int):Bool:=decide (x<0)||decide (x>1099511627776)
theorem zcy (F:Nat) {R:Type} (k0:List zd.T->Int->Option R) (k1:List Int->zL.T->zd.T->Option R) (L:List Int) (N:Int) (q:List Int) (p:zL.T) (u:zd.T):∀(xs:List Int) (i:Int),
  zq.l7.rg F k0 (fun q _ _ _ _ p u=>k1 q p u) L N xs i q p u=bif xs.any qB then k0 [] 101 else k1 q p u
 | [],i=>rfl
 | x::r,i=>by
  rw[zq.l7.rg,zcy F k0 k1 L N q p u r,List.any_cons];unfold qB;cases decide (x<0) with
  | true=>rfl
  | false=>cases decide (x>1099511627776)<;>rfl
theorem SX {D:List yy.T} {q:List Int} (h1:q.length=D.length) (h2:q.any qB=false):okQ D q:=by
 refine ⟨h1,fun x hx=>?_⟩;have:=(List.any_eq_false.1 h2) x hx;simp[qB] at this;omega
def uf (D:List yy.T) (t:Tree) (q:List Int):List zd.T×Int :=
 bif (wi D t).2.2 != 0 then ([],(wi D t).2.2) else bif (q.length:Int) != (D.length:Int) then ([],100) else bif q.any qB then ([],101) else
 (t.subs.map fun s=>mk (ev (xH t) D q s),0)
theorem Xo {p:zL.T} {t:Tree} (h:Good p t) (hu:(wi p.2.1 t).2.2=0):deep t<=6/\wu tyE t.subs 0=none/\ty t=1/\wu (ZO (xH t) p.2.1) t.subs 0=none/\wi p.2.1 t=(mk (xH t),0,0):=by
 obtain ⟨a1,a2,a3,a4⟩:=zch hu;exact ⟨a2,(Tw a1).1,(Tw a1).2,(zcW a3).1,a4⟩
theorem zaw (F:Nat) (hF:4096<F) {p:zL.T} {t:Tree} (h:Good p t) (q:List Int) (hU:yX.sh F p=some (((wi p.2.1 t).1,(wi p.2.1 t).2.1,(wi p.2.1 t).2.2,()),())):zq.sh F p q=some (((uf p.2.1 t q).1,(uf p.2.1 t q).2,()),()):=by
 unfold zq.sh uf;rw[hU,zp];cases hu:((wi p.2.1 t).2.2 != 0) with
 | true=>simp only[cond_true,hu]
 | false =>
  have hu':(wi p.2.1 t).2.2=0:=by simpa using hu
  obtain ⟨u1,u2,u3,u4,u5⟩:=Xo h hu';simp only[cond_false,hu];cases hql:((q.length:Int) != (p.2.1.length:Int)) with
  | true=>rfl
  | false =>
   have hql:(q.length:Int)=(p.2.1.length:Int):=by simpa using hql
   have hh:=uj h.head;have hl:=h.len;simp only[cond_false];refine Eq.trans (zq.l7.rg_eq F _ _ q _ rfl (by omega) q 0 F _ _ _ (by simp) (by omega)) ?_;refine (zcy F (fun r42 r52=>(some ((r42,r52,()),()):Option zq.sg.R)) (fun q3 p3 unit3=>zq.l14 F (fun q7 t467 t477 t487 t497 p7 unit7 values7 pile7=>zq.j24 F (fun r48 r58=>some ((r48,r58,()),())) values7) F q3 p3.2.2.2 (p3.2.2.2.length:Int) 0 p3 unit3 ([]) ([])) q _ q p _ q _).trans ?_;cases hqa:q.any qB with
   | true=>rfl
   | false =>
    simp only[cond_false];have hub:=tZ u1;refine Eq.trans (zq.l14.rg_eq F _ p.2.2.2 _ rfl (by omega) p.2.2.2 0 F _ _ _ _ _ (by simp) (by omega)) ?_;rw[u5];refine (zbl F (by omega) hub.1 hub.2 hh.2.2.1 hh.2.1 (SX (by omega) hqa) (fun values=>(some ((values,0,()),()):Option zq.sg.R)) p.2.2.2 _ p.2.2.2 [] 0 [] h.ok (by simp[yH]; omega) (by simp) (by simp) (by rw[h.subs]; exact u4)).trans ?_;rw[h.subs];rfl
theorem zc5 {p:zL.T} {t:Tree} (h:Good p t) (q:List Int):zq.sh FU p q=some (((uf p.2.1 t q).1,(uf p.2.1 t q).2,()),()):=zaw FU vZ h q (Ry h)
def wM (D:List yy.T) (t:Tree) (q:List Int):zd.T×Int :=
 bif (uf D t q).2 != 0 then ((0,0),(uf D t q).2) else (mk (ev (xH t) D q t),0)
theorem Xm {D:List yy.T} {t:Tree} {q:List Int} (h:(uf D t q).2=0):(wi D t).2.2=0/\q.length=D.length/\q.any qB=false/\uf D t q=(t.subs.map fun s=>mk (ev (xH t) D q s),0):=by
 unfold uf at*;cases h1:((wi D t).2.2 != 0) with
 | true =>
  rw[h1] at h;have h:(wi D t).2.2=0:=h;rw[h] at h1;exact absurd h1 (by decide)
 | false =>
  rw[h1] at h;cases h2:((q.length:Int) != (D.length:Int)) with
  | true=>rw[h2] at h; exact absurd (show (100:Int)=0 from h) (by decide)
  | false =>
   rw[h2] at h;cases h3:q.any qB with
   | true=>rw[h3] at h; exact absurd (show (101:Int)=0 from h) (by decide)
   | false =>
    have h2:(q.length:Int)=(D.length:Int):=by simpa using h2
    exact ⟨by simpa using h1,by omega,rfl,rfl⟩
theorem QH {p:zL.T} {t:Tree} (h:Good p t) (q:List Int):xd.sh FU p q=some (((wM p.2.1 t q).1,(wM p.2.1 t q).2,()),()):=by
 unfold xd.sh wM;rw[zc5 h,zp];cases hv:((uf p.2.1 t q).2 != 0) with
 | true=>simp only[cond_true,hv]
 | false =>
  have hv':(uf p.2.1 t q).2=0:=by simpa using hv
  obtain ⟨v1,v2,v3,v4⟩:=Xm hv';obtain ⟨s,hs⟩:=TG t;have hlen:(uf p.2.1 t q).1.length=s.length+1:=by rw[v4,hs]; simp
  have hn:s.length+1=p.2.2.2.length:=by rw[<-h.flat,<-Uh,hs]; simp
  have hl:=h.len;simp only[cond_false,hv,hlen];rw[yV (n:=((s.length+1:Nat):Int)-1) (by omega) (by omega),show ((s.length+1:Nat):Int)-1=((s.length:Nat):Int) by omega,xm (by omega),Int.toNat_natCast];simp only[cond_true];have hg:get zd (uf p.2.1 t q).1 s.length=mk (ev (xH t) p.2.1 q t):=by
   rw[v4,hs,List.map_append]; exact zdc (by simp)
  rw[hg]
theorem Wd {D:List yy.T} {t:Tree} {q:List Int} (h:(wM D t q).2=0):(uf D t q).2=0/\wM D t q=(mk (ev (xH t) D q t),0):=by
 unfold wM at*;cases h1:((uf D t q).2 != 0) with
 | true =>
  rw[h1] at h;have h:(uf D t q).2=0:=h;rw[h] at h1;exact absurd h1 (by decide)
 | false=>exact ⟨by simpa using h1,rfl⟩
theorem Wo (t:Tree):t∈t.subs:=by
 obtain ⟨s,hs⟩:=TG t;rw[hs]; simp
theorem zcA {p:zL.T} {t:Tree} (h:Good p t) {q:List Int} (hv:(uf p.2.1 t q).2=0):∀s∈t.subs,Inv (xH t) p.2.1 q s:=by
 obtain ⟨v1,v2,v3,v4⟩:=Xm hv;obtain ⟨u1,u2,u3,u4,u5⟩:=Xo h v1;have hh:=uj h.head;have hub:=tZ u1;have:=Qc hub.1 hub.2 hh.2.2.1 hh.2.1 (SX v2 v3) p.2.2.2 [] h.ok (by simp) (by rw[h.subs]; exact u4);rw[h.subs] at this;exact this
theorem zd6 (F:Nat) {v:Int} (h:inR v=true):xU.sh F (mk v)=some ((bif decide (-9223372036854775808<=v)&&decide (v<9223372036854775808) then v else 0,decide (-9223372036854775808<=v)&&decide (v<9223372036854775808),()),()):=by
 have hv:=zP.1 h;unfold xU.sh;simp only[mk];obtain ⟨k,e1,e2,e3⟩:=VX (v%18446744073709551616);rw[zcr e2 e3];generalize i64.wrap (v%18446744073709551616)=r at*;by_cases hr:-9223372036854775808<=v/\v<9223372036854775808
 ·have er:r=v:=by omega
  have e0:(v/18446744073709551616 != if r<0 then (-1:Int) else 0)=false:=by
   have:v/18446744073709551616=if r<0 then (-1:Int) else 0:=by split<;>omega
   rw[this]; simp
  rw[e0,decide_eq_true hr.1,decide_eq_true hr.2,er];rfl
 ·have e0:(v/18446744073709551616 != if r<0 then (-1:Int) else 0)=true:=by
   rw[bne_iff_ne]; split<;>omega
  rw[e0];rcases Int.lt_or_le v (-9223372036854775808) with h' | h'
  ·rw[decide_eq_false (show ¬-9223372036854775808<=v by omega)]; rfl
  ·rw[decide_eq_true h',decide_eq_false (show ¬v<9223372036854775808 by omega)]; rfl
def QT (m x u:Int):Int×Int:=bif decide (tw m x u < -1000000000000000)||decide (tw m x u>1000000000000000) then (0,102) else (tw m x u,0)
theorem zco {a b:Int} (hb:b≠0):-(a.natAbs:Int)<=tq a b/\tq a b<=a.natAbs:=by
 have:=aQR (a:=a) hb;unfold tq;cases dsg a b<;>simp only[cond_true,cond_false]<;>omega
theorem divM_bd {m a b:Int} (hb:b≠0):-(a.natAbs:Int)-1<=tw m a b/\tw m a b<=a.natAbs+1:=by
 have:=zco (a:=a) hb;unfold tw;cases decide (tr a b=0) with
 | true=>simp only[cond_true]; omega
 | false =>
  cases awB m (tq a b) (tr a b) b with
  | false=>simp only[cond_true,cond_false,Bool.not_false]; omega
  | true=>cases dsg a b<;>simp only[cond_true,cond_false,Bool.not_true]<;>omega
theorem QS (F:Nat) {v:Int} (h:inR v=true) {R:Type} (k:Int->Int->Option R):(oB (xU.sh F (mk v)) fun c_4=>bif !c_4.1.2.1 then k 0 102 else bif decide (c_4.1.1<(-1000000000000000)) then k 0 102 else bif decide (c_4.1.1>1000000000000000) then k 0 102 else k c_4.1.1 0) =
  bif decide (v < -1000000000000000)||decide (v>1000000000000000) then k 0 102 else k v 0:=by
 rw[zd6 F h,zp];by_cases h1:-9223372036854775808<=v
 ·by_cases h2:v<9223372036854775808
  ·rw[decide_eq_true h1,decide_eq_true h2]
   simp only[Bool.and_self,cond_true,Bool.not_true,cond_false];cases decide (v < -1000000000000000) with
   | true=>rfl
   | false=>cases decide (v>1000000000000000)<;>rfl
  ·rw[decide_eq_false h2,decide_eq_true (show v>1000000000000000 by omega),Bool.and_false,Bool.or_true]; rfl
 ·rw[decide_eq_false h1,decide_eq_true (show v < -1000000000000000 by omega)]; rfl
def tA (m:Int) (D:List yy.T) (t:Tree) (q:List Int):Int×Int :=
 bif (wM D t q).2 != 0 then (0,(wM D t q).2) else QT m (ev (xH t) D q t) (xH t)
theorem zdV {p:zL.T} {t:Tree} (h:Good p t) (q:List Int):xj.sh FU p q=some (((tA p.2.2.1 p.2.1 t q).1,(tA p.2.2.1 p.2.1 t q).2,()),()):=by
 unfold xj.sh tA;rw[QH h,zp];cases hx:((wM p.2.1 t q).2 != 0) with
 | true=>simp only[cond_true,hx]
 | false =>
  have hx':(wM p.2.1 t q).2=0:=by simpa using hx
  obtain ⟨x1,x2⟩:=Wd hx';obtain ⟨v1,v2,v3,v4⟩:=Xm x1;obtain ⟨u1,u2,u3,u4,u5⟩:=Xo h v1;have hh:=uj h.head;have hub:=tZ u1;have hI:=zcA h x1 t (Wo t);have hBND:BND=1329227995784915872903807060280344576:=rfl;have i1:=hI.lo;have i2:=hI.hi;have i3:=hI.bd;simp only[cond_false,hx];rw[x2,Ry h,zp,u5];have htq:=zco (a:=ev (xH t) p.2.1 q t) (b:=xH t) (by omega);have hdv:=divM_bd (m:=p.2.2.1) (a:=ev (xH t) p.2.1 q t) (b:=xH t) (by omega);rw[zaj FU (by decide) (by rw[zP]; omega) (by rw[zP]; omega) (by omega) (by rw[zP]; omega) hh.2.2.2.2.1 hh.2.2.2.2.2,zp];refine (QS FU (by rw[zP]; omega) (fun a b=>(some ((a,b,()),()):Option xj.sg.R))).trans ?_;unfold QT;cases (decide (tw p.2.2.1 (ev (xH t) p.2.1 q t) (xH t) < -1000000000000000)||decide (tw p.2.2.1 (ev (xH t) p.2.1 q t) (xH t)>1000000000000000))<;>rfl
def Dv (S u:Int) (D:List yy.T) (q:List Int) (t:Tree):Prop:=ty t=1->∃c,ev u D q t=c*10000^(S-deep t).toNat
theorem U6 {ks:List Tree} {k:Tree} (hk:k∈ks):0<=deep k/\deep k<=vT (ks.map deep):=by
 have h0:∀x∈ks.map deep,0<=x:=by simp only[List.mem_map]; rintro x ⟨k,hk,rfl⟩; exact (ud k).1
 exact ⟨(ud k).1,(S5 h0).2 _ (List.mem_map_of_mem hk)⟩
theorem zdx (n:zb.T) (ks:List Tree):vT (ks.map deep)<=deep (.nd n ks):=by
 rw[uE];cases nK n==15<;>simp only[cond_true,cond_false]<;>omega
theorem Dv.mul {S u:Int} {D:List yy.T} {q:List Int} {t:Tree} (h:Dv S u D q t) (ht:ty t=1) {e:Int} (h1:deep t<=e) (h2:e<=S):∃c,ev u D q t=c*10000^(S-e).toNat:=by
 obtain ⟨c,hc⟩:=h ht;have h0:=(ud t).1;refine ⟨c*10000^(e-deep t).toNat,?_⟩;rw[hc,Int.mul_assoc,<-Int.pow_add,show (e-deep t).toNat+(S-e).toNat=(S-deep t).toNat by omega]
theorem uQ {l:List Int} (h:uY l=1):∀x∈l,x=1:=by
 cases l with
 | nil=>simp
 | cons a r =>
  simp only[uY] at h;cases hr:r.all (fun x=>x==a) with
  | false=>rw[hr] at h; exact absurd (show (-1:Int)=1 from h) (by decide)
  | true =>
   rw[hr] at h;have h:a=1:=h;intro x hx;rcases List.mem_cons.1 hx with rfl | hx
   ·exact h
   ·have:=List.all_eq_true.1 hr x hx
    rw[<-h]; simpa using this
theorem zbx {a b:Int} (h:ZX a b=1):a=1\/b=1:=by
 unfold ZX at h;cases h1:(a==0) with
 | true=>rw[h1] at h; exact .inr h
 | false =>
  rw[h1] at h;cases h2:(b==0) with
  | true=>rw[h2] at h; exact .inl h
  | false =>
   rw[h2] at h;cases h3:(w9 a&&b==1) with
   | true=>simp at h3; exact .inr h3.2
   | false =>
    rw[h3] at h;cases h4:(w9 b&&a==1) with
    | true=>simp at h4; exact .inl h4.2
    | false=>rw[h4] at h; exact absurd (show (-1:Int)=1 from h) (by decide)
theorem step_dv {S u:Int} (hS0:0<=S) (hu:u=10000^S.toNat) {D:List yy.T} {q:List Int} {n:zb.T} {ks:List Tree} {dims pile:Nat} (hn:wD dims n pile=0) (hl:ks.length=ar n) (hd:deep (.nd n ks)<=S) (hk:∀k∈ks,Dv S u D q k):Dv S u D q (.nd n ks):=by
 intro ht;obtain ⟨g1,g2,g3,g4,g5,g6,g7,g8⟩:=xF hn;have hdt:=zdx n ks;have hd0:=(ud (.nd n ks)).1;have K1:∀k∈ks,ty k=1->∃c,ev u D q k=c*10000^(S-deep (.nd n ks)).toNat:=fun k hkm h1=>(hk k hkm).mul h1 (by have:=(U6 hkm).2; omega) hd
 have hup:u=10000^(deep (.nd n ks)).toNat*10000^(S-deep (.nd n ks)).toNat:=by
  rw[hu,<-Int.pow_add]; congr 1; omega
 have htn:tyN n (ks.map ty)=1:=by rw[<-tG]; exact ht
 rw[uk];have hdn:=uE n ks;generalize hP:(10000:Int)^(S-deep (.nd n ks)).toNat=P at*;rcases v8 g1 with h | h | h | h | h | h | h | h | h | h | h | h | h | h | h | h
 ·have:tyN n (ks.map ty)=0:=by unfold tyN; rw[h]; rfl
  omega
 ·have e:evN u D q n (ks.map (ev u D q))=nN n*u:=by unfold evN; rw[h]; rfl
  rw[e,hup];exact ⟨nN n*10000^(deep (.nd n ks)).toNat,by rw[Int.mul_assoc]⟩
 ·have:tyN n (ks.map ty)=2+2*nN n:=by unfold tyN; rw[h]; rfl
  omega
 ·have:tyN n (ks.map ty)=3+2*nN n:=by unfold tyN; rw[h]; rfl
  omega
 ·have hl1:ks.length=1:=by rw[hl,z8 h]; rfl
  obtain ⟨a,rfl⟩:=List.length_eq_one_iff.1 hl1;have e:evN u D q n ([a].map (ev u D q))=0-ev u D q a:=by unfold evN; rw[h]; rfl
  have ho:uY ([a].map ty)=1:=by rw[<-htn]; unfold tyN; rw[h]; rfl
  obtain ⟨c,hc⟩:=K1 a (by simp) (uQ ho (ty a) (by simp));exact ⟨-c,by rw[e,hc,Int.neg_mul]; omega⟩
 ·have hl1:ks.length=2:=by rw[hl,z8 h]; rfl
  obtain ⟨a,b,rfl⟩:=Zp hl1;have e:evN u D q n ([a,b].map (ev u D q))=ev u D q a+ev u D q b:=by unfold evN; rw[h]; rfl
  have ho:uY ([a,b].map ty)=1:=by rw[<-htn]; unfold tyN; rw[h]; rfl
  obtain ⟨c,hc⟩:=K1 a (by simp) (uQ ho (ty a) (by simp));obtain ⟨c',hc'⟩:=K1 b (by simp) (uQ ho (ty b) (by simp));exact ⟨c+c',by rw[e,hc,hc',Int.add_mul]⟩
 ·have hl1:ks.length=2:=by rw[hl,z8 h]; rfl
  obtain ⟨a,b,rfl⟩:=Zp hl1;have e:evN u D q n ([a,b].map (ev u D q))=ev u D q a-ev u D q b:=by unfold evN; rw[h]; rfl
  have ho:uY ([a,b].map ty)=1:=by rw[<-htn]; unfold tyN; rw[h]; rfl
  obtain ⟨c,hc⟩:=K1 a (by simp) (uQ ho (ty a) (by simp));obtain ⟨c',hc'⟩:=K1 b (by simp) (uQ ho (ty b) (by simp));exact ⟨c-c',by rw[e,hc,hc',Int.sub_mul]⟩
 ·have hl1:ks.length=2:=by rw[hl,z8 h]; rfl
  obtain ⟨a,b,rfl⟩:=Zp hl1;have e:evN u D q n ([a,b].map (ev u D q))=ev u D q a*ev u D q b:=by unfold evN; rw[h]; rfl
  have ho:ZX (ty a) (ty b)=1:=by rw[<-htn]; unfold tyN; rw[h]; rfl
  rcases zbx ho with h1 | h1
  ·obtain ⟨c,hc⟩:=K1 a (by simp) h1
   exact ⟨c*ev u D q b,by rw[e,hc,Int.mul_right_comm]⟩
  ·obtain ⟨c,hc⟩:=K1 b (by simp) h1
   exact ⟨ev u D q a*c,by rw[e,hc,Int.mul_assoc]⟩
 ·have e:evN u D q n (ks.map (ev u D q))=qN (ks.map (ev u D q)):=by unfold evN; rw[h]; rfl
  have ho:uY (ks.map ty)=1:=by rw[<-htn]; unfold tyN; rw[h]; rfl
  rw[uc h] at g4;have g4:(decide (nC n>=2)&&decide (nC n<=16))=true:=g4;simp at g4;have hln:1<=ks.length:=by rw[hl,z8 h]; show 1<=(nC n).toNat; omega
  obtain ⟨k,hkm,hkv⟩:=List.mem_map.1 (Z0 (l:=ks.map (ev u D q)) (by simp; omega));rw[e,<-hkv];exact K1 k hkm (uQ ho (ty k) (List.mem_map_of_mem hkm))
 ·have e:evN u D q n (ks.map (ev u D q))=vT (ks.map (ev u D q)):=by unfold evN; rw[h]; rfl
  have ho:uY (ks.map ty)=1:=by rw[<-htn]; unfold tyN; rw[h]; rfl
  rw[uc h] at g4;have g4:(decide (nC n>=2)&&decide (nC n<=16))=true:=g4;simp at g4;have hln:1<=ks.length:=by rw[hl,z8 h]; show 1<=(nC n).toNat; omega
  obtain ⟨k,hkm,hkv⟩:=List.mem_map.1 (Z1 (l:=ks.map (ev u D q)) (by simp; omega));rw[e,<-hkv];exact K1 k hkm (uQ ho (ty k) (List.mem_map_of_mem hkm))
 ·have:tyN n (ks.map ty)=bif w9 ((ks.map ty).getD 0 0) then (ks.map ty).getD 0 0 else -1:=by unfold tyN; rw[h]; rfl
  rw[this] at htn;cases hc:w9 ((ks.map ty).getD 0 0) with
  | false=>rw[hc] at htn; exact absurd (show (-1:Int)=1 from htn) (by decide)
  | true=>rw[hc] at htn; unfold w9 at hc; have:=of_decide_eq_true hc; simp only[cond_true] at htn; omega
 ·have:tyN n (ks.map ty)=bif w9 ((ks.map ty).getD 0 0) then (ks.map ty).getD 0 0 else -1:=by unfold tyN; rw[h]; rfl
  rw[this] at htn;cases hc:w9 ((ks.map ty).getD 0 0) with
  | false=>rw[hc] at htn; exact absurd (show (-1:Int)=1 from htn) (by decide)
  | true=>rw[hc] at htn; unfold w9 at hc; have:=of_decide_eq_true hc; simp only[cond_true] at htn; omega
 ·have e:evN u D q n (ks.map (ev u D q))=u*UQ ((ks.map (ev u D q)).getD 0 0) (nT n):=by unfold evN; rw[h]; rfl
  rw[e];generalize UQ ((ks.map (ev u D q)).getD 0 0) (nT n)=z;rw[hup];exact ⟨10000^(deep (.nd n ks)).toNat*z,by rw[Int.mul_right_comm]⟩
 ·have e:evN u D q n (ks.map (ev u D q))=u*vol ((ks.map (ev u D q)).getD 0 0) (nT n):=by unfold evN; rw[h]; rfl
  rw[e];generalize vol ((ks.map (ev u D q)).getD 0 0) (nT n)=z;rw[hup];exact ⟨10000^(deep (.nd n ks)).toNat*z,by rw[Int.mul_right_comm]⟩
 ·have hl1:ks.length=1:=by rw[hl,z8 h]; rfl
  obtain ⟨a,rfl⟩:=List.length_eq_one_iff.1 hl1;have e:evN u D q n ([a].map (ev u D q))=tw 2 (ev u D q a*(10000-nN n)) 10000:=by unfold evN; rw[h]; rfl
  have hx0:tyN n ([a].map ty)=(bif ty a==1 then (1:Int) else -1):=by unfold tyN; rw[h]; rfl
  have ho:(bif ty a==1 then (1:Int) else -1)=1:=by rw[<-hx0]; exact htn
  have h1:ty a=1:=by
   cases hta:(ty a==1) with
   | true=>simpa using hta
   | false=>rw[hta] at ho; exact absurd (show (-1:Int)=1 from ho) (by decide)
  rw[h] at hdn;have hdn:deep (.nd n [a])=deep a+1:=by rw[hdn]; rfl
  obtain ⟨c,hc⟩:=(hk a (by simp)).mul h1 (e:=deep (.nd n [a])-1) (by omega) (by omega);have hpp:(10000:Int)^(S-(deep (.nd n [a])-1)).toNat=P*10000:=by
   rw[<-hP,show (S-(deep (.nd n [a])-1)).toNat=(S-deep (.nd n [a])).toNat+1 by omega,Int.pow_succ]
  rw[hpp] at hc;have hx:ev u D q a*(10000-nN n)=(c*P*(10000-nN n))*10000:=by rw[hc,<-Int.mul_assoc,Int.mul_right_comm]
  rw[e,hx,Zx (by decide)];exact ⟨c*(10000-nN n),by rw[Int.mul_right_comm]⟩
 ·have hl1:ks.length=3:=by rw[hl,z8 h]; rfl
  obtain ⟨a,b,c,rfl⟩:=len3 hl1;have e:evN u D q n ([a,b,c].map (ev u D q))=bif qY (nO n) (ev u D q a) (nN n) then ev u D q b else ev u D q c:=by unfold evN; rw[h]; rfl
  have hx0:tyN n ([a,b,c].map ty)=(bif w9 (ty a) then uY [ty b,ty c] else -1):=by unfold tyN; rw[h]; rfl
  have ho:(bif w9 (ty a) then uY [ty b,ty c] else -1)=1:=by rw[<-hx0]; exact htn
  have ho1:uY [ty b,ty c]=1:=by
   cases hc:w9 (ty a) with
   | false=>rw[hc] at ho; exact absurd (show (-1:Int)=1 from ho) (by decide)
   | true=>rw[hc] at ho; exact ho
  rw[e];cases qY (nO n) (ev u D q a) (nN n) with
  | true=>exact K1 b (by simp) (uQ ho1 (ty b) (by simp))
  | false=>exact K1 c (by simp) (uQ ho1 (ty c) (by simp))
end Go.VS
