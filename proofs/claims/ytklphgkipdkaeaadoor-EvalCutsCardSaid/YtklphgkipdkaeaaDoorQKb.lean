/- Plain laws, joined from smaller texts. -/
import Derived.Test.YtklphgkipdkaeaaDoorQKa
set_option linter.unusedVariables false
set_option linter.unusedSimpArgs false
set_option linter.unusedSectionVars false
set_option maxRecDepth 100000
namespace Go.VS
open Go
def okQ (D:List yK.T) (q:List Int):Prop:=q.length=D.length/\∀x∈q,0<=x/\x<=1099511627776
theorem okQ.at {D:List yK.T} {q:List Int} (h:okQ D q) {i:Nat} (hi:i<D.length):0<=q.getD i 0/\q.getD i 0<=1099511627776:=qV h.2 (by rw[h.1]; exact hi)
theorem RN (F:Nat) {u:Int} (hu:1<=u) (hu2:u<=1000000000000000000000000) {p:ya.T} (hD:dE [] p.2.1=0) (hd4:p.2.1.length<=4) {n:zm.T} {pile:Nat} (hn:wW p.2.1.length n pile=0) {q:List Int} (hq:okQ p.2.1 q) (ha:ar n=0) :
  yP.sh F p n (mk u) q=some ((mk (evN u p.2.1 q n []),()),())/\0<=evN u p.2.1 q n []/\evN u p.2.1 q n []<=xD u p.2.1 n []:=by
 obtain ⟨g1,g2,g3,g4,g5,g6,g7,g8⟩:=wv hn;have hN2:=Vf hd4 g3 g1;have iu:inR u=true:=by rw[zK]; omega
 have iN:inR (nN n)=true:=by rw[zK]; omega
 have hc9:nK n=9\/nK n=10->False:=by
  intro h;rcases h with h | h<;>rw[ZU h] at g4<;>rw[yG h] at ha
  ·have g4:(decide (nC n>=2)&&decide (nC n<=16))=true:=g4
   have ha:(nC n).toNat=0:=ha;simp at g4; omega
  ·have g4:(decide (nC n>=2)&&decide (nC n<=16))=true:=g4
   have ha:(nC n).toNat=0:=ha;simp at g4; omega
 rcases tM g1 with h | h | h | h | h | h | h | h | h | h | h | h | h | h | h | h
 ·have e:evN u p.2.1 q n []=nN n:=by unfold evN; rw[h]; rfl
  have m:xD u p.2.1 n []=nN n:=by unfold xD; rw[h]; rfl
  have h':n.1=1:=h;rw[e,m];refine ⟨?_,g2,Int.le_refl _⟩;unfold yP.sh;rw[h',wk F (v:=nN n) (by omega) (by omega)];rfl
 ·have e:evN u p.2.1 q n []=nN n*u:=by unfold evN; rw[h]; rfl
  have m:xD u p.2.1 n []=nN n*u:=by unfold xD; rw[h]; rfl
  have h':n.1=2:=h;have hb:=uY g2 hN2 (show 0<=u by omega) hu2;rw[e,m];refine ⟨?_,hb.1,Int.le_refl _⟩;unfold yP.sh;rw[h',wk F (v:=nN n) (by omega) (by omega)];simp only[Int.reduceBEq,cond_false,cond_true];rw[zl,uQ F iN iu (by rw[zK]; omega),zl]
 ·have e:evN u p.2.1 q n []=q.getD (nN n).toNat 0:=by unfold evN; rw[h]; rfl
  have m:xD u p.2.1 n []=1099511627776:=by unfold xD; rw[h]; rfl
  have h':n.1=3:=h;rw[tL h] at g3;have g3:nN n<=(p.2.1.length:Int)-1:=g3;have hb:=hq.at (i:=(nN n).toNat) (by omega);rw[e,m];refine ⟨?_,hb.1,hb.2⟩;unfold yP.sh;rw[h',show idx n.2.1 q.length=true from Zq g2 (by rw[hq.1]; show nN n<_; omega),show get (.int .i64) q n.2.1.toNat=q.getD (nN n).toNat 0 from rfl,wk F (v:=q.getD (nN n).toNat 0) (by omega) (by omega)];rfl
 ·have e:evN u p.2.1 q n []=wm (q.getD (nN n).toNat 0) (dS (p.2.1.getD (nN n).toNat (ByteArray.empty,0))):=by unfold evN; rw[h]; rfl
  have m:xD u p.2.1 n []=wm 1099511627776 (dS (p.2.1.getD (nN n).toNat (ByteArray.empty,0))):=by unfold xD; rw[h]; rfl
  have h':n.1=4:=h;rw[tL h] at g3;have g3:nN n<=(p.2.1.length:Int)-1:=g3;have hb:=hq.at (i:=(nN n).toNat) (by omega);have hs:1<=dS (p.2.1.getD (nN n).toNat (ByteArray.empty,0))/\dS (p.2.1.getD (nN n).toNat (ByteArray.empty,0))<=1000000000000:=by
   have hlt:(nN n).toNat<p.2.1.length:=by omega
   rw[List.getD_eq_getElem?_getD,List.getElem?_eq_getElem hlt];exact XT _ _ hD _ (List.getElem_mem _)
  have hcb:=Uy hb.1 hb.2 hs.1;rw[e,m];refine ⟨?_,hcb.1,hcb.2⟩;unfold yP.sh;rw[h',show idx n.2.1 q.length=true from Zq g2 (by rw[hq.1]; show nN n<_; omega),show idx n.2.1 p.2.1.length=true from Zq g2 (by show nN n<_; omega),show get (.int .i64) q n.2.1.toNat=q.getD (nN n).toNat 0 from rfl,
   show (get yK p.2.1 n.2.1.toNat).2=dS (p.2.1.getD (nN n).toNat (ByteArray.empty,0)) from rfl]
  generalize dS (p.2.1.getD (nN n).toNat (ByteArray.empty,0))=s at*;generalize q.getD (nN n).toNat 0=x at*;simp only[Int.reduceBEq,cond_false,cond_true];rw[show (s != 0)=true from bne_iff_ne.2 (by omega),Int.tdiv_eq_ediv_of_nonneg hb.1,Int.tmod_eq_emod_of_nonneg hb.1];have hx1:0<=x/s:=Int.ediv_nonneg hb.1 (by omega);have hx2:x/s<=x:=Int.ediv_le_self _ hb.1;have hm0:=Int.emod_nonneg x (show s≠0 by omega);have hmin:(if 1<x%s then 1 else x%s)=if x%s=0 then 0 else 1:=by split<;>split<;>omega
  rw[hmin,yz (n:=x/s) (by omega) (by omega)];simp only[cond_true];rw[show x/s+(if x%s=0 then 0 else 1)=wm x s from rfl];have hcc:wm x s<=1099511627777:=Int.le_trans hcb.2 (Z5 hs.1).2;rw[yz (n:=wm x s) (by omega) (by omega),wk F (v:=wm x s) (by omega) (by omega),zl]
 ·rw[yG h] at ha; exact absurd (show (1:Nat)=0 from ha) (by decide)
 ·rw[yG h] at ha; exact absurd (show (2:Nat)=0 from ha) (by decide)
 ·rw[yG h] at ha; exact absurd (show (2:Nat)=0 from ha) (by decide)
 ·rw[yG h] at ha; exact absurd (show (2:Nat)=0 from ha) (by decide)
 ·exact absurd (.inl h) hc9
 ·exact absurd (.inr h) hc9
 ·rw[yG h] at ha; exact absurd (show (1:Nat)=0 from ha) (by decide)
 ·rw[yG h] at ha; exact absurd (show (1:Nat)=0 from ha) (by decide)
 ·rw[yG h] at ha; exact absurd (show (1:Nat)=0 from ha) (by decide)
 ·rw[yG h] at ha; exact absurd (show (1:Nat)=0 from ha) (by decide)
 ·rw[yG h] at ha; exact absurd (show (1:Nat)=0 from ha) (by decide)
 ·rw[yG h] at ha; exact absurd (show (3:Nat)=0 from ha) (by decide)
theorem divM2 (a b:Int):SK 2 a b=tq a b:=by
 unfold SK awB;cases decide (tr a b=0)<;>rfl
theorem off_bd {v N:Int} (h0:0<=N) (h1:N<=10000) (M:Int) (hl:-M<=v) (hh:v<=M):(-(M*10000)<=v*(10000-N)/\v*(10000-N)<=M*10000)/\-M<=tq (v*(10000-N)) 10000/\tq (v*(10000-N)) 10000<=M:=by
 have hb:=w9 hl hh (show -10000<=10000-N by omega) (show 10000-N<=10000 by omega);have h2:(aQ (v*(10000-N)) 10000)<=M:=by
  unfold aQ;rw[show (((10000:Int).natAbs:Nat):Int)=10000 from rfl];generalize v*(10000-N)=z at*;omega
 have h3:=(aQR (a:=v*(10000-N)) (b:=10000) (by decide)).1;refine ⟨hb,?_⟩;unfold tq;cases dsg (v*(10000-N)) 10000<;>simp only[cond_true,cond_false]<;>omega
theorem len2 {α:Type} {l:List α} (h:l.length=2):∃a b,l=[a,b]:=by
 match l,h with
 | [a,b],_=>exact ⟨a,b,rfl⟩
theorem len3 {α:Type} {l:List α} (h:l.length=3):∃a b c,l=[a,b,c]:=by
 match l,h with
 | [a,b,c],_=>exact ⟨a,b,c,rfl⟩
theorem SG (F:Nat) (hF:128<F) {u:Int} (hu:1<=u) (hu2:u<=1000000000000000000000000) {D:List yK.T} (hd4:D.length<=4) {n:zm.T} {pile:Nat} (hn:wW D.length n pile=0) {q:List Int} {ks:List Tree} {V M:Tree->Int} (hk:Kids ks V M) (hl:ks.length=ar n) (ha:1<=ar n)
  (hfar:wY n (xD u D n (ks.map M))<=BND) :
  yl.sh F n (mk u) (ks.map fun k=>mk (V k))=some ((mk (evN u D q n (ks.map V)),()),())/\-xD u D n (ks.map M)<=evN u D q n (ks.map V)/\evN u D q n (ks.map V)<=xD u D n (ks.map M):=by
 obtain ⟨g1,g2,g3,g4,g5,g6,g7,g8⟩:=wv hn;have hBND:BND=1329227995784915872903807060280344576:=rfl;have ha16:=Sc g1 g4;have hN2:=Vf hd4 g3 g1;have iu:inR u=true:=by rw[zK]; omega
 have iN:inR (nN n)=true:=by rw[zK]; omega
 have hof:=wk F (v:=nN n) (by omega) (by omega);have i0:idx 0 (ks.map fun k=>mk (V k)).length=true:=YV (by simp; omega);have hmm:(ks.map fun k=>mk (V k))=(ks.map V).map mk:=by rw[List.map_map]; rfl
 have B:∀k∈ks,-M k<=V k/\V k<=M k/\M k<=BND/\inR (V k)=true:=fun k h=>⟨hk.lo k h,hk.hi k h,hk.bd k h,hk.inr _ (List.mem_map_of_mem h)⟩
 rcases tM g1 with h | h | h | h | h | h | h | h | h | h | h | h | h | h | h | h
 ·rw[yG h] at ha; exact absurd (show (1:Nat)<=0 from ha) (by decide)
 ·rw[yG h] at ha; exact absurd (show (1:Nat)<=0 from ha) (by decide)
 ·rw[yG h] at ha; exact absurd (show (1:Nat)<=0 from ha) (by decide)
 ·rw[yG h] at ha; exact absurd (show (1:Nat)<=0 from ha) (by decide)
 ·
  have hl1:ks.length=1:=by rw[hl,yG h]; rfl
  obtain ⟨a,rfl⟩:=List.length_eq_one_iff.1 hl1;have e:evN u D q n ([a].map V)=0-V a:=by unfold evN; rw[h]; rfl
  have m:xD u D n ([a].map M)=M a:=by unfold xD; rw[h]; simp[vn]
  have Ba:=B a (by simp);have h':n.1=5:=h;rw[e,m];refine ⟨?_,by omega,by omega⟩;unfold yl.sh;rw[i0,h',show zC.sh F n.2.1=some ((mk (nN n),()),()) from hof];simp only[Int.reduceBEq,cond_false,cond_true];rw[zl,show get za ([a].map fun k=>mk (V k)) 0=mk (V a) from rfl,show ((0,0):Int×Int)=mk 0 from rfl,Y6 F (by rw[zK]; omega) Ba.2.2.2 (by rw[zK]; omega),zl]
 ·
  have hl1:ks.length=2:=by rw[hl,yG h]; rfl
  obtain ⟨a,b,rfl⟩:=len2 hl1;have e:evN u D q n ([a,b].map V)=V a+V b:=by unfold evN; rw[h]; rfl
  have m:xD u D n ([a,b].map M)=M a+M b:=by unfold xD; rw[h]; simp[vn]
  have hf:wY n (xD u D n ([a,b].map M))=M a+M b:=by unfold wY; rw[h,m]; rfl
  rw[hf] at hfar;have Ba:=B a (by simp);have Bb:=B b (by simp);have h':n.1=6:=h;rw[e,m];refine ⟨?_,by omega,by omega⟩;unfold yl.sh;rw[i0,h',show zC.sh F n.2.1=some ((mk (nN n),()),()) from hof,show idx 1 ([a,b].map fun k=>mk (V k)).length=true from rfl];simp only[Int.reduceBEq,cond_false,cond_true];rw[zl,show get za ([a,b].map fun k=>mk (V k)) 0=mk (V a) from rfl,show get za ([a,b].map fun k=>mk (V k)) 1=mk (V b) from rfl,Vx F Ba.2.2.2 Bb.2.2.2 (by rw[zK]; omega),zl]
 ·
  have hl1:ks.length=2:=by rw[hl,yG h]; rfl
  obtain ⟨a,b,rfl⟩:=len2 hl1;have e:evN u D q n ([a,b].map V)=V a-V b:=by unfold evN; rw[h]; rfl
  have m:xD u D n ([a,b].map M)=M a+M b:=by unfold xD; rw[h]; simp[vn]
  have hf:wY n (xD u D n ([a,b].map M))=M a+M b:=by unfold wY; rw[h,m]; rfl
  rw[hf] at hfar;have Ba:=B a (by simp);have Bb:=B b (by simp);have h':n.1=7:=h;rw[e,m];refine ⟨?_,by omega,by omega⟩;unfold yl.sh;rw[i0,h',show zC.sh F n.2.1=some ((mk (nN n),()),()) from hof,show idx 1 ([a,b].map fun k=>mk (V k)).length=true from rfl];simp only[Int.reduceBEq,cond_false,cond_true];rw[zl,show get za ([a,b].map fun k=>mk (V k)) 0=mk (V a) from rfl,show get za ([a,b].map fun k=>mk (V k)) 1=mk (V b) from rfl,Y6 F Ba.2.2.2 Bb.2.2.2 (by rw[zK]; omega),zl]
 ·
  have hl1:ks.length=2:=by rw[hl,yG h]; rfl
  obtain ⟨a,b,rfl⟩:=len2 hl1;have e:evN u D q n ([a,b].map V)=V a*V b:=by unfold evN; rw[h]; rfl
  have m:xD u D n ([a,b].map M)=M a*M b:=by unfold xD; rw[h]; rfl
  have hf:wY n (xD u D n ([a,b].map M))=M a*M b:=by unfold wY; rw[h,m]; rfl
  rw[hf] at hfar;have Ba:=B a (by simp);have Bb:=B b (by simp);have hb:=w9 Ba.1 Ba.2.1 Bb.1 Bb.2.1;have h':n.1=8:=h;rw[e,m];refine ⟨?_,hb.1,hb.2⟩;unfold yl.sh;rw[i0,h',show zC.sh F n.2.1=some ((mk (nN n),()),()) from hof,show idx 1 ([a,b].map fun k=>mk (V k)).length=true from rfl];simp only[Int.reduceBEq,cond_false,cond_true];rw[zl,show get za ([a,b].map fun k=>mk (V k)) 0=mk (V a) from rfl,show get za ([a,b].map fun k=>mk (V k)) 1=mk (V b) from rfl,uQ F Ba.2.2.2 Bb.2.2.2 (by rw[zK]; omega),zl]
 ·
  have e:evN u D q n (ks.map V)=X8 (ks.map V):=by unfold evN; rw[h]; rfl
  have m:xD u D n (ks.map M)=vn (ks.map M):=by unfold xD; rw[h]; rfl
  have h':n.1=9:=h;obtain ⟨k,hkm,hkv⟩:=List.mem_map.1 (Ua (l:=ks.map V) (by simp; omega));have Bk:=B k hkm;have hs:=hk.sum k hkm;rw[e,m];refine ⟨?_,by omega,by omega⟩;unfold yl.sh;rw[i0,h',show zC.sh F n.2.1=some ((mk (nN n),()),()) from hof,hmm];simp only[Int.reduceBEq,cond_false,cond_true];rw[zl,TG F hk.inr (by simp; omega) (by simp; omega) (by simp; omega),zl]
 ·
  have e:evN u D q n (ks.map V)=uK (ks.map V):=by unfold evN; rw[h]; rfl
  have m:xD u D n (ks.map M)=vn (ks.map M):=by unfold xD; rw[h]; rfl
  have h':n.1=10:=h;obtain ⟨k,hkm,hkv⟩:=List.mem_map.1 (Uf (l:=ks.map V) (by simp; omega));have Bk:=B k hkm;have hs:=hk.sum k hkm;rw[e,m];refine ⟨?_,by omega,by omega⟩;unfold yl.sh;rw[i0,h',show zC.sh F n.2.1=some ((mk (nN n),()),()) from hof,hmm];simp only[Int.reduceBEq,cond_false,cond_true];rw[zl,TH F hk.inr (by simp; omega) (by simp; omega) (by simp; omega),zl]
 ·
  have hl1:ks.length=1:=by rw[hl,yG h]; rfl
  obtain ⟨a,rfl⟩:=List.length_eq_one_iff.1 hl1;have e:evN u D q n ([a].map V)=uK [0,V a-nN n]:=by unfold evN; rw[h]; rfl
  have m:xD u D n ([a].map M)=M a+nN n:=by unfold xD; rw[h]; simp[vn]
  have Ba:=B a (by simp);have h':n.1=11:=h;have i1:inR (V a-nN n)=true:=by rw[zK]; omega
  have hmx:uK [0,V a-nN n]=0\/uK [0,V a-nN n]=V a-nN n:=by have:=Uf (l:=[0,V a-nN n]) (by simp); simpa using this
  rw[e,m];refine ⟨?_,by omega,by omega⟩;unfold yl.sh;rw[i0,h',show zC.sh F n.2.1=some ((mk (nN n),()),()) from hof];simp only[Int.reduceBEq,cond_false,cond_true];rw[zl,show get za ([a].map fun k=>mk (V k)) 0=mk (V a) from rfl,Y6 F Ba.2.2.2 iN i1,zl];have:=TH F (l:=[0,V a-nN n]) (by intro v hv; simp at hv; rcases hv with rfl | rfl; rw[zK]; omega; exact i1) (by simp) (by simp; omega) (by simp)
  rw[show (([0,V a-nN n]:List Int).map mk)=[(0,0),mk (V a-nN n)] from rfl] at this;rw[this,zl]
 ·
  have hl1:ks.length=1:=by rw[hl,yG h]; rfl
  obtain ⟨a,rfl⟩:=List.length_eq_one_iff.1 hl1;have e:evN u D q n ([a].map V)=X8 [nN n,V a]:=by unfold evN; rw[h]; rfl
  have m:xD u D n ([a].map M)=M a+nN n:=by unfold xD; rw[h]; simp[vn]
  have Ba:=B a (by simp);have h':n.1=12:=h;have hmx:X8 [nN n,V a]=nN n\/X8 [nN n,V a]=V a:=by have:=Ua (l:=[nN n,V a]) (by simp); simpa using this
  rw[e,m];refine ⟨?_,by omega,by omega⟩;unfold yl.sh;rw[i0,h',show zC.sh F n.2.1=some ((mk (nN n),()),()) from hof];simp only[Int.reduceBEq,cond_false,cond_true];rw[zl,show get za ([a].map fun k=>mk (V k)) 0=mk (V a) from rfl];have:=TG F (l:=[nN n,V a]) (by intro v hv; simp at hv; rcases hv with rfl | rfl; exact iN; exact Ba.2.2.2) (by simp) (by simp; omega) (by simp)
  rw[show (([nN n,V a]:List Int).map mk)=[mk (nN n),mk (V a)] from rfl] at this;rw[this,zl]
 ·
  have hl1:ks.length=1:=by rw[hl,yG h]; rfl
  obtain ⟨a,rfl⟩:=List.length_eq_one_iff.1 hl1;have hr:=g8 (by unfold vJ qD; rw[h]; rfl);have e:evN u D q n ([a].map V)=u*Un (V a) (nT n):=by unfold evN; rw[h]; rfl
  have m:xD u D n ([a].map M)=u*(wd 0 (nT n)*(M a+xX (nT n))+wC (nT n)):=by unfold xD; rw[h]; rfl
  have hf:wY n (xD u D n ([a].map M))=u*(wd 0 (nT n)*(M a+xX (nT n))+wC (nT n)):=by unfold wY; rw[h,m]; rfl
  rw[hf] at hfar;have Ba:=B a (by simp);have hgb:=TV hr Ba.2.1 (by omega);have hub:=w9 (show -u<=u by omega) (Int.le_refl u) hgb.1 hgb.2;have hle:=UT hu (show 0<=wd 0 (nT n)*(M a+xX (nT n))+wC (nT n) by omega);have h':n.1=13:=h;rw[e,m];refine ⟨?_,hub.1,hub.2⟩;unfold yl.sh;rw[i0,h',show zC.sh F n.2.1=some ((mk (nN n),()),()) from hof];simp only[Int.reduceBEq,cond_false,cond_true];rw[zl,show get za ([a].map fun k=>mk (V k)) 0=mk (V a) from rfl,Vl F (by omega) hr Ba.2.2.2 Ba.2.1 (by omega) (by omega),zl,uQ F iu (by rw[zK]; omega) (by rw[zK]; omega),zl]
 ·
  have hl1:ks.length=1:=by rw[hl,yG h]; rfl
  obtain ⟨a,rfl⟩:=List.length_eq_one_iff.1 hl1;have hr:=g8 (by unfold vJ qD; rw[h]; rfl);have e:evN u D q n ([a].map V)=u*vol (V a) (nT n):=by unfold evN; rw[h]; rfl
  have m:xD u D n ([a].map M)=u*(wd 0 (nT n)*(M a+xX (nT n))+wC (nT n)):=by unfold xD; rw[h]; rfl
  have hf:wY n (xD u D n ([a].map M))=u*(wd 0 (nT n)*(M a+xX (nT n))+wC (nT n)):=by unfold wY; rw[h,m]; rfl
  rw[hf] at hfar;have Ba:=B a (by simp);have hgb:=vol_bd hr Ba.2.1 (by omega);have hub:=w9 (show -u<=u by omega) (Int.le_refl u) hgb.1 hgb.2;have hle:=UT hu (show 0<=wd 0 (nT n)*(M a+xX (nT n))+wC (nT n) by omega);have h':n.1=14:=h;rw[e,m];refine ⟨?_,hub.1,hub.2⟩;unfold yl.sh;rw[i0,h',show zC.sh F n.2.1=some ((mk (nN n),()),()) from hof];simp only[Int.reduceBEq,cond_false,cond_true];rw[zl,show get za ([a].map fun k=>mk (V k)) 0=mk (V a) from rfl,Se F (by omega) hr Ba.2.2.2 Ba.2.1 (by omega) (by omega),zl,uQ F iu (by rw[zK]; omega) (by rw[zK]; omega),zl]
 ·
  have hl1:ks.length=1:=by rw[hl,yG h]; rfl
  obtain ⟨a,rfl⟩:=List.length_eq_one_iff.1 hl1;have e:evN u D q n ([a].map V)=SK 2 (V a*(10000-nN n)) 10000:=by unfold evN; rw[h]; rfl
  have m:xD u D n ([a].map M)=M a:=by unfold xD; rw[h]; rfl
  have hf:wY n (xD u D n ([a].map M))=M a*10000:=by unfold wY; rw[h,m]; rfl
  rw[hf] at hfar;rw[tL h] at g3;have g3:nN n<=10000:=g3;have Ba:=B a (by simp);have ho:=off_bd g2 g3 (M a) Ba.1 Ba.2.1;have h':n.1=15:=h;rw[e,m,divM2];refine ⟨?_,ho.2.1,ho.2.2⟩;unfold yl.sh;rw[i0,h',show zC.sh F n.2.1=some ((mk (nN n),()),()) from hof];simp only[Int.reduceBEq,cond_false,cond_true];rw[zl,show get za ([a].map fun k=>mk (V k)) 0=mk (V a) from rfl,yz (n:=10000-n.2.1) (show -9223372036854775808<=10000-nN n by omega) (show 10000-nN n<9223372036854775808 by omega),show (10000-n.2.1:Int)=10000-nN n from rfl,
   wk F (v:=10000-nN n) (by omega) (by omega),zl,uQ F Ba.2.2.2 (tP (by omega) (by omega)) (by rw[zK]; omega),zl,wk F (v:=10000) (by omega) (by omega),zl]
  rw[div_eq F (by omega) (by rw[zK]; omega) (by rw[zK]; omega) (by decide) (by rw[zK]; omega) (by omega) (by omega),zl,divM2]
 ·
  have hl1:ks.length=3:=by rw[hl,yG h]; rfl
  obtain ⟨a,b,c,rfl⟩:=len3 hl1;have e:evN u D q n ([a,b,c].map V)=bif XD (nO n) (V a) (nN n) then V b else V c:=by unfold evN; rw[h]; rfl
  have m:xD u D n ([a,b,c].map M)=M a+(M b+M c)+nN n:=by unfold xD; rw[h]; simp[vn]
  have Ba:=B a (by simp);have Bb:=B b (by simp);have Bc:=B c (by simp);have h':n.1=16:=h;rw[e,m];refine ⟨?_,by cases XD (nO n) (V a) (nN n)<;>simp only[cond_true,cond_false]<;>omega,by cases XD (nO n) (V a) (nN n)<;>simp only[cond_true,cond_false]<;>omega⟩;unfold yl.sh;rw[i0,h',show zC.sh F n.2.1=some ((mk (nN n),()),()) from hof,show idx 1 ([a,b,c].map fun k=>mk (V k)).length=true from rfl,show idx 2 ([a,b,c].map fun k=>mk (V k)).length=true from rfl];simp only[Int.reduceBEq,cond_false,cond_true];rw[zl,show get za ([a,b,c].map fun k=>mk (V k)) 0=mk (V a) from rfl,RA F Ba.2.2.2 iN,zl];cases XD (nO n) (V a) (nN n)<;>rfl
theorem RO (F:Nat) {n:zm.T} (hg:uP n=true) (hk:vD n=true):zV.sh F n=some (((ar n:Int),()),()):=by
 have h9:∀k:Int,(nK n=k)->(k=9\/k=10)->(ar n:Int)=nC n:=by
  intro k h hkk;rw[ZU h] at hk;have hk:(decide (nC n>=2)&&decide (nC n<=16))=true:=by rcases hkk with rfl | rfl<;>exact hk
  simp at hk;have:ar n=(nC n).toNat:=by rw[yG h]; rcases hkk with rfl | rfl<;>rfl
  omega
 unfold zV.sh zV.j6 zV.j10;rcases tM hg with h | h | h | h | h | h | h | h | h | h | h | h | h | h | h | h<;>rw[show n.1=_ from h]
 ·rw[yG h]; rfl
 ·rw[yG h]; rfl
 ·rw[yG h]; rfl
 ·rw[yG h]; rfl
 ·rw[yG h]; rfl
 ·rw[yG h]; rfl
 ·rw[yG h]; rfl
 ·rw[yG h]; rfl
 ·rw[h9 9 h (.inl rfl)]; rfl
 ·rw[h9 10 h (.inr rfl)]; rfl
 ·rw[yG h]; rfl
 ·rw[yG h]; rfl
 ·rw[yG h]; rfl
 ·rw[yG h]; rfl
 ·rw[yG h]; rfl
 ·rw[yG h]; rfl
structure Inv (u:Int) (D:List yK.T) (q:List Int) (t:Tree):Prop where
 lo:-mag u D t<=ev u D q t
 hi:ev u D q t<=mag u D t
 bd:mag u D t<=BND
theorem Ul {u:Int} {D:List yK.T} {q:List Int} {l:List Tree} (h:∀t∈l,Inv u D q t):Kids l (ev u D q) (mag u D):=⟨fun k hk=>(h k hk).lo,fun k hk=>(h k hk).hi,fun k hk=>(h k hk).bd⟩
theorem TZ {n:zm.T} {v:Int} (h0:0<=v) (h:wY n v<=BND):v<=BND:=by
 unfold wY at h;cases h15:(nK n==15) with
 | true=>rw[h15] at h; simp only[cond_true] at h; omega
 | false=>rw[h15] at h; exact h
theorem S2 (F:Nat) (hF:128<F) {u:Int} (hu:1<=u) (hu2:u<=1000000000000000000000000) {p:ya.T} (hD:dE [] p.2.1=0) (hd4:p.2.1.length<=4) {q:List Int} (hq:okQ p.2.1 q) {st:List Tree} {n:zm.T}
  (hn:wW p.2.1.length n st.length=0) (hI:∀t∈st,Inv u p.2.1 q t) (hE:Zo u p.2.1 (xF st n)=0) :
  Inv u p.2.1 q (xF st n)/\(ar n=0->yP.sh F p n (mk u) q=some ((mk (ev u p.2.1 q (xF st n)),()),())) /\
  (1<=ar n->yl.sh F n (mk u) ((st.drop (st.length-ar n)).map fun t=>mk (ev u p.2.1 q t))=some ((mk (ev u p.2.1 q (xF st n)),()),())):=by
 obtain ⟨g1,g2,g3,g4,g5,g6,g7,g8⟩:=wv hn;have hfar:wY n (mag u p.2.1 (xF st n))<=BND:=by
  unfold Zo at hE;rw[show (xF st n).root=n from rfl] at hE;cases hx:decide (wY n (mag u p.2.1 (xF st n))>BND) with
  | true=>rw[hx] at hE; exact absurd (show (90:Int)=0 from hE) (by decide)
  | false=>have:=of_decide_eq_false hx; omega
 have hm:mag u p.2.1 (xF st n)=xD u p.2.1 n ((st.drop (st.length-ar n)).map (mag u p.2.1)):=by unfold xF; rw[u7]
 have hv:ev u p.2.1 q (xF st n)=evN u p.2.1 q n ((st.drop (st.length-ar n)).map (ev u p.2.1 q)):=by unfold xF; rw[Zh]
 by_cases ha:ar n=0
 ·rw[ha,Nat.sub_zero,List.drop_of_length_le (Nat.le_refl _)] at hm hv
  simp only[List.map_nil] at hm hv;obtain ⟨h1,h2,h3⟩:=RN F hu hu2 hD hd4 hn hq ha;rw[<-hv] at h1 h2 h3;rw[<-hm] at h3;exact ⟨⟨by omega,h3,TZ (by omega) hfar⟩,fun _=>h1,fun h=>by omega⟩
 ·have hk:Kids (st.drop (st.length-ar n)) (ev u p.2.1 q) (mag u p.2.1):=Ul (fun t ht=>hI t (List.mem_of_mem_drop ht))
  rw[hm] at hfar;obtain ⟨h1,h2,h3⟩:=SG F hF hu hu2 hd4 hn (q:=q) hk (by simp; omega) (by omega) hfar;rw[<-hv] at h1 h2 h3;rw[<-hm] at h2 h3 hfar;exact ⟨⟨h2,h3,TZ (by omega) hfar⟩,fun h=>by omega,fun _=>h1⟩
theorem Sf (F:Nat) (hF:128<F) {R:Type} {u:Int} (hu:1<=u) (hu2:u<=1000000000000000000000000) {p:ya.T} (hD:dE [] p.2.1=0) (hd4:p.2.1.length<=4) {q:List Int} (hq:okQ p.2.1 q) (kO:List za.T->Option R) (L:List zm.T) (N:Int):∀(xs:List zm.T) (st:List Tree) (i:Int) (values:List za.T),
  okS p.2.1.length st xs->(yx st).length+xs.length<=2048->values.length<=(yx st).length->(∀t∈st,Inv u p.2.1 q t)->xy (Zo u p.2.1) (xU st xs) 0=none->
  zg.l14.rg F (fun _ _ _ _ _ _ _ values _=>kO values) L N xs i q p (mk u) values (st.map fun t=>mk (ev u p.2.1 q t))=kO (values++(xU st xs).map fun t=>mk (ev u p.2.1 q t)):=by
 intro xs;induction xs with
 | nil=>intro st i values h h2 h3 h4 hf; simp[zg.l14.rg,xU]
 | cons n xs ih =>
  intro st i values h h2 h3 h4 hf;obtain ⟨g1,g2,g3,g4,g5,g6,g7,g8⟩:=wv h.1;have hst:=um st;have hfs:=congrArg List.length (wN st n);simp only[List.length_cons,List.length_append,List.length_nil] at h2 hfs;simp only[xU] at hf ⊢;have hE:=XK hf (xF st n) (by simp);obtain ⟨s1,s2,s3⟩:=S2 F hF hu hu2 hD hd4 hq h.1 h4 hE;have hl:(st.map fun t=>mk (ev u p.2.1 q t)).length=st.length:=by simp
  have ew:=qk g7 (by omega);have hb1:=tv (show st.length-ar n<=st.length by omega);have hb2:=up (show st.length-ar n<=st.length by omega);have htk:(st.map fun t=>mk (ev u p.2.1 q t)).take st.length=st.map fun t=>mk (ev u p.2.1 q t):=List.take_of_length_le (by omega)
  have hbl1:∀y,Nat.ble (values.length+([y]:List za.T).length) y4=true:=fun y=>vr (by simp; omega)
  have hbl2:∀y,Nat.ble (st.length-ar n+([y]:List za.T).length) y4=true:=fun y=>vr (by simp; omega)
  have hstep:(xW st n).map (fun t=>mk (ev u p.2.1 q t))=(st.map fun t=>mk (ev u p.2.1 q t)).take (st.length-ar n)++[mk (ev u p.2.1 q (xF st n))]:=by
   unfold xW; simp[List.map_take]
  have IH:=ih (xW st n) (i+1) (values++[mk (ev u p.2.1 q (xF st n))]) h.2 (by omega) (by simp; omega) (by
   intro t ht;rcases List.mem_append.1 ht with ht | ht
   ·exact h4 t (List.mem_of_mem_take ht)
   ·rw[List.mem_singleton.1 ht]; exact s1) (by
   simp only[xy] at hf;rw[show (Zo u p.2.1 (xF st n) != 0)=false by simpa using hE] at hf;exact YN 0 hf)
  rw[hstep] at IH;simp only[List.append_assoc,List.singleton_append] at IH;have hdm:(st.map fun t=>mk (ev u p.2.1 q t)).drop (st.length-ar n)=(st.drop (st.length-ar n)).map fun t=>mk (ev u p.2.1 q t):=by rw[<-List.map_drop]
  simp only[zg.l14.rg];rw[RO F g1 g4,zl];simp only[hl,ew,hb1,hb2,htk,cond_true,hdm];by_cases ha:ar n=0
  ·rw[decide_eq_false (show ¬((st.length-ar n:Nat):Int)<(st.length:Int) by omega)]
   simp only[cond_false];rw[s2 ha,zl];simp only[hbl1,hbl2,cond_true];exact IH
  ·rw[decide_eq_true (show ((st.length-ar n:Nat):Int)<(st.length:Int) by omega)]
   simp only[cond_true];rw[s3 (by omega),zl];simp only[hbl1,hbl2,cond_true];exact IH
def qB (x:Int):Bool:=decide (x<0)||decide (x>1099511627776)
theorem Rb (F:Nat) {R:Type} (k0:List za.T->Int->Option R) (k1:List Int->ya.T->za.T->Option R) (L:List Int) (N:Int) (q:List Int) (p:ya.T) (u:za.T):∀(xs:List Int) (i:Int),
  zg.l7.rg F k0 (fun q _ _ _ _ p u=>k1 q p u) L N xs i q p u=bif xs.any qB then k0 [] 101 else k1 q p u
 | [],i=>rfl
 | x::r,i=>by
  rw[zg.l7.rg,Rb F k0 k1 L N q p u r,List.any_cons];unfold qB;cases decide (x<0) with
  | true=>rfl
  | false=>cases decide (x>1099511627776)<;>rfl
theorem okQ_of {D:List yK.T} {q:List Int} (h1:q.length=D.length) (h2:q.any qB=false):okQ D q:=by
 refine ⟨h1,fun x hx=>?_⟩;have:=(List.any_eq_false.1 h2) x hx;simp[qB] at this;omega
def ur (D:List yK.T) (t:Tree) (q:List Int):List za.T×Int :=
 bif (wR D t).2.2 != 0 then ([],(wR D t).2.2) else bif (q.length:Int) != (D.length:Int) then ([],100) else bif q.any qB then ([],101) else
 (t.subs.map fun s=>mk (ev (wQ t) D q s),0)
theorem unit_ok {p:ya.T} {t:Tree} (h:Good p t) (hu:(wR p.2.1 t).2.2=0):xM t<=6/\xy tyE t.subs 0=none/\ty t=1/\xy (Zo (wQ t) p.2.1) t.subs 0=none/\wR p.2.1 t=(mk (wQ t),0,0):=by
 obtain ⟨a1,a2,a3,a4⟩:=S0 hu;exact ⟨a2,(Wf a1).1,(Wf a1).2,(Rr a3).1,a4⟩
theorem Tm (F:Nat) (hF:4096<F) {p:ya.T} {t:Tree} (h:Good p t) (q:List Int) (hU:yD.sh F p=some (((wR p.2.1 t).1,(wR p.2.1 t).2.1,(wR p.2.1 t).2.2,()),())):zg.sh F p q=some (((ur p.2.1 t q).1,(ur p.2.1 t q).2,()),()):=by
 unfold zg.sh ur;rw[hU,zl];cases hu:((wR p.2.1 t).2.2 != 0) with
 | true=>simp only[cond_true,hu]
 | false =>
  have hu':(wR p.2.1 t).2.2=0:=by simpa using hu
  obtain ⟨u1,u2,u3,u4,u5⟩:=unit_ok h hu';simp only[cond_false,hu];cases hql:((q.length:Int) != (p.2.1.length:Int)) with
  | true=>rfl
  | false =>
   have hql:(q.length:Int)=(p.2.1.length:Int):=by simpa using hql
   have hh:=tT h.head;have hl:=h.len;simp only[cond_false];refine Eq.trans (zg.l7.rg_eq F _ _ q _ rfl (by omega) q 0 F _ _ _ (by simp) (by omega)) ?_;refine (Rb F (fun r42 r52=>(some ((r42,r52,()),()):Option zg.sg.R)) (fun q3 p3 unit3=>zg.l14 F (fun q7 t467 t477 t487 t497 p7 unit7 values7 pile7=>zg.j24 F (fun r48 r58=>some ((r48,r58,()),())) values7) F q3 p3.2.2.2 (p3.2.2.2.length:Int) 0 p3 unit3 ([]) ([])) q _ q p _ q _).trans ?_;cases hqa:q.any qB with
   | true=>rfl
   | false =>
    simp only[cond_false];have hub:=VN u1;refine Eq.trans (zg.l14.rg_eq F _ p.2.2.2 _ rfl (by omega) p.2.2.2 0 F _ _ _ _ _ (by simp) (by omega)) ?_;rw[u5];refine (Sf F (by omega) hub.1 hub.2 hh.2.2.1 hh.2.1 (okQ_of (by omega) hqa) (fun values=>(some ((values,0,()),()):Option zg.sg.R)) p.2.2.2 _ p.2.2.2 [] 0 [] h.ok (by simp[yx]; omega) (by simp) (by simp) (by rw[h.subs]; exact u4)).trans ?_;rw[h.subs];rfl
theorem SR {p:ya.T} {t:Tree} (h:Good p t) (q:List Int):zg.sh FU p q=some (((ur p.2.1 t q).1,(ur p.2.1 t q).2,()),()):=Tm FU X4 h q (Unit_eq h)
theorem Tn {p:ya.T} (h:(wj p).2≠0) (q:List Int):zg.sh FU p q=some (([],(wj p).2,()),()):=by
 unfold zg.sh;rw[Qf h,zl];rw[show ((wj p).2 != 0)=true by simpa using h];rfl
def Vr (D:List yK.T) (t:Tree) (q:List Int):za.T×Int :=
 bif (ur D t q).2 != 0 then ((0,0),(ur D t q).2) else (mk (ev (wQ t) D q t),0)
theorem vals_ok {D:List yK.T} {t:Tree} {q:List Int} (h:(ur D t q).2=0):(wR D t).2.2=0/\q.length=D.length/\q.any qB=false/\ur D t q=(t.subs.map fun s=>mk (ev (wQ t) D q s),0):=by
 unfold ur at*;cases h1:((wR D t).2.2 != 0) with
 | true =>
  rw[h1] at h;have h:(wR D t).2.2=0:=h;rw[h] at h1;exact absurd h1 (by decide)
 | false =>
  rw[h1] at h;cases h2:((q.length:Int) != (D.length:Int)) with
  | true=>rw[h2] at h; exact absurd (show (100:Int)=0 from h) (by decide)
  | false =>
   rw[h2] at h;cases h3:q.any qB with
   | true=>rw[h3] at h; exact absurd (show (101:Int)=0 from h) (by decide)
   | false =>
    have h2:(q.length:Int)=(D.length:Int):=by simpa using h2
    exact ⟨by simpa using h1,by omega,rfl,rfl⟩
theorem Qi {p:ya.T} {t:Tree} (h:Good p t) (q:List Int):ym.sh FU p q=some (((Vr p.2.1 t q).1,(Vr p.2.1 t q).2,()),()):=by
 unfold ym.sh Vr;rw[SR h,zl];cases hv:((ur p.2.1 t q).2 != 0) with
 | true=>simp only[cond_true,hv]
 | false =>
  have hv':(ur p.2.1 t q).2=0:=by simpa using hv
  obtain ⟨v1,v2,v3,v4⟩:=vals_ok hv';obtain ⟨s,hs⟩:=Si t;have hlen:(ur p.2.1 t q).1.length=s.length+1:=by rw[v4,hs]; simp
  have hn:s.length+1=p.2.2.2.length:=by rw[<-h.flat,<-Xg,hs]; simp
  have hl:=h.len;simp only[cond_false,hv,hlen];rw[yz (n:=((s.length+1:Nat):Int)-1) (by omega) (by omega),show ((s.length+1:Nat):Int)-1=((s.length:Nat):Int) by omega,xj (by omega),Int.toNat_natCast];simp only[cond_true];have hg:get za (ur p.2.1 t q).1 s.length=mk (ev (wQ t) p.2.1 q t):=by
   rw[v4,hs,List.map_append]; exact RH (by simp)
  rw[hg]
theorem WT {p:ya.T} (h:(wj p).2≠0) (q:List Int):ym.sh FU p q=some (((0,0),(wj p).2,()),()):=by
 unfold ym.sh;rw[Tn h,zl];rw[show ((wj p).2 != 0)=true by simpa using h];rfl
def Dv (S u:Int) (D:List yK.T) (q:List Int) (t:Tree):Prop:=ty t=1->∃c,ev u D q t=c*10000^(S-xM t).toNat
theorem Dv.mul {S u:Int} {D:List yK.T} {q:List Int} {t:Tree} (h:Dv S u D q t) (ht:ty t=1) {e:Int} (h1:xM t<=e) (h2:e<=S):∃c,ev u D q t=c*10000^(S-e).toNat:=by
 obtain ⟨c,hc⟩:=h ht;have h0:=(Y9 t).1;refine ⟨c*10000^(e-xM t).toNat,?_⟩;rw[hc,Int.mul_assoc,<-Int.pow_add,show (e-xM t).toNat+(S-e).toNat=(S-xM t).toNat by omega]
namespace Cuts
abbrev qN:zm.T:=(3,0,0,0,[],0)
abbrev bN:zm.T:=(4,0,0,0,[],0)
abbrev cN (k n:Int):zm.T:=(k,n,0,0,[],0)
abbrev sN:zm.T:=(6,0,0,0,[],0)
abbrev oN:zm.T:=(2,1,0,0,[],0)
abbrev mN:zm.T:=(8,0,0,0,[],0)
abbrev nmP:ByteArray:=⟨#[112]⟩
abbrev dmA (size:Int):List yK.T:=[((⟨#[97]⟩:ByteArray),size)]
abbrev planA (n:Int):ya.T:=(nmP,dmA 10,0,[qN,cN 11 n,qN,cN 12 n,sN,oN,mN])
abbrev planB (size:Int):ya.T:=(nmP,dmA size,0,[bN,oN,mN])
abbrev tQ:Tree:=.nd qN []
abbrev tO:Tree:=.nd oN []
abbrev tC (k n:Int):Tree:=.nd (cN k n) [tQ]
abbrev tS (n:Int):Tree:=.nd sN [tC 11 n,tC 12 n]
abbrev tA (n:Int):Tree:=.nd mN [tS n,tO]
abbrev tB:Tree:=.nd mN [.nd bN [],tO]
theorem head_A:vZ nmP (dmA 10) 0=0:=by kernel_rfl
theorem head_B (size:Int):vZ nmP (dmA size) 0=bif decide (size<1) then 50 else bif decide (size>1000000000000) then 50 else 0:=by
 unfold vZ;rw[show qt nmP.data.toList=true from by kernel_rfl,show decide (((dmA size).length:Int)<1)=false from rfl,show decide (((dmA size).length:Int)>4)=false from rfl];have e:dE [] (dmA size)=bif decide (size<1) then 50 else bif decide (size>1000000000000) then 50 else 0:=by
  unfold dE;rw[show qt ((⟨#[97]⟩:ByteArray),size).1.data.toList=true from by kernel_rfl];rfl
 rw[e];cases decide (size<1) with
 | true=>rfl
 | false=>cases decide (size>1000000000000)<;>rfl
theorem node_c {k:Int} (hk:k=11\/k=12) (n:Int) {p:Nat} (hp:1<=p):wW 1 (cN k n) p=bif decide (n<0) then 50 else bif decide (n>1000000000000) then 50 else 0:=by
 have go:∀k:Int,uP (cN k n)=true->YJ (cN k n) 1=1000000000000->vD (cN k n)=true->opB (cN k n)=true->vJ (cN k n)=false->ar (cN k n)=1->wW 1 (cN k n) p=bif decide (n<0) then 50 else bif decide (n>1000000000000) then 50 else 0:=by
  intro k a1 a3 a4 a5 a6 a7;unfold wW;rw[a1,a3,a4,a5,a6,a7,decide_eq_false (show ¬((p:Int)<((1:Nat):Int)) by omega)];rfl
 rcases hk with rfl | rfl
 ·exact go 11 rfl rfl rfl rfl rfl rfl
 ·exact go 12 rfl rfl rfl rfl rfl rfl
theorem planA_bad {n:Int} (h:n<0\/n>1000000000000):wj (planA n)=(1,50):=by
 unfold wj;have hn:wW 1 (cN 11 n) 1=50:=by
  rw[node_c (.inl rfl) n (Nat.le_refl _)];by_cases h0:n<0
  ·rw[decide_eq_true h0]; rfl
  ·rw[decide_eq_false h0,decide_eq_true (show n>1000000000000 by omega)]; rfl
 have hc:Wd 1 [qN,cN 11 n,qN,cN 12 n,sN,oN,mN] 0 0=some (1,50):=by
  simp only[Wd];rw[show wW 1 qN 0=0 from by kernel_rfl,show (0-ar qN+1)=1 from rfl,hn];rfl
 show (bif vZ nmP (dmA 10) 0 != 0 then _ else bif decide ((([qN,cN 11 n,qN,cN 12 n,sN,oN,mN].length:Nat):Int)>1024) then _ else match Wd 1 [qN,cN 11 n,qN,cN 12 n,sN,oN,mN] 0 0 with | some (j,e)=>((j:Int),e) | none=>_)=_
 rw[head_A,hc];rfl
theorem planA_good {n:Int} (h0:0<=n) (h1:n<=1000000000000):Good (planA n) (tA n):=by
 have hn:∀{k:Int} (hk:k=11\/k=12) {p:Nat} (hp:1<=p),wW 1 (cN k n) p=0:=@fun k hk p hp=>by
  rw[node_c hk n hp,decide_eq_false (by omega),decide_eq_false (by omega)]; rfl
 refine ⟨head_A,by show 7<=1024; omega,⟨by kernel_rfl,hn (.inl rfl) (Nat.le_refl _),by kernel_rfl,hn (.inr rfl) (by show 1<=2; omega),by kernel_rfl,by kernel_rfl,by kernel_rfl,trivial⟩,?_⟩;kernel_rfl
theorem planB_bad {size:Int} (h:size<1\/size>1000000000000):(wj (planB size)).2=50:=by
 have hh:vZ nmP (dmA size) 0=50:=by
  rw[head_B];by_cases h0:size<1
  ·rw[decide_eq_true h0]; rfl
  ·rw[decide_eq_false h0,decide_eq_true (show size>1000000000000 by omega)]; rfl
 unfold wj;show (bif vZ nmP (dmA size) 0 != 0 then ((-1:Int),vZ nmP (dmA size) 0) else _).2=_;rw[hh];rfl
theorem planB_good {size:Int} (h0:1<=size) (h1:size<=1000000000000):Good (planB size) tB:=by
 have hh:vZ nmP (dmA size) 0=0:=by rw[head_B,decide_eq_false (by omega),decide_eq_false (by omega)]; rfl
 exact ⟨hh,by show 3<=1024; omega,⟨by kernel_rfl,by kernel_rfl,by kernel_rfl,trivial⟩,by kernel_rfl⟩
theorem subs_A (n:Int):(tA n).subs=[tQ,tC 11 n,tQ,tC 12 n,tS n,tO,tA n]:=by
 have hq:tQ.subs=[tQ]:=by rw[vz]; rfl
 have ho:tO.subs=[tO]:=by rw[vz]; rfl
 have hc:∀k,(tC k n).subs=[tQ,tC k n]:=fun k=>by rw[vz]; unfold vK; simp only[List.map_cons,List.map_nil,List.flatten_cons,List.flatten_nil,hq]; rfl
 have hs:(tS n).subs=[tQ,tC 11 n,tQ,tC 12 n,tS n]:=by rw[vz]; unfold vK; simp only[List.map_cons,List.map_nil,List.flatten_cons,List.flatten_nil,hc]; rfl
 rw[vz]; unfold vK; simp only[List.map_cons,List.map_nil,List.flatten_cons,List.flatten_nil,hs,ho]; rfl
theorem subs_B:tB.subs=[.nd bN [],tO,tB]:=by
 have hq:(Tree.nd bN []).subs=[.nd bN []]:=by rw[vz]; rfl
 have ho:tO.subs=[tO]:=by rw[vz]; rfl
 rw[vz]; unfold vK; simp only[List.map_cons,List.map_nil,List.flatten_cons,List.flatten_nil,hq,ho]; rfl
theorem ty_q:ty tQ=2:=by rw[YB]; rfl
theorem ty_o:ty tO=1:=by rw[YB]; rfl
theorem ty_b:ty (.nd bN [])=3:=by rw[YB]; rfl
theorem ty_c {k:Int} (hk:k=11\/k=12) (n:Int):ty (tC k n)=2:=by
 rw[YB]; simp only[List.map_cons,List.map_nil,ty_q]; rcases hk with rfl | rfl<;>rfl
theorem ty_s (n:Int):ty (tS n)=2:=by rw[YB]; simp only[List.map_cons,List.map_nil,ty_c (.inl rfl),ty_c (.inr rfl)]; rfl
theorem ty_A (n:Int):ty (tA n)=1:=by rw[YB]; simp only[List.map_cons,List.map_nil,ty_s,ty_o]; rfl
theorem ty_B:ty tB=1:=by rw[YB]; simp only[List.map_cons,List.map_nil,ty_b,ty_o]; rfl
theorem deep_0 (n:zm.T) (h:(nK n==15)=false) (ks:List Tree) (hk:∀t∈ks,xM t=0):xM (.nd n ks)=0:=by
 rw[VB,h];have:∀l:List Tree,(∀t∈l,xM t=0)->uK (l.map xM)=0:=by
  intro l hl;cases l with
  | nil=>rfl
  | cons t r =>
   have hr:∀(r:List Tree),(∀t∈r,xM t=0)->u6 0 (r.map xM)=0:=by
    intro r;induction r with
    | nil=>intro _; rfl
    | cons t r ih =>
     intro h;have:u6 0 ((t::r).map xM)=u6 0 (r.map xM):=by
      unfold u6;simp only[List.map_cons,List.foldl_cons,h t (by simp)];rfl
     rw[this]; exact ih fun x hx=>h x (by simp[hx])
   show u6 (xM t) (r.map xM)=0;rw[hl t (by simp)];exact hr r fun x hx=>hl x (by simp[hx])
 rw[this ks hk]; rfl
theorem deep_A (n:Int):xM (tA n)=0:=by
 have h1:xM tQ=0:=deep_0 _ rfl _ (by simp);have h2:xM tO=0:=deep_0 _ rfl _ (by simp);have h3:∀k,(k=11\/k=12)->xM (tC k n)=0:=fun k hk=>deep_0 _ (by rcases hk with rfl | rfl<;>rfl) _ (by intro t ht; simp at ht; rw[ht]; exact h1)
 have h4:xM (tS n)=0:=deep_0 _ rfl _ (by intro t ht; simp only[List.mem_cons,List.not_mem_nil,or_false] at ht; rcases ht with rfl | rfl; exact h3 11 (.inl rfl); exact h3 12 (.inr rfl))
 exact deep_0 _ rfl _ (by intro t ht; simp only[List.mem_cons,List.not_mem_nil,or_false] at ht; rcases ht with rfl | rfl; exact h4; exact h2)
theorem deep_B:xM tB=0:=by
 have h1:xM (.nd bN [])=0:=deep_0 _ rfl _ (by simp);have h2:xM tO=0:=deep_0 _ rfl _ (by simp);exact deep_0 _ rfl _ (by intro t ht; simp only[List.mem_cons,List.not_mem_nil,or_false] at ht; rcases ht with rfl | rfl; exact h1; exact h2)
theorem unit_A (n:Int):wQ (tA n)=1:=by unfold wQ; rw[deep_A]; rfl
theorem unit_B:wQ tB=1:=by unfold wQ; rw[deep_B]; rfl
theorem mag0 (D:List yK.T) {t:Tree} {v:Int} (h:mag 1 D t=v) (hf:(nK t.root==15)=false) (hv:v<=10000000000000000):Zo 1 D t=0:=by
 unfold Zo wY;rw[h,hf];have hBND:BND=1329227995784915872903807060280344576:=rfl;rw[cond_false,decide_eq_false (by omega)];rfl
theorem unitR_A {n:Int} (h0:0<=n) (h1:n<=1000000000000):wR (dmA 10) (tA n)=(mk 1,0,0):=by
 have m1:mag 1 (dmA 10) tQ=1099511627776:=by rw[u7]; rfl
 have m2:mag 1 (dmA 10) tO=1:=by rw[u7]; rfl
 have m3:∀{k:Int},(k=11\/k=12)->mag 1 (dmA 10) (tC k n)=1099511627776+n:=fun hk=>by
  rw[u7]; simp only[List.map_cons,List.map_nil,m1]; rcases hk with rfl | rfl<;>rfl
 have m4:mag 1 (dmA 10) (tS n)=(1099511627776+n)+((1099511627776+n)+0):=by
  rw[u7]; simp only[List.map_cons,List.map_nil,m3 (.inl rfl),m3 (.inr rfl)]; rfl
 have m5:mag 1 (dmA 10) (tA n)=((1099511627776+n)+((1099511627776+n)+0))*1:=by
  rw[u7]; simp only[List.map_cons,List.map_nil,m4,m2]; rfl
 have hty:xy tyE (tA n).subs 0=none:=by
  rw[subs_A];simp only[xy];have t0:∀t:Tree,(ty t == -1)=false->UX t.root (t.kids.map noQ)=false->tyE t=0:=fun t a b=>by unfold tyE; rw[a,b]; rfl
  have q0:tyE tQ=0:=t0 _ (by rw[ty_q]; rfl) rfl;have o0:tyE tO=0:=t0 _ (by rw[ty_o]; rfl) rfl;have c0:∀{k:Int},(k=11\/k=12)->tyE (tC k n)=0:=fun hk=>t0 _ (by rw[ty_c hk]; rfl) (by rcases hk with rfl | rfl<;>rfl)
  have s0:tyE (tS n)=0:=t0 _ (by rw[ty_s]; rfl) rfl;have a0:tyE (tA n)=0:=t0 _ (by rw[ty_A]; rfl) (by
   have ho:noQ tO=true:=by kernel_rfl
   unfold UX;simp only[Tree.kids,Tree.root,List.map_cons,List.map_nil,List.getD_cons_zero,List.getD_cons_succ,ho];cases noQ (tS n)<;>rfl)
  rw[q0,o0,c0 (.inl rfl),c0 (.inr rfl),s0,a0]; rfl
 have hmg:xy (Zo 1 (dmA 10)) (tA n).subs 0=none:=by
  rw[subs_A];simp only[xy];rw[mag0 _ m1 rfl (by omega),mag0 _ m2 rfl (by omega),mag0 _ (m3 (.inl rfl)) rfl (by omega),mag0 _ (m3 (.inr rfl)) rfl (by omega),mag0 _ m4 rfl (by omega),mag0 _ m5 rfl (by omega)]; rfl
 rw[VO hty (ty_A n) (by rw[deep_A]; omega),unit_A];unfold ux;rw[hmg];rfl
theorem unitR_B {size:Int} (h0:1<=size):wR (dmA size) tB=(mk 1,0,0):=by
 have hc:=Z5 h0;have m1:mag 1 (dmA size) (.nd bN [])=wm 1099511627776 size:=by rw[u7]; rfl
 have m2:mag 1 (dmA size) tO=1:=by rw[u7]; rfl
 have m3:mag 1 (dmA size) tB=wm 1099511627776 size*1:=by
  rw[u7]; simp only[List.map_cons,List.map_nil,m1,m2]; rfl
 have hty:xy tyE tB.subs 0=none:=by
  rw[subs_B];simp only[xy];have t0:∀t:Tree,(ty t == -1)=false->UX t.root (t.kids.map noQ)=false->tyE t=0:=fun t a b=>by unfold tyE; rw[a,b]; rfl
  have q0:tyE (.nd bN [])=0:=t0 _ (by rw[ty_b]; rfl) rfl;have o0:tyE tO=0:=t0 _ (by rw[ty_o]; rfl) rfl;have a0:tyE tB=0:=t0 _ (by rw[ty_B]; rfl) (by kernel_rfl);rw[q0,o0,a0]; rfl
 have hmg:xy (Zo 1 (dmA size)) tB.subs 0=none:=by
  rw[subs_B];simp only[xy];rw[mag0 _ m1 rfl (by omega),mag0 _ m2 rfl (by omega),mag0 _ m3 rfl (by omega)]; rfl
 rw[VO hty ty_B (by rw[deep_B]; omega),unit_B];unfold ux;rw[hmg];rfl
theorem ev_A (n q:Int):ev 1 (dmA 10) [q] (tA n)=q:=by
 have e1:ev 1 (dmA 10) [q] tQ=q:=by rw[Zh]; rfl
 have e2:ev 1 (dmA 10) [q] tO=1:=by rw[Zh]; rfl
 have e3:ev 1 (dmA 10) [q] (tC 11 n)=if q-n>0 then q-n else 0:=by rw[Zh]; simp only[List.map_cons,List.map_nil,e1]; rfl
 have e4:ev 1 (dmA 10) [q] (tC 12 n)=if q<n then q else n:=by rw[Zh]; simp only[List.map_cons,List.map_nil,e1]; rfl
 have e5:ev 1 (dmA 10) [q] (tS n)=(if q-n>0 then q-n else 0)+(if q<n then q else n):=by rw[Zh]; simp only[List.map_cons,List.map_nil,e3,e4]; rfl
 have e6:ev 1 (dmA 10) [q] (tA n)=((if q-n>0 then q-n else 0)+(if q<n then q else n))*1:=by rw[Zh]; simp only[List.map_cons,List.map_nil,e5,e2]; rfl
 rw[e6];split<;>split<;>omega
theorem ev_B (size q:Int):ev 1 (dmA size) [q] tB=wm q size:=by
 have e1:ev 1 (dmA size) [q] (.nd bN [])=wm q size:=by rw[Zh]; rfl
 have e2:ev 1 (dmA size) [q] tO=1:=by rw[Zh]; rfl
 have e6:ev 1 (dmA size) [q] tB=wm q size*1:=by rw[Zh]; simp only[List.map_cons,List.map_nil,e1,e2]; rfl
 rw[e6,Int.mul_one]
theorem exact_of {p:ya.T} {t:Tree} {q v:Int} (hg:Good p t) (hd:p.2.1.length=1) (hu:wR p.2.1 t=(mk 1,0,0)) (h1:wQ t=1) (hv:ev 1 p.2.1 [q] t=v) :
  ym.sh FU p [q]=some (((bif qB q then (0,0) else mk v),(bif qB q then 101 else 0),()),()):=by
 rw[Qi hg];unfold Vr ur;rw[hu,h1,hv,hd];have:[q].any qB=qB q:=by simp
 rw[this];cases qB q<;>rfl
def sgZ (v:Int):Int:=if v<0 then -1 else if v=0 then 0 else 1
theorem sign_eq (F:Nat) {v:Int} (h:inR v=true):xh.sh F (mk v)=some ((sgZ v,()),()):=by
 unfold xh.sh sgZ;rw[Vg,vQ (yZ h),yN];by_cases h1:v<0
 ·rw[decide_eq_true h1,if_pos h1]; rfl
 ·rw[decide_eq_false h1,if_neg h1]
  by_cases h2:v=0
  ·rw[decide_eq_true h2,if_pos h2]; rfl
  ·rw[decide_eq_false h2,if_neg h2]; rfl
theorem ceil_near {q size:Int} (h0:0<=q) (h1:1<=size):0<=wm q size*size-q/\wm q size*size-q<size:=by
 have e:=Int.mul_ediv_add_emod q size;have m0:=Int.emod_nonneg q (show size≠0 by omega);have m1:=Int.emod_lt_of_pos q (show 0<size by omega);unfold wm;split
 ·rw[Int.add_zero,Int.mul_comm]; omega
 ·rw[Int.add_mul,Int.one_mul,Int.mul_comm]; omega
theorem j7_eq (n size q e:Int) (he:e=0\/n<0\/n>1000000000000\/qB q=true) :
  zn.j7 FU (fun r=>some ((r,()),())) (fun r=>(some ((r,()),()):Option zn.sg.R)) n size q e=some ((true,()),()):=by
 unfold zn.j7;rw[show zR.sh FU [(4,0,0,0,[],0),(2,1,0,0,[],0),(8,0,0,0,[],0)]=some ((planB 10,()),()) from rfl,zl];show (bif true then oB (ym.sh FU (planB size) [q]) _ else none)=_;rw[cond_true];by_cases hs:size<1\/size>1000000000000
 ·have hb:=planB_bad hs
  rw[WT (by rw[hb]; decide),hb,zl];show (bif decide (size<1) then some ((true,()),()) else bif decide (size>1000000000000) then some ((true,()),()) else _)=_;by_cases h0:size<1
  ·rw[decide_eq_true h0]; rfl
  ·rw[decide_eq_false h0,decide_eq_true (show size>1000000000000 by omega)]; rfl
 ·have h1:1<=size:=by omega
  have h2:size<=1000000000000:=by omega
  rw[exact_of (planB_good h1 h2) rfl (unitR_B h1) unit_B (ev_B size q),zl];cases hq:qB q with
  | true =>
   simp only[cond_true];show (bif decide (size<1) then _ else bif decide (size>1000000000000) then _ else bif decide (q<0) then some ((true,()),()) else some ((decide (q>1099511627776),()),()))=_;rw[decide_eq_false (show ¬size<1 by omega),decide_eq_false (show ¬size>1000000000000 by omega)];simp only[qB,Bool.or_eq_true,decide_eq_true_eq] at hq;by_cases h0:q<0
   ·rw[decide_eq_true h0]; rfl
   ·rw[decide_eq_false h0,decide_eq_true (show q>1099511627776 by omega)]; rfl
  | false =>
   simp only[cond_false];have hqr:0<=q/\q<=1099511627776:=by simp[qB] at hq; omega
   have hc:=Uy hqr.1 hqr.2 h1;have hc2:=(Z5 h1).2;have hn:=ceil_near hqr.1 h1;rw[show ((0:Int) != 0)=false from rfl,cond_false];generalize wm q size=c at hc hn ⊢;have hm:c*size<=2000000000000+1099511627776:=by omega
   have i1:inR (c*size)=true:=by rw[zK]; omega
   have i2:inR (c*size-q)=true:=by rw[zK]; omega
   rw[wk FU (by omega) (by omega),zl,YY FU (yZ (by rw[zK]; omega)) (yZ (by rw[zK]; omega)),zl,yN,yN,(xK i1).1,show wy (c*size)=0 by unfold wy; rw[i1]; rfl];rw[wk FU (v:=q) (by omega) (by omega),zl,W0 FU (yZ i1) (yZ (by rw[zK]; omega)),zl,yN,yN,(xK i2).1,show wy (c*size-q)=0 by unfold wy; rw[i2]; rfl];rw[show ((0:Int)==0)=true from rfl];simp only[cond_true];rw[sign_eq FU i2,zl];have hsg:decide (sgZ (c*size-q)>=0)=true:=by
    unfold sgZ;split
    ·omega
    ·split<;>rfl
   rw[hsg];simp only[cond_true];rw[zl,Zx FU (yZ i2) (yZ (by rw[zK]; omega)),zl,yN,yN];have hcm:decide (vP (c*size-q) size<0)=true:=by
    unfold vP;rw[if_pos (by omega)];rfl
   rw[hcm];simp only[cond_true];rcases he with rfl | he | he | he
   ·rfl
   ·cases (e==0) with
    | true=>rfl
    | false=>simp only[cond_false]; rw[decide_eq_true he]; rfl
   ·cases (e==0) with
    | true=>rfl
    | false =>
     simp only[cond_false];rw[decide_eq_false (show ¬n<0 by omega),decide_eq_true he];rfl
   ·rw[hq] at he; cases he
end Cuts
open Cuts in
theorem cuts_law (n size q:Int):zn.sh FU n size q=some ((true,()),()):=by
 unfold zn.sh;rw[Qc,zl,show (!(((true,()),()):(Bool×Unit)×Unit).1.1)=false from rfl,cond_false];rw[show zR.sh FU [(3,0,0,0,[],0),(11,n,0,0,[],0),(3,0,0,0,[],0),(12,n,0,0,[],0),(6,0,0,0,[],0),(2,1,0,0,[],0),(8,0,0,0,[],0)]=some ((planA n,()),()) from rfl,zl];show (oB (ym.sh FU (planA n) [q]) fun c_3=>_)=_;by_cases hn:n<0\/n>1000000000000
 ·have hb:=planA_bad hn
  rw[WT (by rw[hb]; decide),hb,zl];exact j7_eq n size q 50 (by rcases hn with h | h<;>simp[h])
 ·rw[exact_of (planA_good (by omega) (by omega)) rfl (unitR_A (by omega) (by omega)) (unit_A n) (ev_A n q),zl]
  cases hq:qB q with
  | true=>exact j7_eq n size q 101 (by simp[hq])
  | false =>
   have hqr:0<=q/\q<=1099511627776:=by simp[qB] at hq; omega
   show (oB (zC.sh FU q) fun c_4=>_)=_;rw[wk FU (by omega) (by omega),zl];show (bif !(((mk q).1==(mk q).1)&&(((mk q).2==(mk q).2)&&true)) then _ else _)=_;simp only[beq_self_eq_true,Bool.and_true,Bool.not_true,cond_false];exact j7_eq n size q 0 (.inl rfl)
end Go.VS
