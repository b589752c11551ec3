/- Plain laws, joined from smaller texts. -/
import Derived.Test.YtiliboioeieeoaaGreatDoorQKa
set_option linter.unusedVariables false
set_option linter.unusedSimpArgs false
set_option linter.unusedSectionVars false
set_option maxRecDepth 100000
namespace Go.VS
open Go IntKind
def okQ (D:List yv.T) (q:List Int):Prop:=q.length=D.length/\∀x∈q,0<=x/\x<=1099511627776
theorem okQ.at {D:List yv.T} {q:List Int} (h:okQ D q) {i:Nat} (hi:i<D.length):0<=q.getD i 0/\q.getD i 0<=1099511627776:=Z3 h.2 (by rw[h.1]; exact hi)
theorem zcF (F:Nat) {u:Int} (hu:1<=u) (hu2:u<=1000000000000000000000000) {p:zQ.T} (hD:dE [] p.2.1=0) (hd4:p.2.1.length<=4) {n:zb.T} {pile:Nat} (hn:wq p.2.1.length n pile=0) {q:List Int} (hq:okQ p.2.1 q) (ha:ar n=0) :
  vY.sh F p n (mk u) q=some ((mk (evN u p.2.1 q n []),()),())/\0<=evN u p.2.1 q n []/\evN u p.2.1 q n []<=yM u p.2.1 n []:=by
 obtain ⟨g1,g2,g3,g4,g5,g6,g7,g8⟩:=xB hn;have hN2:=VC hd4 g3 g1;have iu:inR u=true:=by rw[zP]; omega
 have iN:inR (nN n)=true:=by rw[zP]; omega
 have hc9:nK n=9\/nK n=10->False:=by
  intro h;rcases h with h | h<;>rw[uG h] at g4<;>rw[yp h] at ha
  ·have g4:(decide (nC n>=2)&&decide (nC n<=16))=true:=g4
   have ha:(nC n).toNat=0:=ha;simp at g4; omega
  ·have g4:(decide (nC n>=2)&&decide (nC n<=16))=true:=g4
   have ha:(nC n).toNat=0:=ha;simp at g4; omega
 rcases uE g1 with h | h | h | h | h | h | h | h | h | h | h | h | h | h | h | h
 ·have e:evN u p.2.1 q n []=nN n:=by unfold evN; rw[h]; rfl
  have m:yM u p.2.1 n []=nN n:=by unfold yM; rw[h]; rfl
  have h':n.1=1:=h;rw[e,m];refine ⟨?_,g2,Int.le_refl _⟩;unfold vY.sh;rw[h',ve F (v:=nN n) (by omega) (by omega)];rfl
 ·have e:evN u p.2.1 q n []=nN n*u:=by unfold evN; rw[h]; rfl
  have m:yM u p.2.1 n []=nN n*u:=by unfold yM; rw[h]; rfl
  have h':n.1=2:=h;have hb:=qv g2 hN2 (show 0<=u by omega) hu2;rw[e,m];refine ⟨?_,hb.1,Int.le_refl _⟩;unfold vY.sh;rw[h',ve F (v:=nN n) (by omega) (by omega)];simp only[Int.reduceBEq,cond_false,cond_true];rw[zr,qi F iN iu (by rw[zP]; omega),zr]
 ·have e:evN u p.2.1 q n []=q.getD (nN n).toNat 0:=by unfold evN; rw[h]; rfl
  have m:yM u p.2.1 n []=1099511627776:=by unfold yM; rw[h]; rfl
  have h':n.1=3:=h;rw[uD h] at g3;have g3:nN n<=(p.2.1.length:Int)-1:=g3;have hb:=hq.at (i:=(nN n).toNat) (by omega);rw[e,m];refine ⟨?_,hb.1,hb.2⟩;unfold vY.sh;rw[h',show idx n.2.1 q.length=true from YK g2 (by rw[hq.1]; show nN n<_; omega),show get (.int .i64) q n.2.1.toNat=q.getD (nN n).toNat 0 from rfl,ve F (v:=q.getD (nN n).toNat 0) (by omega) (by omega)];rfl
 ·have e:evN u p.2.1 q n []=v6 (q.getD (nN n).toNat 0) (dS (p.2.1.getD (nN n).toNat (ByteArray.empty,0))):=by unfold evN; rw[h]; rfl
  have m:yM u p.2.1 n []=v6 1099511627776 (dS (p.2.1.getD (nN n).toNat (ByteArray.empty,0))):=by unfold yM; rw[h]; rfl
  have h':n.1=4:=h;rw[uD h] at g3;have g3:nN n<=(p.2.1.length:Int)-1:=g3;have hb:=hq.at (i:=(nN n).toNat) (by omega);have hs:1<=dS (p.2.1.getD (nN n).toNat (ByteArray.empty,0))/\dS (p.2.1.getD (nN n).toNat (ByteArray.empty,0))<=1000000000000:=by
   have hlt:(nN n).toNat<p.2.1.length:=by omega
   rw[List.getD_eq_getElem?_getD,List.getElem?_eq_getElem hlt];exact UE _ _ hD _ (List.getElem_mem _)
  have hcb:=zcY hb.1 hb.2 hs.1;rw[e,m];refine ⟨?_,hcb.1,hcb.2⟩;unfold vY.sh;rw[h',show idx n.2.1 q.length=true from YK g2 (by rw[hq.1]; show nN n<_; omega),show idx n.2.1 p.2.1.length=true from YK g2 (by show nN n<_; omega),show get (.int .i64) q n.2.1.toNat=q.getD (nN n).toNat 0 from rfl,
   show (get yv p.2.1 n.2.1.toNat).2=dS (p.2.1.getD (nN n).toNat (ByteArray.empty,0)) from rfl]
  generalize dS (p.2.1.getD (nN n).toNat (ByteArray.empty,0))=s at*;generalize q.getD (nN n).toNat 0=x at*;simp only[Int.reduceBEq,cond_false,cond_true];rw[show (s != 0)=true from bne_iff_ne.2 (by omega),Int.tdiv_eq_ediv_of_nonneg hb.1,Int.tmod_eq_emod_of_nonneg hb.1];have hx1:0<=x/s:=Int.ediv_nonneg hb.1 (by omega);have hx2:x/s<=x:=Int.ediv_le_self _ hb.1;have hm0:=Int.emod_nonneg x (show s≠0 by omega);have hmin:(if 1<x%s then 1 else x%s)=if x%s=0 then 0 else 1:=by split<;>split<;>omega
  rw[hmin,yV (n:=x/s) (by omega) (by omega)];simp only[cond_true];rw[show x/s+(if x%s=0 then 0 else 1)=v6 x s from rfl];have hcc:v6 x s<=1099511627777:=Int.le_trans hcb.2 (R9 hs.1).2;rw[yV (n:=v6 x s) (by omega) (by omega),ve F (v:=v6 x s) (by omega) (by omega),zr]
 ·rw[yp h] at ha; exact absurd (show (1:Nat)=0 from ha) (by decide)
 ·rw[yp h] at ha; exact absurd (show (2:Nat)=0 from ha) (by decide)
 ·rw[yp h] at ha; exact absurd (show (2:Nat)=0 from ha) (by decide)
 ·rw[yp h] at ha; exact absurd (show (2:Nat)=0 from ha) (by decide)
 ·exact absurd (.inl h) hc9
 ·exact absurd (.inr h) hc9
 ·rw[yp h] at ha; exact absurd (show (1:Nat)=0 from ha) (by decide)
 ·rw[yp h] at ha; exact absurd (show (1:Nat)=0 from ha) (by decide)
 ·rw[yp h] at ha; exact absurd (show (1:Nat)=0 from ha) (by decide)
 ·rw[yp h] at ha; exact absurd (show (1:Nat)=0 from ha) (by decide)
 ·rw[yp h] at ha; exact absurd (show (1:Nat)=0 from ha) (by decide)
 ·rw[yp h] at ha; exact absurd (show (3:Nat)=0 from ha) (by decide)
theorem zcN (a b:Int):UD 2 a b=tq a b:=by
 unfold UD awB;cases decide (tr a b=0)<;>rfl
theorem zc8 {v N:Int} (h0:0<=N) (h1:N<=10000) (M:Int) (hl:-M<=v) (hh:v<=M):(-(M*10000)<=v*(10000-N)/\v*(10000-N)<=M*10000)/\-M<=tq (v*(10000-N)) 10000/\tq (v*(10000-N)) 10000<=M:=by
 have hb:=vV hl hh (show -10000<=10000-N by omega) (show 10000-N<=10000 by omega);have h2:(aQ (v*(10000-N)) 10000)<=M:=by
  unfold aQ;rw[show (((10000:Int).natAbs:Nat):Int)=10000 from rfl];generalize v*(10000-N)=z at*;omega
 have h3:=(aQR (a:=v*(10000-N)) (b:=10000) (by decide)).1;refine ⟨hb,?_⟩;unfold tq;cases dsg (v*(10000-N)) 10000<;>simp only[cond_true,cond_false]<;>omega
theorem XL {α:Type} {l:List α} (h:l.length=2):∃a b,l=[a,b]:=by
 match l,h with
 | [a,b],_=>exact ⟨a,b,rfl⟩
theorem len3 {α:Type} {l:List α} (h:l.length=3):∃a b c,l=[a,b,c]:=by
 match l,h with
 | [a,b,c],_=>exact ⟨a,b,c,rfl⟩
theorem zbo (F:Nat) (hF:128<F) {u:Int} (hu:1<=u) (hu2:u<=1000000000000000000000000) {D:List yv.T} (hd4:D.length<=4) {n:zb.T} {pile:Nat} (hn:wq D.length n pile=0) {q:List Int} {ks:List Tree} {V M:Tree->Int} (hk:Kids ks V M) (hl:ks.length=ar n) (ha:1<=ar n)
  (hfar:wX n (yM u D n (ks.map M))<=BND) :
  xY.sh F n (mk u) (ks.map fun k=>mk (V k))=some ((mk (evN u D q n (ks.map V)),()),())/\-yM u D n (ks.map M)<=evN u D q n (ks.map V)/\evN u D q n (ks.map V)<=yM u D n (ks.map M):=by
 obtain ⟨g1,g2,g3,g4,g5,g6,g7,g8⟩:=xB hn;have hBND:BND=1329227995784915872903807060280344576:=rfl;have ha16:=zaO g1 g4;have hN2:=VC hd4 g3 g1;have iu:inR u=true:=by rw[zP]; omega
 have iN:inR (nN n)=true:=by rw[zP]; omega
 have hof:=ve F (v:=nN n) (by omega) (by omega);have i0:idx 0 (ks.map fun k=>mk (V k)).length=true:=WK (by simp; omega);have hmm:(ks.map fun k=>mk (V k))=(ks.map V).map mk:=by rw[List.map_map]; rfl
 have B:∀k∈ks,-M k<=V k/\V k<=M k/\M k<=BND/\inR (V k)=true:=fun k h=>⟨hk.lo k h,hk.hi k h,hk.bd k h,hk.inr _ (List.mem_map_of_mem h)⟩
 rcases uE g1 with h | h | h | h | h | h | h | h | h | h | h | h | h | h | h | h
 ·rw[yp h] at ha; exact absurd (show (1:Nat)<=0 from ha) (by decide)
 ·rw[yp h] at ha; exact absurd (show (1:Nat)<=0 from ha) (by decide)
 ·rw[yp h] at ha; exact absurd (show (1:Nat)<=0 from ha) (by decide)
 ·rw[yp h] at ha; exact absurd (show (1:Nat)<=0 from ha) (by decide)
 ·
  have hl1:ks.length=1:=by rw[hl,yp h]; rfl
  obtain ⟨a,rfl⟩:=List.length_eq_one_iff.1 hl1;have e:evN u D q n ([a].map V)=0-V a:=by unfold evN; rw[h]; rfl
  have m:yM u D n ([a].map M)=M a:=by unfold yM; rw[h]; simp[wb]
  have Ba:=B a (by simp);have h':n.1=5:=h;rw[e,m];refine ⟨?_,by omega,by omega⟩;unfold xY.sh;rw[i0,h',show zY.sh F n.2.1=some ((mk (nN n),()),()) from hof];simp only[Int.reduceBEq,cond_false,cond_true];rw[zr,show get zd ([a].map fun k=>mk (V k)) 0=mk (V a) from rfl,show ((0,0):Int×Int)=mk 0 from rfl,VJ F (by rw[zP]; omega) Ba.2.2.2 (by rw[zP]; omega),zr]
 ·
  have hl1:ks.length=2:=by rw[hl,yp h]; rfl
  obtain ⟨a,b,rfl⟩:=XL hl1;have e:evN u D q n ([a,b].map V)=V a+V b:=by unfold evN; rw[h]; rfl
  have m:yM u D n ([a,b].map M)=M a+M b:=by unfold yM; rw[h]; simp[wb]
  have hf:wX n (yM u D n ([a,b].map M))=M a+M b:=by unfold wX; rw[h,m]; rfl
  rw[hf] at hfar;have Ba:=B a (by simp);have Bb:=B b (by simp);have h':n.1=6:=h;rw[e,m];refine ⟨?_,by omega,by omega⟩;unfold xY.sh;rw[i0,h',show zY.sh F n.2.1=some ((mk (nN n),()),()) from hof,show idx 1 ([a,b].map fun k=>mk (V k)).length=true from rfl];simp only[Int.reduceBEq,cond_false,cond_true];rw[zr,show get zd ([a,b].map fun k=>mk (V k)) 0=mk (V a) from rfl,show get zd ([a,b].map fun k=>mk (V k)) 1=mk (V b) from rfl,SR F Ba.2.2.2 Bb.2.2.2 (by rw[zP]; omega),zr]
 ·
  have hl1:ks.length=2:=by rw[hl,yp h]; rfl
  obtain ⟨a,b,rfl⟩:=XL hl1;have e:evN u D q n ([a,b].map V)=V a-V b:=by unfold evN; rw[h]; rfl
  have m:yM u D n ([a,b].map M)=M a+M b:=by unfold yM; rw[h]; simp[wb]
  have hf:wX n (yM u D n ([a,b].map M))=M a+M b:=by unfold wX; rw[h,m]; rfl
  rw[hf] at hfar;have Ba:=B a (by simp);have Bb:=B b (by simp);have h':n.1=7:=h;rw[e,m];refine ⟨?_,by omega,by omega⟩;unfold xY.sh;rw[i0,h',show zY.sh F n.2.1=some ((mk (nN n),()),()) from hof,show idx 1 ([a,b].map fun k=>mk (V k)).length=true from rfl];simp only[Int.reduceBEq,cond_false,cond_true];rw[zr,show get zd ([a,b].map fun k=>mk (V k)) 0=mk (V a) from rfl,show get zd ([a,b].map fun k=>mk (V k)) 1=mk (V b) from rfl,VJ F Ba.2.2.2 Bb.2.2.2 (by rw[zP]; omega),zr]
 ·
  have hl1:ks.length=2:=by rw[hl,yp h]; rfl
  obtain ⟨a,b,rfl⟩:=XL hl1;have e:evN u D q n ([a,b].map V)=V a*V b:=by unfold evN; rw[h]; rfl
  have m:yM u D n ([a,b].map M)=M a*M b:=by unfold yM; rw[h]; rfl
  have hf:wX n (yM u D n ([a,b].map M))=M a*M b:=by unfold wX; rw[h,m]; rfl
  rw[hf] at hfar;have Ba:=B a (by simp);have Bb:=B b (by simp);have hb:=vV Ba.1 Ba.2.1 Bb.1 Bb.2.1;have h':n.1=8:=h;rw[e,m];refine ⟨?_,hb.1,hb.2⟩;unfold xY.sh;rw[i0,h',show zY.sh F n.2.1=some ((mk (nN n),()),()) from hof,show idx 1 ([a,b].map fun k=>mk (V k)).length=true from rfl];simp only[Int.reduceBEq,cond_false,cond_true];rw[zr,show get zd ([a,b].map fun k=>mk (V k)) 0=mk (V a) from rfl,show get zd ([a,b].map fun k=>mk (V k)) 1=mk (V b) from rfl,qi F Ba.2.2.2 Bb.2.2.2 (by rw[zP]; omega),zr]
 ·
  have e:evN u D q n (ks.map V)=Yi (ks.map V):=by unfold evN; rw[h]; rfl
  have m:yM u D n (ks.map M)=wb (ks.map M):=by unfold yM; rw[h]; rfl
  have h':n.1=9:=h;obtain ⟨k,hkm,hkv⟩:=List.mem_map.1 (XH (l:=ks.map V) (by simp; omega));have Bk:=B k hkm;have hs:=hk.sum k hkm;rw[e,m];refine ⟨?_,by omega,by omega⟩;unfold xY.sh;rw[i0,h',show zY.sh F n.2.1=some ((mk (nN n),()),()) from hof,hmm];simp only[Int.reduceBEq,cond_false,cond_true];rw[zr,SA F hk.inr (by simp; omega) (by simp; omega) (by simp; omega),zr]
 ·
  have e:evN u D q n (ks.map V)=uf (ks.map V):=by unfold evN; rw[h]; rfl
  have m:yM u D n (ks.map M)=wb (ks.map M):=by unfold yM; rw[h]; rfl
  have h':n.1=10:=h;obtain ⟨k,hkm,hkv⟩:=List.mem_map.1 (XI (l:=ks.map V) (by simp; omega));have Bk:=B k hkm;have hs:=hk.sum k hkm;rw[e,m];refine ⟨?_,by omega,by omega⟩;unfold xY.sh;rw[i0,h',show zY.sh F n.2.1=some ((mk (nN n),()),()) from hof,hmm];simp only[Int.reduceBEq,cond_false,cond_true];rw[zr,SC F hk.inr (by simp; omega) (by simp; omega) (by simp; omega),zr]
 ·
  have hl1:ks.length=1:=by rw[hl,yp h]; rfl
  obtain ⟨a,rfl⟩:=List.length_eq_one_iff.1 hl1;have e:evN u D q n ([a].map V)=uf [0,V a-nN n]:=by unfold evN; rw[h]; rfl
  have m:yM u D n ([a].map M)=M a+nN n:=by unfold yM; rw[h]; simp[wb]
  have Ba:=B a (by simp);have h':n.1=11:=h;have i1:inR (V a-nN n)=true:=by rw[zP]; omega
  have hmx:uf [0,V a-nN n]=0\/uf [0,V a-nN n]=V a-nN n:=by have:=XI (l:=[0,V a-nN n]) (by simp); simpa using this
  rw[e,m];refine ⟨?_,by omega,by omega⟩;unfold xY.sh;rw[i0,h',show zY.sh F n.2.1=some ((mk (nN n),()),()) from hof];simp only[Int.reduceBEq,cond_false,cond_true];rw[zr,show get zd ([a].map fun k=>mk (V k)) 0=mk (V a) from rfl,VJ F Ba.2.2.2 iN i1,zr];have:=SC F (l:=[0,V a-nN n]) (by intro v hv; simp at hv; rcases hv with rfl | rfl; rw[zP]; omega; exact i1) (by simp) (by simp; omega) (by simp)
  rw[show (([0,V a-nN n]:List Int).map mk)=[(0,0),mk (V a-nN n)] from rfl] at this;rw[this,zr]
 ·
  have hl1:ks.length=1:=by rw[hl,yp h]; rfl
  obtain ⟨a,rfl⟩:=List.length_eq_one_iff.1 hl1;have e:evN u D q n ([a].map V)=Yi [nN n,V a]:=by unfold evN; rw[h]; rfl
  have m:yM u D n ([a].map M)=M a+nN n:=by unfold yM; rw[h]; simp[wb]
  have Ba:=B a (by simp);have h':n.1=12:=h;have hmx:Yi [nN n,V a]=nN n\/Yi [nN n,V a]=V a:=by have:=XH (l:=[nN n,V a]) (by simp); simpa using this
  rw[e,m];refine ⟨?_,by omega,by omega⟩;unfold xY.sh;rw[i0,h',show zY.sh F n.2.1=some ((mk (nN n),()),()) from hof];simp only[Int.reduceBEq,cond_false,cond_true];rw[zr,show get zd ([a].map fun k=>mk (V k)) 0=mk (V a) from rfl];have:=SA F (l:=[nN n,V a]) (by intro v hv; simp at hv; rcases hv with rfl | rfl; exact iN; exact Ba.2.2.2) (by simp) (by simp; omega) (by simp)
  rw[show (([nN n,V a]:List Int).map mk)=[mk (nN n),mk (V a)] from rfl] at this;rw[this,zr]
 ·
  have hl1:ks.length=1:=by rw[hl,yp h]; rfl
  obtain ⟨a,rfl⟩:=List.length_eq_one_iff.1 hl1;have hr:=g8 (by unfold v8 uj; rw[h]; rfl);have e:evN u D q n ([a].map V)=u*RN (V a) (nT n):=by unfold evN; rw[h]; rfl
  have m:yM u D n ([a].map M)=u*(wC 0 (nT n)*(M a+wy (nT n))+vc (nT n)):=by unfold yM; rw[h]; rfl
  have hf:wX n (yM u D n ([a].map M))=u*(wC 0 (nT n)*(M a+wy (nT n))+vc (nT n)):=by unfold wX; rw[h,m]; rfl
  rw[hf] at hfar;have Ba:=B a (by simp);have hgb:=zaw hr Ba.2.1 (by omega);have hub:=vV (show -u<=u by omega) (Int.le_refl u) hgb.1 hgb.2;have hle:=Qy hu (show 0<=wC 0 (nT n)*(M a+wy (nT n))+vc (nT n) by omega);have h':n.1=13:=h;rw[e,m];refine ⟨?_,hub.1,hub.2⟩;unfold xY.sh;rw[i0,h',show zY.sh F n.2.1=some ((mk (nN n),()),()) from hof];simp only[Int.reduceBEq,cond_false,cond_true];rw[zr,show get zd ([a].map fun k=>mk (V k)) 0=mk (V a) from rfl,SI F (by omega) hr Ba.2.2.2 Ba.2.1 (by omega) (by omega),zr,qi F iu (by rw[zP]; omega) (by rw[zP]; omega),zr]
 ·
  have hl1:ks.length=1:=by rw[hl,yp h]; rfl
  obtain ⟨a,rfl⟩:=List.length_eq_one_iff.1 hl1;have hr:=g8 (by unfold v8 uj; rw[h]; rfl);have e:evN u D q n ([a].map V)=u*vol (V a) (nT n):=by unfold evN; rw[h]; rfl
  have m:yM u D n ([a].map M)=u*(wC 0 (nT n)*(M a+wy (nT n))+vc (nT n)):=by unfold yM; rw[h]; rfl
  have hf:wX n (yM u D n ([a].map M))=u*(wC 0 (nT n)*(M a+wy (nT n))+vc (nT n)):=by unfold wX; rw[h,m]; rfl
  rw[hf] at hfar;have Ba:=B a (by simp);have hgb:=vol_bd hr Ba.2.1 (by omega);have hub:=vV (show -u<=u by omega) (Int.le_refl u) hgb.1 hgb.2;have hle:=Qy hu (show 0<=wC 0 (nT n)*(M a+wy (nT n))+vc (nT n) by omega);have h':n.1=14:=h;rw[e,m];refine ⟨?_,hub.1,hub.2⟩;unfold xY.sh;rw[i0,h',show zY.sh F n.2.1=some ((mk (nN n),()),()) from hof];simp only[Int.reduceBEq,cond_false,cond_true];rw[zr,show get zd ([a].map fun k=>mk (V k)) 0=mk (V a) from rfl,zaS F (by omega) hr Ba.2.2.2 Ba.2.1 (by omega) (by omega),zr,qi F iu (by rw[zP]; omega) (by rw[zP]; omega),zr]
 ·
  have hl1:ks.length=1:=by rw[hl,yp h]; rfl
  obtain ⟨a,rfl⟩:=List.length_eq_one_iff.1 hl1;have e:evN u D q n ([a].map V)=UD 2 (V a*(10000-nN n)) 10000:=by unfold evN; rw[h]; rfl
  have m:yM u D n ([a].map M)=M a:=by unfold yM; rw[h]; rfl
  have hf:wX n (yM u D n ([a].map M))=M a*10000:=by unfold wX; rw[h,m]; rfl
  rw[hf] at hfar;rw[uD h] at g3;have g3:nN n<=10000:=g3;have Ba:=B a (by simp);have ho:=zc8 g2 g3 (M a) Ba.1 Ba.2.1;have h':n.1=15:=h;rw[e,m,zcN];refine ⟨?_,ho.2.1,ho.2.2⟩;unfold xY.sh;rw[i0,h',show zY.sh F n.2.1=some ((mk (nN n),()),()) from hof];simp only[Int.reduceBEq,cond_false,cond_true];rw[zr,show get zd ([a].map fun k=>mk (V k)) 0=mk (V a) from rfl,yV (n:=10000-n.2.1) (show -9223372036854775808<=10000-nN n by omega) (show 10000-nN n<9223372036854775808 by omega),show (10000-n.2.1:Int)=10000-nN n from rfl,
   ve F (v:=10000-nN n) (by omega) (by omega),zr,qi F Ba.2.2.2 (qV (by omega) (by omega)) (by rw[zP]; omega),zr,ve F (v:=10000) (by omega) (by omega),zr]
  rw[zcL F (by omega) (by rw[zP]; omega) (by rw[zP]; omega) (by decide) (by rw[zP]; omega) (by omega) (by omega),zr,zcN]
 ·
  have hl1:ks.length=3:=by rw[hl,yp h]; rfl
  obtain ⟨a,b,c,rfl⟩:=len3 hl1;have e:evN u D q n ([a,b,c].map V)=bif XP (nO n) (V a) (nN n) then V b else V c:=by unfold evN; rw[h]; rfl
  have m:yM u D n ([a,b,c].map M)=M a+(M b+M c)+nN n:=by unfold yM; rw[h]; simp[wb]
  have Ba:=B a (by simp);have Bb:=B b (by simp);have Bc:=B c (by simp);have h':n.1=16:=h;rw[e,m];refine ⟨?_,by cases XP (nO n) (V a) (nN n)<;>simp only[cond_true,cond_false]<;>omega,by cases XP (nO n) (V a) (nN n)<;>simp only[cond_true,cond_false]<;>omega⟩;unfold xY.sh;rw[i0,h',show zY.sh F n.2.1=some ((mk (nN n),()),()) from hof,show idx 1 ([a,b,c].map fun k=>mk (V k)).length=true from rfl,show idx 2 ([a,b,c].map fun k=>mk (V k)).length=true from rfl];simp only[Int.reduceBEq,cond_false,cond_true];rw[zr,show get zd ([a,b,c].map fun k=>mk (V k)) 0=mk (V a) from rfl,zct F Ba.2.2.2 iN,zr];cases XP (nO n) (V a) (nN n)<;>rfl
structure Inv (u:Int) (D:List yv.T) (q:List Int) (t:Tree):Prop where
 lo:-mag u D t<=ev u D q t
 hi:ev u D q t<=mag u D t
 bd:mag u D t<=BND
theorem RJ {u:Int} {D:List yv.T} {q:List Int} {l:List Tree} (h:∀t∈l,Inv u D q t):Kids l (ev u D q) (mag u D):=⟨fun k hk=>(h k hk).lo,fun k hk=>(h k hk).hi,fun k hk=>(h k hk).bd⟩
theorem zaB {n:zb.T} {v:Int} (h0:0<=v) (h:wX n v<=BND):v<=BND:=by
 unfold wX at h;cases h15:(nK n==15) with
 | true=>rw[h15] at h; simp only[cond_true] at h; omega
 | false=>rw[h15] at h; exact h
theorem zbM (F:Nat) (hF:128<F) {u:Int} (hu:1<=u) (hu2:u<=1000000000000000000000000) {p:zQ.T} (hD:dE [] p.2.1=0) (hd4:p.2.1.length<=4) {q:List Int} (hq:okQ p.2.1 q) {st:List Tree} {n:zb.T}
  (hn:wq p.2.1.length n st.length=0) (hI:∀t∈st,Inv u p.2.1 q t) (hE:XJ u p.2.1 (wa st n)=0) :
  Inv u p.2.1 q (wa st n)/\(ar n=0->vY.sh F p n (mk u) q=some ((mk (ev u p.2.1 q (wa st n)),()),())) /\
  (1<=ar n->xY.sh F n (mk u) ((st.drop (st.length-ar n)).map fun t=>mk (ev u p.2.1 q t))=some ((mk (ev u p.2.1 q (wa st n)),()),())):=by
 obtain ⟨g1,g2,g3,g4,g5,g6,g7,g8⟩:=xB hn;have hfar:wX n (mag u p.2.1 (wa st n))<=BND:=by
  unfold XJ at hE;rw[show (wa st n).root=n from rfl] at hE;cases hx:decide (wX n (mag u p.2.1 (wa st n))>BND) with
  | true=>rw[hx] at hE; exact absurd (show (90:Int)=0 from hE) (by decide)
  | false=>have:=of_decide_eq_false hx; omega
 have hm:mag u p.2.1 (wa st n)=yM u p.2.1 n ((st.drop (st.length-ar n)).map (mag u p.2.1)):=by unfold wa; rw[uq]
 have hv:ev u p.2.1 q (wa st n)=evN u p.2.1 q n ((st.drop (st.length-ar n)).map (ev u p.2.1 q)):=by unfold wa; rw[uy]
 by_cases ha:ar n=0
 ·rw[ha,Nat.sub_zero,List.drop_of_length_le (Nat.le_refl _)] at hm hv
  simp only[List.map_nil] at hm hv;obtain ⟨h1,h2,h3⟩:=zcF F hu hu2 hD hd4 hn hq ha;rw[<-hv] at h1 h2 h3;rw[<-hm] at h3;exact ⟨⟨by omega,h3,zaB (by omega) hfar⟩,fun _=>h1,fun h=>by omega⟩
 ·have hk:Kids (st.drop (st.length-ar n)) (ev u p.2.1 q) (mag u p.2.1):=RJ (fun t ht=>hI t (List.mem_of_mem_drop ht))
  rw[hm] at hfar;obtain ⟨h1,h2,h3⟩:=zbo F hF hu hu2 hd4 hn (q:=q) hk (by simp; omega) (by omega) hfar;rw[<-hv] at h1 h2 h3;rw[<-hm] at h2 h3 hfar;exact ⟨⟨h2,h3,zaB (by omega) hfar⟩,fun h=>by omega,fun _=>h1⟩
theorem za5 {p:zQ.T} {t:Tree} (h:Good p t) (hu:(wo p.2.1 t).2.2=0):deep t<=6/\wK tyE t.subs 0=none/\ty t=1/\wK (XJ (wn t) p.2.1) t.subs 0=none/\wo p.2.1 t=(mk (wn t),0,0):=by
 obtain ⟨a1,a2,a3,a4⟩:=S8 hu;exact ⟨a2,(U3 a1).1,(U3 a1).2,(zci a3).1,a4⟩
theorem int_eq (F:Nat) {v:Int} (h:inR v=true):xW.sh F (mk v)=some ((bif decide (-9223372036854775808<=v)&&decide (v<9223372036854775808) then v else 0,decide (-9223372036854775808<=v)&&decide (v<9223372036854775808),()),()):=by
 have hv:=zP.1 h;unfold xW.sh;simp only[mk];obtain ⟨k,e1,e2,e3⟩:=Vy (v%18446744073709551616);rw[zbP e2 e3];generalize i64.wrap (v%18446744073709551616)=r at*;by_cases hr:-9223372036854775808<=v/\v<9223372036854775808
 ·have er:r=v:=by omega
  have e0:(v/18446744073709551616 != if r<0 then (-1:Int) else 0)=false:=by
   have:v/18446744073709551616=if r<0 then (-1:Int) else 0:=by split<;>omega
   rw[this]; simp
  rw[e0,decide_eq_true hr.1,decide_eq_true hr.2,er];rfl
 ·have e0:(v/18446744073709551616 != if r<0 then (-1:Int) else 0)=true:=by
   rw[bne_iff_ne]; split<;>omega
  rw[e0];rcases Int.lt_or_le v (-9223372036854775808) with h' | h'
  ·rw[decide_eq_false (show ¬-9223372036854775808<=v by omega)]; rfl
  ·rw[decide_eq_true h',decide_eq_false (show ¬v<9223372036854775808 by omega)]; rfl
theorem tq_bd {a b:Int} (hb:b≠0):-(a.natAbs:Int)<=tq a b/\tq a b<=a.natAbs:=by
 have:=aQR (a:=a) hb;unfold tq;cases dsg a b<;>simp only[cond_true,cond_false]<;>omega
def Dv (S u:Int) (D:List yv.T) (q:List Int) (t:Tree):Prop:=ty t=1->∃c,ev u D q t=c*10000^(S-deep t).toNat
theorem zcQ {ks:List Tree} {k:Tree} (hk:k∈ks):0<=deep k/\deep k<=uf (ks.map deep):=by
 have h0:∀x∈ks.map deep,0<=x:=by simp only[List.mem_map]; rintro x ⟨k,hk,rfl⟩; exact (uK k).1
 exact ⟨(uK k).1,(SD h0).2 _ (List.mem_map_of_mem hk)⟩
theorem Dv.mul {S u:Int} {D:List yv.T} {q:List Int} {t:Tree} (h:Dv S u D q t) (ht:ty t=1) {e:Int} (h1:deep t<=e) (h2:e<=S):∃c,ev u D q t=c*10000^(S-e).toNat:=by
 obtain ⟨c,hc⟩:=h ht;have h0:=(uK t).1;refine ⟨c*10000^(e-deep t).toNat,?_⟩;rw[hc,Int.mul_assoc,<-Int.pow_add,show (e-deep t).toNat+(S-e).toNat=(S-deep t).toNat by omega]
end Go.VS
