/- Plain laws, joined from smaller texts. -/
import Derived.Test.YtiliboioeieeoaaGreatDoorQKa
set_option linter.unusedVariables false
set_option linter.unusedSimpArgs false
set_option linter.unusedSectionVars false
set_option maxRecDepth 100000
namespace Go.VS
open Go IntKind
def okQ (D:List yr.T) (q:List Int):Prop:=q.length=D.length/\∀x∈q,0<=x/\x<=1099511627776
theorem okQ.at {D:List yr.T} {q:List Int} (h:okQ D q) {i:Nat} (hi:i<D.length):0<=q.getD i 0/\q.getD i 0<=1099511627776:=Yk h.2 (by rw[h.1]; exact hi)
theorem zd2 (F:Nat) {u:Int} (hu:1<=u) (hu2:u<=1000000000000000000000000) {p:zZ.T} (hD:dE [] p.2.1=0) (hd4:p.2.1.length<=4) {n:zb.T} {pile:Nat} (hn:wo p.2.1.length n pile=0) {q:List Int} (hq:okQ p.2.1 q) (ha:ar n=0) :
  ug.sh F p n (mk u) q=some ((mk (evN u p.2.1 q n []),()),())/\0<=evN u p.2.1 q n []/\evN u p.2.1 q n []<=yO u p.2.1 n []:=by
 obtain ⟨g1,g2,g3,g4,g5,g6,g7,g8⟩:=xB hn;have hN2:=VM hd4 g3 g1;have iu:inR u=true:=by rw[zR]; omega
 have iN:inR (nN n)=true:=by rw[zR]; omega
 have hc9:nK n=9\/nK n=10->False:=by
  intro h;rcases h with h | h<;>rw[uf h] at g4<;>rw[yh h] at ha
  ·have g4:(decide (nC n>=2)&&decide (nC n<=16))=true:=g4
   have ha:(nC n).toNat=0:=ha;simp at g4; omega
  ·have g4:(decide (nC n>=2)&&decide (nC n<=16))=true:=g4
   have ha:(nC n).toNat=0:=ha;simp at g4; omega
 rcases ue g1 with h | h | h | h | h | h | h | h | h | h | h | h | h | h | h | h
 ·have e:evN u p.2.1 q n []=nN n:=by unfold evN; rw[h]; rfl
  have m:yO u p.2.1 n []=nN n:=by unfold yO; rw[h]; rfl
  have h':n.1=1:=h;rw[e,m];refine ⟨?_,g2,Int.le_refl _⟩;unfold ug.sh;rw[h',vj F (v:=nN n) (by omega) (by omega)];rfl
 ·have e:evN u p.2.1 q n []=nN n*u:=by unfold evN; rw[h]; rfl
  have m:yO u p.2.1 n []=nN n*u:=by unfold yO; rw[h]; rfl
  have h':n.1=2:=h;have hb:=qE g2 hN2 (show 0<=u by omega) hu2;rw[e,m];refine ⟨?_,hb.1,Int.le_refl _⟩;unfold ug.sh;rw[h',vj F (v:=nN n) (by omega) (by omega)];simp only[Int.reduceBEq,cond_false,cond_true];rw[zq,qs F iN iu (by rw[zR]; omega),zq]
 ·have e:evN u p.2.1 q n []=q.getD (nN n).toNat 0:=by unfold evN; rw[h]; rfl
  have m:yO u p.2.1 n []=1099511627776:=by unfold yO; rw[h]; rfl
  have h':n.1=3:=h;rw[uN h] at g3;have g3:nN n<=(p.2.1.length:Int)-1:=g3;have hb:=hq.at (i:=(nN n).toNat) (by omega);rw[e,m];refine ⟨?_,hb.1,hb.2⟩;unfold ug.sh;rw[h',show idx n.2.1 q.length=true from YY g2 (by rw[hq.1]; show nN n<_; omega),show get (.int .i64) q n.2.1.toNat=q.getD (nN n).toNat 0 from rfl,vj F (v:=q.getD (nN n).toNat 0) (by omega) (by omega)];rfl
 ·have e:evN u p.2.1 q n []=uj (q.getD (nN n).toNat 0) (dS (p.2.1.getD (nN n).toNat (ByteArray.empty,0))):=by unfold evN; rw[h]; rfl
  have m:yO u p.2.1 n []=uj 1099511627776 (dS (p.2.1.getD (nN n).toNat (ByteArray.empty,0))):=by unfold yO; rw[h]; rfl
  have h':n.1=4:=h;rw[uN h] at g3;have g3:nN n<=(p.2.1.length:Int)-1:=g3;have hb:=hq.at (i:=(nN n).toNat) (by omega);have hs:1<=dS (p.2.1.getD (nN n).toNat (ByteArray.empty,0))/\dS (p.2.1.getD (nN n).toNat (ByteArray.empty,0))<=1000000000000:=by
   have hlt:(nN n).toNat<p.2.1.length:=by omega
   rw[List.getD_eq_getElem?_getD,List.getElem?_eq_getElem hlt];exact US _ _ hD _ (List.getElem_mem _)
  have hcb:=zdj hb.1 hb.2 hs.1;rw[e,m];refine ⟨?_,hcb.1,hcb.2⟩;unfold ug.sh;rw[h',show idx n.2.1 q.length=true from YY g2 (by rw[hq.1]; show nN n<_; omega),show idx n.2.1 p.2.1.length=true from YY g2 (by show nN n<_; omega),show get (.int .i64) q n.2.1.toNat=q.getD (nN n).toNat 0 from rfl,
   show (get yr p.2.1 n.2.1.toNat).2=dS (p.2.1.getD (nN n).toNat (ByteArray.empty,0)) from rfl]
  generalize dS (p.2.1.getD (nN n).toNat (ByteArray.empty,0))=s at*;generalize q.getD (nN n).toNat 0=x at*;simp only[Int.reduceBEq,cond_false,cond_true];rw[show (s != 0)=true from bne_iff_ne.2 (by omega),Int.tdiv_eq_ediv_of_nonneg hb.1,Int.tmod_eq_emod_of_nonneg hb.1];have hx1:0<=x/s:=Int.ediv_nonneg hb.1 (by omega);have hx2:x/s<=x:=Int.ediv_le_self _ hb.1;have hm0:=Int.emod_nonneg x (show s≠0 by omega);have hmin:(if 1<x%s then 1 else x%s)=if x%s=0 then 0 else 1:=by split<;>split<;>omega
  rw[hmin,yT (n:=x/s) (by omega) (by omega)];simp only[cond_true];rw[show x/s+(if x%s=0 then 0 else 1)=uj x s from rfl];have hcc:uj x s<=1099511627777:=Int.le_trans hcb.2 (Qj hs.1).2;rw[yT (n:=uj x s) (by omega) (by omega),vj F (v:=uj x s) (by omega) (by omega),zq]
 ·rw[yh h] at ha; exact absurd (show (1:Nat)=0 from ha) (by decide)
 ·rw[yh h] at ha; exact absurd (show (2:Nat)=0 from ha) (by decide)
 ·rw[yh h] at ha; exact absurd (show (2:Nat)=0 from ha) (by decide)
 ·rw[yh h] at ha; exact absurd (show (2:Nat)=0 from ha) (by decide)
 ·exact absurd (.inl h) hc9
 ·exact absurd (.inr h) hc9
 ·rw[yh h] at ha; exact absurd (show (1:Nat)=0 from ha) (by decide)
 ·rw[yh h] at ha; exact absurd (show (1:Nat)=0 from ha) (by decide)
 ·rw[yh h] at ha; exact absurd (show (1:Nat)=0 from ha) (by decide)
 ·rw[yh h] at ha; exact absurd (show (1:Nat)=0 from ha) (by decide)
 ·rw[yh h] at ha; exact absurd (show (1:Nat)=0 from ha) (by decide)
 ·rw[yh h] at ha; exact absurd (show (3:Nat)=0 from ha) (by decide)
theorem zda (a b:Int):Y6 2 a b=tq a b:=by
 unfold Y6 awB;cases decide (tr a b=0)<;>rfl
theorem zcv {v N:Int} (h0:0<=N) (h1:N<=10000) (M:Int) (hl:-M<=v) (hh:v<=M):(-(M*10000)<=v*(10000-N)/\v*(10000-N)<=M*10000)/\-M<=tq (v*(10000-N)) 10000/\tq (v*(10000-N)) 10000<=M:=by
 have hb:=v7 hl hh (show -10000<=10000-N by omega) (show 10000-N<=10000 by omega);have h2:(aQ (v*(10000-N)) 10000)<=M:=by
  unfold aQ;rw[show (((10000:Int).natAbs:Nat):Int)=10000 from rfl];generalize v*(10000-N)=z at*;omega
 have h3:=(aQR (a:=v*(10000-N)) (b:=10000) (by decide)).1;refine ⟨hb,?_⟩;unfold tq;cases dsg (v*(10000-N)) 10000<;>simp only[cond_true,cond_false]<;>omega
theorem Zd {α:Type} {l:List α} (h:l.length=2):∃a b,l=[a,b]:=by
 match l,h with
 | [a,b],_=>exact ⟨a,b,rfl⟩
theorem len3 {α:Type} {l:List α} (h:l.length=3):∃a b c,l=[a,b,c]:=by
 match l,h with
 | [a,b,c],_=>exact ⟨a,b,c,rfl⟩
theorem zbC (F:Nat) (hF:128<F) {u:Int} (hu:1<=u) (hu2:u<=1000000000000000000000000) {D:List yr.T} (hd4:D.length<=4) {n:zb.T} {pile:Nat} (hn:wo D.length n pile=0) {q:List Int} {ks:List Tree} {V M:Tree->Int} (hk:Kids ks V M) (hl:ks.length=ar n) (ha:1<=ar n)
  (hfar:w9 n (yO u D n (ks.map M))<=BND) :
  x8.sh F n (mk u) (ks.map fun k=>mk (V k))=some ((mk (evN u D q n (ks.map V)),()),())/\-yO u D n (ks.map M)<=evN u D q n (ks.map V)/\evN u D q n (ks.map V)<=yO u D n (ks.map M):=by
 obtain ⟨g1,g2,g3,g4,g5,g6,g7,g8⟩:=xB hn;have hBND:BND=1329227995784915872903807060280344576:=rfl;have ha16:=zb4 g1 g4;have hN2:=VM hd4 g3 g1;have iu:inR u=true:=by rw[zR]; omega
 have iN:inR (nN n)=true:=by rw[zR]; omega
 have hof:=vj F (v:=nN n) (by omega) (by omega);have i0:idx 0 (ks.map fun k=>mk (V k)).length=true:=WV (by simp; omega);have hmm:(ks.map fun k=>mk (V k))=(ks.map V).map mk:=by rw[List.map_map]; rfl
 have B:∀k∈ks,-M k<=V k/\V k<=M k/\M k<=BND/\inR (V k)=true:=fun k h=>⟨hk.lo k h,hk.hi k h,hk.bd k h,hk.inr _ (List.mem_map_of_mem h)⟩
 rcases ue g1 with h | h | h | h | h | h | h | h | h | h | h | h | h | h | h | h
 ·rw[yh h] at ha; exact absurd (show (1:Nat)<=0 from ha) (by decide)
 ·rw[yh h] at ha; exact absurd (show (1:Nat)<=0 from ha) (by decide)
 ·rw[yh h] at ha; exact absurd (show (1:Nat)<=0 from ha) (by decide)
 ·rw[yh h] at ha; exact absurd (show (1:Nat)<=0 from ha) (by decide)
 ·
  have hl1:ks.length=1:=by rw[hl,yh h]; rfl
  obtain ⟨a,rfl⟩:=List.length_eq_one_iff.1 hl1;have e:evN u D q n ([a].map V)=0-V a:=by unfold evN; rw[h]; rfl
  have m:yO u D n ([a].map M)=M a:=by unfold yO; rw[h]; simp[wg]
  have Ba:=B a (by simp);have h':n.1=5:=h;rw[e,m];refine ⟨?_,by omega,by omega⟩;unfold x8.sh;rw[i0,h',show z6.sh F n.2.1=some ((mk (nN n),()),()) from hof];simp only[Int.reduceBEq,cond_false,cond_true];rw[zq,show get zd ([a].map fun k=>mk (V k)) 0=mk (V a) from rfl,show ((0,0):Int×Int)=mk 0 from rfl,VT F (by rw[zR]; omega) Ba.2.2.2 (by rw[zR]; omega),zq]
 ·
  have hl1:ks.length=2:=by rw[hl,yh h]; rfl
  obtain ⟨a,b,rfl⟩:=Zd hl1;have e:evN u D q n ([a,b].map V)=V a+V b:=by unfold evN; rw[h]; rfl
  have m:yO u D n ([a,b].map M)=M a+M b:=by unfold yO; rw[h]; simp[wg]
  have hf:w9 n (yO u D n ([a,b].map M))=M a+M b:=by unfold w9; rw[h,m]; rfl
  rw[hf] at hfar;have Ba:=B a (by simp);have Bb:=B b (by simp);have h':n.1=6:=h;rw[e,m];refine ⟨?_,by omega,by omega⟩;unfold x8.sh;rw[i0,h',show z6.sh F n.2.1=some ((mk (nN n),()),()) from hof,show idx 1 ([a,b].map fun k=>mk (V k)).length=true from rfl];simp only[Int.reduceBEq,cond_false,cond_true];rw[zq,show get zd ([a,b].map fun k=>mk (V k)) 0=mk (V a) from rfl,show get zd ([a,b].map fun k=>mk (V k)) 1=mk (V b) from rfl,S0 F Ba.2.2.2 Bb.2.2.2 (by rw[zR]; omega),zq]
 ·
  have hl1:ks.length=2:=by rw[hl,yh h]; rfl
  obtain ⟨a,b,rfl⟩:=Zd hl1;have e:evN u D q n ([a,b].map V)=V a-V b:=by unfold evN; rw[h]; rfl
  have m:yO u D n ([a,b].map M)=M a+M b:=by unfold yO; rw[h]; simp[wg]
  have hf:w9 n (yO u D n ([a,b].map M))=M a+M b:=by unfold w9; rw[h,m]; rfl
  rw[hf] at hfar;have Ba:=B a (by simp);have Bb:=B b (by simp);have h':n.1=7:=h;rw[e,m];refine ⟨?_,by omega,by omega⟩;unfold x8.sh;rw[i0,h',show z6.sh F n.2.1=some ((mk (nN n),()),()) from hof,show idx 1 ([a,b].map fun k=>mk (V k)).length=true from rfl];simp only[Int.reduceBEq,cond_false,cond_true];rw[zq,show get zd ([a,b].map fun k=>mk (V k)) 0=mk (V a) from rfl,show get zd ([a,b].map fun k=>mk (V k)) 1=mk (V b) from rfl,VT F Ba.2.2.2 Bb.2.2.2 (by rw[zR]; omega),zq]
 ·
  have hl1:ks.length=2:=by rw[hl,yh h]; rfl
  obtain ⟨a,b,rfl⟩:=Zd hl1;have e:evN u D q n ([a,b].map V)=V a*V b:=by unfold evN; rw[h]; rfl
  have m:yO u D n ([a,b].map M)=M a*M b:=by unfold yO; rw[h]; rfl
  have hf:w9 n (yO u D n ([a,b].map M))=M a*M b:=by unfold w9; rw[h,m]; rfl
  rw[hf] at hfar;have Ba:=B a (by simp);have Bb:=B b (by simp);have hb:=v7 Ba.1 Ba.2.1 Bb.1 Bb.2.1;have h':n.1=8:=h;rw[e,m];refine ⟨?_,hb.1,hb.2⟩;unfold x8.sh;rw[i0,h',show z6.sh F n.2.1=some ((mk (nN n),()),()) from hof,show idx 1 ([a,b].map fun k=>mk (V k)).length=true from rfl];simp only[Int.reduceBEq,cond_false,cond_true];rw[zq,show get zd ([a,b].map fun k=>mk (V k)) 0=mk (V a) from rfl,show get zd ([a,b].map fun k=>mk (V k)) 1=mk (V b) from rfl,qs F Ba.2.2.2 Bb.2.2.2 (by rw[zR]; omega),zq]
 ·
  have e:evN u D q n (ks.map V)=qG (ks.map V):=by unfold evN; rw[h]; rfl
  have m:yO u D n (ks.map M)=wg (ks.map M):=by unfold yO; rw[h]; rfl
  have h':n.1=9:=h;obtain ⟨k,hkm,hkv⟩:=List.mem_map.1 (ZQ (l:=ks.map V) (by simp; omega));have Bk:=B k hkm;have hs:=hk.sum k hkm;rw[e,m];refine ⟨?_,by omega,by omega⟩;unfold x8.sh;rw[i0,h',show z6.sh F n.2.1=some ((mk (nN n),()),()) from hof,hmm];simp only[Int.reduceBEq,cond_false,cond_true];rw[zq,SK F hk.inr (by simp; omega) (by simp; omega) (by simp; omega),zq]
 ·
  have e:evN u D q n (ks.map V)=vJ (ks.map V):=by unfold evN; rw[h]; rfl
  have m:yO u D n (ks.map M)=wg (ks.map M):=by unfold yO; rw[h]; rfl
  have h':n.1=10:=h;obtain ⟨k,hkm,hkv⟩:=List.mem_map.1 (ZR (l:=ks.map V) (by simp; omega));have Bk:=B k hkm;have hs:=hk.sum k hkm;rw[e,m];refine ⟨?_,by omega,by omega⟩;unfold x8.sh;rw[i0,h',show z6.sh F n.2.1=some ((mk (nN n),()),()) from hof,hmm];simp only[Int.reduceBEq,cond_false,cond_true];rw[zq,SM F hk.inr (by simp; omega) (by simp; omega) (by simp; omega),zq]
 ·
  have hl1:ks.length=1:=by rw[hl,yh h]; rfl
  obtain ⟨a,rfl⟩:=List.length_eq_one_iff.1 hl1;have e:evN u D q n ([a].map V)=vJ [0,V a-nN n]:=by unfold evN; rw[h]; rfl
  have m:yO u D n ([a].map M)=M a+nN n:=by unfold yO; rw[h]; simp[wg]
  have Ba:=B a (by simp);have h':n.1=11:=h;have i1:inR (V a-nN n)=true:=by rw[zR]; omega
  have hmx:vJ [0,V a-nN n]=0\/vJ [0,V a-nN n]=V a-nN n:=by have:=ZR (l:=[0,V a-nN n]) (by simp); simpa using this
  rw[e,m];refine ⟨?_,by omega,by omega⟩;unfold x8.sh;rw[i0,h',show z6.sh F n.2.1=some ((mk (nN n),()),()) from hof];simp only[Int.reduceBEq,cond_false,cond_true];rw[zq,show get zd ([a].map fun k=>mk (V k)) 0=mk (V a) from rfl,VT F Ba.2.2.2 iN i1,zq];have:=SM F (l:=[0,V a-nN n]) (by intro v hv; simp at hv; rcases hv with rfl | rfl; rw[zR]; omega; exact i1) (by simp) (by simp; omega) (by simp)
  rw[show (([0,V a-nN n]:List Int).map mk)=[(0,0),mk (V a-nN n)] from rfl] at this;rw[this,zq]
 ·
  have hl1:ks.length=1:=by rw[hl,yh h]; rfl
  obtain ⟨a,rfl⟩:=List.length_eq_one_iff.1 hl1;have e:evN u D q n ([a].map V)=qG [nN n,V a]:=by unfold evN; rw[h]; rfl
  have m:yO u D n ([a].map M)=M a+nN n:=by unfold yO; rw[h]; simp[wg]
  have Ba:=B a (by simp);have h':n.1=12:=h;have hmx:qG [nN n,V a]=nN n\/qG [nN n,V a]=V a:=by have:=ZQ (l:=[nN n,V a]) (by simp); simpa using this
  rw[e,m];refine ⟨?_,by omega,by omega⟩;unfold x8.sh;rw[i0,h',show z6.sh F n.2.1=some ((mk (nN n),()),()) from hof];simp only[Int.reduceBEq,cond_false,cond_true];rw[zq,show get zd ([a].map fun k=>mk (V k)) 0=mk (V a) from rfl];have:=SK F (l:=[nN n,V a]) (by intro v hv; simp at hv; rcases hv with rfl | rfl; exact iN; exact Ba.2.2.2) (by simp) (by simp; omega) (by simp)
  rw[show (([nN n,V a]:List Int).map mk)=[mk (nN n),mk (V a)] from rfl] at this;rw[this,zq]
 ·
  have hl1:ks.length=1:=by rw[hl,yh h]; rfl
  obtain ⟨a,rfl⟩:=List.length_eq_one_iff.1 hl1;have hr:=g8 (by unfold ul uw; rw[h]; rfl);have e:evN u D q n ([a].map V)=u*UA (V a) (nT n):=by unfold evN; rw[h]; rfl
  have m:yO u D n ([a].map M)=u*(wD 0 (nT n)*(M a+wz (nT n))+vg (nT n)):=by unfold yO; rw[h]; rfl
  have hf:w9 n (yO u D n ([a].map M))=u*(wD 0 (nT n)*(M a+wz (nT n))+vg (nT n)):=by unfold w9; rw[h,m]; rfl
  rw[hf] at hfar;have Ba:=B a (by simp);have hgb:=zaM hr Ba.2.1 (by omega);have hub:=v7 (show -u<=u by omega) (Int.le_refl u) hgb.1 hgb.2;have hle:=QJ hu (show 0<=wD 0 (nT n)*(M a+wz (nT n))+vg (nT n) by omega);have h':n.1=13:=h;rw[e,m];refine ⟨?_,hub.1,hub.2⟩;unfold x8.sh;rw[i0,h',show z6.sh F n.2.1=some ((mk (nN n),()),()) from hof];simp only[Int.reduceBEq,cond_false,cond_true];rw[zq,show get zd ([a].map fun k=>mk (V k)) 0=mk (V a) from rfl,SR F (by omega) hr Ba.2.2.2 Ba.2.1 (by omega) (by omega),zq,qs F iu (by rw[zR]; omega) (by rw[zR]; omega),zq]
 ·
  have hl1:ks.length=1:=by rw[hl,yh h]; rfl
  obtain ⟨a,rfl⟩:=List.length_eq_one_iff.1 hl1;have hr:=g8 (by unfold ul uw; rw[h]; rfl);have e:evN u D q n ([a].map V)=u*vol (V a) (nT n):=by unfold evN; rw[h]; rfl
  have m:yO u D n ([a].map M)=u*(wD 0 (nT n)*(M a+wz (nT n))+vg (nT n)):=by unfold yO; rw[h]; rfl
  have hf:w9 n (yO u D n ([a].map M))=u*(wD 0 (nT n)*(M a+wz (nT n))+vg (nT n)):=by unfold w9; rw[h,m]; rfl
  rw[hf] at hfar;have Ba:=B a (by simp);have hgb:=vol_bd hr Ba.2.1 (by omega);have hub:=v7 (show -u<=u by omega) (Int.le_refl u) hgb.1 hgb.2;have hle:=QJ hu (show 0<=wD 0 (nT n)*(M a+wz (nT n))+vg (nT n) by omega);have h':n.1=14:=h;rw[e,m];refine ⟨?_,hub.1,hub.2⟩;unfold x8.sh;rw[i0,h',show z6.sh F n.2.1=some ((mk (nN n),()),()) from hof];simp only[Int.reduceBEq,cond_false,cond_true];rw[zq,show get zd ([a].map fun k=>mk (V k)) 0=mk (V a) from rfl,zb6 F (by omega) hr Ba.2.2.2 Ba.2.1 (by omega) (by omega),zq,qs F iu (by rw[zR]; omega) (by rw[zR]; omega),zq]
 ·
  have hl1:ks.length=1:=by rw[hl,yh h]; rfl
  obtain ⟨a,rfl⟩:=List.length_eq_one_iff.1 hl1;have e:evN u D q n ([a].map V)=Y6 2 (V a*(10000-nN n)) 10000:=by unfold evN; rw[h]; rfl
  have m:yO u D n ([a].map M)=M a:=by unfold yO; rw[h]; rfl
  have hf:w9 n (yO u D n ([a].map M))=M a*10000:=by unfold w9; rw[h,m]; rfl
  rw[hf] at hfar;rw[uN h] at g3;have g3:nN n<=10000:=g3;have Ba:=B a (by simp);have ho:=zcv g2 g3 (M a) Ba.1 Ba.2.1;have h':n.1=15:=h;rw[e,m,zda];refine ⟨?_,ho.2.1,ho.2.2⟩;unfold x8.sh;rw[i0,h',show z6.sh F n.2.1=some ((mk (nN n),()),()) from hof];simp only[Int.reduceBEq,cond_false,cond_true];rw[zq,show get zd ([a].map fun k=>mk (V k)) 0=mk (V a) from rfl,yT (n:=10000-n.2.1) (show -9223372036854775808<=10000-nN n by omega) (show 10000-nN n<9223372036854775808 by omega),show (10000-n.2.1:Int)=10000-nN n from rfl,
   vj F (v:=10000-nN n) (by omega) (by omega),zq,qs F Ba.2.2.2 (Zf (by omega) (by omega)) (by rw[zR]; omega),zq,vj F (v:=10000) (by omega) (by omega),zq]
  rw[zd8 F (by omega) (by rw[zR]; omega) (by rw[zR]; omega) (by decide) (by rw[zR]; omega) (by omega) (by omega),zq,zda]
 ·
  have hl1:ks.length=3:=by rw[hl,yh h]; rfl
  obtain ⟨a,b,c,rfl⟩:=len3 hl1;have e:evN u D q n ([a,b,c].map V)=bif qQ (nO n) (V a) (nN n) then V b else V c:=by unfold evN; rw[h]; rfl
  have m:yO u D n ([a,b,c].map M)=M a+(M b+M c)+nN n:=by unfold yO; rw[h]; simp[wg]
  have Ba:=B a (by simp);have Bb:=B b (by simp);have Bc:=B c (by simp);have h':n.1=16:=h;rw[e,m];refine ⟨?_,by cases qQ (nO n) (V a) (nN n)<;>simp only[cond_true,cond_false]<;>omega,by cases qQ (nO n) (V a) (nN n)<;>simp only[cond_true,cond_false]<;>omega⟩;unfold x8.sh;rw[i0,h',show z6.sh F n.2.1=some ((mk (nN n),()),()) from hof,show idx 1 ([a,b,c].map fun k=>mk (V k)).length=true from rfl,show idx 2 ([a,b,c].map fun k=>mk (V k)).length=true from rfl];simp only[Int.reduceBEq,cond_false,cond_true];rw[zq,show get zd ([a,b,c].map fun k=>mk (V k)) 0=mk (V a) from rfl,zcQ F Ba.2.2.2 iN,zq];cases qQ (nO n) (V a) (nN n)<;>rfl
structure Inv (u:Int) (D:List yr.T) (q:List Int) (t:Tree):Prop where
 lo:-mag u D t<=ev u D q t
 hi:ev u D q t<=mag u D t
 bd:mag u D t<=BND
theorem RR {u:Int} {D:List yr.T} {q:List Int} {l:List Tree} (h:∀t∈l,Inv u D q t):Kids l (ev u D q) (mag u D):=⟨fun k hk=>(h k hk).lo,fun k hk=>(h k hk).hi,fun k hk=>(h k hk).bd⟩
theorem zaR {n:zb.T} {v:Int} (h0:0<=v) (h:w9 n v<=BND):v<=BND:=by
 unfold w9 at h;cases h15:(nK n==15) with
 | true=>rw[h15] at h; simp only[cond_true] at h; omega
 | false=>rw[h15] at h; exact h
theorem zc8 (F:Nat) (hF:128<F) {u:Int} (hu:1<=u) (hu2:u<=1000000000000000000000000) {p:zZ.T} (hD:dE [] p.2.1=0) (hd4:p.2.1.length<=4) {q:List Int} (hq:okQ p.2.1 q) {st:List Tree} {n:zb.T}
  (hn:wo p.2.1.length n st.length=0) (hI:∀t∈st,Inv u p.2.1 q t) (hE:XV u p.2.1 (we st n)=0) :
  Inv u p.2.1 q (we st n)/\(ar n=0->ug.sh F p n (mk u) q=some ((mk (ev u p.2.1 q (we st n)),()),())) /\
  (1<=ar n->x8.sh F n (mk u) ((st.drop (st.length-ar n)).map fun t=>mk (ev u p.2.1 q t))=some ((mk (ev u p.2.1 q (we st n)),()),())):=by
 obtain ⟨g1,g2,g3,g4,g5,g6,g7,g8⟩:=xB hn;have hfar:w9 n (mag u p.2.1 (we st n))<=BND:=by
  unfold XV at hE;rw[show (we st n).root=n from rfl] at hE;cases hx:decide (w9 n (mag u p.2.1 (we st n))>BND) with
  | true=>rw[hx] at hE; exact absurd (show (90:Int)=0 from hE) (by decide)
  | false=>have:=of_decide_eq_false hx; omega
 have hm:mag u p.2.1 (we st n)=yO u p.2.1 n ((st.drop (st.length-ar n)).map (mag u p.2.1)):=by unfold we; rw[uD]
 have hv:ev u p.2.1 q (we st n)=evN u p.2.1 q n ((st.drop (st.length-ar n)).map (ev u p.2.1 q)):=by unfold we; rw[vY]
 by_cases ha:ar n=0
 ·rw[ha,Nat.sub_zero,List.drop_of_length_le (Nat.le_refl _)] at hm hv
  simp only[List.map_nil] at hm hv;obtain ⟨h1,h2,h3⟩:=zd2 F hu hu2 hD hd4 hn hq ha;rw[<-hv] at h1 h2 h3;rw[<-hm] at h3;exact ⟨⟨by omega,h3,zaR (by omega) hfar⟩,fun _=>h1,fun h=>by omega⟩
 ·have hk:Kids (st.drop (st.length-ar n)) (ev u p.2.1 q) (mag u p.2.1):=RR (fun t ht=>hI t (List.mem_of_mem_drop ht))
  rw[hm] at hfar;obtain ⟨h1,h2,h3⟩:=zbC F hF hu hu2 hd4 hn (q:=q) hk (by simp; omega) (by omega) hfar;rw[<-hv] at h1 h2 h3;rw[<-hm] at h2 h3 hfar;exact ⟨⟨h2,h3,zaR (by omega) hfar⟩,fun h=>by omega,fun _=>h1⟩
theorem zal {p:zZ.T} {t:Tree} (h:Good p t) (hu:(vq p.2.1 t).2.2=0):deep t<=6/\wL tyE t.subs 0=none/\ty t=1/\wL (XV (wu t) p.2.1) t.subs 0=none/\vq p.2.1 t=(mk (wu t),0,0):=by
 obtain ⟨a1,a2,a3,a4⟩:=zc1 hu;exact ⟨a2,(Tf a1).1,(Tf a1).2,(zcF a3).1,a4⟩
theorem Tl (t:Tree):t∈t.subs:=by
 obtain ⟨s,hs⟩:=zba t;rw[hs]; simp
theorem int_eq (F:Nat) {v:Int} (h:inR v=true):xZ.sh F (mk v)=some ((bif decide (-9223372036854775808<=v)&&decide (v<9223372036854775808) then v else 0,decide (-9223372036854775808<=v)&&decide (v<9223372036854775808),()),()):=by
 have hv:=zR.1 h;unfold xZ.sh;simp only[mk];obtain ⟨k,e1,e2,e3⟩:=VJ (v%18446744073709551616);rw[zcb e2 e3];generalize i64.wrap (v%18446744073709551616)=r at*;by_cases hr:-9223372036854775808<=v/\v<9223372036854775808
 ·have er:r=v:=by omega
  have e0:(v/18446744073709551616 != if r<0 then (-1:Int) else 0)=false:=by
   have:v/18446744073709551616=if r<0 then (-1:Int) else 0:=by split<;>omega
   rw[this]; simp
  rw[e0,decide_eq_true hr.1,decide_eq_true hr.2,er];rfl
 ·have e0:(v/18446744073709551616 != if r<0 then (-1:Int) else 0)=true:=by
   rw[bne_iff_ne]; split<;>omega
  rw[e0];rcases Int.lt_or_le v (-9223372036854775808) with h' | h'
  ·rw[decide_eq_false (show ¬-9223372036854775808<=v by omega)]; rfl
  ·rw[decide_eq_true h',decide_eq_false (show ¬v<9223372036854775808 by omega)]; rfl
theorem tq_bd {a b:Int} (hb:b≠0):-(a.natAbs:Int)<=tq a b/\tq a b<=a.natAbs:=by
 have:=aQR (a:=a) hb;unfold tq;cases dsg a b<;>simp only[cond_true,cond_false]<;>omega
def Dv (S u:Int) (D:List yr.T) (q:List Int) (t:Tree):Prop:=ty t=1->∃c,ev u D q t=c*10000^(S-deep t).toNat
theorem X7 {ks:List Tree} {k:Tree} (hk:k∈ks):0<=deep k/\deep k<=vJ (ks.map deep):=by
 have h0:∀x∈ks.map deep,0<=x:=by simp only[List.mem_map]; rintro x ⟨k,hk,rfl⟩; exact (uh k).1
 exact ⟨(uh k).1,(SN h0).2 _ (List.mem_map_of_mem hk)⟩
theorem Qb (n:zb.T) (ks:List Tree):vJ (ks.map deep)<=deep (.nd n ks):=by
 rw[uz];cases nK n==15<;>simp only[cond_true,cond_false]<;>omega
theorem Dv.mul {S u:Int} {D:List yr.T} {q:List Int} {t:Tree} (h:Dv S u D q t) (ht:ty t=1) {e:Int} (h1:deep t<=e) (h2:e<=S):∃c,ev u D q t=c*10000^(S-e).toNat:=by
 obtain ⟨c,hc⟩:=h ht;have h0:=(uh t).1;refine ⟨c*10000^(e-deep t).toNat,?_⟩;rw[hc,Int.mul_assoc,<-Int.pow_add,show (e-deep t).toNat+(S-e).toNat=(S-deep t).toNat by omega]
theorem uM {l:List Int} (h:uU l=1):∀x∈l,x=1:=by
 cases l with
 | nil=>simp
 | cons a r =>
  simp only[uU] at h;cases hr:r.all (fun x=>x==a) with
  | false=>rw[hr] at h; exact absurd (show (-1:Int)=1 from h) (by decide)
  | true =>
   rw[hr] at h;have h:a=1:=h;intro x hx;rcases List.mem_cons.1 hx with rfl | hx
   ·exact h
   ·have:=List.all_eq_true.1 hr x hx
    rw[<-h]; simpa using this
theorem zbj {a b:Int} (h:ZN a b=1):a=1\/b=1:=by
 unfold ZN at h;cases h1:(a==0) with
 | true=>rw[h1] at h; exact .inr h
 | false =>
  rw[h1] at h;cases h2:(b==0) with
  | true=>rw[h2] at h; exact .inl h
  | false =>
   rw[h2] at h;cases h3:(wR a&&b==1) with
   | true=>simp at h3; exact .inr h3.2
   | false =>
    rw[h3] at h;cases h4:(wR b&&a==1) with
    | true=>simp at h4; exact .inl h4.2
    | false=>rw[h4] at h; exact absurd (show (-1:Int)=1 from h) (by decide)
theorem step_dv {S u:Int} (hS0:0<=S) (hu:u=10000^S.toNat) {D:List yr.T} {q:List Int} {n:zb.T} {ks:List Tree} {dims pile:Nat} (hn:wo dims n pile=0) (hl:ks.length=ar n) (hd:deep (.nd n ks)<=S) (hk:∀k∈ks,Dv S u D q k):Dv S u D q (.nd n ks):=by
 intro ht;obtain ⟨g1,g2,g3,g4,g5,g6,g7,g8⟩:=xB hn;have hdt:=Qb n ks;have hd0:=(uh (.nd n ks)).1;have K1:∀k∈ks,ty k=1->∃c,ev u D q k=c*10000^(S-deep (.nd n ks)).toNat:=fun k hkm h1=>(hk k hkm).mul h1 (by have:=(X7 hkm).2; omega) hd
 have hup:u=10000^(deep (.nd n ks)).toNat*10000^(S-deep (.nd n ks)).toNat:=by
  rw[hu,<-Int.pow_add]; congr 1; omega
 have htn:tyN n (ks.map ty)=1:=by rw[<-tB]; exact ht
 rw[vY];have hdn:=uz n ks;generalize hP:(10000:Int)^(S-deep (.nd n ks)).toNat=P at*;rcases ue g1 with h | h | h | h | h | h | h | h | h | h | h | h | h | h | h | h
 ·have:tyN n (ks.map ty)=0:=by unfold tyN; rw[h]; rfl
  omega
 ·have e:evN u D q n (ks.map (ev u D q))=nN n*u:=by unfold evN; rw[h]; rfl
  rw[e,hup];exact ⟨nN n*10000^(deep (.nd n ks)).toNat,by rw[Int.mul_assoc]⟩
 ·have:tyN n (ks.map ty)=2+2*nN n:=by unfold tyN; rw[h]; rfl
  omega
 ·have:tyN n (ks.map ty)=3+2*nN n:=by unfold tyN; rw[h]; rfl
  omega
 ·have hl1:ks.length=1:=by rw[hl,yh h]; rfl
  obtain ⟨a,rfl⟩:=List.length_eq_one_iff.1 hl1;have e:evN u D q n ([a].map (ev u D q))=0-ev u D q a:=by unfold evN; rw[h]; rfl
  have ho:uU ([a].map ty)=1:=by rw[<-htn]; unfold tyN; rw[h]; rfl
  obtain ⟨c,hc⟩:=K1 a (by simp) (uM ho (ty a) (by simp));exact ⟨-c,by rw[e,hc,Int.neg_mul]; omega⟩
 ·have hl1:ks.length=2:=by rw[hl,yh h]; rfl
  obtain ⟨a,b,rfl⟩:=Zd hl1;have e:evN u D q n ([a,b].map (ev u D q))=ev u D q a+ev u D q b:=by unfold evN; rw[h]; rfl
  have ho:uU ([a,b].map ty)=1:=by rw[<-htn]; unfold tyN; rw[h]; rfl
  obtain ⟨c,hc⟩:=K1 a (by simp) (uM ho (ty a) (by simp));obtain ⟨c',hc'⟩:=K1 b (by simp) (uM ho (ty b) (by simp));exact ⟨c+c',by rw[e,hc,hc',Int.add_mul]⟩
 ·have hl1:ks.length=2:=by rw[hl,yh h]; rfl
  obtain ⟨a,b,rfl⟩:=Zd hl1;have e:evN u D q n ([a,b].map (ev u D q))=ev u D q a-ev u D q b:=by unfold evN; rw[h]; rfl
  have ho:uU ([a,b].map ty)=1:=by rw[<-htn]; unfold tyN; rw[h]; rfl
  obtain ⟨c,hc⟩:=K1 a (by simp) (uM ho (ty a) (by simp));obtain ⟨c',hc'⟩:=K1 b (by simp) (uM ho (ty b) (by simp));exact ⟨c-c',by rw[e,hc,hc',Int.sub_mul]⟩
 ·have hl1:ks.length=2:=by rw[hl,yh h]; rfl
  obtain ⟨a,b,rfl⟩:=Zd hl1;have e:evN u D q n ([a,b].map (ev u D q))=ev u D q a*ev u D q b:=by unfold evN; rw[h]; rfl
  have ho:ZN (ty a) (ty b)=1:=by rw[<-htn]; unfold tyN; rw[h]; rfl
  rcases zbj ho with h1 | h1
  ·obtain ⟨c,hc⟩:=K1 a (by simp) h1
   exact ⟨c*ev u D q b,by rw[e,hc,Int.mul_right_comm]⟩
  ·obtain ⟨c,hc⟩:=K1 b (by simp) h1
   exact ⟨ev u D q a*c,by rw[e,hc,Int.mul_assoc]⟩
 ·have e:evN u D q n (ks.map (ev u D q))=qG (ks.map (ev u D q)):=by unfold evN; rw[h]; rfl
  have ho:uU (ks.map ty)=1:=by rw[<-htn]; unfold tyN; rw[h]; rfl
  rw[uf h] at g4;have g4:(decide (nC n>=2)&&decide (nC n<=16))=true:=g4;simp at g4;have hln:1<=ks.length:=by rw[hl,yh h]; show 1<=(nC n).toNat; omega
  obtain ⟨k,hkm,hkv⟩:=List.mem_map.1 (ZQ (l:=ks.map (ev u D q)) (by simp; omega));rw[e,<-hkv];exact K1 k hkm (uM ho (ty k) (List.mem_map_of_mem hkm))
 ·have e:evN u D q n (ks.map (ev u D q))=vJ (ks.map (ev u D q)):=by unfold evN; rw[h]; rfl
  have ho:uU (ks.map ty)=1:=by rw[<-htn]; unfold tyN; rw[h]; rfl
  rw[uf h] at g4;have g4:(decide (nC n>=2)&&decide (nC n<=16))=true:=g4;simp at g4;have hln:1<=ks.length:=by rw[hl,yh h]; show 1<=(nC n).toNat; omega
  obtain ⟨k,hkm,hkv⟩:=List.mem_map.1 (ZR (l:=ks.map (ev u D q)) (by simp; omega));rw[e,<-hkv];exact K1 k hkm (uM ho (ty k) (List.mem_map_of_mem hkm))
 ·have:tyN n (ks.map ty)=bif wR ((ks.map ty).getD 0 0) then (ks.map ty).getD 0 0 else -1:=by unfold tyN; rw[h]; rfl
  rw[this] at htn;cases hc:wR ((ks.map ty).getD 0 0) with
  | false=>rw[hc] at htn; exact absurd (show (-1:Int)=1 from htn) (by decide)
  | true=>rw[hc] at htn; unfold wR at hc; have:=of_decide_eq_true hc; simp only[cond_true] at htn; omega
 ·have:tyN n (ks.map ty)=bif wR ((ks.map ty).getD 0 0) then (ks.map ty).getD 0 0 else -1:=by unfold tyN; rw[h]; rfl
  rw[this] at htn;cases hc:wR ((ks.map ty).getD 0 0) with
  | false=>rw[hc] at htn; exact absurd (show (-1:Int)=1 from htn) (by decide)
  | true=>rw[hc] at htn; unfold wR at hc; have:=of_decide_eq_true hc; simp only[cond_true] at htn; omega
 ·have e:evN u D q n (ks.map (ev u D q))=u*UA ((ks.map (ev u D q)).getD 0 0) (nT n):=by unfold evN; rw[h]; rfl
  rw[e];generalize UA ((ks.map (ev u D q)).getD 0 0) (nT n)=z;rw[hup];exact ⟨10000^(deep (.nd n ks)).toNat*z,by rw[Int.mul_right_comm]⟩
 ·have e:evN u D q n (ks.map (ev u D q))=u*vol ((ks.map (ev u D q)).getD 0 0) (nT n):=by unfold evN; rw[h]; rfl
  rw[e];generalize vol ((ks.map (ev u D q)).getD 0 0) (nT n)=z;rw[hup];exact ⟨10000^(deep (.nd n ks)).toNat*z,by rw[Int.mul_right_comm]⟩
 ·have hl1:ks.length=1:=by rw[hl,yh h]; rfl
  obtain ⟨a,rfl⟩:=List.length_eq_one_iff.1 hl1;have e:evN u D q n ([a].map (ev u D q))=Y6 2 (ev u D q a*(10000-nN n)) 10000:=by unfold evN; rw[h]; rfl
  have hx0:tyN n ([a].map ty)=(bif ty a==1 then (1:Int) else -1):=by unfold tyN; rw[h]; rfl
  have ho:(bif ty a==1 then (1:Int) else -1)=1:=by rw[<-hx0]; exact htn
  have h1:ty a=1:=by
   cases hta:(ty a==1) with
   | true=>simpa using hta
   | false=>rw[hta] at ho; exact absurd (show (-1:Int)=1 from ho) (by decide)
  rw[h] at hdn;have hdn:deep (.nd n [a])=deep a+1:=by rw[hdn]; rfl
  obtain ⟨c,hc⟩:=(hk a (by simp)).mul h1 (e:=deep (.nd n [a])-1) (by omega) (by omega);have hpp:(10000:Int)^(S-(deep (.nd n [a])-1)).toNat=P*10000:=by
   rw[<-hP,show (S-(deep (.nd n [a])-1)).toNat=(S-deep (.nd n [a])).toNat+1 by omega,Int.pow_succ]
  rw[hpp] at hc;have hx:ev u D q a*(10000-nN n)=(c*P*(10000-nN n))*10000:=by rw[hc,<-Int.mul_assoc,Int.mul_right_comm]
  rw[e,hx,Zm (by decide)];exact ⟨c*(10000-nN n),by rw[Int.mul_right_comm]⟩
 ·have hl1:ks.length=3:=by rw[hl,yh h]; rfl
  obtain ⟨a,b,c,rfl⟩:=len3 hl1;have e:evN u D q n ([a,b,c].map (ev u D q))=bif qQ (nO n) (ev u D q a) (nN n) then ev u D q b else ev u D q c:=by unfold evN; rw[h]; rfl
  have hx0:tyN n ([a,b,c].map ty)=(bif wR (ty a) then uU [ty b,ty c] else -1):=by unfold tyN; rw[h]; rfl
  have ho:(bif wR (ty a) then uU [ty b,ty c] else -1)=1:=by rw[<-hx0]; exact htn
  have ho1:uU [ty b,ty c]=1:=by
   cases hc:wR (ty a) with
   | false=>rw[hc] at ho; exact absurd (show (-1:Int)=1 from ho) (by decide)
   | true=>rw[hc] at ho; exact ho
  rw[e];cases qQ (nO n) (ev u D q a) (nN n) with
  | true=>exact K1 b (by simp) (uM ho1 (ty b) (by simp))
  | false=>exact K1 c (by simp) (uM ho1 (ty c) (by simp))
theorem zbH (t:Tree):∀s∈t.subs,deep s<=deep t:=by
 refine Tree.ind (P:=fun t=>∀s∈t.subs,deep s<=deep t) (fun n ks ih=>?_) t;intro s hs;rw[Yd] at hs;rcases List.mem_append.1 hs with hs | hs
 ·unfold uo at hs
  obtain ⟨l,hl,hsl⟩:=List.mem_flatten.1 hs;obtain ⟨k,hk,rfl⟩:=List.mem_map.1 hl;have h1:=ih k hk s hsl;have h2:=(X7 hk).2;have h3:=Qb n ks;omega
 ·rw[List.mem_singleton.1 hs]; exact Int.le_refl _
end Go.VS
