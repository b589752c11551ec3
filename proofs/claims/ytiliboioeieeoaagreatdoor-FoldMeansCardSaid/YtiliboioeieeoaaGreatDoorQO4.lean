import Derived.Test.YtiliboioeieeoaaGreatDoorQO3
set_option linter.unusedVariables false
set_option linter.unusedSimpArgs false
set_option linter.unusedSectionVars false
set_option linter.unusedVariables false
set_option linter.unusedSimpArgs false
set_option maxRecDepth 100000
namespace Go.VS
open Go IntKind
theorem Rz (F:Nat) {R:Type} (me:ze.M) (kk:LTr zb.T->zd.T->zd.T->List zd.T->Option R) (L:List (LTr zb.T)) (N:Int) (x:LTr zb.T) (f r4:zd.T) (V:Tree->zd.T):∀(ks:List Tree) (i:Int) (acc:List zd.T),
  (∀k∈ks,me f (toL k)=some ((V k,()),()))->acc.length+ks.length<=4096->
  ze.l3.rg me F (fun x _ _ _ _ f r4 k=>kk x f r4 k) L N (ks.map toL) i x f r4 acc=kk x f r4 (acc++ks.map V)
 | [],i,acc,_,_=>by show kk x f r4 acc=_; simp
 | t::r,i,acc,hm,hl=>by
  simp only[List.length_cons] at hl;have ih:=Rz F me kk L N x f r4 V r (i+1) (acc++[V t]) (fun k hk=>hm k (by simp[hk])) (by simp; omega);simp only[List.map_cons];unfold ze.l3.rg;rw[hm t (by simp),zp,show Nat.ble (acc.length+([V t]:List zd.T).length) xu=true from vW (by simp; omega),cond_true];refine ih.trans ?_;rw[List.append_assoc]; rfl
theorem zcc (F:Nat) (hF:4096<F) {u:Int} {D:List yy.T} (c:Cxt u D) {q:List Int} (hq:okQ D q) (t:Tree):OKT u D t->(wJ t).1=true->∀n:Nat,t.size<n->
  ze.it F n (mk u) (toL t)=some ((mk (ev u D q t),()),()):=by
 refine Tree.ind (P:=fun t=>OKT u D t->(wJ t).1=true->∀n:Nat,t.size<n->ze.it F n (mk u) (toL t)=some ((mk (ev u D q t),()),())) (fun m ks ih h hf n hn=>?_) t;obtain ⟨⟨h1,h2⟩,h3⟩:=tY.1 h.wf;obtain ⟨g1,g2,g3,g4,g5,g6,g7,g8⟩:=xF h2;obtain ⟨hk,kinds⟩:=Vc h hf;have hsz:=h.size;rw[wX] at hsz hn;have hlen:=wP ks;obtain ⟨n',rfl⟩:∃k,n=k+1:=⟨n-1,by omega⟩;have hBND:BND=1329227995784915872903807060280344576:=rfl;have hu:=c.hu;have hu2:=c.hu2;have hI:=Zm c hq (.nd m ks) h;have hIk:∀k∈ks,Inv u D q k:=fun k hkm=>Zm c hq k (h.kid hkm)
 have hN2:=V0 c.hd4 g3 g1;have hfar:vj m (mag u D (.nd m ks))<=BND:=(vX.1 h.mgs).1;have iu:inR u=true:=by rw[zP]; omega
 have B:∀k∈ks,inR (ev u D q k)=true:=fun k hkm=>by
  have:=hIk k hkm;have a1:=this.lo;have a2:=this.hi;have a3:=this.bd;rw[zP]; omega
 have hV:inR (ev u D q (.nd m ks))=true:=by
  have a1:=hI.lo;have a2:=hI.hi;have a3:=hI.bd;rw[zP]; omega
 unfold ze.it ze.sh0;rw[wL,cond_true,ug];refine Eq.trans (ze.l3.rg_eq (ze.it F n') F _ (ks.map toL) _ rfl (by simp; omega) (ks.map toL) 0 F _ _ _ _ (by simp) (by simp; omega)) ?_;refine (Rz F (ze.it F n') (fun x2 f2 r42 k2=>ze.j7 (ze.it F n') F (fun r=>(some ((r,()),()):Option ze.sg.R)) x2 k2 f2 r42) (ks.map toL) ((ks.map toL).length:Int) (toL (.nd m ks)) (mk u) (0,0) (fun k=>mk (ev u D q k)) ks 0 []
  (fun k hkm=>ih k hkm (h.kid hkm) (hk k hkm) n' (by have:=uz hkm; omega)) (by simp; omega)).trans ?_
 rw[List.nil_append];unfold ze.j7;simp only[wL,cond_true,wS];rw[uk] at hV ⊢;have i0:∀(h:1<=ks.length),idx 0 (ks.map fun k=>mk (ev u D q k)).length=true:=fun h=>W8 (by simp; omega)
 have hof:=vr F (v:=nN m) (by omega) (by omega);rcases kinds with hh | hh | hh | hh | hh | hh | hh | hh | hh
 ·have e:evN u D q m (ks.map (ev u D q))=nN m:=by unfold evN; rw[hh]; rfl
  rw[e];show (bif nK m==1 then _ else _)=_;rw[hh];simp only[Int.reduceBEq,cond_true];show (oB (zR.sh F (nN m)) _)=_;rw[hof,zp]
 ·have e:evN u D q m (ks.map (ev u D q))=nN m*u:=by unfold evN; rw[hh]; rfl
  rw[e] at hV ⊢;show (bif nK m==1 then _ else bif nK m==2 then _ else _)=_;rw[hh];simp only[Int.reduceBEq,cond_true,cond_false];rw[wL,cond_true,wS];show (oB (zR.sh F (nN m)) _)=_;rw[hof,zp,qv F (xq (by rw[zP]; omega)) (xq iu),zp,xh,xh,(wt hV).1]
 ·obtain ⟨a,rfl⟩:=List.length_eq_one_iff.1 (show ks.length=1 by rw[h1,z8 hh]; rfl)
  have e:evN u D q m ([a].map (ev u D q))=0-ev u D q a:=by unfold evN; rw[hh]; rfl
  rw[e] at hV ⊢;show (bif nK m==1 then _ else bif nK m==2 then _ else bif nK m==5 then bif idx 0 ([a].map fun k=>mk (ev u D q k)).length then _ else _ else _)=_;rw[hh];simp only[Int.reduceBEq,cond_true,cond_false];rw[i0 (by simp),cond_true];show (oB (xT.sh F (mk (ev u D q a))) _)=_;rw[zcR F (xq (B a (by simp))),zp,xh,show -ev u D q a=0-ev u D q a by omega,(wt hV).1]
 ·obtain ⟨a,b,rfl⟩:=Zp (show ks.length=2 by rw[h1,z8 hh]; rfl)
  have e:evN u D q m ([a,b].map (ev u D q))=ev u D q a+ev u D q b:=by unfold evN; rw[hh]; rfl
  rw[e] at hV ⊢;show (bif nK m==1 then _ else bif nK m==2 then _ else bif nK m==5 then _ else bif nK m==6 then bif idx 0 ([a,b].map fun k=>mk (ev u D q k)).length then _ else _ else _)=_;rw[hh];simp only[Int.reduceBEq,cond_true,cond_false];rw[i0 (by simp),cond_true];show (oB (xA.sh F (mk (ev u D q a)) (mk (ev u D q b))) _)=_;rw[Th F (xq (B a (by simp))) (xq (B b (by simp))),zp,xh,xh,(wt hV).1]
 ·obtain ⟨a,b,rfl⟩:=Zp (show ks.length=2 by rw[h1,z8 hh]; rfl)
  have e:evN u D q m ([a,b].map (ev u D q))=ev u D q a-ev u D q b:=by unfold evN; rw[hh]; rfl
  rw[e] at hV ⊢;show (bif nK m==1 then _ else bif nK m==2 then _ else bif nK m==5 then _ else bif nK m==6 then _ else bif nK m==7 then bif idx 0 ([a,b].map fun k=>mk (ev u D q k)).length then _ else _ else _)=_;rw[hh];simp only[Int.reduceBEq,cond_true,cond_false];rw[i0 (by simp),cond_true];show (oB (xz.sh F (mk (ev u D q a)) (mk (ev u D q b))) _)=_;rw[SG F (xq (B a (by simp))) (xq (B b (by simp))),zp,xh,xh,(wt hV).1]
 ·obtain ⟨a,b,rfl⟩:=Zp (show ks.length=2 by rw[h1,z8 hh]; rfl)
  have e:evN u D q m ([a,b].map (ev u D q))=ev u D q a*ev u D q b:=by unfold evN; rw[hh]; rfl
  rw[e] at hV ⊢;show (bif nK m==1 then _ else bif nK m==2 then _ else bif nK m==5 then _ else bif nK m==6 then _ else bif nK m==7 then _ else bif nK m==8 then bif idx 0 ([a,b].map fun k=>mk (ev u D q k)).length then _ else _ else _)=_;rw[hh];simp only[Int.reduceBEq,cond_true,cond_false];rw[i0 (by simp),cond_true];show (oB (yf.sh F (mk (ev u D q a)) (mk (ev u D q b))) _)=_;rw[qv F (xq (B a (by simp))) (xq (B b (by simp))),zp,xh,xh,(wt hV).1]
 ·have h2k:1<=ks.length/\ks.length<=16:=by
   rw[uc hh] at g4;have g4:(decide (nC m>=2)&&decide (nC m<=16))=true:=g4;simp at g4;rw[h1,z8 hh];show 1<=(nC m).toNat/\(nC m).toNat<=16;omega
  have e:evN u D q m (ks.map (ev u D q))=qN (ks.map (ev u D q)):=by unfold evN; rw[hh]; rfl
  rw[e];show (bif nK m==1 then _ else bif nK m==2 then _ else bif nK m==5 then _ else bif nK m==6 then _ else bif nK m==7 then _ else bif nK m==8 then _ else bif nK m==9 then _ else _)=_;rw[hh];simp only[Int.reduceBEq,cond_true,cond_false];rw[show (ks.map fun k=>mk (ev u D q k))=(ks.map (ev u D q)).map mk by rw[List.map_map]; rfl,S2 F (fun v hv=>by obtain ⟨k,hkm,rfl⟩:=List.mem_map.1 hv; exact B k hkm) (by simp; omega) (by simp; omega) (by simp; omega),zp]
 ·have h2k:1<=ks.length/\ks.length<=16:=by
   rw[uc hh] at g4;have g4:(decide (nC m>=2)&&decide (nC m<=16))=true:=g4;simp at g4;rw[h1,z8 hh];show 1<=(nC m).toNat/\(nC m).toNat<=16;omega
  have e:evN u D q m (ks.map (ev u D q))=vT (ks.map (ev u D q)):=by unfold evN; rw[hh]; rfl
  rw[e];show (bif nK m==1 then _ else bif nK m==2 then _ else bif nK m==5 then _ else bif nK m==6 then _ else bif nK m==7 then _ else bif nK m==8 then _ else bif nK m==9 then _ else bif nK m==10 then _ else _)=_;rw[hh];simp only[Int.reduceBEq,cond_true,cond_false];rw[show (ks.map fun k=>mk (ev u D q k))=(ks.map (ev u D q)).map mk by rw[List.map_map]; rfl,S4 F (fun v hv=>by obtain ⟨k,hkm,rfl⟩:=List.mem_map.1 hv; exact B k hkm) (by simp; omega) (by simp; omega) (by simp; omega),zp]
 ·obtain ⟨a,rfl⟩:=List.length_eq_one_iff.1 (show ks.length=1 by rw[h1,z8 hh]; rfl)
  have e:evN u D q m ([a].map (ev u D q))=tw 2 (ev u D q a*(10000-nN m)) 10000:=by unfold evN; rw[hh]; rfl
  have mm:mag u D (.nd m [a])=mag u D a:=by rw[uI]; unfold yQ; rw[hh]; rfl
  have hf2:vj m (mag u D (.nd m [a]))=mag u D a*10000:=by unfold vj; rw[hh,mm]; rfl
  rw[hf2] at hfar;have g3':nN m<=10000:=by rw[uR hh] at g3; exact g3
  have Ia:=hIk a (by simp);have ho:=zcM g2 g3' (mag u D a) Ia.lo Ia.hi;have hbd:=Ia.bd;rw[e];show (bif nK m==1 then _ else bif nK m==2 then _ else bif nK m==5 then _ else bif nK m==6 then _ else bif nK m==7 then _ else bif nK m==8 then _ else bif nK m==9 then _ else bif nK m==10 then _ else bif nK m==15 then bif idx 0 ([a].map fun k=>mk (ev u D q k)).length then _ else _ else _)=_;rw[hh];simp only[Int.reduceBEq,cond_true,cond_false];rw[i0 (by simp),cond_true,wL,cond_true,wS];show (oB (zR.sh F (i64.wrap (10000-nN m))) fun c_12=>oB (yf.sh F (mk (ev u D q a)) c_12.1.1) _)=_;have i1:inR (ev u D q a*(10000-nN m))=true:=by rw[zP]; omega
  rw[yV (n:=10000-nN m) (by omega) (by omega),vr F (v:=10000-nN m) (by omega) (by omega),zp,qv F (xq (B a (by simp))) (xq (by rw[zP]; omega)),zp,xh,xh,(wt i1).1,
   vr F (v:=10000) (by omega) (by omega),zp,zaj F (by omega) i1 (by rw[zP]; omega) (by decide) (by rw[zP]; omega) (by omega) (by omega),zp]
theorem zcd {u:Int} {D:List yy.T} (c:Cxt u D) {q:List Int} (hq:okQ D q) {t:Tree} (h:OKT u D t) (hf:(wJ t).1=true):ze.sh FU (mk u) (toL t)=some ((mk (ev u D q t),()),()) :=
 zcc FU vZ c hq t h hf FU (by have:(4096:Nat)<FU:=vZ; have:=h.size; omega)
end Go.VS
