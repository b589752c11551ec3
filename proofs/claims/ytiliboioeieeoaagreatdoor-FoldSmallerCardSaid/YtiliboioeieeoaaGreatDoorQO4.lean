import Derived.Test.YtiliboioeieeoaaGreatDoorQO3
set_option linter.unusedVariables false
set_option linter.unusedSimpArgs false
set_option linter.unusedSectionVars false
set_option linter.unusedVariables false
set_option linter.unusedSimpArgs false
set_option maxRecDepth 100000
namespace Go.VS
open Go IntKind
theorem S7 (F:Nat) {R:Type} (me:ze.M) (kk:LTr zb.T->zd.T->zd.T->List zd.T->Option R) (L:List (LTr zb.T)) (N:Int) (x:LTr zb.T) (f r4:zd.T) (V:Tree->zd.T):∀(ks:List Tree) (i:Int) (acc:List zd.T),
  (∀k∈ks,me f (toL k)=some ((V k,()),()))->acc.length+ks.length<=4096->
  ze.l3.rg me F (fun x _ _ _ _ f r4 k=>kk x f r4 k) L N (ks.map toL) i x f r4 acc=kk x f r4 (acc++ks.map V)
 | [],i,acc,_,_=>by show kk x f r4 acc=_; simp
 | t::r,i,acc,hm,hl=>by
  simp only[List.length_cons] at hl;have ih:=S7 F me kk L N x f r4 V r (i+1) (acc++[V t]) (fun k hk=>hm k (by simp[hk])) (by simp; omega);simp only[List.map_cons];unfold ze.l3.rg;rw[hm t (by simp),zr,show Nat.ble (acc.length+([V t]:List zd.T).length) xv=true from vU (by simp; omega),cond_true];refine ih.trans ?_;rw[List.append_assoc]; rfl
theorem zbE (F:Nat) (hF:4096<F) {u:Int} {D:List yv.T} (c:Cxt u D) {q:List Int} (hq:okQ D q) (t:Tree):OKT u D t->(wx t).1=true->∀n:Nat,t.size<n->
  ze.it F n (mk u) (toL t)=some ((mk (ev u D q t),()),()):=by
 refine Tree.ind (P:=fun t=>OKT u D t->(wx t).1=true->∀n:Nat,t.size<n->ze.it F n (mk u) (toL t)=some ((mk (ev u D q t),()),())) (fun m ks ih h hf n hn=>?_) t;obtain ⟨⟨h1,h2⟩,h3⟩:=tI.1 h.wf;obtain ⟨g1,g2,g3,g4,g5,g6,g7,g8⟩:=xB h2;obtain ⟨hk,kinds⟩:=WO h hf;have hsz:=h.size;rw[wL] at hsz hn;have hlen:=wM ks;obtain ⟨n',rfl⟩:∃k,n=k+1:=⟨n-1,by omega⟩;have hBND:BND=1329227995784915872903807060280344576:=rfl;have hu:=c.hu;have hu2:=c.hu2;have hI:=Xd c hq (.nd m ks) h;have hIk:∀k∈ks,Inv u D q k:=fun k hkm=>Xd c hq k (h.kid hkm)
 have hN2:=VC c.hd4 g3 g1;have hfar:wX m (mag u D (.nd m ks))<=BND:=(vM.1 h.mgs).1;have iu:inR u=true:=by rw[zP]; omega
 have B:∀k∈ks,inR (ev u D q k)=true:=fun k hkm=>by
  have:=hIk k hkm;have a1:=this.lo;have a2:=this.hi;have a3:=this.bd;rw[zP]; omega
 have hV:inR (ev u D q (.nd m ks))=true:=by
  have a1:=hI.lo;have a2:=hI.hi;have a3:=hI.bd;rw[zP]; omega
 unfold ze.it ze.sh0;rw[wz,cond_true,vP];refine Eq.trans (ze.l3.rg_eq (ze.it F n') F _ (ks.map toL) _ rfl (by simp; omega) (ks.map toL) 0 F _ _ _ _ (by simp) (by simp; omega)) ?_;refine (S7 F (ze.it F n') (fun x2 f2 r42 k2=>ze.j7 (ze.it F n') F (fun r=>(some ((r,()),()):Option ze.sg.R)) x2 k2 f2 r42) (ks.map toL) ((ks.map toL).length:Int) (toL (.nd m ks)) (mk u) (0,0) (fun k=>mk (ev u D q k)) ks 0 []
  (fun k hkm=>ih k hkm (h.kid hkm) (hk k hkm) n' (by have:=ug hkm; omega)) (by simp; omega)).trans ?_
 rw[List.nil_append];unfold ze.j7;simp only[wz,cond_true,wG];rw[uy] at hV ⊢;have i0:∀(h:1<=ks.length),idx 0 (ks.map fun k=>mk (ev u D q k)).length=true:=fun h=>WK (by simp; omega)
 have hof:=ve F (v:=nN m) (by omega) (by omega);rcases kinds with hh | hh | hh | hh | hh | hh | hh | hh | hh
 ·have e:evN u D q m (ks.map (ev u D q))=nN m:=by unfold evN; rw[hh]; rfl
  rw[e];show (bif nK m==1 then _ else _)=_;rw[hh];simp only[Int.reduceBEq,cond_true];show (oB (zY.sh F (nN m)) _)=_;rw[hof,zr]
 ·have e:evN u D q m (ks.map (ev u D q))=nN m*u:=by unfold evN; rw[hh]; rfl
  rw[e] at hV ⊢;show (bif nK m==1 then _ else bif nK m==2 then _ else _)=_;rw[hh];simp only[Int.reduceBEq,cond_true,cond_false];rw[wz,cond_true,wG];show (oB (zY.sh F (nN m)) _)=_;rw[hof,zr,ZV F (xk (by rw[zP]; omega)) (xk iu),zr,y9,y9,(x8 hV).1]
 ·obtain ⟨a,rfl⟩:=List.length_eq_one_iff.1 (show ks.length=1 by rw[h1,yp hh]; rfl)
  have e:evN u D q m ([a].map (ev u D q))=0-ev u D q a:=by unfold evN; rw[hh]; rfl
  rw[e] at hV ⊢;show (bif nK m==1 then _ else bif nK m==2 then _ else bif nK m==5 then bif idx 0 ([a].map fun k=>mk (ev u D q k)).length then _ else _ else _)=_;rw[hh];simp only[Int.reduceBEq,cond_true,cond_false];rw[i0 (by simp),cond_true];show (oB (xI.sh F (mk (ev u D q a))) _)=_;rw[zcd F (xk (B a (by simp))),zr,y9,show -ev u D q a=0-ev u D q a by omega,(x8 hV).1]
 ·obtain ⟨a,b,rfl⟩:=XL (show ks.length=2 by rw[h1,yp hh]; rfl)
  have e:evN u D q m ([a,b].map (ev u D q))=ev u D q a+ev u D q b:=by unfold evN; rw[hh]; rfl
  rw[e] at hV ⊢;show (bif nK m==1 then _ else bif nK m==2 then _ else bif nK m==5 then _ else bif nK m==6 then bif idx 0 ([a,b].map fun k=>mk (ev u D q k)).length then _ else _ else _)=_;rw[hh];simp only[Int.reduceBEq,cond_true,cond_false];rw[i0 (by simp),cond_true];show (oB (xx.sh F (mk (ev u D q a)) (mk (ev u D q b))) _)=_;rw[UO F (xk (B a (by simp))) (xk (B b (by simp))),zr,y9,y9,(x8 hV).1]
 ·obtain ⟨a,b,rfl⟩:=XL (show ks.length=2 by rw[h1,yp hh]; rfl)
  have e:evN u D q m ([a,b].map (ev u D q))=ev u D q a-ev u D q b:=by unfold evN; rw[hh]; rfl
  rw[e] at hV ⊢;show (bif nK m==1 then _ else bif nK m==2 then _ else bif nK m==5 then _ else bif nK m==6 then _ else bif nK m==7 then bif idx 0 ([a,b].map fun k=>mk (ev u D q k)).length then _ else _ else _)=_;rw[hh];simp only[Int.reduceBEq,cond_true,cond_false];rw[i0 (by simp),cond_true];show (oB (xw.sh F (mk (ev u D q a)) (mk (ev u D q b))) _)=_;rw[Se F (xk (B a (by simp))) (xk (B b (by simp))),zr,y9,y9,(x8 hV).1]
 ·obtain ⟨a,b,rfl⟩:=XL (show ks.length=2 by rw[h1,yp hh]; rfl)
  have e:evN u D q m ([a,b].map (ev u D q))=ev u D q a*ev u D q b:=by unfold evN; rw[hh]; rfl
  rw[e] at hV ⊢;show (bif nK m==1 then _ else bif nK m==2 then _ else bif nK m==5 then _ else bif nK m==6 then _ else bif nK m==7 then _ else bif nK m==8 then bif idx 0 ([a,b].map fun k=>mk (ev u D q k)).length then _ else _ else _)=_;rw[hh];simp only[Int.reduceBEq,cond_true,cond_false];rw[i0 (by simp),cond_true];show (oB (ym.sh F (mk (ev u D q a)) (mk (ev u D q b))) _)=_;rw[ZV F (xk (B a (by simp))) (xk (B b (by simp))),zr,y9,y9,(x8 hV).1]
 ·have h2k:1<=ks.length/\ks.length<=16:=by
   rw[uG hh] at g4;have g4:(decide (nC m>=2)&&decide (nC m<=16))=true:=g4;simp at g4;rw[h1,yp hh];show 1<=(nC m).toNat/\(nC m).toNat<=16;omega
  have e:evN u D q m (ks.map (ev u D q))=Yi (ks.map (ev u D q)):=by unfold evN; rw[hh]; rfl
  rw[e];show (bif nK m==1 then _ else bif nK m==2 then _ else bif nK m==5 then _ else bif nK m==6 then _ else bif nK m==7 then _ else bif nK m==8 then _ else bif nK m==9 then _ else _)=_;rw[hh];simp only[Int.reduceBEq,cond_true,cond_false];rw[show (ks.map fun k=>mk (ev u D q k))=(ks.map (ev u D q)).map mk by rw[List.map_map]; rfl,SA F (fun v hv=>by obtain ⟨k,hkm,rfl⟩:=List.mem_map.1 hv; exact B k hkm) (by simp; omega) (by simp; omega) (by simp; omega),zr]
 ·have h2k:1<=ks.length/\ks.length<=16:=by
   rw[uG hh] at g4;have g4:(decide (nC m>=2)&&decide (nC m<=16))=true:=g4;simp at g4;rw[h1,yp hh];show 1<=(nC m).toNat/\(nC m).toNat<=16;omega
  have e:evN u D q m (ks.map (ev u D q))=uf (ks.map (ev u D q)):=by unfold evN; rw[hh]; rfl
  rw[e];show (bif nK m==1 then _ else bif nK m==2 then _ else bif nK m==5 then _ else bif nK m==6 then _ else bif nK m==7 then _ else bif nK m==8 then _ else bif nK m==9 then _ else bif nK m==10 then _ else _)=_;rw[hh];simp only[Int.reduceBEq,cond_true,cond_false];rw[show (ks.map fun k=>mk (ev u D q k))=(ks.map (ev u D q)).map mk by rw[List.map_map]; rfl,SC F (fun v hv=>by obtain ⟨k,hkm,rfl⟩:=List.mem_map.1 hv; exact B k hkm) (by simp; omega) (by simp; omega) (by simp; omega),zr]
 ·obtain ⟨a,rfl⟩:=List.length_eq_one_iff.1 (show ks.length=1 by rw[h1,yp hh]; rfl)
  have e:evN u D q m ([a].map (ev u D q))=UD 2 (ev u D q a*(10000-nN m)) 10000:=by unfold evN; rw[hh]; rfl
  have mm:mag u D (.nd m [a])=mag u D a:=by rw[uq]; unfold yM; rw[hh]; rfl
  have hf2:wX m (mag u D (.nd m [a]))=mag u D a*10000:=by unfold wX; rw[hh,mm]; rfl
  rw[hf2] at hfar;have g3':nN m<=10000:=by rw[uD hh] at g3; exact g3
  have Ia:=hIk a (by simp);have ho:=zc8 g2 g3' (mag u D a) Ia.lo Ia.hi;have hbd:=Ia.bd;rw[e];show (bif nK m==1 then _ else bif nK m==2 then _ else bif nK m==5 then _ else bif nK m==6 then _ else bif nK m==7 then _ else bif nK m==8 then _ else bif nK m==9 then _ else bif nK m==10 then _ else bif nK m==15 then bif idx 0 ([a].map fun k=>mk (ev u D q k)).length then _ else _ else _)=_;rw[hh];simp only[Int.reduceBEq,cond_true,cond_false];rw[i0 (by simp),cond_true,wz,cond_true,wG];show (oB (zY.sh F (i64.wrap (10000-nN m))) fun c_12=>oB (ym.sh F (mk (ev u D q a)) c_12.1.1) _)=_;have i1:inR (ev u D q a*(10000-nN m))=true:=by rw[zP]; omega
  rw[yV (n:=10000-nN m) (by omega) (by omega),ve F (v:=10000-nN m) (by omega) (by omega),zr,ZV F (xk (B a (by simp))) (xk (by rw[zP]; omega)),zr,y9,y9,(x8 i1).1,
   ve F (v:=10000) (by omega) (by omega),zr,zcL F (by omega) i1 (by rw[zP]; omega) (by decide) (by rw[zP]; omega) (by omega) (by omega),zr]
theorem zbF {u:Int} {D:List yv.T} (c:Cxt u D) {q:List Int} (hq:okQ D q) {t:Tree} (h:OKT u D t) (hf:(wx t).1=true):ze.sh FU (mk u) (toL t)=some ((mk (ev u D q t),()),()) :=
 zbE FU vN c hq t h hf FU (by have:(4096:Nat)<FU:=vN; have:=h.size; omega)
end Go.VS
