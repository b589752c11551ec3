import Derived.Test.YtiliboioeieeoaaGreatDoorQO6
set_option linter.unusedVariables false
set_option linter.unusedSimpArgs false
set_option linter.unusedSectionVars false
set_option linter.unusedVariables false
set_option linter.unusedSimpArgs false
set_option maxRecDepth 100000
namespace Go.VS
open Go
theorem tJ {n:zb.T} {ks:List Tree} {k:Tree} (hk:k∈ks):k.size<(Tree.nd n ks).size:=Ug (t:=.nd n ks) hk
theorem WS {n:zb.T} {ks:List Tree} {k:Tree} (hk:k∈ks):deep k<=deep (.nd n ks):=by
 rw[tw];have:=(zcQ hk).2;cases nK n==15<;>simp only[cond_true,cond_false]<;>omega
theorem XR {n:zb.T} {ks:List Tree} {k:Tree} (hk:k∈ks) (h:(wx (.nd n ks)).1=true):(wx k).1=true:=by
 rw[uU] at h;unfold Ut at h;cases hq:isQ n with
 | true=>rw[hq] at h; cases h
 | false =>
  rw[hq] at h;simp only[cond_false] at h;exact List.all_eq_true.1 h _ (List.mem_map.2 ⟨k,hk,rfl⟩)
theorem qZ {u:Int} {D:List yv.T} {n:zb.T} {ks:List Tree} {k:Tree} (h:OKT u D (.nd n ks)) (hk:k∈ks) (h1:ty k=tyN n (ks.map ty)) (h2:mag u D k<=yM u D n (ks.map (mag u D)))
  (h3:∀q,okQ D q->ev u D q k=evN u D q n (ks.map (ev u D q))):FK u D (.nd n ks) k/\k.size<(Tree.nd n ks).size :=
 ⟨⟨h.kid hk,Nat.le_of_lt (tJ hk),by rw[qd]; exact h1,XR hk,by rw[uq]; exact h2,WS hk,fun q hq=>by rw[uy]; exact h3 q hq⟩,tJ hk⟩
theorem OKT.len {u:Int} {D:List yv.T} {n:zb.T} {ks:List Tree} (h:OKT u D (.nd n ks)):ks.length=ar n:=(tI.1 h.wf).1.1
theorem OKT.node {u:Int} {D:List yv.T} {n:zb.T} {ks:List Tree} (h:OKT u D (.nd n ks)):wq D.length n (ar n)=0:=(tI.1 h.wf).1.2
theorem OKT.tyne {u:Int} {D:List yv.T} {n:zb.T} {ks:List Tree} (h:OKT u D (.nd n ks)):tyN n (ks.map ty)≠-1:=by
 have:=U4 (vM.1 h.tys).1;rw[qd] at this;exact this
theorem zbK {u:Int} {D:List yv.T} {n:zb.T} {a b:Tree} (h:OKT u D (.nd n [a,b])) (e:∀vs:List Int,tyN n vs=Ye vs):tyN n ([a,b].map ty)=ty a/\ty b=ty a:=by
 have hne:=h.tyne;rw[e] at hne ⊢;obtain ⟨o1,o2⟩:=Xc (a:=ty a) (r:=[ty b]) hne;exact ⟨o1,o2 (ty b) (by simp)⟩
theorem zcc {u:Int} {D:List yv.T} (c:Cxt u D) {t y:Tree} (h:OKT u D t) (e:negT t=some y):FK u D t y/\y.size<t.size:=by
 obtain ⟨n,ks⟩:=t;have e:(bif nK n==5&&nK (kd (.nd n ks) 0).root==5 then some (kd (kd (.nd n ks) 0) 0) else none)=some y:=e;cases h5:(nK n==5&&nK (kd (.nd n ks) 0).root==5) with
 | false=>rw[h5] at e; cases e
 | true =>
 rw[h5] at e;simp only[cond_true,Option.some.injEq] at e;simp only[Bool.and_eq_true,beq_iff_eq] at h5;obtain ⟨hh,hh2⟩:=h5;obtain ⟨a,rfl⟩:=List.length_eq_one_iff.1 (show ks.length=1 by rw[h.len,yp hh]; rfl);obtain ⟨m,ls⟩:=a;have ha:=h.kid (k:=.nd m ls) (by simp);replace hh2:nK m=5:=hh2
 obtain ⟨b,rfl⟩:=List.length_eq_one_iff.1 (show ls.length=1 by rw[ha.len,yp hh2]; rfl);have e:b=y:=e;subst e;have hb:=ha.kid (k:=b) (by simp);have s1:=tJ (n:=m) (ks:=[b]) (k:=b) (by simp);have s2:=tJ (n:=n) (ks:=[.nd m [b]]) (k:=.nd m [b]) (by simp);have tyN5:∀{n:zb.T} (x:Int),nK n=5->tyN n [x]=x:=fun x hh=>by unfold tyN; rw[hh]; rfl
 have mag5:∀{n:zb.T} (x:Int),nK n=5->yM u D n [x]=x:=fun x hh=>by
  unfold yM; rw[hh]; show wb [x]=x; simp[wb]
 have ev5:∀{n:zb.T} (q:List Int) (x:Int),nK n=5->evN u D q n [x]=0-x:=fun q x hh=>by unfold evN; rw[hh]; rfl
 refine ⟨⟨hb,by omega,?_,fun hf=>XR (n:=m) (ks:=[b]) (by simp) (XR (n:=n) (ks:=[.nd m [b]]) (by simp) hf),?_,Int.le_trans (WS (n:=m) (ks:=[b]) (by simp)) (WS (n:=n) (ks:=[.nd m [b]]) (by simp)),?_⟩,by omega⟩
 ·rw[qd,List.map_cons,List.map_nil,tyN5 _ hh,qd,List.map_cons,List.map_nil,tyN5 _ hh2]
 ·rw[uq,List.map_cons,List.map_nil,mag5 _ hh,uq,List.map_cons,List.map_nil,mag5 _ hh2]; exact Int.le_refl _
 ·intro q hq
  rw[uy,List.map_cons,List.map_nil,ev5 _ _ hh,uy,List.map_cons,List.map_nil,ev5 _ _ hh2]; omega
theorem zc7 {u:Int} {D:List yv.T} (c:Cxt u D) {t y:Tree} (h:OKT u D t) (e:offT t=some y):FK u D t y/\y.size<t.size:=by
 obtain ⟨n,ks⟩:=t;have e:(bif nK n==15&&nN n==0 then some (kd (.nd n ks) 0) else none)=some y:=e;cases h5:(nK n==15&&nN n==0) with
 | false=>rw[h5] at e; cases e
 | true =>
 rw[h5] at e;simp only[cond_true,Option.some.injEq] at e;simp only[Bool.and_eq_true,beq_iff_eq] at h5;obtain ⟨hh,hh2⟩:=h5;obtain ⟨a,rfl⟩:=List.length_eq_one_iff.1 (show ks.length=1 by rw[h.len,yp hh]; rfl);have e:a=y:=e;subst e;have hne:=h.tyne;refine qZ h (by simp) ?_ ?_ ?_
 ·have:tyN n ([a].map ty)=bif ty a==1 then 1 else -1:=by unfold tyN; rw[hh]; rfl
  rw[this] at hne ⊢;cases h1:(ty a==1) with
  | false=>rw[h1] at hne; exact absurd rfl hne
  | true=>simpa using h1
 ·have:yM u D n ([a].map (mag u D))=mag u D a:=by unfold yM; rw[hh]; rfl
  rw[this]; exact Int.le_refl _
 ·intro q hq
  have:evN u D q n ([a].map (ev u D q))=UD 2 (ev u D q a*(10000-nN n)) 10000:=by unfold evN; rw[hh]; rfl
  rw[this,hh2,show (10000:Int)-0=10000 from rfl,QY (by decide)]
theorem U2 {u:Int} {D:List yv.T} (c:Cxt u D) {t y:Tree} (h:OKT u D t) (e:Z8 t=some y):FK u D t y/\y.size<t.size:=by
 obtain ⟨n,ks⟩:=t;have e:(bif nK n==16&&vd (kd (.nd n ks) 1) (kd (.nd n ks) 2) then some (kd (.nd n ks) 1) else none)=some y:=e;cases h5:(nK n==16&&vd (kd (.nd n ks) 1) (kd (.nd n ks) 2)) with
 | false=>rw[h5] at e; cases e
 | true =>
 rw[h5] at e;simp only[cond_true,Option.some.injEq] at e;simp only[Bool.and_eq_true,beq_iff_eq] at h5;obtain ⟨hh,hh2⟩:=h5;obtain ⟨a,b,d,rfl⟩:=len3 (show ks.length=3 by rw[h.len,yp hh]; rfl);have e:b=y:=e;subst e;replace hh2:vd b d=true:=hh2
 have hne:=h.tyne;have ma:=ZD c (h.kid (k:=a) (by simp));have md:=ZD c (h.kid (k:=d) (by simp));have hN:=(xB h.node).2.1;refine qZ h (by simp) ?_ ?_ ?_
 ·have e1:tyN n ([a,b,d].map ty)=bif qb (ty a) then Ye [ty b,ty d] else -1:=by unfold tyN; rw[hh]; rfl
  rw[e1] at hne ⊢;cases h1:qb (ty a) with
  | false=>rw[h1] at hne; exact absurd rfl hne
  | true =>
   rw[h1] at hne;exact (Xc (a:=ty b) (r:=[ty d]) hne).1.symm
 ·have:yM u D n ([a,b,d].map (mag u D))=wb [mag u D a,mag u D b,mag u D d]+nN n:=by unfold yM; rw[hh]; rfl
  rw[this];simp only[wb,List.sum_cons,List.sum_nil];omega
 ·intro q hq
  have:evN u D q n ([a,b,d].map (ev u D q))=bif XP (nO n) (ev u D q a) (nN n) then ev u D q b else ev u D q d:=by unfold evN; rw[hh]; rfl
  rw[this,<-zaC (tC.1 hh2) u D q];cases XP (nO n) (ev u D q a) (nN n)<;>rfl
theorem T6 {u:Int} {D:List yv.T} {q:List Int} {t:Tree} (h:qc t=true):ev u D q t=0:=by
 obtain ⟨n,ks⟩:=t;have h:((nK n==1||nK n==2)&&nN n==0)=true:=h
 simp only[Bool.and_eq_true,Bool.or_eq_true,beq_iff_eq] at h;obtain ⟨h1,h2⟩:=h;rw[uy];unfold evN;rcases h1 with h1 | h1
 ·rw[h1]; exact h2
 ·rw[h1]; show nN n*u=0; rw[h2]; simp
theorem Sx {u:Int} {D:List yv.T} (c:Cxt u D) {t y:Tree} (h:OKT u D t) (e:XD t=some y):FK u D t y/\y.size<t.size:=by
 obtain ⟨n,ks⟩:=t;have e:(bif nK n==6&&qc (kd (.nd n ks) 0) then some (kd (.nd n ks) 1) else bif (nK n==6||nK n==7)&&qc (kd (.nd n ks) 1) then some (kd (.nd n ks) 0) else none)=some y:=e
 have hN:=(xB h.node).2.1;have mag2:∀{a b:Tree},(nK n=6\/nK n=7)->yM u D n ([a,b].map (mag u D))=mag u D a+mag u D b:=by
  intro a b hh;have:yM u D n ([a,b].map (mag u D))=wb [mag u D a,mag u D b]:=by
   unfold yM; rcases hh with hh | hh<;>(rw[hh]; rfl)
  rw[this]; simp only[wb,List.sum_cons,List.sum_nil]; omega
 have ty2:(nK n=6\/nK n=7)->∀vs:List Int,tyN n vs=Ye vs:=by
  intro hh vs; unfold tyN; rcases hh with hh | hh<;>(rw[hh]; rfl)
 cases h5:(nK n==6&&qc (kd (.nd n ks) 0)) with
 | true =>
  rw[h5] at e;simp only[cond_true,Option.some.injEq] at e;simp only[Bool.and_eq_true,beq_iff_eq] at h5;obtain ⟨hh,hz⟩:=h5;obtain ⟨a,b,rfl⟩:=XL (show ks.length=2 by rw[h.len,yp hh]; rfl);have e:b=y:=e;subst e;have hz:qc a=true:=hz;have ma:=ZD c (h.kid (k:=a) (by simp));obtain ⟨t1,t2⟩:=zbK h (ty2 (.inl hh));refine qZ h (by simp) ?_ ?_ ?_
  ·rw[t1,t2]
  ·rw[mag2 (.inl hh)]; omega
  ·intro q hq
   have:evN u D q n ([a,b].map (ev u D q))=ev u D q a+ev u D q b:=by unfold evN; rw[hh]; rfl
   rw[this,T6 hz]; omega
 | false =>
  rw[h5] at e;simp only[cond_false] at e;cases h6:((nK n==6||nK n==7)&&qc (kd (.nd n ks) 1)) with
  | false=>rw[h6] at e; cases e
  | true =>
   rw[h6] at e;simp only[cond_true,Option.some.injEq] at e;simp only[Bool.and_eq_true,Bool.or_eq_true,beq_iff_eq] at h6;obtain ⟨hh,hz⟩:=h6;obtain ⟨a,b,rfl⟩:=XL (show ks.length=2 by rcases hh with hh | hh<;>(rw[h.len,yp hh]; rfl))
   have e:a=y:=e;subst e;have hz:qc b=true:=hz;have mb:=ZD c (h.kid (k:=b) (by simp));obtain ⟨t1,t2⟩:=zbK h (ty2 hh);refine qZ h (by simp) ?_ ?_ ?_
   ·rw[t1]
   ·rw[mag2 hh]; omega
   ·intro q hq
    rcases hh with hh | hh
    ·have:evN u D q n ([a,b].map (ev u D q))=ev u D q a+ev u D q b:=by unfold evN; rw[hh]; rfl
     rw[this,T6 hz]; omega
    ·have:evN u D q n ([a,b].map (ev u D q))=ev u D q a-ev u D q b:=by unfold evN; rw[hh]; rfl
     rw[this,T6 hz]; omega
theorem zc2 {u:Int} {D:List yv.T} {t:Tree} (h:Wb t=true):ty t=0/\mag u D t=1/\∀q,ev u D q t=1:=by
 obtain ⟨n,ks⟩:=t;have h:(nK n==1&&nN n==1)=true:=h;simp only[Bool.and_eq_true,beq_iff_eq] at h;obtain ⟨h1,h2⟩:=h;refine ⟨?_,?_,fun q=>?_⟩
 ·rw[qd]; unfold tyN; rw[h1]; rfl
 ·rw[uq]; unfold yM; rw[h1]; exact h2
 ·rw[uy]; unfold evN; rw[h1]; exact h2
theorem zb6 {u:Int} {D:List yv.T} (c:Cxt u D) {t y:Tree} (h:OKT u D t) (e:zag t=some y):FK u D t y/\y.size<t.size:=by
 obtain ⟨n,ks⟩:=t;have e:(bif nK n==8&&Wb (kd (.nd n ks) 0) then some (kd (.nd n ks) 1) else bif nK n==8&&Wb (kd (.nd n ks) 1) then some (kd (.nd n ks) 0) else none)=some y:=e;have go:nK n=8->FK u D (.nd n ks) y/\y.size<(Tree.nd n ks).size:=by
  intro hh;obtain ⟨a,b,rfl⟩:=XL (show ks.length=2 by rw[h.len,yp hh]; rfl);have e:(bif nK n==8&&Wb a then some b else bif nK n==8&&Wb b then some a else none)=some y:=e;have et:tyN n ([a,b].map ty)=Ti (ty a) (ty b):=by unfold tyN; rw[hh]; rfl
  have em:yM u D n ([a,b].map (mag u D))=mag u D a*mag u D b:=by unfold yM; rw[hh]; rfl
  have ee:∀q,evN u D q n ([a,b].map (ev u D q))=ev u D q a*ev u D q b:=fun q=>by unfold evN; rw[hh]; rfl
  rw[hh] at e;cases ha:Wb a with
  | true =>
   rw[ha] at e;have e:b=y:=by simpa using e
   subst e;obtain ⟨o1,o2,o3⟩:=zc2 (u:=u) (D:=D) ha;exact qZ h (by simp) (by rw[et,o1]; rfl) (by rw[em,o2]; omega) (fun q _=>by rw[ee,o3]; omega)
  | false =>
   rw[ha] at e;cases hb:Wb b with
   | false=>rw[hb] at e; cases e
   | true =>
    rw[hb] at e;have e:a=y:=by simpa using e
    subst e;obtain ⟨o1,o2,o3⟩:=zc2 (u:=u) (D:=D) hb;refine qZ h (by simp) ?_ (by rw[em,o2]; omega) (fun q _=>by rw[ee,o3]; omega);rw[et,o1];unfold Ti;cases h0:(ty a==0) with
    | true=>simpa using h0
    | false=>rfl
 cases h8:(nK n==8) with
 | false=>rw[h8] at e; cases e
 | true=>exact go (by simpa using h8)
theorem WT (f:Tree->Int) (w:Int) (hw:0<=w):∀(r acc:List Tree),(∀k∈r,w<=f k)->wb ((vf acc r).map f)+w*(acc.length+r.length-(vf acc r).length)<=wb (acc.map f)+wb (r.map f)
 | [],acc,_=>by
  unfold vf;simp[wb]
 | k::r,acc,h=>by
  have ih:=WT f w hw r (bif acc.any (fun o=>vd o k) then acc else acc++[k]) fun x hx=>h x (by simp[hx])
  have hk:=h k (by simp);unfold vf;cases hb:acc.any (fun o=>vd o k) with
  | true =>
   rw[hb] at ih;simp only[cond_true] at ih ⊢;simp only[wb,List.map_cons,List.sum_cons,List.length_cons] at ih ⊢;have e:w*((acc.length:Int)+((r.length+1:Nat):Int)-((vf acc r).length:Int))=w*((acc.length:Int)+(r.length:Int)-((vf acc r).length:Int))+w:=by
    push_cast; rw[show (acc.length:Int)+((r.length:Int)+1)-((vf acc r).length:Int)=((acc.length:Int)+(r.length:Int)-((vf acc r).length:Int))+1 by omega,Int.mul_add]; omega
   rw[e]; omega
  | false =>
   rw[hb] at ih;simp only[cond_false] at ih ⊢;simp only[wb,List.map_cons,List.map_append,List.map_nil,List.sum_append,List.sum_cons,List.sum_nil,List.length_append,List.length_cons,List.length_nil] at ih ⊢;have e:((acc.length+(0+1):Nat):Int)+(r.length:Int)=(acc.length:Int)+((r.length+1:Nat):Int):=by push_cast; omega
   rw[e] at ih;omega
theorem TY:∀(r acc:List Tree),(∀x∈acc,x∈vf acc r)/\∀x∈r,∃y∈vf acc r,er y=er x
 | [],acc=>⟨fun x hx=>hx,by simp⟩
 | k::r,acc=>by
  have ih:=TY r (bif acc.any (fun o=>vd o k) then acc else acc++[k]);unfold vf;cases hb:acc.any (fun o=>vd o k) with
  | true =>
   rw[hb] at ih;simp only[cond_true] at ih ⊢;refine ⟨ih.1,fun x hx=>?_⟩;rcases List.mem_cons.1 hx with rfl | hx
   ·obtain ⟨o,ho,hs⟩:=List.any_eq_true.1 hb
    exact ⟨o,ih.1 o ho,tC.1 hs⟩
   ·exact ih.2 x hx
  | false =>
   rw[hb] at ih;simp only[cond_false] at ih ⊢;refine ⟨fun x hx=>ih.1 x (by simp[hx]),fun x hx=>?_⟩;rcases List.mem_cons.1 hx with rfl | hx
   ·exact ⟨x,ih.1 x (by simp),rfl⟩
   ·exact ih.2 x hx
theorem zal:∀(l:List Int) (m:Int),Vu m l<=m/\∀x∈l,Vu m l<=x
 | [],m=>⟨Int.le_refl _,by simp⟩
 | x::r,m=>by
  have h:=zal r (if x<m then x else m);have e:Vu m (x::r)=Vu (if x<m then x else m) r:=rfl;rw[e];have h0:(if x<m then x else m)<=m/\(if x<m then x else m)<=x:=by split<;>omega
  refine ⟨by omega,fun y hy=>?_⟩;rcases List.mem_cons.1 hy with rfl | hy
  ·omega
  ·exact h.2 y hy
theorem zak (l:List Int) (x:Int) (h:x∈l):Yi l<=x:=by
 cases l with
 | nil=>simp at h
 | cons a r =>
  have:=zal r a;rcases List.mem_cons.1 h with rfl | h
  ·exact this.1
  ·exact this.2 x h
theorem Rz (l:List Int) (x:Int) (h:x∈l):x<=uf l:=by
 cases l with
 | nil=>simp at h
 | cons a r =>
  have:=SE r a;rcases List.mem_cons.1 h with rfl | h
  ·exact this.1
  ·exact this.2 x h
theorem minL_eq {l m:List Int} (hl:1<=l.length) (hm:1<=m.length) (h1:∀x∈l,x∈m) (h2:∀x∈m,x∈l):Yi l=Yi m:=by
 have a1:=zak m (Yi l) (h1 _ (XH hl));have a2:=zak l (Yi m) (h2 _ (XH hm));omega
theorem maxL_eq {l m:List Int} (hl:1<=l.length) (hm:1<=m.length) (h1:∀x∈l,x∈m) (h2:∀x∈m,x∈l):uf l=uf m:=by
 have a1:=Rz m (uf l) (h1 _ (XI hl));have a2:=Rz l (uf m) (h2 _ (XI hm));omega
theorem zaW (l:List Tree):wb (l.map fun t=>(t.size:Int))=((yE l).length:Int):=by
 induction l with
 | nil=>rfl
 | cons k r ih =>
  rw[va,List.length_append];simp only[wb,List.map_cons,List.sum_cons] at ih ⊢;rw[ih]; unfold Tree.size; push_cast; rfl
theorem zaU (t:Tree):1<=t.size:=by
 obtain ⟨n,ks⟩:=t;rw[wL]; omega
theorem Si {u:Int} {D:List yv.T} (c:Cxt u D) {t y:Tree} (h:OKT u D t) (e:Y3 t=some y):FK u D t y/\y.size<t.size:=by
 obtain ⟨n,ks⟩:=t;have e:(bif nK n==9||nK n==10 then
  (bif ((vf [] ks).length:Int)==(ks.length:Int) then none else bif ((vf [] ks).length:Int)==1 then some ((vf [] ks).getD 0 (.nd n ks)) else some (.nd (n.1,n.2.1,n.2.2.1,((vf [] ks).length:Int),n.2.2.2.2) (vf [] ks))) else none)=some y:=e
 cases h9:(nK n==9||nK n==10) with
 | false=>rw[h9] at e; cases e
 | true =>
 rw[h9] at e;simp only[cond_true] at e;have hh:nK n=9\/nK n=10:=by simpa using h9
 obtain ⟨w1,w2,w3⟩:=h.wf.several (t:=.nd n ks) hh;have w1:2<=ks.length:=w1;have w2:ks.length<=16:=w2;have w3:(ks.length:Int)=nC n:=w3;have hmem:∀x∈vf [] ks,x∈ks:=fun x hx=>by
  rcases TZ ks [] x hx with h | h
  ·simp at h
  ·exact h
 have hlen:=TX ks [];have hcov:=(TY ks []).2;have hsum:=WT (mag u D) 0 (by omega) ks [] fun k hk=>ZD c (h.kid hk)
 have hsz:=WT (fun t=>(t.size:Int)) 1 (by omega) ks [] fun k hk=>by have:=zaU k; omega
 simp only[zaW] at hsz;rw[show (yE ([]:List Tree)).length=0 from rfl] at hsz;generalize vf [] ks=ds at*;simp only[List.length_nil,Nat.zero_add,List.map_nil,wb,List.sum_nil] at hlen hsum hsz;have hd1:1<=ds.length:=by
  cases hks:ks with
  | nil=>rw[hks] at w1; simp at w1
  | cons k r =>
   obtain ⟨z,hz,_⟩:=hcov k (by rw[hks]; simp);exact List.length_pos_of_mem hz
 cases h1:((ds.length:Int)==(ks.length:Int)) with
 | true=>rw[h1] at e; cases e
 | false =>
 rw[h1] at e;simp only[cond_false] at e;have hlt:ds.length<ks.length:=by
  rw[beq_eq_false_iff_ne] at h1;omega
 have hty:∀vs:List Int,tyN n vs=Ye vs:=by
  intro vs; unfold tyN; rcases hh with hh | hh<;>(rw[hh]; rfl)
 have hmag:∀vs:List Int,yM u D n vs=wb vs:=by
  intro vs; unfold yM; rcases hh with hh | hh<;>(rw[hh]; rfl)
 have hne:=h.tyne;have tyAll:∀k∈ks,ty k=tyN n (ks.map ty):=by
  rw[hty] at hne ⊢;cases hks:ks with
  | nil=>rw[hks] at w1; simp at w1
  | cons k r =>
   rw[hks,List.map_cons] at hne;obtain ⟨o1,o2⟩:=Xc hne;intro x hx;rw[List.map_cons,o1];rcases List.mem_cons.1 hx with rfl | hx
   ·rfl
   ·exact o2 _ (List.mem_map.2 ⟨x,hx,rfl⟩)
 have evs:∀q,(∀x∈ds.map (ev u D q),x∈ks.map (ev u D q))/\(∀x∈ks.map (ev u D q),x∈ds.map (ev u D q)):=by
  intro q;refine ⟨fun x hx=>?_,fun x hx=>?_⟩
  ·obtain ⟨k,hk,rfl⟩:=List.mem_map.1 hx
   exact List.mem_map.2 ⟨k,hmem k hk,rfl⟩
  ·obtain ⟨k,hk,rfl⟩:=List.mem_map.1 hx
   obtain ⟨z,hz,ez⟩:=hcov k hk;exact List.mem_map.2 ⟨z,hz,zaC ez u D q⟩
 have evEq:∀(m:zb.T),m.1=n.1->∀q,evN u D q m (ds.map (ev u D q))=evN u D q n (ks.map (ev u D q)):=by
  intro m hm q;obtain ⟨a1,a2⟩:=evs q;have l1:1<=(ds.map (ev u D q)).length:=by simpa using hd1
  have l2:1<=(ks.map (ev u D q)).length:=by simp; omega
  have hm:nK m=nK n:=hm;unfold evN;rcases hh with hh | hh
  ·rw[hm,hh]; exact minL_eq l1 l2 a1 a2
  ·rw[hm,hh]; exact maxL_eq l1 l2 a1 a2
 have hsl:(yE ds).length<(yE ks).length:=by omega
 have hm2:wb (ds.map (mag u D))<=wb (ks.map (mag u D)):=by simp only[wb]; omega
 cases h2:((ds.length:Int)==1) with
 | true =>
  rw[h2] at e;simp only[cond_true,Option.some.injEq] at e;obtain ⟨a,rfl⟩:=List.length_eq_one_iff.1 (show ds.length=1 by have:=beq_iff_eq.1 h2; omega);have e:a=y:=e;subst e;have ha:=hmem a (by simp);refine qZ h ha (tyAll a ha) ?_ ?_
  ·rw[hmag]
   simp only[List.map_cons,List.map_nil,wb,List.sum_cons,List.sum_nil] at hm2 ⊢;omega
  ·intro q hq
   rw[<-evEq n rfl q];unfold evN;rcases hh with hh | hh<;>(rw[hh]; rfl)
 | false =>
  rw[h2] at e;simp only[cond_false,Option.some.injEq] at e;have h2:ds.length≠1:=by rw[beq_eq_false_iff_ne] at h2; omega
  generalize hm':((n.1,n.2.1,n.2.2.1,(ds.length:Int),n.2.2.2.2):zb.T)=m at e;have m1:m.1=n.1:=by rw[<-hm']
  have mC:nC m=ds.length:=by rw[<-hm']
  have mN:nN m=nN n:=by rw[<-hm']
  have mO:nO m=nO n:=by rw[<-hm']
  have mT:nT m=nT n:=by rw[<-hm']
  have hhm:nK m=9\/nK m=10:=by rw[show nK m=nK n from m1]; exact hh
  have hnode:=h.node;obtain ⟨g1,g2,g3,g4,g5,g6,g7,g8⟩:=xB hnode;have hasks:uj m=uj n:=by unfold uj; rw[show nK m=nK n from m1]
  have arm:ar m=ds.length:=by
   rcases hhm with hk | hk
   ·rw[yp hk]; show (nC m).toNat=_; omega
   ·rw[yp hk]; show (nC m).toNat=_; omega
  have hnm:wq D.length m (ar m)=0:=by
   unfold wq tS uw aK opB v8 Yo;rw[hasks,mN,mO,mT,show nK m=nK n from m1];have k1:(decide (1<=nK n)&&decide (nK n<=16))=true:=g1;have k3:decide (nN n>bif decide ((uj n).2.1<0) then (D.length:Int)-1 else (uj n).2.1)=false:=decide_eq_false (by have g3:nN n<=bif decide ((uj n).2.1<0) then (D.length:Int)-1 else (uj n).2.1:=g3; omega);have k5:(bif (uj n).2.2.2 then decide (nO n>=1)&&decide (nO n<=6) else nO n==0)=true:=g5;have hA:(uj n).1<0:=by
    unfold uj;rcases hh with hh | hh<;>(rw[hh]; decide)
   have k4:(bif decide ((uj n).1<0) then decide (nC m>=2)&&decide (nC m<=16) else nC m==0)=true:=by
    rw[decide_eq_true hA,mC]; simp; omega
   have kt:(uj n).2.2.1=false:=by
    unfold uj;rcases hh with hh | hh<;>(rw[hh]; rfl)
   rw[k1,k3,k5,k4,kt,decide_eq_false (show ¬nN n<0 by omega),decide_eq_false (show ¬((ar m:Nat):Int)<((ar m:Nat):Int) by omega)];have:nT n=[]:=g6 kt;rw[this]; rfl
  have hty':∀vs:List Int,tyN m vs=Ye vs:=by
   intro vs; unfold tyN; rcases hhm with hh | hh<;>(rw[hh]; rfl)
  have hmag':∀vs:List Int,yM u D m vs=wb vs:=by
   intro vs; unfold yM; rcases hhm with hh | hh<;>(rw[hh]; rfl)
  have htyE:ty (.nd m ds)=ty (.nd n ks):=by
   rw[qd,qd,hty'];cases hds:ds with
   | nil=>rw[hds] at hd1; simp at hd1
   | cons a r =>
    rw[List.map_cons];show (bif (r.map ty).all (fun x=>x==ty a) then ty a else -1)=_;have:(r.map ty).all (fun x=>x==ty a)=true:=by
     rw[List.all_eq_true];intro x hx;obtain ⟨k,hk,rfl⟩:=List.mem_map.1 hx;rw[tyAll k (hmem k (by rw[hds]; simp[hk])),tyAll a (hmem a (by rw[hds]; simp))]; simp
    rw[this];exact tyAll a (hmem a (by rw[hds]; simp))
  have hmagE:mag u D (.nd m ds)<=mag u D (.nd n ks):=by
   rw[uq,uq,hmag,hmag']; exact hm2
  have hsize:(Tree.nd m ds).size<(Tree.nd n ks).size:=by rw[wL,wL]; omega
  subst e;refine ⟨⟨OKT.mk' (by rw[arm]) hnm (by have:=h.size; omega) ?_ ?_ ?_,Nat.le_of_lt hsize,htyE,?_,hmagE,?_,?_⟩,hsize⟩
  ·have hE:=(vM.1 h.tys).1
   unfold tyE;rw[htyE,show (ty (.nd n ks) == -1)=false from by rw[beq_eq_false_iff_ne]; exact U4 hE];have:WD m (ds.map noQ)=false:=by
    unfold WD; rcases hhm with hh | hh<;>(rw[hh]; rfl)
   show (bif WD m (ds.map noQ) then (81:Int) else 0)=0;rw[this]; rfl
  ·have h1:=(vM.1 h.mgs).1
   have:∀v,wX m v=wX n v:=by
    intro v; unfold wX; rw[show nK m=nK n from m1]
   rw[this];exact Uw hmagE h1
  ·exact fun k hk=>h.kid (hmem k hk)
  ·intro hf
   have hk:∀k∈ks,(wx k).1=true:=fun k hk=>XR hk hf
   rw[uU];unfold Ut;have:isQ m=false:=by
    unfold isQ; rcases hhm with hh | hh<;>(rw[hh]; rfl)
   rw[this];simp only[cond_false];rw[List.all_eq_true];intro x hx;obtain ⟨k,hk',rfl⟩:=List.mem_map.1 hx;exact hk k (hmem k hk')
  ·rw[tw,tw,show nK m=nK n from m1]
   have:uf (ds.map deep)<=uf (ks.map deep):=by
    have g:=SD (l:=ks.map deep) (fun x hx=>by
     obtain ⟨k,_,rfl⟩:=List.mem_map.1 hx;exact (uK k).1)
    refine zam g.1 fun x hx=>?_
    obtain ⟨k,hk,rfl⟩:=List.mem_map.1 hx;exact g.2 _ (List.mem_map.2 ⟨k,hmem k hk,rfl⟩)
   omega
  ·intro q hq
   rw[uy,uy]; exact evEq m m1 q
end Go.VS
