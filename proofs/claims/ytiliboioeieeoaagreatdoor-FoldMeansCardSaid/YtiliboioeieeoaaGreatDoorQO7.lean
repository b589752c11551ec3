import Derived.Test.YtiliboioeieeoaaGreatDoorQO6
set_option linter.unusedVariables false
set_option linter.unusedSimpArgs false
set_option linter.unusedSectionVars false
set_option linter.unusedVariables false
set_option linter.unusedSimpArgs false
set_option maxRecDepth 100000
namespace Go.VS
open Go
theorem t6 {n:zb.T} {ks:List Tree} {k:Tree} (hk:k∈ks):k.size<(Tree.nd n ks).size:=UI (t:=.nd n ks) hk
theorem Za {n:zb.T} {ks:List Tree} {k:Tree} (hk:k∈ks):deep k<=deep (.nd n ks):=by
 rw[uE];have:=(U6 hk).2;cases nK n==15<;>simp only[cond_true,cond_false]<;>omega
theorem Wc {n:zb.T} {ks:List Tree} {k:Tree} (hk:k∈ks) (h:(wJ (.nd n ks)).1=true):(wJ k).1=true:=by
 rw[tc] at h;unfold UW at h;cases hq:isQ n with
 | true=>rw[hq] at h; cases h
 | false =>
  rw[hq] at h;simp only[cond_false] at h;exact List.all_eq_true.1 h _ (List.mem_map.2 ⟨k,hk,rfl⟩)
theorem Zv {u:Int} {D:List yy.T} {n:zb.T} {ks:List Tree} {k:Tree} (h:OKT u D (.nd n ks)) (hk:k∈ks) (h1:ty k=tyN n (ks.map ty)) (h2:mag u D k<=yQ u D n (ks.map (mag u D)))
  (h3:∀q,okQ D q->ev u D q k=evN u D q n (ks.map (ev u D q))):FK u D (.nd n ks) k/\k.size<(Tree.nd n ks).size :=
 ⟨⟨h.kid hk,Nat.le_of_lt (t6 hk),by rw[tG]; exact h1,Wc hk,by rw[uI]; exact h2,Za hk,fun q hq=>by rw[uk]; exact h3 q hq⟩,t6 hk⟩
theorem OKT.len {u:Int} {D:List yy.T} {n:zb.T} {ks:List Tree} (h:OKT u D (.nd n ks)):ks.length=ar n:=(tY.1 h.wf).1.1
theorem OKT.node {u:Int} {D:List yy.T} {n:zb.T} {ks:List Tree} (h:OKT u D (.nd n ks)):wD D.length n (ar n)=0:=(tY.1 h.wf).1.2
theorem OKT.tyne {u:Int} {D:List yy.T} {n:zb.T} {ks:List Tree} (h:OKT u D (.nd n ks)):tyN n (ks.map ty)≠-1:=by
 have:=Vo (vX.1 h.tys).1;rw[tG] at this;exact this
theorem zck {u:Int} {D:List yy.T} {n:zb.T} {a b:Tree} (h:OKT u D (.nd n [a,b])) (e:∀vs:List Int,tyN n vs=uY vs):tyN n ([a,b].map ty)=ty a/\ty b=ty a:=by
 have hne:=h.tyne;rw[e] at hne ⊢;obtain ⟨o1,o2⟩:=qS (a:=ty a) (r:=[ty b]) hne;exact ⟨o1,o2 (ty b) (by simp)⟩
theorem zcQ {u:Int} {D:List yy.T} (c:Cxt u D) {t y:Tree} (h:OKT u D t) (e:negT t=some y):FK u D t y/\y.size<t.size:=by
 obtain ⟨n,ks⟩:=t;have e:(bif nK n==5&&nK (kd (.nd n ks) 0).root==5 then some (kd (kd (.nd n ks) 0) 0) else none)=some y:=e;cases h5:(nK n==5&&nK (kd (.nd n ks) 0).root==5) with
 | false=>rw[h5] at e; cases e
 | true =>
 rw[h5] at e;simp only[cond_true,Option.some.injEq] at e;simp only[Bool.and_eq_true,beq_iff_eq] at h5;obtain ⟨hh,hh2⟩:=h5;obtain ⟨a,rfl⟩:=List.length_eq_one_iff.1 (show ks.length=1 by rw[h.len,z8 hh]; rfl);obtain ⟨m,ls⟩:=a;have ha:=h.kid (k:=.nd m ls) (by simp);replace hh2:nK m=5:=hh2
 obtain ⟨b,rfl⟩:=List.length_eq_one_iff.1 (show ls.length=1 by rw[ha.len,z8 hh2]; rfl);have e:b=y:=e;subst e;have hb:=ha.kid (k:=b) (by simp);have s1:=t6 (n:=m) (ks:=[b]) (k:=b) (by simp);have s2:=t6 (n:=n) (ks:=[.nd m [b]]) (k:=.nd m [b]) (by simp);have tyN5:∀{n:zb.T} (x:Int),nK n=5->tyN n [x]=x:=fun x hh=>by unfold tyN; rw[hh]; rfl
 have mag5:∀{n:zb.T} (x:Int),nK n=5->yQ u D n [x]=x:=fun x hh=>by
  unfold yQ; rw[hh]; show wx [x]=x; simp[wx]
 have ev5:∀{n:zb.T} (q:List Int) (x:Int),nK n=5->evN u D q n [x]=0-x:=fun q x hh=>by unfold evN; rw[hh]; rfl
 refine ⟨⟨hb,by omega,?_,fun hf=>Wc (n:=m) (ks:=[b]) (by simp) (Wc (n:=n) (ks:=[.nd m [b]]) (by simp) hf),?_,Int.le_trans (Za (n:=m) (ks:=[b]) (by simp)) (Za (n:=n) (ks:=[.nd m [b]]) (by simp)),?_⟩,by omega⟩
 ·rw[tG,List.map_cons,List.map_nil,tyN5 _ hh,tG,List.map_cons,List.map_nil,tyN5 _ hh2]
 ·rw[uI,List.map_cons,List.map_nil,mag5 _ hh,uI,List.map_cons,List.map_nil,mag5 _ hh2]; exact Int.le_refl _
 ·intro q hq
  rw[uk,List.map_cons,List.map_nil,ev5 _ _ hh,uk,List.map_cons,List.map_nil,ev5 _ _ hh2]; omega
theorem zcL {u:Int} {D:List yy.T} (c:Cxt u D) {t y:Tree} (h:OKT u D t) (e:offT t=some y):FK u D t y/\y.size<t.size:=by
 obtain ⟨n,ks⟩:=t;have e:(bif nK n==15&&nN n==0 then some (kd (.nd n ks) 0) else none)=some y:=e;cases h5:(nK n==15&&nN n==0) with
 | false=>rw[h5] at e; cases e
 | true =>
 rw[h5] at e;simp only[cond_true,Option.some.injEq] at e;simp only[Bool.and_eq_true,beq_iff_eq] at h5;obtain ⟨hh,hh2⟩:=h5;obtain ⟨a,rfl⟩:=List.length_eq_one_iff.1 (show ks.length=1 by rw[h.len,z8 hh]; rfl);have e:a=y:=e;subst e;have hne:=h.tyne;refine Zv h (by simp) ?_ ?_ ?_
 ·have:tyN n ([a].map ty)=bif ty a==1 then 1 else -1:=by unfold tyN; rw[hh]; rfl
  rw[this] at hne ⊢;cases h1:(ty a==1) with
  | false=>rw[h1] at hne; exact absurd rfl hne
  | true=>simpa using h1
 ·have:yQ u D n ([a].map (mag u D))=mag u D a:=by unfold yQ; rw[hh]; rfl
  rw[this]; exact Int.le_refl _
 ·intro q hq
  have:evN u D q n ([a].map (ev u D q))=tw 2 (ev u D q a*(10000-nN n)) 10000:=by unfold evN; rw[hh]; rfl
  rw[this,hh2,show (10000:Int)-0=10000 from rfl,Zx (by decide)]
theorem Tv {u:Int} {D:List yy.T} (c:Cxt u D) {t y:Tree} (h:OKT u D t) (e:YA t=some y):FK u D t y/\y.size<t.size:=by
 obtain ⟨n,ks⟩:=t;have e:(bif nK n==16&&vq (kd (.nd n ks) 1) (kd (.nd n ks) 2) then some (kd (.nd n ks) 1) else none)=some y:=e;cases h5:(nK n==16&&vq (kd (.nd n ks) 1) (kd (.nd n ks) 2)) with
 | false=>rw[h5] at e; cases e
 | true =>
 rw[h5] at e;simp only[cond_true,Option.some.injEq] at e;simp only[Bool.and_eq_true,beq_iff_eq] at h5;obtain ⟨hh,hh2⟩:=h5;obtain ⟨a,b,d,rfl⟩:=len3 (show ks.length=3 by rw[h.len,z8 hh]; rfl);have e:b=y:=e;subst e;replace hh2:vq b d=true:=hh2
 have hne:=h.tyne;have ma:=Z3 c (h.kid (k:=a) (by simp));have md:=Z3 c (h.kid (k:=d) (by simp));have hN:=(xF h.node).2.1;refine Zv h (by simp) ?_ ?_ ?_
 ·have e1:tyN n ([a,b,d].map ty)=bif w9 (ty a) then uY [ty b,ty d] else -1:=by unfold tyN; rw[hh]; rfl
  rw[e1] at hne ⊢;cases h1:w9 (ty a) with
  | false=>rw[h1] at hne; exact absurd rfl hne
  | true =>
   rw[h1] at hne;exact (qS (a:=ty b) (r:=[ty d]) hne).1.symm
 ·have:yQ u D n ([a,b,d].map (mag u D))=wx [mag u D a,mag u D b,mag u D d]+nN n:=by unfold yQ; rw[hh]; rfl
  rw[this];simp only[wx,List.sum_cons,List.sum_nil];omega
 ·intro q hq
  have:evN u D q n ([a,b,d].map (ev u D q))=bif qY (nO n) (ev u D q a) (nN n) then ev u D q b else ev u D q d:=by unfold evN; rw[hh]; rfl
  rw[this,<-zb6 (tS.1 hh2) u D q];cases qY (nO n) (ev u D q a) (nN n)<;>rfl
theorem Sy {u:Int} {D:List yy.T} {q:List Int} {t:Tree} (h:qu t=true):ev u D q t=0:=by
 obtain ⟨n,ks⟩:=t;have h:((nK n==1||nK n==2)&&nN n==0)=true:=h
 simp only[Bool.and_eq_true,Bool.or_eq_true,beq_iff_eq] at h;obtain ⟨h1,h2⟩:=h;rw[uk];unfold evN;rcases h1 with h1 | h1
 ·rw[h1]; exact h2
 ·rw[h1]; show nN n*u=0; rw[h2]; simp
theorem SZ {u:Int} {D:List yy.T} (c:Cxt u D) {t y:Tree} (h:OKT u D t) (e:X2 t=some y):FK u D t y/\y.size<t.size:=by
 obtain ⟨n,ks⟩:=t;have e:(bif nK n==6&&qu (kd (.nd n ks) 0) then some (kd (.nd n ks) 1) else bif (nK n==6||nK n==7)&&qu (kd (.nd n ks) 1) then some (kd (.nd n ks) 0) else none)=some y:=e
 have hN:=(xF h.node).2.1;have mag2:∀{a b:Tree},(nK n=6\/nK n=7)->yQ u D n ([a,b].map (mag u D))=mag u D a+mag u D b:=by
  intro a b hh;have:yQ u D n ([a,b].map (mag u D))=wx [mag u D a,mag u D b]:=by
   unfold yQ; rcases hh with hh | hh<;>(rw[hh]; rfl)
  rw[this]; simp only[wx,List.sum_cons,List.sum_nil]; omega
 have ty2:(nK n=6\/nK n=7)->∀vs:List Int,tyN n vs=uY vs:=by
  intro hh vs; unfold tyN; rcases hh with hh | hh<;>(rw[hh]; rfl)
 cases h5:(nK n==6&&qu (kd (.nd n ks) 0)) with
 | true =>
  rw[h5] at e;simp only[cond_true,Option.some.injEq] at e;simp only[Bool.and_eq_true,beq_iff_eq] at h5;obtain ⟨hh,hz⟩:=h5;obtain ⟨a,b,rfl⟩:=Zp (show ks.length=2 by rw[h.len,z8 hh]; rfl);have e:b=y:=e;subst e;have hz:qu a=true:=hz;have ma:=Z3 c (h.kid (k:=a) (by simp));obtain ⟨t1,t2⟩:=zck h (ty2 (.inl hh));refine Zv h (by simp) ?_ ?_ ?_
  ·rw[t1,t2]
  ·rw[mag2 (.inl hh)]; omega
  ·intro q hq
   have:evN u D q n ([a,b].map (ev u D q))=ev u D q a+ev u D q b:=by unfold evN; rw[hh]; rfl
   rw[this,Sy hz]; omega
 | false =>
  rw[h5] at e;simp only[cond_false] at e;cases h6:((nK n==6||nK n==7)&&qu (kd (.nd n ks) 1)) with
  | false=>rw[h6] at e; cases e
  | true =>
   rw[h6] at e;simp only[cond_true,Option.some.injEq] at e;simp only[Bool.and_eq_true,Bool.or_eq_true,beq_iff_eq] at h6;obtain ⟨hh,hz⟩:=h6;obtain ⟨a,b,rfl⟩:=Zp (show ks.length=2 by rcases hh with hh | hh<;>(rw[h.len,z8 hh]; rfl))
   have e:a=y:=e;subst e;have hz:qu b=true:=hz;have mb:=Z3 c (h.kid (k:=b) (by simp));obtain ⟨t1,t2⟩:=zck h (ty2 hh);refine Zv h (by simp) ?_ ?_ ?_
   ·rw[t1]
   ·rw[mag2 hh]; omega
   ·intro q hq
    rcases hh with hh | hh
    ·have:evN u D q n ([a,b].map (ev u D q))=ev u D q a+ev u D q b:=by unfold evN; rw[hh]; rfl
     rw[this,Sy hz]; omega
    ·have:evN u D q n ([a,b].map (ev u D q))=ev u D q a-ev u D q b:=by unfold evN; rw[hh]; rfl
     rw[this,Sy hz]; omega
theorem zcG {u:Int} {D:List yy.T} {t:Tree} (h:WA t=true):ty t=0/\mag u D t=1/\∀q,ev u D q t=1:=by
 obtain ⟨n,ks⟩:=t;have h:(nK n==1&&nN n==1)=true:=h;simp only[Bool.and_eq_true,beq_iff_eq] at h;obtain ⟨h1,h2⟩:=h;refine ⟨?_,?_,fun q=>?_⟩
 ·rw[tG]; unfold tyN; rw[h1]; rfl
 ·rw[uI]; unfold yQ; rw[h1]; exact h2
 ·rw[uk]; unfold evN; rw[h1]; exact h2
theorem zbA {u:Int} {D:List yy.T} (c:Cxt u D) {t y:Tree} (h:OKT u D t) (e:zaK t=some y):FK u D t y/\y.size<t.size:=by
 obtain ⟨n,ks⟩:=t;have e:(bif nK n==8&&WA (kd (.nd n ks) 0) then some (kd (.nd n ks) 1) else bif nK n==8&&WA (kd (.nd n ks) 1) then some (kd (.nd n ks) 0) else none)=some y:=e;have go:nK n=8->FK u D (.nd n ks) y/\y.size<(Tree.nd n ks).size:=by
  intro hh;obtain ⟨a,b,rfl⟩:=Zp (show ks.length=2 by rw[h.len,z8 hh]; rfl);have e:(bif nK n==8&&WA a then some b else bif nK n==8&&WA b then some a else none)=some y:=e;have et:tyN n ([a,b].map ty)=ZX (ty a) (ty b):=by unfold tyN; rw[hh]; rfl
  have em:yQ u D n ([a,b].map (mag u D))=mag u D a*mag u D b:=by unfold yQ; rw[hh]; rfl
  have ee:∀q,evN u D q n ([a,b].map (ev u D q))=ev u D q a*ev u D q b:=fun q=>by unfold evN; rw[hh]; rfl
  rw[hh] at e;cases ha:WA a with
  | true =>
   rw[ha] at e;have e:b=y:=by simpa using e
   subst e;obtain ⟨o1,o2,o3⟩:=zcG (u:=u) (D:=D) ha;exact Zv h (by simp) (by rw[et,o1]; rfl) (by rw[em,o2]; omega) (fun q _=>by rw[ee,o3]; omega)
  | false =>
   rw[ha] at e;cases hb:WA b with
   | false=>rw[hb] at e; cases e
   | true =>
    rw[hb] at e;have e:a=y:=by simpa using e
    subst e;obtain ⟨o1,o2,o3⟩:=zcG (u:=u) (D:=D) hb;refine Zv h (by simp) ?_ (by rw[em,o2]; omega) (fun q _=>by rw[ee,o3]; omega);rw[et,o1];unfold ZX;cases h0:(ty a==0) with
    | true=>simpa using h0
    | false=>rfl
 cases h8:(nK n==8) with
 | false=>rw[h8] at e; cases e
 | true=>exact go (by simpa using h8)
theorem Vh (f:Tree->Int) (w:Int) (hw:0<=w):∀(r acc:List Tree),(∀k∈r,w<=f k)->wx ((vt acc r).map f)+w*(acc.length+r.length-(vt acc r).length)<=wx (acc.map f)+wx (r.map f)
 | [],acc,_=>by
  unfold vt;simp[wx]
 | k::r,acc,h=>by
  have ih:=Vh f w hw r (bif acc.any (fun o=>vq o k) then acc else acc++[k]) fun x hx=>h x (by simp[hx])
  have hk:=h k (by simp);unfold vt;cases hb:acc.any (fun o=>vq o k) with
  | true =>
   rw[hb] at ih;simp only[cond_true] at ih ⊢;simp only[wx,List.map_cons,List.sum_cons,List.length_cons] at ih ⊢;have e:w*((acc.length:Int)+((r.length+1:Nat):Int)-((vt acc r).length:Int))=w*((acc.length:Int)+(r.length:Int)-((vt acc r).length:Int))+w:=by
    push_cast; rw[show (acc.length:Int)+((r.length:Int)+1)-((vt acc r).length:Int)=((acc.length:Int)+(r.length:Int)-((vt acc r).length:Int))+1 by omega,Int.mul_add]; omega
   rw[e]; omega
  | false =>
   rw[hb] at ih;simp only[cond_false] at ih ⊢;simp only[wx,List.map_cons,List.map_append,List.map_nil,List.sum_append,List.sum_cons,List.sum_nil,List.length_append,List.length_cons,List.length_nil] at ih ⊢;have e:((acc.length+(0+1):Nat):Int)+(r.length:Int)=(acc.length:Int)+((r.length+1:Nat):Int):=by push_cast; omega
   rw[e] at ih;omega
theorem Sq:∀(r acc:List Tree),(∀x∈acc,x∈vt acc r)/\∀x∈r,∃y∈vt acc r,er y=er x
 | [],acc=>⟨fun x hx=>hx,by simp⟩
 | k::r,acc=>by
  have ih:=Sq r (bif acc.any (fun o=>vq o k) then acc else acc++[k]);unfold vt;cases hb:acc.any (fun o=>vq o k) with
  | true =>
   rw[hb] at ih;simp only[cond_true] at ih ⊢;refine ⟨ih.1,fun x hx=>?_⟩;rcases List.mem_cons.1 hx with rfl | hx
   ·obtain ⟨o,ho,hs⟩:=List.any_eq_true.1 hb
    exact ⟨o,ih.1 o ho,tS.1 hs⟩
   ·exact ih.2 x hx
  | false =>
   rw[hb] at ih;simp only[cond_false] at ih ⊢;refine ⟨fun x hx=>ih.1 x (by simp[hx]),fun x hx=>?_⟩;rcases List.mem_cons.1 hx with rfl | hx
   ·exact ⟨x,ih.1 x (by simp),rfl⟩
   ·exact ih.2 x hx
theorem zaP:∀(l:List Int) (m:Int),YI m l<=m/\∀x∈l,YI m l<=x
 | [],m=>⟨Int.le_refl _,by simp⟩
 | x::r,m=>by
  have h:=zaP r (if x<m then x else m);have e:YI m (x::r)=YI (if x<m then x else m) r:=rfl;rw[e];have h0:(if x<m then x else m)<=m/\(if x<m then x else m)<=x:=by split<;>omega
  refine ⟨by omega,fun y hy=>?_⟩;rcases List.mem_cons.1 hy with rfl | hy
  ·omega
  ·exact h.2 y hy
theorem zaO (l:List Int) (x:Int) (h:x∈l):qN l<=x:=by
 cases l with
 | nil=>simp at h
 | cons a r =>
  have:=zaP r a;rcases List.mem_cons.1 h with rfl | h
  ·exact this.1
  ·exact this.2 x h
theorem R5 (l:List Int) (x:Int) (h:x∈l):x<=vT l:=by
 cases l with
 | nil=>simp at h
 | cons a r =>
  have:=S6 r a;rcases List.mem_cons.1 h with rfl | h
  ·exact this.1
  ·exact this.2 x h
theorem minL_eq {l m:List Int} (hl:1<=l.length) (hm:1<=m.length) (h1:∀x∈l,x∈m) (h2:∀x∈m,x∈l):qN l=qN m:=by
 have a1:=zaO m (qN l) (h1 _ (Z0 hl));have a2:=zaO l (qN m) (h2 _ (Z0 hm));omega
theorem maxL_eq {l m:List Int} (hl:1<=l.length) (hm:1<=m.length) (h1:∀x∈l,x∈m) (h2:∀x∈m,x∈l):vT l=vT m:=by
 have a1:=R5 m (vT l) (h1 _ (Z1 hl));have a2:=R5 l (vT m) (h2 _ (Z1 hm));omega
theorem zbp (l:List Tree):wx (l.map fun t=>(t.size:Int))=((yH l).length:Int):=by
 induction l with
 | nil=>rfl
 | cons k r ih =>
  rw[vo,List.length_append];simp only[wx,List.map_cons,List.sum_cons] at ih ⊢;rw[ih]; unfold Tree.size; push_cast; rfl
theorem zbn (t:Tree):1<=t.size:=by
 obtain ⟨n,ks⟩:=t;rw[wX]; omega
theorem SK {u:Int} {D:List yy.T} (c:Cxt u D) {t y:Tree} (h:OKT u D t) (e:Xu t=some y):FK u D t y/\y.size<t.size:=by
 obtain ⟨n,ks⟩:=t;have e:(bif nK n==9||nK n==10 then
  (bif ((vt [] ks).length:Int)==(ks.length:Int) then none else bif ((vt [] ks).length:Int)==1 then some ((vt [] ks).getD 0 (.nd n ks)) else some (.nd (n.1,n.2.1,n.2.2.1,((vt [] ks).length:Int),n.2.2.2.2) (vt [] ks))) else none)=some y:=e
 cases h9:(nK n==9||nK n==10) with
 | false=>rw[h9] at e; cases e
 | true =>
 rw[h9] at e;simp only[cond_true] at e;have hh:nK n=9\/nK n=10:=by simpa using h9
 obtain ⟨w1,w2,w3⟩:=h.wf.several (t:=.nd n ks) hh;have w1:2<=ks.length:=w1;have w2:ks.length<=16:=w2;have w3:(ks.length:Int)=nC n:=w3;have hmem:∀x∈vt [] ks,x∈ks:=fun x hx=>by
  rcases Sr ks [] x hx with h | h
  ·simp at h
  ·exact h
 have hlen:=Sp ks [];have hcov:=(Sq ks []).2;have hsum:=Vh (mag u D) 0 (by omega) ks [] fun k hk=>Z3 c (h.kid hk)
 have hsz:=Vh (fun t=>(t.size:Int)) 1 (by omega) ks [] fun k hk=>by have:=zbn k; omega
 simp only[zbp] at hsz;rw[show (yH ([]:List Tree)).length=0 from rfl] at hsz;generalize vt [] ks=ds at*;simp only[List.length_nil,Nat.zero_add,List.map_nil,wx,List.sum_nil] at hlen hsum hsz;have hd1:1<=ds.length:=by
  cases hks:ks with
  | nil=>rw[hks] at w1; simp at w1
  | cons k r =>
   obtain ⟨z,hz,_⟩:=hcov k (by rw[hks]; simp);exact List.length_pos_of_mem hz
 cases h1:((ds.length:Int)==(ks.length:Int)) with
 | true=>rw[h1] at e; cases e
 | false =>
 rw[h1] at e;simp only[cond_false] at e;have hlt:ds.length<ks.length:=by
  rw[beq_eq_false_iff_ne] at h1;omega
 have hty:∀vs:List Int,tyN n vs=uY vs:=by
  intro vs; unfold tyN; rcases hh with hh | hh<;>(rw[hh]; rfl)
 have hmag:∀vs:List Int,yQ u D n vs=wx vs:=by
  intro vs; unfold yQ; rcases hh with hh | hh<;>(rw[hh]; rfl)
 have hne:=h.tyne;have tyAll:∀k∈ks,ty k=tyN n (ks.map ty):=by
  rw[hty] at hne ⊢;cases hks:ks with
  | nil=>rw[hks] at w1; simp at w1
  | cons k r =>
   rw[hks,List.map_cons] at hne;obtain ⟨o1,o2⟩:=qS hne;intro x hx;rw[List.map_cons,o1];rcases List.mem_cons.1 hx with rfl | hx
   ·rfl
   ·exact o2 _ (List.mem_map.2 ⟨x,hx,rfl⟩)
 have evs:∀q,(∀x∈ds.map (ev u D q),x∈ks.map (ev u D q))/\(∀x∈ks.map (ev u D q),x∈ds.map (ev u D q)):=by
  intro q;refine ⟨fun x hx=>?_,fun x hx=>?_⟩
  ·obtain ⟨k,hk,rfl⟩:=List.mem_map.1 hx
   exact List.mem_map.2 ⟨k,hmem k hk,rfl⟩
  ·obtain ⟨k,hk,rfl⟩:=List.mem_map.1 hx
   obtain ⟨z,hz,ez⟩:=hcov k hk;exact List.mem_map.2 ⟨z,hz,zb6 ez u D q⟩
 have evEq:∀(m:zb.T),m.1=n.1->∀q,evN u D q m (ds.map (ev u D q))=evN u D q n (ks.map (ev u D q)):=by
  intro m hm q;obtain ⟨a1,a2⟩:=evs q;have l1:1<=(ds.map (ev u D q)).length:=by simpa using hd1
  have l2:1<=(ks.map (ev u D q)).length:=by simp; omega
  have hm:nK m=nK n:=hm;unfold evN;rcases hh with hh | hh
  ·rw[hm,hh]; exact minL_eq l1 l2 a1 a2
  ·rw[hm,hh]; exact maxL_eq l1 l2 a1 a2
 have hsl:(yH ds).length<(yH ks).length:=by omega
 have hm2:wx (ds.map (mag u D))<=wx (ks.map (mag u D)):=by simp only[wx]; omega
 cases h2:((ds.length:Int)==1) with
 | true =>
  rw[h2] at e;simp only[cond_true,Option.some.injEq] at e;obtain ⟨a,rfl⟩:=List.length_eq_one_iff.1 (show ds.length=1 by have:=beq_iff_eq.1 h2; omega);have e:a=y:=e;subst e;have ha:=hmem a (by simp);refine Zv h ha (tyAll a ha) ?_ ?_
  ·rw[hmag]
   simp only[List.map_cons,List.map_nil,wx,List.sum_cons,List.sum_nil] at hm2 ⊢;omega
  ·intro q hq
   rw[<-evEq n rfl q];unfold evN;rcases hh with hh | hh<;>(rw[hh]; rfl)
 | false =>
  rw[h2] at e;simp only[cond_false,Option.some.injEq] at e;have h2:ds.length≠1:=by rw[beq_eq_false_iff_ne] at h2; omega
  generalize hm':((n.1,n.2.1,n.2.2.1,(ds.length:Int),n.2.2.2.2):zb.T)=m at e;have m1:m.1=n.1:=by rw[<-hm']
  have mC:nC m=ds.length:=by rw[<-hm']
  have mN:nN m=nN n:=by rw[<-hm']
  have mO:nO m=nO n:=by rw[<-hm']
  have mT:nT m=nT n:=by rw[<-hm']
  have hhm:nK m=9\/nK m=10:=by rw[show nK m=nK n from m1]; exact hh
  have hnode:=h.node;obtain ⟨g1,g2,g3,g4,g5,g6,g7,g8⟩:=xF hnode;have hasks:uB m=uB n:=by unfold uB; rw[show nK m=nK n from m1]
  have arm:ar m=ds.length:=by
   rcases hhm with hk | hk
   ·rw[z8 hk]; show (nC m).toNat=_; omega
   ·rw[z8 hk]; show (nC m).toNat=_; omega
  have hnm:wD D.length m (ar m)=0:=by
   unfold wD tI uy aK opB ut YO;rw[hasks,mN,mO,mT,show nK m=nK n from m1];have k1:(decide (1<=nK n)&&decide (nK n<=16))=true:=g1;have k3:decide (nN n>bif decide ((uB n).2.1<0) then (D.length:Int)-1 else (uB n).2.1)=false:=decide_eq_false (by have g3:nN n<=bif decide ((uB n).2.1<0) then (D.length:Int)-1 else (uB n).2.1:=g3; omega);have k5:(bif (uB n).2.2.2 then decide (nO n>=1)&&decide (nO n<=6) else nO n==0)=true:=g5;have hA:(uB n).1<0:=by
    unfold uB;rcases hh with hh | hh<;>(rw[hh]; decide)
   have k4:(bif decide ((uB n).1<0) then decide (nC m>=2)&&decide (nC m<=16) else nC m==0)=true:=by
    rw[decide_eq_true hA,mC]; simp; omega
   have kt:(uB n).2.2.1=false:=by
    unfold uB;rcases hh with hh | hh<;>(rw[hh]; rfl)
   rw[k1,k3,k5,k4,kt,decide_eq_false (show ¬nN n<0 by omega),decide_eq_false (show ¬((ar m:Nat):Int)<((ar m:Nat):Int) by omega)];have:nT n=[]:=g6 kt;rw[this]; rfl
  have hty':∀vs:List Int,tyN m vs=uY vs:=by
   intro vs; unfold tyN; rcases hhm with hh | hh<;>(rw[hh]; rfl)
  have hmag':∀vs:List Int,yQ u D m vs=wx vs:=by
   intro vs; unfold yQ; rcases hhm with hh | hh<;>(rw[hh]; rfl)
  have htyE:ty (.nd m ds)=ty (.nd n ks):=by
   rw[tG,tG,hty'];cases hds:ds with
   | nil=>rw[hds] at hd1; simp at hd1
   | cons a r =>
    rw[List.map_cons];show (bif (r.map ty).all (fun x=>x==ty a) then ty a else -1)=_;have:(r.map ty).all (fun x=>x==ty a)=true:=by
     rw[List.all_eq_true];intro x hx;obtain ⟨k,hk,rfl⟩:=List.mem_map.1 hx;rw[tyAll k (hmem k (by rw[hds]; simp[hk])),tyAll a (hmem a (by rw[hds]; simp))]; simp
    rw[this];exact tyAll a (hmem a (by rw[hds]; simp))
  have hmagE:mag u D (.nd m ds)<=mag u D (.nd n ks):=by
   rw[uI,uI,hmag,hmag']; exact hm2
  have hsize:(Tree.nd m ds).size<(Tree.nd n ks).size:=by rw[wX,wX]; omega
  subst e;refine ⟨⟨OKT.mk' (by rw[arm]) hnm (by have:=h.size; omega) ?_ ?_ ?_,Nat.le_of_lt hsize,htyE,?_,hmagE,?_,?_⟩,hsize⟩
  ·have hE:=(vX.1 h.tys).1
   unfold tyE;rw[htyE,show (ty (.nd n ks) == -1)=false from by rw[beq_eq_false_iff_ne]; exact Vo hE];have:W2 m (ds.map noQ)=false:=by
    unfold W2; rcases hhm with hh | hh<;>(rw[hh]; rfl)
   show (bif W2 m (ds.map noQ) then (81:Int) else 0)=0;rw[this]; rfl
  ·have h1:=(vX.1 h.mgs).1
   have:∀v,vj m v=vj n v:=by
    intro v; unfold vj; rw[show nK m=nK n from m1]
   rw[this];exact UZ hmagE h1
  ·exact fun k hk=>h.kid (hmem k hk)
  ·intro hf
   have hk:∀k∈ks,(wJ k).1=true:=fun k hk=>Wc hk hf
   rw[tc];unfold UW;have:isQ m=false:=by
    unfold isQ; rcases hhm with hh | hh<;>(rw[hh]; rfl)
   rw[this];simp only[cond_false];rw[List.all_eq_true];intro x hx;obtain ⟨k,hk',rfl⟩:=List.mem_map.1 hx;exact hk k (hmem k hk')
  ·rw[uE,uE,show nK m=nK n from m1]
   have:vT (ds.map deep)<=vT (ks.map deep):=by
    have g:=S5 (l:=ks.map deep) (fun x hx=>by
     obtain ⟨k,_,rfl⟩:=List.mem_map.1 hx;exact (ud k).1)
    refine zaQ g.1 fun x hx=>?_
    obtain ⟨k,hk,rfl⟩:=List.mem_map.1 hx;exact g.2 _ (List.mem_map.2 ⟨k,hmem k hk,rfl⟩)
   omega
  ·intro q hq
   rw[uk,uk]; exact evEq m m1 q
end Go.VS
