import Derived.Test.YtiliboioeieeoaaGreatDoorQO7
set_option linter.unusedVariables false
set_option linter.unusedSimpArgs false
set_option linter.unusedSectionVars false
set_option linter.unusedVariables false
set_option linter.unusedSimpArgs false
set_option maxRecDepth 100000
namespace Go.VS
open Go
theorem tq_mul {a b:Int} (hb:0<b) (h:tr a b=0):tq a b*b=a:=by
 have h1:=aQR (a:=a) (b:=b) (by omega);obtain ⟨_,_,_,h1,_⟩:=h1;have hR:aR a b=0:=by
  have:=zcm a b (by omega);rw[h] at this;exact this.symm
 rw[hR,show ((b.natAbs:Nat):Int)=b by omega,Int.mul_comm] at h1;unfold tq dsg;rw[decide_eq_false (show ¬b<0 by omega)];by_cases ha:a<0
 ·rw[decide_eq_true ha]
  show -aQ a b*b=a;rw[Int.neg_mul]; omega
 ·rw[decide_eq_false ha]
  show aQ a b*b=a;omega
theorem tq_nn {a b:Int} (hb:0<b) (ha:0<=a):0<=tq a b:=by
 have h1:=aQR (a:=a) (b:=b) (by omega);unfold tq dsg;rw[decide_eq_false (show ¬b<0 by omega),decide_eq_false (show ¬a<0 by omega)];exact h1.1
theorem zcZ {u:Int} {D:List yy.T} {k v a:Int} (hk:k=1\/k=2) (h0:0<=v) (h1:v<=1000000000000) (hm:(bif k==1 then v else v*u)<=BND) :
  OKT u D (.nd (k,v,0,0,[],a) [])/\Tree.size (.nd (k,v,0,0,[],a) [])=1/\ty (.nd (k,v,0,0,[],a) [])=k-1/\mag u D (.nd (k,v,0,0,[],a) [])=(bif k==1 then v else v*u)/\deep (.nd (k,v,0,0,[],a) [])=0 /\
   (∀q,ev u D q (.nd (k,v,0,0,[],a) [])=bif k==1 then v else v*u)/\(wJ (.nd (k,v,0,0,[],a) [])).1=true:=by
 have hs:Tree.size (.nd (k,v,0,0,[],a) [])=1:=by rw[wX]; rfl
 have ht:ty (.nd (k,v,0,0,[],a) [])=k-1:=by
  rw[tG]; unfold tyN;rcases hk with rfl | rfl<;>rfl
 have hmg:mag u D (.nd (k,v,0,0,[],a) [])=(bif k==1 then v else v*u):=by
  rw[uI]; unfold yQ;rcases hk with rfl | rfl<;>rfl
 have har:ar ((k,v,0,0,[],a):zb.T)=0:=by
  rcases hk with rfl | rfl
  ·rw[z8 (k:=1) rfl]; rfl
  ·rw[z8 (k:=2) rfl]; rfl
 have hmo:YO ((k,v,0,0,[],a):zb.T) D.length=1000000000000:=by
  rcases hk with rfl | rfl
  ·rw[uR (k:=1) rfl]; rfl
  ·rw[uR (k:=2) rfl]; rfl
 have hn:wD D.length ((k,v,0,0,[],a):zb.T) (ar ((k,v,0,0,[],a):zb.T))=0:=by
  unfold wD;rw[har,hmo,show nN ((k,v,0,0,[],a):zb.T)=v from rfl,decide_eq_false (show ¬v<0 by omega),decide_eq_false (show ¬v>1000000000000 by omega)];rcases hk with rfl | rfl<;>rfl
 refine ⟨OKT.mk' (by rw[har]; rfl) hn (by rw[hs]; decide) ?_ ?_ (by simp),hs,ht,hmg,?_,fun q=>?_,?_⟩
 ·unfold tyE
  rw[ht];rcases hk with rfl | rfl<;>rfl
 ·rw[hmg]
  unfold vj;rcases hk with rfl | rfl<;>exact hm
 ·rw[uE]
  rcases hk with rfl | rfl<;>rfl
 ·rw[uk]; unfold evN
  rcases hk with rfl | rfl<;>rfl
 ·rw[tc]; unfold UW isQ
  rcases hk with rfl | rfl<;>rfl
theorem zbD {u:Int} {D:List yy.T} {k v a:Int} (hk:k=1\/k=2) (h0:0<=v) (h1:v<=1000000000000) (hm:(bif k==1 then v else v*u)<=BND) :
  OKT u D (.nd (5,0,0,0,[],a) [.nd (k,v,0,0,[],a) []])/\Tree.size (.nd (5,0,0,0,[],a) [.nd (k,v,0,0,[],a) []])=2/\ty (.nd (5,0,0,0,[],a) [.nd (k,v,0,0,[],a) []])=k-1/\mag u D (.nd (5,0,0,0,[],a) [.nd (k,v,0,0,[],a) []])=(bif k==1 then v else v*u)/\deep (.nd (5,0,0,0,[],a) [.nd (k,v,0,0,[],a) []])=0 /\
   (∀q,ev u D q (.nd (5,0,0,0,[],a) [.nd (k,v,0,0,[],a) []])=0-bif k==1 then v else v*u)/\(wJ (.nd (5,0,0,0,[],a) [.nd (k,v,0,0,[],a) []])).1=true:=by
 obtain ⟨l1,l2,l3,l4,l5,l6,l7⟩:=zcZ (u:=u) (D:=D) (a:=a) hk h0 h1 hm;have har:ar ((5,0,0,0,[],a):zb.T)=1:=by rw[z8 (k:=5) rfl]; rfl
 have hn:wD D.length ((5,0,0,0,[],a):zb.T) (ar ((5,0,0,0,[],a):zb.T))=0:=by
  unfold wD YO;rw[har]; rfl
 have hs:Tree.size (.nd (5,0,0,0,[],a) [.nd (k,v,0,0,[],a) []])=2:=by
  rw[wX,vo,List.length_append,show (Tree.flat (.nd (k,v,0,0,[],a) [])).length=1 from l2]; rfl
 have ht:ty (.nd (5,0,0,0,[],a) [.nd (k,v,0,0,[],a) []])=k-1:=by
  rw[tG,List.map_cons,List.map_nil,l3]; rfl
 have hmg:mag u D (.nd (5,0,0,0,[],a) [.nd (k,v,0,0,[],a) []])=(bif k==1 then v else v*u):=by
  rw[uI,List.map_cons,List.map_nil,l4]; show wx [_]=_; simp[wx]
 refine ⟨OKT.mk' (by rw[har]; rfl) hn (by rw[hs]; decide) ?_ ?_ (by intro k hk; rw[List.mem_singleton.1 hk]; exact l1),hs,ht,hmg,?_,fun q=>?_,?_⟩
 ·unfold tyE
  rw[ht];rcases hk with rfl | rfl<;>rfl
 ·rw[hmg]; exact hm
 ·rw[uE,List.map_cons,List.map_nil,l5]; rfl
 ·rw[uk,List.map_cons,List.map_nil,l6]; rfl
 ·rw[tc,List.map_cons,List.map_nil]
  show ([wJ (.nd (k,v,0,0,[],a) [])].all fun x=>x.1)=true;simp only[List.all_cons,List.all_nil,l7,Bool.and_self]
theorem Qj {u:Int} {D:List yy.T} {a:Tree} (h:OKT u D a) (hf:(wJ a).1=true) (hs:a.size<=1):W1 a.root=true/\a.kids=[]:=by
 obtain ⟨n,ks⟩:=a;rw[wX] at hs;have hl:=wP ks;have hks:ks=[]:=List.eq_nil_of_length_eq_zero (by omega);obtain ⟨_,hk⟩:=Vc h hf;have hlen:=h.len;subst hks;refine ⟨?_,rfl⟩;have no:∀k:Int,nK n=k->¬(0=(bif decide ((get yW vn k.toNat).1>=0) then (get yW vn k.toNat).1.toNat else (nC n).toNat))->False:=fun k hk hne=>hne (by rw[<-z8 hk]; exact hlen)
 have hw:=fun hk=>(h.wf.several (t:=.nd n []) hk).1
 show (nK n==1||nK n==2)=true
 rcases hk with hk | hk | hk | hk | hk | hk | hk | hk | hk
 ·rw[hk]; rfl
 ·rw[hk]; rfl
 ·exact (no 5 hk (by show ¬0=1; decide)).elim
 ·exact (no 6 hk (by show ¬0=2; decide)).elim
 ·exact (no 7 hk (by show ¬0=2; decide)).elim
 ·exact (no 8 hk (by show ¬0=2; decide)).elim
 ·exact absurd (hw (.inl hk)) (by show ¬2<=0; decide)
 ·exact absurd (hw (.inr hk)) (by show ¬2<=0; decide)
 ·exact (no 15 hk (by show ¬0=1; decide)).elim
theorem zan {u:Int} {D:List yy.T} (c:Cxt u D) {q:List Int} {t:Tree} (h:OKT u D t) (hf:(wJ t).1=true) (hp:Zl t=false):2<=t.size/\(t.size=2->0<=ev u D q t):=by
 have hu:=c.hu;refine ⟨?_,fun h2=>?_⟩
 ·rcases Nat.lt_or_ge t.size 2 with hs | hs
  ·have:=(Qj h hf (by omega)).1
   unfold Zl at hp;rw[this] at hp; cases hp
  ·exact hs
 ·obtain ⟨n,ks⟩:=t
  obtain ⟨_,hk⟩:=Vc h hf;rw[wX] at h2;have hl:=wP ks;have litv:∀a:Tree,a.size<=1->a∈ks->W1 a.root=true/\nN a.root>=0/\0<=ev u D q a/\(nN a.root=0->ev u D q a=0):=by
   intro a hs hm;obtain ⟨l1,l2⟩:=Qj (h.kid hm) (Wc hm hf) hs;have hn:=(xF (h.kid hm).wf.node).2.1;obtain ⟨m,ls⟩:=a;have l1':(nK m==1||nK m==2)=true:=l1
   have hn:0<=nN m:=hn;refine ⟨l1,hn,?_⟩;have:ev u D q (.nd m ls)=bif nK m==1 then nN m else nN m*u:=by
    rw[uk]; unfold evN;simp only[Bool.or_eq_true,beq_iff_eq] at l1';rcases l1' with l | l<;>(rw[l]; rfl)
   rw[this];show 0<=(bif nK m==1 then nN m else nN m*u)/\(nN m=0->(bif nK m==1 then nN m else nN m*u)=0);have h3:0<=nN m*u:=Int.mul_nonneg hn (by omega);cases nK m==1
   ·exact ⟨h3,fun e=>by simp only[cond_false]; rw[e,Int.zero_mul]⟩
   ·exact ⟨hn,fun e=>e⟩
  have one:ks.length=1->∃a,ks=[a]/\a.size<=1:=by
   intro h1;obtain ⟨a,rfl⟩:=List.length_eq_one_iff.1 h1;refine ⟨a,rfl,?_⟩;have:=uz (ks:=[a]) (k:=a) (by simp);unfold Tree.size;rw[vo,List.length_append] at h2;omega
  have two:2<=ks.length->False:=fun h=>by omega
  have hw:=fun hk=>(h.wf.several (t:=.nd n ks) hk).1
  rcases hk with hk | hk | hk | hk | hk | hk | hk | hk | hk
  ·exfalso; unfold Zl W1 at hp
   have hp:((nK n==1||nK n==2)||_)=false:=hp
   rw[hk] at hp; cases hp
  ·exfalso; unfold Zl W1 at hp
   have hp:((nK n==1||nK n==2)||_)=false:=hp
   rw[hk] at hp; cases hp
  ·obtain ⟨a,rfl,ha⟩:=one (by rw[h.len,z8 hk]; rfl)
   obtain ⟨l1,l2,l3,l4⟩:=litv a ha (by simp);have hz:nN a.root=0:=by
    have hp:((nK n==1||nK n==2)||(nK n==5&&(W1 a.root&&nN a.root != 0)))=false:=hp
    rw[hk,l1] at hp;have hp:(nN a.root != 0)=false:=hp;simpa using hp
   rw[uk];have:evN u D q n ([a].map (ev u D q))=0-ev u D q a:=by unfold evN; rw[hk]; rfl
   rw[this,l4 hz]; decide
  ·exact (two (by rw[h.len,z8 hk]; exact Nat.le_refl 2)).elim
  ·exact (two (by rw[h.len,z8 hk]; exact Nat.le_refl 2)).elim
  ·exact (two (by rw[h.len,z8 hk]; exact Nat.le_refl 2)).elim
  ·exact (two (hw (.inl hk))).elim
  ·exact (two (hw (.inr hk))).elim
  ·obtain ⟨a,rfl,ha⟩:=one (by rw[h.len,z8 hk]; rfl)
   obtain ⟨l1,l2,l3,l4⟩:=litv a ha (by simp);rw[uk];have:evN u D q n ([a].map (ev u D q))=tw 2 (ev u D q a*(10000-nN n)) 10000:=by unfold evN; rw[hk]; rfl
   rw[this,zdu];have hN:=(xF h.node).2.2.1;rw[uR hk] at hN;have hN:nN n<=10000:=hN;exact tq_nn (by decide) (Int.mul_nonneg l3 (by omega))
theorem zao {u:Int} {D:List yy.T} (c:Cxt u D) {q:List Int} (hq:okQ D q) {t y:Tree} (h:OKT u D t) (e:U9 u D q t=some y):FK u D t y/\y.size<t.size:=by
 unfold U9 at e;cases hf:(wJ t).1 with
 | false=>rw[hf] at e; cases e
 | true =>
 rw[hf] at e;simp only[Bool.not_true,cond_false] at e;cases hp:Zl t with
 | true=>rw[hp] at e; cases e
 | false =>
 rw[hp] at e;simp only[cond_false] at e;have hI:=Zm c hq t h;have a1:=hI.lo;have a2:=hI.hi;have a3:=hI.bd;have hu:=c.hu;obtain ⟨s1,s2⟩:=zan c (q:=q) h hf hp;have hty:=zdf t h hf;have hdeep:=(ud t).1;have key:∀k v:Int,(k=1\/k=2)->ty t=k-1->(bif k==1 then v else v*u)=ev u D q t->litT k v t=some y->FK u D t y/\y.size<t.size:=by
  intro k v hk htk hv e;unfold litT at e;cases h1:decide (v < -1000000000000) with
  | true=>rw[h1] at e; cases e
  | false =>
  rw[h1] at e;have h1:=of_decide_eq_false h1;simp only[cond_false] at e;cases h2:decide (v>1000000000000) with
  | true=>rw[h2] at e; cases e
  | false =>
  rw[h2] at e;have h2:=of_decide_eq_false h2;simp only[cond_false] at e;have hvu:∀w:Int,w=v\/w=0-v->(bif k==1 then w else w*u)=ev u D q t\/(bif k==1 then w else w*u)=0-ev u D q t:=by
   intro w hw;rw[<-hv];rcases hw with rfl | rfl
   ·exact .inl rfl
   ·right
    cases k==1
    ·simp only[cond_false]; rw[Int.sub_mul]; omega
    ·rfl
  cases h3:decide (v<0) with
  | true =>
   rw[h3] at e;have h3:=of_decide_eq_true h3;simp only[cond_true,Option.some.injEq] at e;have hb:=hvu (0-v) (.inr rfl);have hneg:ev u D q t<0:=by
    rw[<-hv];cases k==1
    ·exact Int.mul_neg_of_neg_of_pos h3 (by omega)
    ·exact h3
   have hval:(bif k==1 then 0-v else (0-v)*u)=0-ev u D q t:=by
    rw[<-hv];cases k==1
    ·simp only[cond_false]; rw[Int.sub_mul]; omega
    ·rfl
   obtain ⟨l1,l2,l3,l4,l5,l6,l7⟩:=zbD (u:=u) (D:=D) (k:=k) (v:=0-v) (a:=t.root.2.2.2.2.2) hk (by omega) (by omega) (by rw[hval]; omega);subst e;have hs3:t.size≠2:=fun hh=>by have:=s2 hh; omega
   refine ⟨⟨l1,by omega,by rw[l3,htk],fun _=>l7,by rw[l4,hval]; omega,by omega,fun q' hq'=>?_⟩,by omega⟩;rw[l6,hval,Ql u D q' q hf]; omega
  | false =>
   rw[h3] at e;have h3:=of_decide_eq_false h3;simp only[cond_false,Option.some.injEq] at e;obtain ⟨l1,l2,l3,l4,l5,l6,l7⟩:=zcZ (u:=u) (D:=D) (k:=k) (v:=v) (a:=t.root.2.2.2.2.2) hk (by omega) (by omega) (by rw[hv]; omega);subst e;refine ⟨⟨l1,by omega,by rw[l3,htk],fun _=>l7,by rw[l4,hv]; omega,by omega,fun q' hq'=>?_⟩,by omega⟩;rw[l6,hv,Ql u D q' q hf]
 cases hm:(wJ t).2 with
 | false =>
  rw[hm] at e hty;exact key 1 _ (.inl rfl) hty rfl e
 | true =>
  rw[hm] at e hty;simp only[cond_true] at e;cases hz:decide (tr (ev u D q t) u=0) with
  | false=>rw[hz] at e; cases e
  | true =>
   rw[hz] at e;exact key 2 _ (.inr rfl) hty (tq_mul (by omega) (of_decide_eq_true hz)) e
def Vd:List (Option Tree)->Option Tree
 | []=>none
 | some y::_=>some y
 | none::r=>Vd r
def q0 (D:List yy.T):List Int:=List.replicate D.length 0
theorem q0_ok (D:List yy.T):okQ D (q0 D):=⟨by unfold q0; simp,fun x hx=>by rw[List.eq_of_mem_replicate hx]; omega⟩
noncomputable def YN (u:Int) (D:List yy.T) (t:Tree):Option Tree:=Vd [U9 u D (q0 D) t,negT t,offT t,YA t,Xu t,X2 t,zaK t]
theorem VA {P:Tree->Prop} {y:Tree}:∀{l:List (Option Tree)},Vd l=some y->(∀o∈l,o=some y->P y)->P y
 | [],h,_=>by cases h
 | some z::r,h,hp=>by
  have:z=y:=by simpa [Vd] using h
  subst this;exact hp (some z) (by simp) rfl
 | none::r,h,hp=>VA (l:=r) h fun o ho=>hp o (by simp[ho])
theorem TL {u:Int} {D:List yy.T} (c:Cxt u D) {t y:Tree} (h:OKT u D t) (e:YN u D t=some y):FK u D t y/\y.size<t.size:=by
 refine VA (P:=fun y=>FK u D t y/\y.size<t.size) e fun o ho he=>?_
 subst he;simp only[List.mem_cons,List.not_mem_nil,or_false] at ho;rcases ho with ho | ho | ho | ho | ho | ho | ho
 ·exact zao c (q0_ok D) h ho.symm
 ·exact zcQ c h ho.symm
 ·exact zcL c h ho.symm
 ·exact Tv c h ho.symm
 ·exact SK c h ho.symm
 ·exact SZ c h ho.symm
 ·exact zbA c h ho.symm
noncomputable def vR (u:Int) (D:List yy.T):Nat->Tree->Tree
 | 0,t=>t
 | n+1,t=>match YN u D (.nd t.root (t.kids.map (vR u D n))) with
  | some y=>vR u D n y
  | none=>.nd t.root (t.kids.map (vR u D n))
theorem Zt {u:Int} {D:List yy.T} (c:Cxt u D):∀(n:Nat) (t:Tree),t.size<n->OKT u D t->FK u D t (vR u D n t)/\∀s∈(vR u D n t).subs,YN u D s=none
 | 0,t,h,_=>by omega
 | n+1,t,hn,h=>by
  obtain ⟨m,ks⟩:=t;have ihk:∀k∈ks,FK u D k (vR u D n k)/\∀s∈(vR u D n k).subs,YN u D s=none:=fun k hk=>Zt c n k (by have:=t6 (n:=m) hk; omega) (h.kid hk)
  have hx:=FK.kids c h fun k hk=>(ihk k hk).1
  have e:vR u D (n+1) (.nd m ks)=match YN u D (.nd m (ks.map (vR u D n))) with
   | some y=>vR u D n y
   | none=>.nd m (ks.map (vR u D n)):=rfl
  rw[e];cases hr:YN u D (.nd m (ks.map (vR u D n))) with
  | some y =>
   obtain ⟨r1,r2⟩:=TL c hx.okt hr;have:=hx.size;obtain ⟨i1,i2⟩:=Zt c n y (by omega) r1.okt;exact ⟨(hx.trans r1).trans i1,i2⟩
  | none =>
   refine ⟨hx,vX.2 ⟨hr,fun k hk=>?_⟩⟩;obtain ⟨x,hx',rfl⟩:=List.mem_map.1 hk;exact (ihk x hx').2
theorem Se {R:Type} (me:za.M) (F:Nat) (kk:LTr zb.T->List (LTr zb.T)->zd.T->Option R) (L:List (LTr zb.T)) (N:Int) (f:zd.T) (x:LTr zb.T) (g:Tree->Tree):∀(xs:List Tree) (i:Int) (pre Z:List (LTr zb.T)),(pre.length:Int)=i->Z.length=xs.length->
  (∀k∈xs,me f (toL k)=some ((toL (g k),()),()))->za.l3.rg me F (fun x _ _ _ _ f kids=>kk x kids f) L N (xs.map toL) i x f (pre++Z)=kk x (pre++xs.map (fun k=>toL (g k))) f
 | [],i,pre,Z,hi,hZ,h=>by
  have:Z=[]:=List.eq_nil_of_length_eq_zero (by simpa using hZ);subst this; rfl
 | k::r,i,pre,Z,hi,hZ,h=>by
  cases Z with
  | nil=>simp at hZ
  | cons z Z =>
   simp only[List.map_cons];unfold za.l3.rg;subst hi;rw[h k (by simp),zp,xm (by
    simp only[List.length_append,List.length_cons]; omega),cond_true]
   have ih:=Se me F kk L N f x g r ((pre.length:Int)+1) (pre++[toL (g k)]) Z (by simp) (by simpa using hZ) (fun y hy=>h y (by simp[hy]));rw[show (pre++z::Z).set ((pre.length:Nat):Int).toNat (toL (g k))=(pre++[toL (g k)])++Z by
    rw[show ((pre.length:Nat):Int).toNat=pre.length from rfl,List.set_append_right _ _ (Nat.le_refl _),Nat.sub_self]; simp]
   refine ih.trans ?_;simp
end Go.VS
