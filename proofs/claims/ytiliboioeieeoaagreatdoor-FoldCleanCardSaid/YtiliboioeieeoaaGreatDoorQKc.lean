import Derived.Test.YtiliboioeieeoaaGreatDoorQKb
import Derived.Test.YtiliboioeieeoaaGreatDoorQKa
set_option linter.all false
set_option maxRecDepth 100000
namespace Go.VS
open Go IntKind List
variable {D:List xB.T} {t y s x z:Tree} {u k a v S:Int} {ks pre post ls xs:List Tree} {R:Type} {q l m vs:List Int} {b i j:Nat} {r:Option Tree}
def Sd (n:za.T) (rs:List (Bool×Bool)):Bool×Bool:=bif isQ n then (false,false) else (rs.all (·.1),nK n==2||rs.any (·.2))
def vV:Tree->Bool×Bool:=Tree.fold Sd
theorem Zb (n:za.T) (ks:List Tree):vV (.nd n ks)=Sd n (ks.map vV):=Tree.fold_nd _ n ks
theorem zaT (F:Nat) {R:Type} (me:zx.M) (k:Bool->Bool->Option R) (L:List (LTr za.T)) (N:Int):∀(ks:List Tree) (i:Int) (is money:Bool),
  (∀x∈ks,me (toL x)=some (((vV x).1,(vV x).2,()),()))->
  zx.l5.rg me F (fun is m _ _ _ _=>k is m) L N (ks.map toL) i is money=k (is&&(ks.map vV).all (·.1)) (money||(ks.map vV).any (·.2))
 | [],i,is,money,_=>by show k is money=_; simp
 | t::r,i,is,money,hm=>by
  have ih:=fun is money=>zaT F me k L N r (i+1) is money (fun x hx=>hm x (by simp[hx]))
  simp only[map_cons];unfold zx.l5.rg;rw[hm t (by simp),zh];simp only[all_cons,any_cons];cases is<;>cases money
  ·simp only[cond_false,ih,Bool.false_and,Bool.false_or]
  ·simp only[cond_false,cond_true,ih,Bool.false_and,Bool.true_or]
  ·simp only[cond_false,cond_true,ih,Bool.true_and,Bool.false_or]
  ·simp only[cond_true,ih,Bool.true_and,Bool.true_or]
theorem zfY (F:Nat) (hF:4096<F) (t:Tree):t.size<=4096->∀n:Nat,t.size<n->zx.it F n (toL t)=some (((vV t).1,(vV t).2,()),()):=by
 refine Tree.ind (P:=fun t=>t.size<=4096->∀n:Nat,t.size<n->zx.it F n (toL t)=some (((vV t).1,(vV t).2,()),())) (fun m ks ih hs n hn=>?_) t;rw[vn] at hs hn;have hk:=vo ks;obtain ⟨n',rfl⟩:∃k,n=k+1:=⟨n-1,by omega⟩;unfold zx.it zx.sh0;rw[up,cond_true,uw,tX,Zb];unfold Sd isQ;show (bif nK m==3 then _ else _)=_;cases h3:(nK m==3) with
 | true=>rfl
 | false =>
  simp only[cond_false,cond_true,Bool.false_or];show (bif nK m==4 then _ else _)=_;cases h4:(nK m==4) with
  | true=>rfl
  | false =>
   simp only[cond_false,cond_true];refine Eq.trans (zx.l5.rq (zx.it F n') F _ (ks.map toL) _ rfl (by simp; omega) (ks.map toL) 0 F _ _ (by simp) (by simp; omega)) ?_;refine (zaT F (zx.it F n') (fun is money=>(some ((is,money,()),()):Option zx.sg.R)) (ks.map toL) ((ks.map toL).length:Int) ks 0 true _ (fun x hx=>ih x hx (by have:=tS hx; omega) n' (by have:=tS hx; omega))).trans ?_;rfl
theorem zfZ (hs:t.size<=4096):zx.sh FU (toL t)=some (((vV t).1,(vV t).2,()),()) :=
 zfY FU tl t hs FU (by have:(4096:Nat)<FU:=tl; omega)
def er:Tree->Tree:=Tree.fold (fun n ks=>.nd (n.1,n.2.1,n.2.2.1,n.2.2.2.1,n.2.2.2.2.1,0) ks)
theorem zb0 (n:za.T) (ks:List Tree):er (.nd n ks)=.nd (n.1,n.2.1,n.2.2.1,n.2.2.2.1,n.2.2.2.2.1,0) (ks.map er):=Tree.fold_nd _ n ks
theorem UM {n m:za.T}:er (.nd n ks)=er (.nd m ls)↔n.1=m.1/\n.2.1=m.2.1/\n.2.2.1=m.2.2.1/\n.2.2.2.1=m.2.2.2.1/\n.2.2.2.2.1=m.2.2.2.2.1/\ks.map er=ls.map er:=by
 rw[zb0,zb0];simp only[Tree.nd.injEq,Prod.mk.injEq,and_true];constructor
 ·rintro ⟨⟨a,b,c,d,e⟩,f⟩; exact ⟨a,b,c,d,e,f⟩
 ·rintro ⟨a,b,c,d,e,f⟩; exact ⟨⟨a,b,c,d,e⟩,f⟩
noncomputable def uf (x y:Tree):Bool:=@decide (er x=er y) (Classical.propDecidable _)
theorem qy:uf x y=true↔er x=er y:=by unfold uf; exact @decide_eq_true_iff _ (Classical.propDecidable _)
theorem UN (F:Nat) {R:Type} (k0:Bool->Option R) (k1:Bool->Option R):∀(d i fu:Nat) (a b:List yp.T),a.length=b.length->i+d=a.length->d<fu->a.length<4611686018427387904->
  yl.l4 F k0 (fun _ _ _ _ t=>k1 t) fu a b (a.length:Int) (i:Int)=if a.drop i=b.drop i then k1 false else k0 false
 | 0,i,fu,a,b,h,hi,hf,hl=>by
  obtain ⟨fu,rfl⟩:∃k,fu=k+1:=⟨fu-1,by omega⟩;have e1:=uO (N:=(a.length:Int)) (n:=a.length) (i:=i) rfl (by omega);rw[if_pos (by rw[drop_of_length_le (by omega),drop_of_length_le (by omega)])];simp only[yl.l4,yl.l4.y,e1,cond_false]
 | d+1,i,fu,a,b,h,hi,hf,hl=>by
  obtain ⟨fu,rfl⟩:∃k,fu=k+1:=⟨fu-1,by omega⟩;have hia:i<a.length:=by omega
  have hib:i<b.length:=by omega
  have ih:=UN F k0 k1 d (i+1) fu a b h (by omega) (by omega) hl;have ea:get yp a ((i:Int)).toNat=a[i]:=by rw[Int.toNat_natCast]; exact Uf hia
  have eb:get yp b ((i:Int)).toNat=b[i]:=by rw[Int.toNat_natCast]; exact Uf hib
  have hw:i64.wrap ((i:Int)+1)=((i+1:Nat):Int):=by rw[yz (by omega) (by omega)]; omega
  have hd:(a.drop i=b.drop i)↔(a[i]=b[i]/\a.drop (i+1)=b.drop (i+1)):=by
   rw[List.drop_eq_getElem_cons hia,List.drop_eq_getElem_cons hib,List.cons.injEq]
  simp only[yl.l4,yl.l4.y];rw[uN (N:=(a.length:Int)) rfl hia,cond_true,xS hia,cond_true,xS hib,cond_true,ea,eb,hw];by_cases hx:a[i]=b[i]
  ·rw[hx]
   simp only[beq_self_eq_true,Bool.and_true,Bool.not_true,cond_false];rw[ih];by_cases hr:a.drop (i+1)=b.drop (i+1)
   ·rw[if_pos hr,if_pos (hd.2 ⟨hx,hr⟩)]
   ·rw[if_neg hr,if_neg (fun h=>hr (hd.1 h).2)]
  ·have hne:(!((a[i].1==b[i].1)&&((a[i].2==b[i].2)&&true)))=true:=by
    rw[Bool.not_eq_true',Bool.and_true];by_cases h1:a[i].1=b[i].1
    ·have h2:a[i].2≠b[i].2:=fun e=>hx (Prod.ext h1 e)
     rw[show (a[i].2==b[i].2)=false from by rw[beq_eq_false_iff_ne]; exact h2,Bool.and_false]
    ·rw[show (a[i].1==b[i].1)=false from by rw[beq_eq_false_iff_ne]; exact h1,Bool.false_and]
   rw[hne,cond_true,if_neg (fun h=>hx (hd.1 h).1)]
theorem zei (F:Nat) {a b:List yp.T} (hF:a.length<F) (hl:a.length<4611686018427387904):yl.sh F a b=some ((decide (a=b),()),()):=by
 unfold yl.sh;by_cases h:a.length=b.length
 ·rw[show ((a.length:Int) != (b.length:Int))=false from by simp[h],cond_false]
  refine (UN F (fun r=>(some ((r,()),()):Option yl.sg.R)) (fun _=>some ((true,()),())) a.length 0 F a b h (by omega) hF hl).trans ?_;simp only[List.drop_zero];by_cases he:a=b
  ·rw[if_pos he,decide_eq_true he]
  ·rw[if_neg he,decide_eq_false he]
 ·rw[show ((a.length:Int) != (b.length:Int))=true from by rw[bne_iff_ne]; omega,cond_true,decide_eq_false (fun e=>h (by rw[e]))]
open Classical in
theorem RJ (F:Nat) {R:Type} (me:yX.M) (k0:Bool->Option R) (k1:Option R) (T:List (LTr za.T)) (N:Int) (ls:List Tree):∀(xs ys:List Tree) (i:Nat),ls.drop i=ys->xs.length=ys.length->
  (∀x∈xs,∀y:Tree,me (toL x) (toL y)=some ((uf x y,()),()))->
  zp.l4.rg me F k0 (fun _ _ _ _ _ _=>k1) T N (xs.map toL) (i:Int) (ls.map toL) qM=if xs.map er=ys.map er then k1 else k0 false
 | [],[],i,hd,_,_=>by rw[if_pos rfl]; rfl
 | [],_::_,i,hd,h,_=>by simp at h
 | _::_,[],i,hd,h,_=>by simp at h
 | x::xs,y::ys,i,hd,h,hm=>by
  have hi:i<ls.length:=by
   rcases Nat.lt_or_ge i ls.length with h' | h'
   ·exact h'
   ·rw[drop_of_length_le h'] at hd; cases hd
  have hy:ls[i]?=some y:=by
   have:=congrArg (fun l:List Tree=>l[0]?) hd;simpa [List.getElem?_drop] using this
  have hd':ls.drop (i+1)=ys:=by
   rw[<-drop_drop,hd]; rfl
  have ih:=RJ F me k0 k1 T N ls xs ys (i+1) hd' (by simpa using h) (fun x hx=>hm x (by simp[hx]));simp only[map_cons];unfold zp.l4.rg;rw[xS (by simpa using hi),cond_true,Int.toNat_natCast,zda hy];show (oB (me (toL x) (toL y)) _)=_;rw[hm x (by simp) y,zh];cases hs:uf x y with
  | true =>
   have e:=qy.1 hs;simp only[Bool.not_true,cond_false];rw[show ((i:Int)+1)=((i+1:Nat):Int) by omega,ih,e];by_cases hr:xs.map er=ys.map er
   ·rw[if_pos hr,if_pos (by rw[hr])]
   ·rw[if_neg hr,if_neg (fun h=>hr (by simpa using h))]
  | false =>
   simp only[Bool.not_false,cond_true];rw[if_neg (fun h:er x::xs.map er=er y::ys.map er=>by
    have:=qy.2 (List.cons.inj h).1;rw[hs] at this; cases this)]
theorem same_it (F:Nat) (hF:4096<F) {dims:Nat} (x:Tree):WF dims x->x.size<=4096->∀(n:Nat) (y:Tree),x.size<n->yX.it F n (toL x) (toL y)=some ((uf x y,()),()):=by
 refine Tree.ind (P:=fun x=>WF dims x->x.size<=4096->∀(n:Nat) (y:Tree),x.size<n->yX.it F n (toL x) (toL y)=some ((uf x y,()),())) (fun m ks ih hw hs n y hn=>?_) x;obtain ⟨⟨h1,h2⟩,h3⟩:=qQ.1 hw;rw[vn] at hs hn;have hk:=vo ks;obtain ⟨n',rfl⟩:∃k,n=k+1:=⟨n-1,by omega⟩;obtain ⟨m',ls⟩:=y;have ht:=Xz h2;unfold yX.it yX.sh0;simp only[up,cond_true,uw,tX];show (bif m.1==m'.1 then _ else _)=_;have no:¬(er (.nd m ks)=er (.nd m' ls))->uf (.nd m ks) (.nd m' ls)=false:=fun h=>by
  cases hb:uf (.nd m ks) (.nd m' ls) with
  | false=>rfl
  | true=>exact absurd (qy.1 hb) h
 by_cases e1:m.1=m'.1
 case neg=>rw[show (m.1==m'.1)=false from by rw[beq_eq_false_iff_ne]; exact e1,cond_false,no (fun h=>e1 (UM.1 h).1)]
 rw[show (m.1==m'.1)=true from by rw[beq_iff_eq]; exact e1,cond_true];show (bif m.2.1==m'.2.1 then _ else _)=_;by_cases e2:m.2.1=m'.2.1
 case neg=>rw[show (m.2.1==m'.2.1)=false from by rw[beq_eq_false_iff_ne]; exact e2,cond_false,no (fun h=>e2 (UM.1 h).2.1)]
 rw[show (m.2.1==m'.2.1)=true from by rw[beq_iff_eq]; exact e2,cond_true];show (bif m.2.2.1==m'.2.2.1 then _ else _)=_;by_cases e3:m.2.2.1=m'.2.2.1
 case neg=>rw[show (m.2.2.1==m'.2.2.1)=false from by rw[beq_eq_false_iff_ne]; exact e3,cond_false,no (fun h=>e3 (UM.1 h).2.2.1)]
 rw[show (m.2.2.1==m'.2.2.1)=true from by rw[beq_iff_eq]; exact e3,cond_true];show (bif m.2.2.2.1==m'.2.2.2.1 then _ else _)=_;by_cases e4:m.2.2.2.1=m'.2.2.2.1
 case neg=>rw[show (m.2.2.2.1==m'.2.2.2.1)=false from by rw[beq_eq_false_iff_ne]; exact e4,cond_false,no (fun h=>e4 (UM.1 h).2.2.2.1)]
 rw[show (m.2.2.2.1==m'.2.2.2.1)=true from by rw[beq_iff_eq]; exact e4,cond_true];show (oB (yl.sh F (nT m) (nT m')) _)=_;rw[zei F (by omega) (by omega),zh];by_cases e5:nT m=nT m'
 case neg =>
  rw[decide_eq_false e5];simp only[cond_false];rw[no (fun h=>e5 (UM.1 h).2.2.2.2.1)]
 rw[decide_eq_true e5];simp only[cond_true];rw[up,cond_true,up,cond_true,tX,tX];show (oB (zp.sh (yX.it F n') F (ks.map toL) (ls.map toL) qM) _)=_;have hsh:zp.sh (yX.it F n') F (ks.map toL) (ls.map toL) qM=some ((uf (.nd m ks) (.nd m' ls),()),()):=by
  unfold zp.sh;by_cases hl:ks.length=ls.length
  ·rw[show (((ks.map toL).length:Int) != ((ls.map toL).length:Int))=false from by simp[hl],cond_false]
   refine Eq.trans (zp.l4.rq (yX.it F n') F _ _ (ks.map toL) _ rfl (by simp; omega) (ks.map toL) 0 F _ _ (by simp) (by simp; omega)) ?_;refine (RJ F (yX.it F n') (fun r=>(some ((r,()),()):Option zp.sg.R)) (some ((true,()),())) (ks.map toL) ((ks.map toL).length:Int) ls ks ls 0 (by simp) hl
    (fun x hx y=>ih x hx (h3 x hx) (by have:=tS hx; omega) n' y (by have:=tS hx; omega))).trans ?_
   by_cases he:ks.map er=ls.map er
   ·rw[if_pos he,qy.2 (UM.2 ⟨e1,e2,e3,e4,e5,he⟩)]
   ·rw[if_neg he,no (fun h=>he (UM.1 h).2.2.2.2.2)]
  ·rw[show (((ks.map toL).length:Int) != ((ls.map toL).length:Int))=true from by rw[bne_iff_ne]; simp; omega,cond_true,no (fun h=>hl (by
    have:=congrArg List.length (UM.1 h).2.2.2.2.2;simpa using this))]
 rw[hsh,zh]
theorem zcL {dims:Nat} (hw:WF dims x) (hs:x.size<=4096):yX.sh FU (toL x) (toL y)=some ((uf x y,()),()) :=
 same_it FU tl x hw hs FU y (by have:(4096:Nat)<FU:=tl; omega)
structure OKT (u:Int) (D:List xB.T) (t:Tree):Prop where
 wf:WF D.length t
 size:t.size<=1024
 tys:∀s∈t.subs,tyE s=0
 mgs:∀s∈t.subs,vR s.root (mag u D s)<=BND
theorem OKT.kid {n:za.T} (h:OKT u D (.nd n ks)) {k:Tree} (hk:k∈ks):OKT u D k :=
 ⟨(qQ.1 h.wf).2 k hk,by have:=h.size; rw[vn] at this; have:=tS hk; omega,(tP.1 h.tys).2 k hk,(tP.1 h.mgs).2 k hk⟩
theorem OKT.mk' {n:za.T} (h1:ks.length=ar n) (h2:vA D.length n (ar n)=0) (h3:Tree.size (.nd n ks)<=1024) (h4:tyE (.nd n ks)=0) (h5:vR n (mag u D (.nd n ks))<=BND)
  (h6:∀k∈ks,OKT u D k):OKT u D (.nd n ks) :=
 ⟨qQ.2 ⟨⟨h1,h2⟩,fun k hk=>(h6 k hk).wf⟩,h3,tP.2 ⟨h4,fun k hk=>(h6 k hk).tys⟩,tP.2 ⟨h5,fun k hk=>(h6 k hk).mgs⟩⟩
structure Cxt (u:Int) (D:List xB.T):Prop where
 hu:1<=u
 hu2:u<=1000000000000000000000000
 hD:dE [] D=0
 hd4:D.length<=4
theorem Wh (c:Cxt u D) (hq:okQ D q) (t:Tree):OKT u D t->Inv u D q t:=by
 refine Tree.ind (P:=fun t=>OKT u D t->Inv u D q t) (fun n ks ih h=>?_) t;obtain ⟨⟨h1,h2⟩,h3⟩:=qQ.1 h.wf;have htop:wH ks n=.nd n ks:=by
  unfold wH;rw[h1,Nat.sub_self]; rfl
 have hm:=(tP.1 h.mgs).1;have:=zcJ c.hu c.hu2 (p:=(ByteArray.empty,D,0,[])) c.hD c.hd4 hq (st:=ks) (n:=n) (by show vA D.length n ks.length=0; rw[h1]; exact h2) (fun k hk=>ih k hk (h.kid hk)) (by
  show Ys u D (wH ks n)=0;rw[htop];unfold Ys;rw[decide_eq_false (by have:vR (Tree.nd n ks).root (mag u D (Tree.nd n ks))<=BND:=hm; omega)]; rfl)
 rw[htop] at this;exact this
theorem Uu (h:tyE t=0):ty t≠-1:=by
 intro e;unfold tyE at h;rw[e] at h;exact absurd (show (80:Int)=0 from h) (by decide)
theorem YC {r:List Int} (h:qk (a::r)≠-1):qk (a::r)=a/\∀x∈r,x=a:=by
 have e:qk (a::r)=bif r.all (fun x=>x==a) then a else -1:=rfl
 rw[e] at h ⊢;cases hb:r.all (fun x=>x==a) with
 | false=>rw[hb] at h; exact absurd rfl h
 | true =>
  refine ⟨rfl,fun x hx=>?_⟩;have:=List.all_eq_true.1 hb x hx;simpa using this
theorem QJ (t:Tree):OKT u D t->(vV t).1=true->ty t=if (vV t).2 then 1 else 0:=by
 refine Tree.ind (P:=fun t=>OKT u D t->(vV t).1=true->ty t=if (vV t).2 then 1 else 0) (fun n ks ih h hf=>?_) t;obtain ⟨⟨h1,h2⟩,h3⟩:=qQ.1 h.wf;obtain ⟨g1,g2,g3,g4,g5,g6,g7,g8⟩:=wD h2;have hne:=Uu (tP.1 h.tys).1;rw[Zb] at hf ⊢;rw[qR] at hne ⊢;unfold Sd at hf ⊢;cases hq:isQ n with
 | true=>rw[hq] at hf; cases hf
 | false =>
 rw[hq] at hf;simp only[cond_false] at hf ⊢;have hk:∀k∈ks,(vV k).1=true:=fun k hk=>List.all_eq_true.1 hf _ (mem_map.2 ⟨k,hk,rfl⟩)
 have hty:∀k∈ks,ty k=if (vV k).2 then 1 else 0:=fun k hkm=>ih k hkm (h.kid hkm) (hk k hkm)
 have alike:∀(a:Tree) (r:List Tree),ks=a::r->(nK n==2)=false->tyN n (ks.map ty)=qk (ks.map ty)->tyN n (ks.map ty)=if (nK n==2||(ks.map vV).any (·.2))=true then 1 else 0:=by
  intro a r e h2' e2;rw[e2] at hne ⊢;subst e;simp only[map_cons] at hne ⊢;obtain ⟨o1,o2⟩:=YC hne;rw[o1,h2',Bool.false_or,hty a (by simp),any_cons];have hall:∀x∈r,(vV x).2=(vV a).2:=by
   intro x hx;have e3:=o2 (ty x) (mem_map.2 ⟨x,hx,rfl⟩);rw[hty x (by simp[hx]),hty a (by simp)] at e3;cases hx2:(vV x).2<;>cases ha2:(vV a).2<;>rw[hx2,ha2] at e3<;>first | rfl | (simp at e3)
  cases ha:(vV a).2 with
  | true=>simp
  | false =>
   have:(r.map vV).any (·.2)=false:=by
    rw[List.any_eq_false];intro y hy;obtain ⟨x,hx,rfl⟩:=mem_map.1 hy;rw[hall x hx,ha]; simp
   rw[this]; rfl
 rcases ug g1 with hh | hh | hh | hh | hh | hh | hh | hh | hh | hh | hh | hh | hh | hh | hh | hh
 ·have:ks=[]:=eq_nil_of_length_eq_zero (by rw[h1,yI hh]; rfl)
  subst this;unfold tyN; rw[hh]; rfl
 ·have:ks=[]:=eq_nil_of_length_eq_zero (by rw[h1,yI hh]; rfl)
  subst this;unfold tyN; rw[hh]; rfl
 ·unfold isQ at hq; rw[hh] at hq; cases hq
 ·unfold isQ at hq; rw[hh] at hq; cases hq
 ·have hl:ks.length=1:=by rw[h1,yI hh]; rfl
  obtain ⟨a,e⟩:=length_eq_one_iff.1 hl;exact alike a [] e (by rw[hh]; rfl) (by unfold tyN; rw[hh]; rfl)
 ·have hl:ks.length=2:=by rw[h1,yI hh]; rfl
  obtain ⟨a,b,e⟩:=ZY hl;exact alike a [b] e (by rw[hh]; rfl) (by unfold tyN; rw[hh]; rfl)
 ·have hl:ks.length=2:=by rw[h1,yI hh]; rfl
  obtain ⟨a,b,e⟩:=ZY hl;exact alike a [b] e (by rw[hh]; rfl) (by unfold tyN; rw[hh]; rfl)
 ·have hl:ks.length=2:=by rw[h1,yI hh]; rfl
  obtain ⟨a,b,e⟩:=ZY hl;subst e;have et:tyN n ([a,b].map ty)=Yz (ty a) (ty b):=by unfold tyN; rw[hh]; rfl
  rw[et] at hne ⊢;rw[hh,hty a (by simp),hty b (by simp)] at*;simp only[map_cons,map_nil,any_cons,List.any_nil,Bool.or_false];cases ha:(vV a).2<;>cases hb:(vV b).2<;>first | rfl | (rw[ha,hb] at hne; exact absurd rfl hne)
 ·have h2k:2<=ks.length:=by
   rw[tC hh] at g4;have g4:(decide (nC n>=2)&&decide (nC n<=16))=true:=g4;simp at g4;rw[h1,yI hh];show 2<=(nC n).toNat;omega
  obtain ⟨a,r,e⟩:∃a r,ks=a::r:=by
   cases hks:ks with
   | nil=>rw[hks] at h2k; simp at h2k
   | cons a r=>exact ⟨a,r,rfl⟩
  exact alike a r e (by rw[hh]; rfl) (by unfold tyN; rw[hh]; rfl)
 ·have h2k:2<=ks.length:=by
   rw[tC hh] at g4;have g4:(decide (nC n>=2)&&decide (nC n<=16))=true:=g4;simp at g4;rw[h1,yI hh];show 2<=(nC n).toNat;omega
  obtain ⟨a,r,e⟩:∃a r,ks=a::r:=by
   cases hks:ks with
   | nil=>rw[hks] at h2k; simp at h2k
   | cons a r=>exact ⟨a,r,rfl⟩
  exact alike a r e (by rw[hh]; rfl) (by unfold tyN; rw[hh]; rfl)
 all_goals (
  have hl:1<=ks.length:=by rw[h1,yI hh]; first | exact Nat.le_refl 1 | exact (by decide:1<=3)
  obtain ⟨a,r,e⟩:∃a r,ks=a::r:=by
   cases hks:ks with
   | nil=>rw[hks] at hl; simp at hl
   | cons a r=>exact ⟨a,r,rfl⟩
  subst e;have hta:=hty a (by simp);have hcn:vS (ty a)=false:=by rw[hta]; cases (vV a).2<;>rfl)
 ·exfalso; apply hne; unfold tyN; rw[hh]; show (bif vS (ty a) then ty a else -1)=-1; rw[hcn]; rfl
 ·exfalso; apply hne; unfold tyN; rw[hh]; show (bif vS (ty a) then ty a else -1)=-1; rw[hcn]; rfl
 ·exfalso; apply hne; unfold tyN; rw[hh]; show (bif vS (ty a) then (1:Int) else -1)=-1; rw[hcn]; rfl
 ·exfalso; apply hne; unfold tyN; rw[hh]; show (bif vS (ty a) then (1:Int) else -1)=-1; rw[hcn]; rfl
 ·have hr:r=[]:=eq_nil_of_length_eq_zero (by
   have:(a::r).length=1:=by rw[h1,yI hh]; rfl
   simpa using this)
  subst hr;have et:tyN n ([a].map ty)=bif ty a==1 then 1 else -1:=by unfold tyN; rw[hh]; rfl
  rw[et] at hne ⊢;rw[hta] at hne ⊢;rw[hh];simp only[map_cons,map_nil,any_cons,List.any_nil,Bool.or_false];cases ha:(vV a).2<;>first | rfl | (rw[ha] at hne; exact absurd rfl hne)
 ·exfalso; apply hne; unfold tyN; rw[hh]; show (bif vS (ty a) then qk (r.map ty) else -1)=-1; rw[hcn]; rfl
theorem Ui {n:za.T} (h:OKT u D (.nd n ks)) (hf:(vV (.nd n ks)).1=true) :
  (∀k∈ks,(vV k).1=true)/\(nK n=1\/nK n=2\/nK n=5\/nK n=6\/nK n=7\/nK n=8\/nK n=9\/nK n=10\/nK n=15):=by
 obtain ⟨⟨h1,h2⟩,h3⟩:=qQ.1 h.wf;obtain ⟨g1,g2,g3,g4,g5,g6,g7,g8⟩:=wD h2;have hne:=Uu (tP.1 h.tys).1;rw[Zb] at hf;rw[qR] at hne;unfold Sd at hf;cases hq:isQ n with
 | true=>rw[hq] at hf; cases hf
 | false =>
 rw[hq] at hf;simp only[cond_false] at hf;have hk:∀k∈ks,(vV k).1=true:=fun k hk=>List.all_eq_true.1 hf _ (mem_map.2 ⟨k,hk,rfl⟩)
 refine ⟨hk,?_⟩;have no:∀(k:Int),nK n=k->1<=ks.length->(tyN n (ks.map ty)=if vS ((ks.map ty).getD 0 0) then tyN n (ks.map ty) else -1)->False:=by
  intro k hh hl e;obtain ⟨a,r,e'⟩:∃a r,ks=a::r:=by
   cases hks:ks with
   | nil=>rw[hks] at hl; simp at hl
   | cons a r=>exact ⟨a,r,rfl⟩
  subst e';have hta:=QJ a (h.kid (by simp)) (hk a (by simp));have hcn:vS (ty a)=false:=by rw[hta]; cases (vV a).2<;>rfl
  simp only[map_cons,List.getD_cons_zero,hcn] at e;exact hne e
 have cond_if:∀(b:Bool) (x:Int),(bif b then x else -1)=if b then (bif b then x else -1) else -1:=fun b x=>by cases b<;>rfl
 rcases ug g1 with hh | hh | hh | hh | hh | hh | hh | hh | hh | hh | hh | hh | hh | hh | hh | hh
 ·exact .inl hh
 ·exact .inr (.inl hh)
 ·unfold isQ at hq; rw[hh] at hq; cases hq
 ·unfold isQ at hq; rw[hh] at hq; cases hq
 ·simp[hh]
 ·simp[hh]
 ·simp[hh]
 ·simp[hh]
 ·simp[hh]
 ·simp[hh]
 ·exact (no 11 hh (by rw[h1,yI hh]; exact Nat.le_refl 1) (by unfold tyN; rw[hh]; exact cond_if _ _)).elim
 ·exact (no 12 hh (by rw[h1,yI hh]; exact Nat.le_refl 1) (by unfold tyN; rw[hh]; exact cond_if _ _)).elim
 ·exact (no 13 hh (by rw[h1,yI hh]; exact Nat.le_refl 1) (by unfold tyN; rw[hh]; exact cond_if _ _)).elim
 ·exact (no 14 hh (by rw[h1,yI hh]; exact Nat.le_refl 1) (by unfold tyN; rw[hh]; exact cond_if _ _)).elim
 ·simp[hh]
 ·exact (no 16 hh (by rw[h1,yI hh]; exact (by decide:1<=3)) (by unfold tyN; rw[hh]; exact cond_if _ _)).elim
theorem za0 (F:Nat) {R:Type} (me:ze.M) (kk:LTr za.T->zd.T->zd.T->List zd.T->Option R) (L:List (LTr za.T)) (N:Int) (x:LTr za.T) (f r4:zd.T) (V:Tree->zd.T):∀(ks:List Tree) (i:Int) (acc:List zd.T),
  (∀k∈ks,me f (toL k)=some ((V k,()),()))->acc.length+ks.length<=4096->
  ze.l3.rg me F (fun x _ _ _ _ f r4 k=>kk x f r4 k) L N (ks.map toL) i x f r4 acc=kk x f r4 (acc++ks.map V)
 | [],i,acc,_,_=>by show kk x f r4 acc=_; simp
 | t::r,i,acc,hm,hl=>by
  simp only[length_cons] at hl;have ih:=za0 F me kk L N x f r4 V r (i+1) (acc++[V t]) (fun k hk=>hm k (by simp[hk])) (by simp; omega);simp only[map_cons];unfold ze.l3.rg;rw[hm t (by simp),zh,show Nat.ble (acc.length+([V t]:List zd.T).length) wF=true from uq (by simp; omega),cond_true];refine ih.trans ?_;rw[append_assoc]; rfl
theorem zeE (F:Nat) (hF:4096<F) (c:Cxt u D) (hq:okQ D q) (t:Tree):OKT u D t->(vV t).1=true->∀n:Nat,t.size<n->
  ze.it F n (mk u) (toL t)=some ((mk (ev u D q t),()),()):=by
 refine Tree.ind (P:=fun t=>OKT u D t->(vV t).1=true->∀n:Nat,t.size<n->ze.it F n (mk u) (toL t)=some ((mk (ev u D q t),()),())) (fun m ks ih h hf n hn=>?_) t;obtain ⟨⟨h1,h2⟩,h3⟩:=qQ.1 h.wf;obtain ⟨g1,g2,g3,g4,g5,g6,g7,g8⟩:=wD h2;obtain ⟨hk,kinds⟩:=Ui h hf;have hsz:=h.size;rw[vn] at hsz hn;have hlen:=vo ks;obtain ⟨n',rfl⟩:∃k,n=k+1:=⟨n-1,by omega⟩;have hBND:BND=1329227995784915872903807060280344576:=rfl;have hu:=c.hu;have hu2:=c.hu2;have hI:=Wh c hq (.nd m ks) h;have hIk:∀k∈ks,Inv u D q k:=fun k hkm=>Wh c hq k (h.kid hkm)
 have hN2:=Y0 c.hd4 g3 g1;have hfar:vR m (mag u D (.nd m ks))<=BND:=(tP.1 h.mgs).1;have iu:inR u=true:=by rw[yB]; omega
 have B:∀k∈ks,inR (ev u D q k)=true:=fun k hkm=>by
  have:=hIk k hkm;have a1:=this.lo;have a2:=this.hi;have a3:=this.bd;rw[yB]; omega
 have hV:inR (ev u D q (.nd m ks))=true:=by
  have a1:=hI.lo;have a2:=hI.hi;have a3:=hI.bd;rw[yB]; omega
 unfold ze.it ze.sh0;rw[up,cond_true,tX];refine Eq.trans (ze.l3.rq (ze.it F n') F _ (ks.map toL) _ rfl (by simp; omega) (ks.map toL) 0 F _ _ _ _ (by simp) (by simp; omega)) ?_;refine (za0 F (ze.it F n') (fun x2 f2 r42 k2=>ze.j7 (ze.it F n') F (fun r=>(some ((r,()),()):Option ze.sg.R)) x2 k2 f2 r42) (ks.map toL) ((ks.map toL).length:Int) (toL (.nd m ks)) (mk u) (0,0) (fun k=>mk (ev u D q k)) ks 0 []
  (fun k hkm=>ih k hkm (h.kid hkm) (hk k hkm) n' (by have:=tS hkm; omega)) (by simp; omega)).trans ?_
 rw[nil_append];unfold ze.j7;simp only[up,cond_true,uw];rw[tU] at hV ⊢;have i0:∀(h:1<=ks.length),idx 0 (ks.map fun k=>mk (ev u D q k)).length=true:=fun h=>Zq (by simp; omega)
 have hof:=Zh F (v:=nN m) (by omega) (by omega);rcases kinds with hh | hh | hh | hh | hh | hh | hh | hh | hh
 ·have e:evN u D q m (ks.map (ev u D q))=nN m:=by unfold evN; rw[hh]; rfl
  rw[e];show (bif nK m==1 then _ else _)=_;rw[hh];simp only[Int.reduceBEq,cond_true];show (oB (xV.sh F (nN m)) _)=_;rw[hof,zh]
 ·have e:evN u D q m (ks.map (ev u D q))=nN m*u:=by unfold evN; rw[hh]; rfl
  rw[e] at hV ⊢;show (bif nK m==1 then _ else bif nK m==2 then _ else _)=_;rw[hh];simp only[Int.reduceBEq,cond_true,cond_false];rw[up,cond_true,uw];show (oB (xV.sh F (nN m)) _)=_;rw[hof,zh,W3 F (wu (by rw[yB]; omega)) (wu iu),zh,xR,xR,(vH hV).1]
 ·obtain ⟨a,rfl⟩:=length_eq_one_iff.1 (show ks.length=1 by rw[h1,yI hh]; rfl)
  have e:evN u D q m ([a].map (ev u D q))=0-ev u D q a:=by unfold evN; rw[hh]; rfl
  rw[e] at hV ⊢;show (bif nK m==1 then _ else bif nK m==2 then _ else bif nK m==5 then bif idx 0 ([a].map fun k=>mk (ev u D q k)).length then _ else _ else _)=_;rw[hh];simp only[Int.reduceBEq,cond_true,cond_false];rw[i0 (by simp),cond_true];show (oB (vi.sh F (mk (ev u D q a))) _)=_;rw[zfw F (wu (B a (by simp))),zh,xR,show -ev u D q a=0-ev u D q a by omega,(vH hV).1]
 ·obtain ⟨a,b,rfl⟩:=ZY (show ks.length=2 by rw[h1,yI hh]; rfl)
  have e:evN u D q m ([a,b].map (ev u D q))=ev u D q a+ev u D q b:=by unfold evN; rw[hh]; rfl
  rw[e] at hV ⊢;show (bif nK m==1 then _ else bif nK m==2 then _ else bif nK m==5 then _ else bif nK m==6 then bif idx 0 ([a,b].map fun k=>mk (ev u D q k)).length then _ else _ else _)=_;rw[hh];simp only[Int.reduceBEq,cond_true,cond_false];rw[i0 (by simp),cond_true];show (oB (wZ.sh F (mk (ev u D q a)) (mk (ev u D q b))) _)=_;rw[Q7 F (wu (B a (by simp))) (wu (B b (by simp))),zh,xR,xR,(vH hV).1]
 ·obtain ⟨a,b,rfl⟩:=ZY (show ks.length=2 by rw[h1,yI hh]; rfl)
  have e:evN u D q m ([a,b].map (ev u D q))=ev u D q a-ev u D q b:=by unfold evN; rw[hh]; rfl
  rw[e] at hV ⊢;show (bif nK m==1 then _ else bif nK m==2 then _ else bif nK m==5 then _ else bif nK m==6 then _ else bif nK m==7 then bif idx 0 ([a,b].map fun k=>mk (ev u D q k)).length then _ else _ else _)=_;rw[hh];simp only[Int.reduceBEq,cond_true,cond_false];rw[i0 (by simp),cond_true];show (oB (wY.sh F (mk (ev u D q a)) (mk (ev u D q b))) _)=_;rw[zbA F (wu (B a (by simp))) (wu (B b (by simp))),zh,xR,xR,(vH hV).1]
 ·obtain ⟨a,b,rfl⟩:=ZY (show ks.length=2 by rw[h1,yI hh]; rfl)
  have e:evN u D q m ([a,b].map (ev u D q))=ev u D q a*ev u D q b:=by unfold evN; rw[hh]; rfl
  rw[e] at hV ⊢;show (bif nK m==1 then _ else bif nK m==2 then _ else bif nK m==5 then _ else bif nK m==6 then _ else bif nK m==7 then _ else bif nK m==8 then bif idx 0 ([a,b].map fun k=>mk (ev u D q k)).length then _ else _ else _)=_;rw[hh];simp only[Int.reduceBEq,cond_true,cond_false];rw[i0 (by simp),cond_true];show (oB (xC.sh F (mk (ev u D q a)) (mk (ev u D q b))) _)=_;rw[W3 F (wu (B a (by simp))) (wu (B b (by simp))),zh,xR,xR,(vH hV).1]
 ·have h2k:1<=ks.length/\ks.length<=16:=by
   rw[tC hh] at g4;have g4:(decide (nC m>=2)&&decide (nC m<=16))=true:=g4;simp at g4;rw[h1,yI hh];show 1<=(nC m).toNat/\(nC m).toNat<=16;omega
  have e:evN u D q m (ks.map (ev u D q))=Zl (ks.map (ev u D q)):=by unfold evN; rw[hh]; rfl
  rw[e];show (bif nK m==1 then _ else bif nK m==2 then _ else bif nK m==5 then _ else bif nK m==6 then _ else bif nK m==7 then _ else bif nK m==8 then _ else bif nK m==9 then _ else _)=_;rw[hh];simp only[Int.reduceBEq,cond_true,cond_false];rw[show (ks.map fun k=>mk (ev u D q k))=(ks.map (ev u D q)).map mk by rw[map_map]; rfl,minf_eq F (fun v hv=>by obtain ⟨k,hkm,rfl⟩:=mem_map.1 hv; exact B k hkm) (by simp; omega) (by simp; omega) (by simp; omega),zh]
 ·have h2k:1<=ks.length/\ks.length<=16:=by
   rw[tC hh] at g4;have g4:(decide (nC m>=2)&&decide (nC m<=16))=true:=g4;simp at g4;rw[h1,yI hh];show 1<=(nC m).toNat/\(nC m).toNat<=16;omega
  have e:evN u D q m (ks.map (ev u D q))=uZ (ks.map (ev u D q)):=by unfold evN; rw[hh]; rfl
  rw[e];show (bif nK m==1 then _ else bif nK m==2 then _ else bif nK m==5 then _ else bif nK m==6 then _ else bif nK m==7 then _ else bif nK m==8 then _ else bif nK m==9 then _ else bif nK m==10 then _ else _)=_;rw[hh];simp only[Int.reduceBEq,cond_true,cond_false];rw[show (ks.map fun k=>mk (ev u D q k))=(ks.map (ev u D q)).map mk by rw[map_map]; rfl,maxf_eq F (fun v hv=>by obtain ⟨k,hkm,rfl⟩:=mem_map.1 hv; exact B k hkm) (by simp; omega) (by simp; omega) (by simp; omega),zh]
 ·obtain ⟨a,rfl⟩:=length_eq_one_iff.1 (show ks.length=1 by rw[h1,yI hh]; rfl)
  have e:evN u D q m ([a].map (ev u D q))=Ye 2 (ev u D q a*(10000-nN m)) 10000:=by unfold evN; rw[hh]; rfl
  have mm:mag u D (.nd m [a])=mag u D a:=by rw[qb]; unfold xJ; rw[hh]; rfl
  have hf2:vR m (mag u D (.nd m [a]))=mag u D a*10000:=by unfold vR; rw[hh,mm]; rfl
  rw[hf2] at hfar;have g3':nN m<=10000:=by rw[uU hh] at g3; exact g3
  have Ia:=hIk a (by simp);have ho:=zbS g2 g3' (mag u D a) Ia.lo Ia.hi;have hbd:=Ia.bd;rw[e];show (bif nK m==1 then _ else bif nK m==2 then _ else bif nK m==5 then _ else bif nK m==6 then _ else bif nK m==7 then _ else bif nK m==8 then _ else bif nK m==9 then _ else bif nK m==10 then _ else bif nK m==15 then bif idx 0 ([a].map fun k=>mk (ev u D q k)).length then _ else _ else _)=_;rw[hh];simp only[Int.reduceBEq,cond_true,cond_false];rw[i0 (by simp),cond_true,up,cond_true,uw];show (oB (xV.sh F (i64.wrap (10000-nN m))) fun c_12=>oB (xC.sh F (mk (ev u D q a)) c_12.1.1) _)=_;have i1:inR (ev u D q a*(10000-nN m))=true:=by rw[yB]; omega
  rw[yz (n:=10000-nN m) (by omega) (by omega),Zh F (v:=10000-nN m) (by omega) (by omega),zh,W3 F (wu (B a (by simp))) (wu (by rw[yB]; omega)),zh,xR,xR,(vH i1).1,
   Zh F (v:=10000) (by omega) (by omega),zh,div_eq F (by omega) i1 (by rw[yB]; omega) (by decide) (by rw[yB]; omega) (by omega) (by omega),zh]
theorem zeF (c:Cxt u D) (hq:okQ D q) (h:OKT u D t) (hf:(vV t).1=true):ze.sh FU (mk u) (toL t)=some ((mk (ev u D q t),()),()) :=
 zeE FU tl c hq t h hf FU (by have:(4096:Nat)<FU:=tl; have:=h.size; omega)
def qW (n:za.T):Bool:=nK n==1||nK n==2
def kd (t:Tree) (i:Nat):Tree:=t.kids.getD i t
def Yq:Option Tree->LTr za.T
 | none=>.nil
 | some y=>toL y
theorem WF.len {dims:Nat} (h:WF dims t):t.kids.length=ar t.root:=by
 cases t with
 | nd n ks=>exact (qQ.1 h).1.1
theorem WF.node {dims:Nat} (h:WF dims t):vA dims t.root (ar t.root)=0:=by
 cases t with
 | nd n ks=>exact (qQ.1 h).1.2
theorem WF.good {dims:Nat} (h:WF dims t):tz t.root=true/\uV t.root=true:=⟨(wD h.node).1,(wD h.node).2.2.2.1⟩
theorem WF.arK {dims:Nat} (h:WF dims t) (hk:nK t.root=k):t.kids.length=bif decide ((get wt uK k.toNat).1>=0) then (get wt uK k.toNat).1.toNat else (nC t.root).toNat:=by rw[h.len,yI hk]
theorem WF.several {dims:Nat} (h:WF dims t) (hk:nK t.root=9\/nK t.root=10):2<=t.kids.length/\t.kids.length<=16/\(t.kids.length:Int)=nC t.root:=by
 have hg:=h.good;have hl:=h.len;rcases hk with hk | hk
 ·have h2:=hg.2
  rw[tC hk] at h2;have h2:(decide (nC t.root>=2)&&decide (nC t.root<=16))=true:=h2;simp at h2;rw[yI hk] at hl;have hl:t.kids.length=(nC t.root).toNat:=hl;omega
 ·have h2:=hg.2
  rw[tC hk] at h2;have h2:(decide (nC t.root>=2)&&decide (nC t.root<=16))=true:=h2;simp at h2;rw[yI hk] at hl;have hl:t.kids.length=(nC t.root).toNat:=hl;omega
theorem zfN (h:i<t.kids.length):kd t i∈t.kids:=by
 unfold kd;rw[getD_eq_getElem?_getD,List.getElem?_eq_getElem h];exact getElem_mem h
theorem XS {dims:Nat} {t k:Tree} (h:WF dims t) (hk:k∈t.kids):WF dims k:=by
 cases t with
 | nd n ks=>exact (qQ.1 h).2 k hk
theorem TV {t k:Tree} (hk:k∈t.kids):k.size<t.size:=by
 cases t with
 | nd n ks =>
  rw[vn];have:k.size<=(zS ks).length:=tS hk;omega
theorem Zw (h:i<t.kids.length):get (.tr za) (LTr.kids (toL t)) i=toL (kd t i):=by
 rw[tX];refine zda ?_;unfold kd;rw[getD_eq_getElem?_getD,List.getElem?_eq_getElem h]; rfl
theorem Zv (h:i<t.kids.length):idx (i:Int) (LTr.kids (toL t)).length=true:=by
 rw[tX,length_map]; exact xS h
theorem WO (F:Nat) (t:Tree):xz.sh F (toL t)=some ((qW t.root,()),()):=by
 unfold xz.sh qW;rw[up,cond_true,cond_true,uw];show (bif nK t.root==1 then _ else some ((nK t.root==2,()),()))=_;cases nK t.root==1<;>rfl
def qi (t:Tree):Bool:=qW t.root&&nN t.root==0
def WM (t:Tree):Bool:=nK t.root==1&&nN t.root==1
theorem R4 (F:Nat) (t:Tree):wa.sh F (toL t)=some ((qi t,()),()):=by
 unfold wa.sh qi;rw[WO,zh,up,uw];cases qW t.root<;>rfl
theorem zcT (F:Nat) (t:Tree):wA.sh F (toL t)=some ((WM t,()),()):=by
 unfold wA.sh WM;rw[up,uw,cond_true,cond_true];show (bif nK t.root==1 then some ((nN t.root==1,()),()) else _)=_;cases nK t.root==1<;>rfl
def qt (t:Tree):Bool:=qW t.root||(nK t.root==5&&(qW (kd t 0).root&&nN (kd t 0).root != 0))
theorem zfd (F:Nat) {dims:Nat} (h:WF dims t):wn.sh F (toL t)=some ((qt t,()),()):=by
 unfold wn.sh qt;rw[WO,zh];cases qW t.root with
 | true=>rfl
 | false =>
  simp only[cond_false,Bool.false_or];rw[up,cond_true,uw];show (bif nK t.root==5 then _ else _)=_;cases h5:(nK t.root==5) with
  | false=>rfl
  | true =>
   have hk:nK t.root=5:=by simpa using h5
   have hl:0<t.kids.length:=by rw[show t.kids.length=1 from h.arK hk]; decide
   have hi:idx 0 (LTr.kids (toL t)).length=true:=Zv (i:=0) hl;rw[cond_true,cond_true,hi,cond_true,Zw hl,WO,zh,up,uw];simp only[Bool.true_and];cases qW (kd t 0).root<;>rfl
def negT (t:Tree):Option Tree:=bif nK t.root==5&&nK (kd t 0).root==5 then some (kd (kd t 0) 0) else none
theorem zfu (F:Nat) (f:zd.T) {dims:Nat} (h:WF dims t):wg.sh F f (toL t)=some ((Yq (negT t),()),()):=by
 unfold wg.sh negT;rw[up,cond_true,uw];show (bif nK t.root==5 then _ else _)=_;cases h5:(nK t.root==5) with
 | false=>rfl
 | true =>
  have hk:nK t.root=5:=by simpa using h5
  have hl:0<t.kids.length:=by rw[show t.kids.length=1 from h.arK hk]; decide
  have hi:idx 0 (LTr.kids (toL t)).length=true:=Zv (i:=0) hl;rw[cond_true,hi,Zw hl,up,uw];simp only[cond_true,Bool.true_and];show (bif nK (kd t 0).root==5 then _ else _)=_;cases h6:(nK (kd t 0).root==5) with
  | false=>rfl
  | true =>
   have hk':nK (kd t 0).root=5:=by simpa using h6
   have hw:=XS h (zfN hl);have hl':0<(kd t 0).kids.length:=by rw[show (kd t 0).kids.length=1 from hw.arK hk']; decide
   have hi':idx 0 (LTr.kids (toL (kd t 0))).length=true:=Zv (i:=0) hl';rw[hi',Zw hl'];rfl
def offT (t:Tree):Option Tree:=bif nK t.root==15&&nN t.root==0 then some (kd t 0) else none
theorem zfo (F:Nat) (f:zd.T) {dims:Nat} (h:WF dims t):we.sh F f (toL t)=some ((Yq (offT t),()),()):=by
 unfold we.sh offT;rw[up,cond_true,uw];show (bif nK t.root==15 then bif true then bif nN t.root==0 then _ else _ else _ else _)=_;cases h5:(nK t.root==15) with
 | false=>rfl
 | true =>
  have hk:nK t.root=15:=by simpa using h5
  have hl:0<t.kids.length:=by rw[show t.kids.length=1 from h.arK hk]; decide
  have hi:idx 0 (LTr.kids (toL t)).length=true:=Zv (i:=0) hl;rw[hi,Zw hl];cases nN t.root==0<;>rfl
noncomputable def YO (t:Tree):Option Tree:=bif nK t.root==16&&uf (kd t 1) (kd t 2) then some (kd t 1) else none
theorem ST (f:zd.T) {dims:Nat} (h:WF dims t) (hs:t.size<=4096):xj.sh FU f (toL t)=some ((Yq (YO t),()),()):=by
 unfold xj.sh YO;rw[up,cond_true,uw];show (bif nK t.root==16 then _ else _)=_;cases h5:(nK t.root==16) with
 | false=>rfl
 | true =>
  have hk:nK t.root=16:=by simpa using h5
  have hl:t.kids.length=3:=by rw[h.arK hk]; rfl
  have hi1:idx 1 (LTr.kids (toL t)).length=true:=Zv (i:=1) (by omega);have hi2:idx 2 (LTr.kids (toL t)).length=true:=Zv (i:=2) (by omega);have hm:=zfN (t:=t) (i:=1) (by omega);have hsz:=TV hm;rw[hi1,hi2,Zw (i:=1) (by omega),Zw (i:=2) (by omega)];simp only[cond_true,Bool.true_and];rw[zcL (XS h hm) (by omega),zh];cases uf (kd t 1) (kd t 2)<;>rfl
noncomputable def uj:List Tree->List Tree->List Tree
 | acc,[]=>acc
 | acc,k::r=>uj (bif acc.any (fun o=>uf o k) then acc else acc++[k]) r
theorem zaO {R:Type} (k0:Int->Option R) (k1:Option R) (L:List (LTr za.T)) (N:Int) (k:Tree) {dims:Nat}:∀(xs:List Tree) (i:Int),(∀x∈xs,WF dims x/\x.size<=4096)->
  ∃j:Int,i<=j/\zn.l2.rg FU k0 (fun _ _ _ _ _=>k1) L N (xs.map toL) i (wP,toL k)=bif xs.any (fun o=>uf o k) then k0 j else k1
 | [],i,_=>⟨i,Int.le_refl _,rfl⟩
 | x::xs,i,h=>by
  obtain ⟨j,hj,e⟩:=zaO k0 k1 L N k xs (i+1) (fun x hx=>h x (by simp[hx]));obtain ⟨hw,hs⟩:=h x (by simp);simp only[map_cons];unfold zn.l2.rg;have hd:zn.d16 FU (wP+1) (toL x,toL k,())=some ((uf x k,()),()):=by
   show xh.sh FU (toL x) (toL k)=_;unfold xh.sh;rw[zcL hw hs,zh]
  show ∃j:Int,i<=j/\oB (zn.d16 FU (wP+1) (toL x,toL k,())) _=_;rw[hd];simp only[zh];rw[any_cons];cases hb:uf x k with
  | true=>exact ⟨i,Int.le_refl _,rfl⟩
  | false=>exact ⟨j,by omega,by simp only[cond_false,Bool.false_or]; exact e⟩
theorem zbc (k:Tree) {dims:Nat} (h:∀x∈xs,WF dims x/\x.size<=4096) (hl:xs.length<=4096):yL.sh FU (xs.map toL) (wP,toL k)=some ((xs.any (fun o=>uf o k),()),()):=by
 obtain ⟨j,hj,e⟩:=zaO (fun r=>(some ((r,()),()):Option zn.sg.R)) (some ((-1,()),())) (xs.map toL) ((xs.map toL).length:Int) k xs 0 h;have hF:(4096:Nat)<FU:=tl;unfold yL.sh zn.sh;rw[show zn.l2 FU (fun r42=>(some ((r42,()),()):Option zn.sg.R)) (fun s3 f3 t73 t83 t93=>some ((-1,()),())) FU (xs.map toL) ((wP,toL k).1,(wP,toL k).2) ((xs.map toL).length:Int) 0
  =bif xs.any (fun o=>uf o k) then some ((j,()),()) else some ((-1,()),()) from
  (zn.l2.rq FU _ _ (xs.map toL) _ rfl (by simp; omega) (xs.map toL) 0 FU _ (by simp) (by simp; omega)).trans e]
 cases xs.any (fun o=>uf o k) with
 | true=>simp only[cond_true,zh]; rw[decide_eq_true (by omega)]
 | false=>rfl
theorem RR:∀(r acc:List Tree),∀x∈uj acc r,x∈acc\/x∈r
 | [],acc,x,hx=>.inl hx
 | k::r,acc,x,hx=>by
  unfold uj at hx;rcases RR r _ x hx with h | h
  ·cases hb:acc.any (fun o=>uf o k) with
   | true=>rw[hb] at h; exact .inl h
   | false =>
    rw[hb] at h;rcases mem_append.1 h with h | h
    ·exact .inl h
    ·simp at h; subst h; exact .inr (by simp)
  ·exact .inr (by simp[h])
theorem Um:∀(r acc:List Tree),(uj acc r).length<=acc.length+r.length/\acc.length<=(uj acc r).length
 | [],acc=>by unfold uj; simp
 | k::r,acc=>by
  have:=Um r (bif acc.any (fun o=>uf o k) then acc else acc++[k]);unfold uj;cases hb:acc.any (fun o=>uf o k) with
  | true=>rw[hb] at this; simp only[cond_true,length_cons] at this ⊢; omega
  | false=>rw[hb] at this; simp only[cond_false,length_append,length_cons,length_nil] at this ⊢; omega
theorem WJ {R:Type} (kk:LTr za.T->List (LTr za.T)->Option R) (L:List (LTr za.T)) (N:Int) (x:LTr za.T) {dims:Nat}:∀(ks acc:List Tree) (i:Int),(∀k∈ks,WF dims k/\k.size<=4096)->(∀k∈acc,WF dims k/\k.size<=4096)->acc.length+ks.length<=4096->
  zj.l5.rg FU (fun x _ _ _ _ kids=>kk x kids) L N (ks.map toL) i x (acc.map toL)=kk x ((uj acc ks).map toL)
 | [],acc,i,_,_,_=>rfl
 | k::r,acc,i,h,ha,hl=>by
  simp only[length_cons] at hl;have hr:∀x∈r,WF dims x/\x.size<=4096:=fun x hx=>h x (by simp[hx])
  simp only[map_cons];unfold zj.l5.rg uj;rw[zbc k ha (by omega),zh];cases hb:acc.any (fun o=>uf o k) with
  | true =>
   simp only[Bool.not_true,cond_false,cond_true];exact WJ kk L N x r acc (i+1) hr ha (by omega)
  | false =>
   simp only[Bool.not_false,cond_true,cond_false];rw[show Nat.ble ((acc.map toL).length+([toL k]:List (LTr za.T)).length) wF=true from uq (by simp; omega),cond_true];have:=WJ kk L N x r (acc++[k]) (i+1) hr (fun y hy=>by
    rcases mem_append.1 hy with hy | hy
    ·exact ha y hy
    ·simp at hy; subst hy; exact h y (by simp)) (by simp; omega)
   rw[map_append] at this;exact this
noncomputable def XC (t:Tree):Option Tree:=bif nK t.root==9||nK t.root==10 then
  (let ks:=uj [] t.kids; bif (ks.length:Int)==(t.kids.length:Int) then none else bif (ks.length:Int)==1 then some (ks.getD 0 t) else some (.nd (t.root.1,t.root.2.1,t.root.2.2.1,(ks.length:Int),t.root.2.2.2.2) ks)) else none
theorem zbD {dims:Nat} (h:WF dims t) (hs:t.size<=4096) :
  zj.j3 FU (fun r=>(some ((r,()),()):Option zj.sg.R)) (fun r=>some ((r,()),())) (fun r=>some ((r,()),())) (toL t) =
   some ((Yq (let ks:=uj [] t.kids; bif (ks.length:Int)==(t.kids.length:Int) then none else bif (ks.length:Int)==1 then some (ks.getD 0 t) else some (.nd (t.root.1,t.root.2.1,t.root.2.2.1,(ks.length:Int),t.root.2.2.2.2) ks)),()),()):=by
 have hF:(4096:Nat)<FU:=tl;have hlen:t.kids.length<=4096:=by
  cases t with
  | nd n ks=>have:=vo ks; rw[vn] at hs; show ks.length<=4096; omega
 unfold zj.j3;rw[up,cond_true,tX];refine Eq.trans (zj.l5.rq FU _ (t.kids.map toL) _ rfl (by simp; omega) (t.kids.map toL) 0 FU _ _ (by simp) (by simp; omega)) ?_;refine (WJ (fun x kids=>zj.j10 FU (fun r=>(some ((r,()),()):Option zj.sg.R)) (fun r=>some ((r,()),())) (fun r=>some ((r,()),())) x kids) (t.kids.map toL) ((t.kids.map toL).length:Int) (toL t) (dims:=dims) t.kids [] 0
  (fun k hk=>⟨XS h hk,by have:=TV hk; omega⟩) (by simp) (by simpa using hlen)).trans ?_
 unfold zj.j10;rw[up,cond_true,tX,uw];generalize hd:uj [] t.kids=ks;simp only[length_map];cases h1:((ks.length:Int)==(t.kids.length:Int)) with
 | true=>rfl
 | false =>
  simp only[cond_false];cases h2:((ks.length:Int)==1) with
  | true =>
   have h2:ks.length=1:=by
    have:(ks.length:Int)=1:=by simpa using h2
    omega
   obtain ⟨a,rfl⟩:=length_eq_one_iff.1 h2;rfl
  | false =>
   simp only[cond_false,cond_true,Yq,Xx]
theorem Qf (f:zd.T) {dims:Nat} (h:WF dims t) (hs:t.size<=4096):zj.sh FU f (toL t)=some ((Yq (XC t),()),()):=by
 unfold zj.sh XC;rw[up,cond_true,uw];show (bif nK t.root != 9 then bif true then bif nK t.root != 10 then _ else _ else _ else _)=_;rw[zbD h hs];unfold bne;cases nK t.root==9 with
 | true=>rfl
 | false =>
  cases nK t.root==10<;>rfl
def XK (t:Tree):Option Tree:=bif nK t.root==6&&qi (kd t 0) then some (kd t 1) else bif (nK t.root==6||nK t.root==7)&&qi (kd t 1) then some (kd t 0) else none
theorem Qw (F:Nat) (f:zd.T) {dims:Nat} (h:WF dims t):xv.sh F f (toL t)=some ((Yq (XK t),()),()):=by
 unfold xv.sh XK;rw[up,uw];simp only[cond_true];have two:(nK t.root=6\/nK t.root=7)->t.kids.length=2:=fun hk=>by
  rcases hk with hk | hk
  ·rw[h.arK hk]; rfl
  ·rw[h.arK hk]; rfl
 show (bif nK t.root==6 then _ else bif nK t.root==6 then _ else bif nK t.root==7 then _ else _)=_;cases h6:(nK t.root==6) with
 | true =>
  have hk:nK t.root=6:=by simpa using h6
  have hl:=two (.inl hk);have hi0:idx 0 (LTr.kids (toL t)).length=true:=Zv (i:=0) (by omega);have hi1:idx 1 (LTr.kids (toL t)).length=true:=Zv (i:=1) (by omega);rw[hi0,hi1,Zw (i:=0) (by omega),Zw (i:=1) (by omega),R4,R4];simp only[cond_true,zh,Bool.true_and,Bool.true_or];cases qi (kd t 0) with
  | true=>rfl
  | false =>
   simp only[cond_false];cases qi (kd t 1)<;>rfl
 | false =>
  simp only[cond_false,Bool.false_and,Bool.false_or];cases h7:(nK t.root==7) with
  | true =>
   have hk:nK t.root=7:=by simpa using h7
   have hl:=two (.inr hk);have hi0:idx 0 (LTr.kids (toL t)).length=true:=Zv (i:=0) (by omega);have hi1:idx 1 (LTr.kids (toL t)).length=true:=Zv (i:=1) (by omega);rw[hi0,hi1,Zw (i:=0) (by omega),Zw (i:=1) (by omega),R4];simp only[cond_true,zh,Bool.true_and];cases qi (kd t 1)<;>rfl
  | false=>rfl
def zay (t:Tree):Option Tree:=bif nK t.root==8&&WM (kd t 0) then some (kd t 1) else bif nK t.root==8&&WM (kd t 1) then some (kd t 0) else none
theorem zdX (F:Nat) (f:zd.T) {dims:Nat} (h:WF dims t):xU.sh F f (toL t)=some ((Yq (zay t),()),()):=by
 unfold xU.sh zay;rw[up,uw];simp only[cond_true];show (bif nK t.root==8 then _ else bif nK t.root==8 then _ else _)=_;cases h6:(nK t.root==8) with
 | true =>
  have hk:nK t.root=8:=by simpa using h6
  have hl:t.kids.length=2:=by rw[h.arK hk]; rfl
  have hi0:idx 0 (LTr.kids (toL t)).length=true:=Zv (i:=0) (by omega);have hi1:idx 1 (LTr.kids (toL t)).length=true:=Zv (i:=1) (by omega);rw[hi0,hi1,Zw (i:=0) (by omega),Zw (i:=1) (by omega),zcT,zcT];simp only[cond_true,zh,Bool.true_and];cases WM (kd t 0) with
  | true=>rfl
  | false =>
   simp only[cond_false];cases WM (kd t 1)<;>rfl
 | false=>rfl
def QD (k v:Int) (t:Tree):Option Tree:=bif decide (v < -1000000000000) then none else bif decide (v>1000000000000) then none else
 bif decide (v<0) then some (.nd (5,0,0,0,[],t.root.2.2.2.2.2) [.nd (k,0-v,0,0,[],t.root.2.2.2.2.2) []]) else some (.nd (k,v,0,0,[],t.root.2.2.2.2.2) [])
def Yv (u:Int) (D:List xB.T) (q:List Int) (t:Tree):Option Tree:=bif !(vV t).1 then none else bif qt t then none else
 bif (vV t).2 then (bif !decide (tr (ev u D q t) u=0) then none else QD 2 (tq (ev u D q t) u) t) else QD 1 (ev u D q t) t
theorem RS (F:Nat) (hv:inR v=true) (k:Int) (t:Tree):yj.j10 F (fun r=>(some ((r,()),()):Option yj.sg.R)) (fun r=>some ((r,()),())) (fun r=>some ((r,()),())) (toL t) k (mk v)=some ((Yq (QD k v t),()),()):=by
 unfold yj.j10 QD;rw[int_eq F hv,zh,up,uw];by_cases h1:v < -1000000000000
 ·rw[decide_eq_true h1]
  by_cases h2:-9223372036854775808<=v
  ·rw[decide_eq_true h2,decide_eq_true (show v<9223372036854775808 by omega)]
   simp only[Bool.and_self,cond_true,Bool.not_true,cond_false];rw[decide_eq_true h1]; rfl
  ·rw[decide_eq_false h2]; rfl
 ·by_cases h2:v>1000000000000
  ·rw[decide_eq_false h1,decide_eq_true h2]
   by_cases h3:v<9223372036854775808
   ·rw[decide_eq_true h3,decide_eq_true (show -9223372036854775808<=v by omega)]
    simp only[Bool.and_self,cond_true,Bool.not_true,cond_false];rw[decide_eq_false h1,decide_eq_true h2]; rfl
   ·rw[decide_eq_false h3,Bool.and_false]; rfl
  ·rw[decide_eq_false h1,decide_eq_false h2,decide_eq_true (show -9223372036854775808<=v by omega),decide_eq_true (show v<9223372036854775808 by omega)]
   simp only[Bool.and_self,cond_true,Bool.not_true,cond_false];rw[decide_eq_false h1,decide_eq_false h2,yz (n:=0-v) (by omega) (by omega)];simp only[cond_false];by_cases h3:v<0
   ·rw[decide_eq_true h3,if_pos (by omega)]
    simp only[cond_true,Yq,Xx,map_cons,map_nil]
   ·rw[decide_eq_false h3]
    simp only[cond_false,Yq,Xx,map_nil];by_cases h4:0-v>v
    ·omega
    ·rw[if_neg h4]
theorem zcq (c:Cxt u D) (hq:okQ D q) (h:OKT u D t):yj.sh FU (mk u) (toL t)=some ((Yq (Yv u D q t),()),()):=by
 have hs:=h.size;have hI:=Wh c hq t h;have a1:=hI.lo;have a2:=hI.hi;have a3:=hI.bd;have hBND:BND=1329227995784915872903807060280344576:=rfl;have hu:=c.hu;have hu2:=c.hu2;have hV:inR (ev u D q t)=true:=by rw[yB]; omega
 unfold yj.sh Yv;rw[zfZ (by omega),zh];cases hf:(vV t).1 with
 | false=>rfl
 | true =>
  simp only[Bool.not_true,cond_false];rw[zfd FU h.wf,zh];cases hp:qt t with
  | true=>rfl
  | false =>
   simp only[cond_false];rw[zeF c hq h hf,zh];cases hm:(vV t).2 with
   | false=>exact RS FU hV 1 t
   | true =>
    simp only[cond_true];have hb:=tq_bd (a:=ev u D q t) (b:=u) (by omega);have iq:inR (tq (ev u D q t) u)=true:=by rw[yB]; omega
    rw[Rd FU (by have:(4096:Nat)<FU:=tl; omega) (wu hV) (wu (by rw[yB]; omega)) (by rw[xR]; omega),zh,xR,xR,iq];simp only[cond_true];rw[Vm];cases hz:decide (tr (ev u D q t) u=0) with
    | false=>rfl
    | true=>exact RS FU iq 2 t
theorem R0 {p:za.T->Bool}:∀l:List Tree,(zS l).all p=l.all (fun t=>t.flat.all p)
 | []=>rfl
 | t::r=>by rw[vN,List.all_append,R0 r,all_cons]
theorem noQ_nd (n:za.T) (ks:List Tree):noQ (.nd n ks)=(ks.all noQ&&!isQ n):=by
 unfold noQ;rw[tM,List.all_append,R0];simp
theorem fix_noQ (t:Tree):(∀s∈t.subs,isQ s.root=true->s.kids=[])->(vV t).1=noQ t:=by
 refine Tree.ind (P:=fun t=>(∀s∈t.subs,isQ s.root=true->s.kids=[])->(vV t).1=noQ t) (fun n ks ih h=>?_) t;obtain ⟨h1,h2⟩:=tP.1 h;rw[Zb,noQ_nd];unfold Sd;cases hq:isQ n with
 | true=>simp
 | false =>
  simp only[cond_false,Bool.not_false,Bool.and_true,List.all_map];have:∀l:List Tree,(∀k∈l,k∈ks)->l.all ((fun x=>x.1) ∘ vV)=l.all noQ:=by
   intro l;induction l with
   | nil=>intro _; rfl
   | cons k r ihr =>
    intro hl;rw[all_cons,all_cons,ihr fun x hx=>hl x (by simp[hx])];congr 1
    exact ih k (hl k (by simp)) (h2 k (hl k (by simp)))
  exact this ks fun _ h=>h
theorem OKT.noq (h:OKT u D t):(vV t).1=noQ t:=by
 refine fix_noQ t fun s hs hq=>?_
 obtain ⟨h1,h2⟩:=h.wf s hs;have:ar s.root=0:=by
  unfold isQ at hq;simp only[Bool.or_eq_true,beq_iff_eq] at hq;rcases hq with hq | hq
  ·rw[yI hq]; rfl
  ·rw[yI hq]; rfl
 exact eq_nil_of_length_eq_zero (by rw[h1,this])
theorem evN_at (u:Int) (D:List xB.T) (q:List Int) (n:za.T) (vs:List Int):evN u D q (n.1,n.2.1,n.2.2.1,n.2.2.2.1,n.2.2.2.2.1,0) vs=evN u D q n vs:=rfl
theorem ev_er (u:Int) (D:List xB.T) (q:List Int) (t:Tree):ev u D q (er t)=ev u D q t:=by
 refine Tree.ind (P:=fun t=>ev u D q (er t)=ev u D q t) (fun n ks ih=>?_) t;rw[zb0,tU,tU,evN_at,map_map];congr 1
 exact map_congr_left fun k hk=>ih k hk
theorem zde (h:er x=er y) (u:Int) (D:List xB.T) (q:List Int):ev u D q x=ev u D q y:=by rw[<-ev_er,h,ev_er]
theorem zaZ (u:Int) (D:List xB.T) (q q':List Int):(vV t).1=true->ev u D q t=ev u D q' t:=by
 refine Tree.ind (P:=fun t=>(vV t).1=true->ev u D q t=ev u D q' t) (fun n ks ih h=>?_) t;rw[Zb] at h;unfold Sd at h;cases hq:isQ n with
 | true=>rw[hq] at h; cases h
 | false =>
  rw[hq] at h;simp only[cond_false] at h;have hk:ks.map (ev u D q)=ks.map (ev u D q'):=map_congr_left fun k hk=>ih k hk (List.all_eq_true.1 h _ (mem_map.2 ⟨k,hk,rfl⟩))
  rw[tU,tU,hk];unfold isQ at hq;simp only[Bool.or_eq_false_iff] at hq;unfold evN;rw[hq.1,hq.2];rfl
theorem XP (c:Cxt u D) (h:OKT u D t):0<=mag u D t:=by
 have hq:okQ D (List.replicate D.length 0):=⟨by simp,fun x hx=>by rw[List.eq_of_mem_replicate hx]; omega⟩;have:=Wh c hq t h;have a1:=this.lo;have a2:=this.hi;omega
structure FK (u:Int) (D:List xB.T) (x y:Tree):Prop where
 okt:OKT u D y
 size:y.size<=x.size
 ty:ty y=ty x
 fix:(vV x).1=true->(vV y).1=true
 mag:mag u D y<=mag u D x
 deep:deep y<=deep x
 ev:∀q,okQ D q->ev u D q y=ev u D q x
theorem FK.refl (h:OKT u D x):FK u D x x:=⟨h,Nat.le_refl _,rfl,id,Int.le_refl _,Int.le_refl _,fun _ _=>rfl⟩
theorem FK.trans (h1:FK u D x y) (h2:FK u D y z):FK u D x z :=
 ⟨h2.okt,Nat.le_trans h2.size h1.size,h2.ty.trans h1.ty,fun h=>h2.fix (h1.fix h),Int.le_trans h2.mag h1.mag,Int.le_trans h2.deep h1.deep,fun q hq=>(h2.ev q hq).trans (h1.ev q hq)⟩
theorem SZ {f g:Tree->Int}:∀l:List Tree,(∀k∈l,f k<=g k)->vD (l.map f)<=vD (l.map g)
 | [],_=>Int.le_refl _
 | k::r,h=>by
  have h1:=h k (by simp);have h2:=SZ r fun x hx=>h x (by simp[hx])
  unfold vD at*;simp only[map_cons,sum_cons];omega
theorem Ro:∀(l:List Tree) (f g:Tree->Int) (a b:Int),a<=b->(∀k∈l,f k<=g k)->uR a (l.map f)<=uR b (l.map g)
 | [],f,g,a,b,h,_=>h
 | k::r,f,g,a,b,h,hk=>by
  have h1:=hk k (by simp);simp only[map_cons];show uR (if f k>a then f k else a) (r.map f)<=uR (if g k>b then g k else b) (r.map g);refine Ro r f g _ _ ?_ fun x hx=>hk x (by simp[hx])
  split<;>split<;>omega
theorem ze4 (l:List Tree) (f g:Tree->Int) (h:∀k∈l,f k<=g k):uZ (l.map f)<=uZ (l.map g):=by
 cases l with
 | nil=>exact Int.le_refl _
 | cons k r=>exact Ro r f g _ _ (h k (by simp)) fun x hx=>h x (by simp[hx])
theorem Rp (hu:1<=u) {dims:Nat} {n:za.T} (hn:vA dims n (ar n)=0) (hl:ks.length=ar n) {f g:Tree->Int} (h:∀k∈ks,0<=f k/\f k<=g k):xJ u D n (ks.map f)<=xJ u D n (ks.map g):=by
 obtain ⟨g1,g2,g3,g4,g5,g6,g7,g8⟩:=wD hn;have hs:=SZ ks fun k hk=>(h k hk).2
 have get0:∀(a:Tree) (r:List Tree) (f:Tree->Int),((a::r).map f).getD 0 0=f a:=fun _ _ _=>rfl
 have sc:∀{k:Int},nK n=k->(k=13\/k=14)->xJ u D n (ks.map f)<=xJ u D n (ks.map g):=by
  intro k hh hk;obtain ⟨a,rfl⟩:=length_eq_one_iff.1 (show ks.length=1 by rw[hl,yI hh]; rcases hk with rfl | rfl<;>rfl)
  have hb:Zg (nT n)=true:=g8 (by
   unfold ue tI;rw[hh]; rcases hk with rfl | rfl<;>rfl)
  obtain ⟨l1,l2,l3⟩:=tZ hb;have hr:=(XE (nT n) 0 (-1) (by omega) (by omega) l3).1;have e:∀f:Tree->Int,xJ u D n ([a].map f)=u*(vz 0 (nT n)*(f a+vL (nT n))+v8 (nT n)):=by
   intro f; unfold xJ; rw[hh]; rcases hk with rfl | rfl<;>rfl
  rw[e,e];have ha:=(h a (by simp)).2;have h1:vz 0 (nT n)*(f a+vL (nT n))<=vz 0 (nT n)*(g a+vL (nT n)):=Int.mul_le_mul_of_nonneg_left (by omega) hr;exact Int.mul_le_mul_of_nonneg_left (by omega) (by omega)
 rcases ug g1 with hh | hh | hh | hh | hh | hh | hh | hh | hh | hh | hh | hh | hh | hh | hh | hh
 ·have e:∀vs,xJ u D n vs=nN n:=fun vs=>by unfold xJ; rw[hh]; rfl
  rw[e,e]; exact Int.le_refl _
 ·have e:∀vs,xJ u D n vs=nN n*u:=fun vs=>by unfold xJ; rw[hh]; rfl
  rw[e,e]; exact Int.le_refl _
 ·have e:∀vs,xJ u D n vs=1099511627776:=fun vs=>by unfold xJ; rw[hh]; rfl
  rw[e,e]; exact Int.le_refl _
 ·have e:∀vs,xJ u D n vs=tK 1099511627776 (dS (D.getD (nN n).toNat (ByteArray.empty,0))):=fun vs=>by unfold xJ; rw[hh]; rfl
  rw[e,e]; exact Int.le_refl _
 ·have e:∀vs,xJ u D n vs=vD vs:=fun vs=>by unfold xJ; rw[hh]; rfl
  rw[e,e]; exact hs
 ·have e:∀vs,xJ u D n vs=vD vs:=fun vs=>by unfold xJ; rw[hh]; rfl
  rw[e,e]; exact hs
 ·have e:∀vs,xJ u D n vs=vD vs:=fun vs=>by unfold xJ; rw[hh]; rfl
  rw[e,e]; exact hs
 ·obtain ⟨a,b,rfl⟩:=ZY (show ks.length=2 by rw[hl,yI hh]; rfl)
  have e:∀f:Tree->Int,xJ u D n ([a,b].map f)=f a*f b:=fun f=>by unfold xJ; rw[hh]; rfl
  rw[e,e];have ha:=h a (by simp);have hb:=h b (by simp);exact Int.mul_le_mul ha.2 hb.2 hb.1 (by omega)
 ·have e:∀vs,xJ u D n vs=vD vs:=fun vs=>by unfold xJ; rw[hh]; rfl
  rw[e,e]; exact hs
 ·have e:∀vs,xJ u D n vs=vD vs:=fun vs=>by unfold xJ; rw[hh]; rfl
  rw[e,e]; exact hs
 ·have e:∀vs,xJ u D n vs=vD vs+nN n:=fun vs=>by unfold xJ; rw[hh]; rfl
  rw[e,e]; omega
 ·have e:∀vs,xJ u D n vs=vD vs+nN n:=fun vs=>by unfold xJ; rw[hh]; rfl
  rw[e,e]; omega
 ·exact sc hh (.inl rfl)
 ·exact sc hh (.inr rfl)
 ·obtain ⟨a,rfl⟩:=length_eq_one_iff.1 (show ks.length=1 by rw[hl,yI hh]; rfl)
  have e:∀f:Tree->Int,xJ u D n ([a].map f)=f a:=fun f=>by unfold xJ; rw[hh]; rfl
  rw[e,e]; exact (h a (by simp)).2
 ·have e:∀vs,xJ u D n vs=vD vs+nN n:=fun vs=>by unfold xJ; rw[hh]; rfl
  rw[e,e]; omega
theorem Si {n:za.T} {a b:Int} (h:a<=b) (hb:vR n b<=BND):vR n a<=BND:=by
 unfold vR at*;cases h15:(nK n==15) with
 | true=>rw[h15] at hb; simp only[cond_true] at hb ⊢; omega
 | false=>rw[h15] at hb; simp only[cond_false] at hb ⊢; omega
theorem Sb (g:Tree->Tree):∀l:List Tree,(∀k∈l,(g k).size<=k.size)->(zS (l.map g)).length<=(zS l).length
 | [],_=>Nat.le_refl _
 | k::r,h=>by
  have h1:=h k (by simp);have h2:=Sb g r fun x hx=>h x (by simp[hx])
  rw[map_cons,vN,vN];unfold Tree.size at h1;simp only[length_append];omega
theorem FK.kids (c:Cxt u D) {n:za.T} (h:OKT u D (.nd n ks)) {g:Tree->Tree} (hg:∀k∈ks,FK u D k (g k)):FK u D (.nd n ks) (.nd n (ks.map g)):=by
 obtain ⟨⟨h1,h2⟩,h3⟩:=qQ.1 h.wf;have hsz:(Tree.nd n (ks.map g)).size<=(Tree.nd n ks).size:=by
  rw[vn,vn];have:=Sb g ks fun k hk=>(hg k hk).size
  omega
 have hty:Go.VS.ty (.nd n (ks.map g))=Go.VS.ty (.nd n ks):=by
  rw[qR,qR,map_map];congr 1
  exact map_congr_left fun k hk=>(hg k hk).ty
 have hmag:Go.VS.mag u D (.nd n (ks.map g))<=Go.VS.mag u D (.nd n ks):=by
  rw[qb,qb,map_map];exact Rp c.hu h2 h1 fun k hk=>⟨XP c (hg k hk).okt,(hg k hk).mag⟩
 have htyE:=(tP.1 h.tys).1;have hnq:∀k∈ks,noQ k=true->noQ (g k)=true:=fun k hk hq=>by
  rw[<-(hg k hk).okt.noq];exact (hg k hk).fix (by rw[(h.kid hk).noq]; exact hq)
 have hlin:WP n (ks.map noQ)=false:=by
  unfold tyE at htyE;have hne:(Go.VS.ty (.nd n ks) == -1)=false:=by
   rw[beq_eq_false_iff_ne]; exact Uu (t:=.nd n ks) htyE
  rw[hne] at htyE;cases hl:WP n (ks.map noQ) with
  | false=>rfl
  | true =>
   have:WP (Tree.nd n ks).root ((Tree.nd n ks).kids.map noQ)=true:=hl;rw[this] at htyE;exact absurd (show (81:Int)=0 from htyE) (by decide)
 have hlin':WP n ((ks.map g).map noQ)=false:=by
  unfold WP at hlin ⊢;cases h8:(nK n==8) with
  | false=>rfl
  | true =>
   have hk8:nK n=8:=by simpa using h8
   obtain ⟨a,b,rfl⟩:=ZY (show ks.length=2 by rw[h1,yI hk8]; rfl);rw[h8] at hlin;simp only[map_cons,map_nil,List.getD_cons_zero,List.getD_cons_succ,Bool.true_and] at hlin ⊢;cases ha:noQ a with
   | true=>rw[hnq a (by simp) ha]; rfl
   | false =>
    cases hb:noQ b with
    | true=>rw[hnq b (by simp) hb]; simp
    | false=>rw[ha,hb] at hlin; cases hlin
 refine ⟨OKT.mk' (by simpa using h1) h2 (by have:=h.size; omega) ?_ ?_ ?_,hsz,hty,?_,hmag,?_,?_⟩
 ·unfold tyE
  rw[hty,show (Go.VS.ty (.nd n ks) == -1)=false from by rw[beq_eq_false_iff_ne]; exact Uu (t:=.nd n ks) htyE];show (bif WP n ((ks.map g).map noQ) then (81:Int) else 0)=0;rw[hlin']; rfl
 ·exact Si hmag (tP.1 h.mgs).1
 ·intro k hk
  obtain ⟨x,hx,rfl⟩:=mem_map.1 hk;exact (hg x hx).okt
 ·intro hf
  rw[Zb] at hf ⊢;unfold Sd at hf ⊢;cases hq:isQ n with
  | true=>rw[hq] at hf; cases hf
  | false =>
   rw[hq] at hf;simp only[cond_false,List.all_map] at hf ⊢;rw[List.all_eq_true] at hf ⊢;exact fun k hk=>(hg k hk).fix (hf k hk)
 ·rw[tV,tV,map_map]
  have:=ze4 ks (Go.VS.deep ∘ g) Go.VS.deep fun k hk=>(hg k hk).deep
  omega
 ·intro q hq
  rw[tU,tU,map_map];congr 1
  exact map_congr_left fun k hk=>(hg k hk).ev q hq
theorem ZT {n:za.T} {k:Tree} (hk:k∈ks):k.size<(Tree.nd n ks).size:=TV (t:=.nd n ks) hk
theorem YL {n:za.T} {k:Tree} (hk:k∈ks):deep k<=deep (.nd n ks):=by
 rw[tV];have:=(VB hk).2;cases nK n==15<;>simp only[cond_true,cond_false]<;>omega
theorem Vu {n:za.T} {k:Tree} (hk:k∈ks) (h:(vV (.nd n ks)).1=true):(vV k).1=true:=by
 rw[Zb] at h;unfold Sd at h;cases hq:isQ n with
 | true=>rw[hq] at h; cases h
 | false =>
  rw[hq] at h;simp only[cond_false] at h;exact List.all_eq_true.1 h _ (mem_map.2 ⟨k,hk,rfl⟩)
theorem Y9 {n:za.T} {k:Tree} (h:OKT u D (.nd n ks)) (hk:k∈ks) (h1:ty k=tyN n (ks.map ty)) (h2:mag u D k<=xJ u D n (ks.map (mag u D)))
  (h3:∀q,okQ D q->ev u D q k=evN u D q n (ks.map (ev u D q))):FK u D (.nd n ks) k/\k.size<(Tree.nd n ks).size :=
 ⟨⟨h.kid hk,Nat.le_of_lt (ZT hk),by rw[qR]; exact h1,Vu hk,by rw[qb]; exact h2,YL hk,fun q hq=>by rw[tU]; exact h3 q hq⟩,ZT hk⟩
theorem OKT.len {n:za.T} (h:OKT u D (.nd n ks)):ks.length=ar n:=(qQ.1 h.wf).1.1
theorem OKT.node {n:za.T} (h:OKT u D (.nd n ks)):vA D.length n (ar n)=0:=(qQ.1 h.wf).1.2
theorem OKT.tyne {n:za.T} (h:OKT u D (.nd n ks)):tyN n (ks.map ty)≠-1:=by
 have:=Uu (tP.1 h.tys).1;rw[qR] at this;exact this
theorem zeJ {n:za.T} {a b:Tree} (h:OKT u D (.nd n [a,b])) (e:∀vs:List Int,tyN n vs=qk vs):tyN n ([a,b].map ty)=ty a/\ty b=ty a:=by
 have hne:=h.tyne;rw[e] at hne ⊢;obtain ⟨o1,o2⟩:=YC (a:=ty a) (r:=[ty b]) hne;exact ⟨o1,o2 (ty b) (by simp)⟩
theorem zfv (c:Cxt u D) (h:OKT u D t) (e:negT t=some y):FK u D t y/\y.size<t.size:=by
 obtain ⟨n,ks⟩:=t;have e:(bif nK n==5&&nK (kd (.nd n ks) 0).root==5 then some (kd (kd (.nd n ks) 0) 0) else none)=some y:=e;cases h5:(nK n==5&&nK (kd (.nd n ks) 0).root==5) with
 | false=>rw[h5] at e; cases e
 | true =>
 rw[h5] at e;simp only[cond_true,Option.some.injEq] at e;simp only[Bool.and_eq_true,beq_iff_eq] at h5;obtain ⟨hh,hh2⟩:=h5;obtain ⟨a,rfl⟩:=length_eq_one_iff.1 (show ks.length=1 by rw[h.len,yI hh]; rfl);obtain ⟨m,ls⟩:=a;have ha:=h.kid (k:=.nd m ls) (by simp);replace hh2:nK m=5:=hh2
 obtain ⟨b,rfl⟩:=length_eq_one_iff.1 (show ls.length=1 by rw[ha.len,yI hh2]; rfl);have e:b=y:=e;subst e;have hb:=ha.kid (k:=b) (by simp);have s1:=ZT (n:=m) (ks:=[b]) (k:=b) (by simp);have s2:=ZT (n:=n) (ks:=[.nd m [b]]) (k:=.nd m [b]) (by simp);have tyN5:∀{n:za.T} (x:Int),nK n=5->tyN n [x]=x:=fun x hh=>by unfold tyN; rw[hh]; rfl
 have mag5:∀{n:za.T} (x:Int),nK n=5->xJ u D n [x]=x:=fun x hh=>by
  unfold xJ; rw[hh]; show vD [x]=x; simp[vD]
 have ev5:∀{n:za.T} (q:List Int) (x:Int),nK n=5->evN u D q n [x]=0-x:=fun q x hh=>by unfold evN; rw[hh]; rfl
 refine ⟨⟨hb,by omega,?_,fun hf=>Vu (n:=m) (ks:=[b]) (by simp) (Vu (n:=n) (ks:=[.nd m [b]]) (by simp) hf),?_,Int.le_trans (YL (n:=m) (ks:=[b]) (by simp)) (YL (n:=n) (ks:=[.nd m [b]]) (by simp)),?_⟩,by omega⟩
 ·rw[qR,map_cons,map_nil,tyN5 _ hh,qR,map_cons,map_nil,tyN5 _ hh2]
 ·rw[qb,map_cons,map_nil,mag5 _ hh,qb,map_cons,map_nil,mag5 _ hh2]; exact Int.le_refl _
 ·intro q hq
  rw[tU,map_cons,map_nil,ev5 _ _ hh,tU,map_cons,map_nil,ev5 _ _ hh2]; omega
theorem zfp (c:Cxt u D) (h:OKT u D t) (e:offT t=some y):FK u D t y/\y.size<t.size:=by
 obtain ⟨n,ks⟩:=t;have e:(bif nK n==15&&nN n==0 then some (kd (.nd n ks) 0) else none)=some y:=e;cases h5:(nK n==15&&nN n==0) with
 | false=>rw[h5] at e; cases e
 | true =>
 rw[h5] at e;simp only[cond_true,Option.some.injEq] at e;simp only[Bool.and_eq_true,beq_iff_eq] at h5;obtain ⟨hh,hh2⟩:=h5;obtain ⟨a,rfl⟩:=length_eq_one_iff.1 (show ks.length=1 by rw[h.len,yI hh]; rfl);have e:a=y:=e;subst e;have hne:=h.tyne;refine Y9 h (by simp) ?_ ?_ ?_
 ·have:tyN n ([a].map ty)=bif ty a==1 then 1 else -1:=by unfold tyN; rw[hh]; rfl
  rw[this] at hne ⊢;cases h1:(ty a==1) with
  | false=>rw[h1] at hne; exact absurd rfl hne
  | true=>simpa using h1
 ·have:xJ u D n ([a].map (mag u D))=mag u D a:=by unfold xJ; rw[hh]; rfl
  rw[this]; exact Int.le_refl _
 ·intro q hq
  have:evN u D q n ([a].map (ev u D q))=Ye 2 (ev u D q a*(10000-nN n)) 10000:=by unfold evN; rw[hh]; rfl
  rw[this,hh2,show (10000:Int)-0=10000 from rfl,Z5 (by decide)]
theorem SU (c:Cxt u D) (h:OKT u D t) (e:YO t=some y):FK u D t y/\y.size<t.size:=by
 obtain ⟨n,ks⟩:=t;have e:(bif nK n==16&&uf (kd (.nd n ks) 1) (kd (.nd n ks) 2) then some (kd (.nd n ks) 1) else none)=some y:=e;cases h5:(nK n==16&&uf (kd (.nd n ks) 1) (kd (.nd n ks) 2)) with
 | false=>rw[h5] at e; cases e
 | true =>
 rw[h5] at e;simp only[cond_true,Option.some.injEq] at e;simp only[Bool.and_eq_true,beq_iff_eq] at h5;obtain ⟨hh,hh2⟩:=h5;obtain ⟨a,b,d,rfl⟩:=len3 (show ks.length=3 by rw[h.len,yI hh]; rfl);have e:b=y:=e;subst e;replace hh2:uf b d=true:=hh2
 have hne:=h.tyne;have ma:=XP c (h.kid (k:=a) (by simp));have md:=XP c (h.kid (k:=d) (by simp));have hN:=(wD h.node).2.1;refine Y9 h (by simp) ?_ ?_ ?_
 ·have e1:tyN n ([a,b,d].map ty)=bif vS (ty a) then qk [ty b,ty d] else -1:=by unfold tyN; rw[hh]; rfl
  rw[e1] at hne ⊢;cases h1:vS (ty a) with
  | false=>rw[h1] at hne; exact absurd rfl hne
  | true =>
   rw[h1] at hne;exact (YC (a:=ty b) (r:=[ty d]) hne).1.symm
 ·have:xJ u D n ([a,b,d].map (mag u D))=vD [mag u D a,mag u D b,mag u D d]+nN n:=by unfold xJ; rw[hh]; rfl
  rw[this];simp only[vD,sum_cons,List.sum_nil];omega
 ·intro q hq
  have:evN u D q n ([a,b,d].map (ev u D q))=bif Z2 (nO n) (ev u D q a) (nN n) then ev u D q b else ev u D q d:=by unfold evN; rw[hh]; rfl
  rw[this,<-zde (qy.1 hh2) u D q];cases Z2 (nO n) (ev u D q a) (nN n)<;>rfl
theorem R3 (h:qi t=true):ev u D q t=0:=by
 obtain ⟨n,ks⟩:=t;have h:((nK n==1||nK n==2)&&nN n==0)=true:=h
 simp only[Bool.and_eq_true,Bool.or_eq_true,beq_iff_eq] at h;obtain ⟨h1,h2⟩:=h;rw[tU];unfold evN;rcases h1 with h1 | h1
 ·rw[h1]; exact h2
 ·rw[h1]; show nN n*u=0; rw[h2]; simp
theorem Qx (c:Cxt u D) (h:OKT u D t) (e:XK t=some y):FK u D t y/\y.size<t.size:=by
 obtain ⟨n,ks⟩:=t;have e:(bif nK n==6&&qi (kd (.nd n ks) 0) then some (kd (.nd n ks) 1) else bif (nK n==6||nK n==7)&&qi (kd (.nd n ks) 1) then some (kd (.nd n ks) 0) else none)=some y:=e
 have hN:=(wD h.node).2.1;have mag2:∀{a b:Tree},(nK n=6\/nK n=7)->xJ u D n ([a,b].map (mag u D))=mag u D a+mag u D b:=by
  intro a b hh;have:xJ u D n ([a,b].map (mag u D))=vD [mag u D a,mag u D b]:=by
   unfold xJ; rcases hh with hh | hh<;>(rw[hh]; rfl)
  rw[this]; simp only[vD,sum_cons,List.sum_nil]; omega
 have ty2:(nK n=6\/nK n=7)->∀vs:List Int,tyN n vs=qk vs:=by
  intro hh vs; unfold tyN; rcases hh with hh | hh<;>(rw[hh]; rfl)
 cases h5:(nK n==6&&qi (kd (.nd n ks) 0)) with
 | true =>
  rw[h5] at e;simp only[cond_true,Option.some.injEq] at e;simp only[Bool.and_eq_true,beq_iff_eq] at h5;obtain ⟨hh,hz⟩:=h5;obtain ⟨a,b,rfl⟩:=ZY (show ks.length=2 by rw[h.len,yI hh]; rfl);have e:b=y:=e;subst e;have hz:qi a=true:=hz;have ma:=XP c (h.kid (k:=a) (by simp));obtain ⟨t1,t2⟩:=zeJ h (ty2 (.inl hh));refine Y9 h (by simp) ?_ ?_ ?_
  ·rw[t1,t2]
  ·rw[mag2 (.inl hh)]; omega
  ·intro q hq
   have:evN u D q n ([a,b].map (ev u D q))=ev u D q a+ev u D q b:=by unfold evN; rw[hh]; rfl
   rw[this,R3 hz]; omega
 | false =>
  rw[h5] at e;simp only[cond_false] at e;cases h6:((nK n==6||nK n==7)&&qi (kd (.nd n ks) 1)) with
  | false=>rw[h6] at e; cases e
  | true =>
   rw[h6] at e;simp only[cond_true,Option.some.injEq] at e;simp only[Bool.and_eq_true,Bool.or_eq_true,beq_iff_eq] at h6;obtain ⟨hh,hz⟩:=h6;obtain ⟨a,b,rfl⟩:=ZY (show ks.length=2 by rcases hh with hh | hh<;>(rw[h.len,yI hh]; rfl))
   have e:a=y:=e;subst e;have hz:qi b=true:=hz;have mb:=XP c (h.kid (k:=b) (by simp));obtain ⟨t1,t2⟩:=zeJ h (ty2 hh);refine Y9 h (by simp) ?_ ?_ ?_
   ·rw[t1]
   ·rw[mag2 hh]; omega
   ·intro q hq
    rcases hh with hh | hh
    ·have:evN u D q n ([a,b].map (ev u D q))=ev u D q a+ev u D q b:=by unfold evN; rw[hh]; rfl
     rw[this,R3 hz]; omega
    ·have:evN u D q n ([a,b].map (ev u D q))=ev u D q a-ev u D q b:=by unfold evN; rw[hh]; rfl
     rw[this,R3 hz]; omega
theorem zfk (h:WM t=true):ty t=0/\mag u D t=1/\∀q,ev u D q t=1:=by
 obtain ⟨n,ks⟩:=t;have h:(nK n==1&&nN n==1)=true:=h;simp only[Bool.and_eq_true,beq_iff_eq] at h;obtain ⟨h1,h2⟩:=h;refine ⟨?_,?_,fun q=>?_⟩
 ·rw[qR]; unfold tyN; rw[h1]; rfl
 ·rw[qb]; unfold xJ; rw[h1]; exact h2
 ·rw[tU]; unfold evN; rw[h1]; exact h2
theorem zdY (c:Cxt u D) (h:OKT u D t) (e:zay t=some y):FK u D t y/\y.size<t.size:=by
 obtain ⟨n,ks⟩:=t;have e:(bif nK n==8&&WM (kd (.nd n ks) 0) then some (kd (.nd n ks) 1) else bif nK n==8&&WM (kd (.nd n ks) 1) then some (kd (.nd n ks) 0) else none)=some y:=e;have go:nK n=8->FK u D (.nd n ks) y/\y.size<(Tree.nd n ks).size:=by
  intro hh;obtain ⟨a,b,rfl⟩:=ZY (show ks.length=2 by rw[h.len,yI hh]; rfl);have e:(bif nK n==8&&WM a then some b else bif nK n==8&&WM b then some a else none)=some y:=e;have et:tyN n ([a,b].map ty)=Yz (ty a) (ty b):=by unfold tyN; rw[hh]; rfl
  have em:xJ u D n ([a,b].map (mag u D))=mag u D a*mag u D b:=by unfold xJ; rw[hh]; rfl
  have ee:∀q,evN u D q n ([a,b].map (ev u D q))=ev u D q a*ev u D q b:=fun q=>by unfold evN; rw[hh]; rfl
  rw[hh] at e;cases ha:WM a with
  | true =>
   rw[ha] at e;have e:b=y:=by simpa using e
   subst e;obtain ⟨o1,o2,o3⟩:=zfk (u:=u) (D:=D) ha;exact Y9 h (by simp) (by rw[et,o1]; rfl) (by rw[em,o2]; omega) (fun q _=>by rw[ee,o3]; omega)
  | false =>
   rw[ha] at e;cases hb:WM b with
   | false=>rw[hb] at e; cases e
   | true =>
    rw[hb] at e;have e:a=y:=by simpa using e
    subst e;obtain ⟨o1,o2,o3⟩:=zfk (u:=u) (D:=D) hb;refine Y9 h (by simp) ?_ (by rw[em,o2]; omega) (fun q _=>by rw[ee,o3]; omega);rw[et,o1];unfold Yz;cases h0:(ty a==0) with
    | true=>simpa using h0
    | false=>rfl
 cases h8:(nK n==8) with
 | false=>rw[h8] at e; cases e
 | true=>exact go (by simpa using h8)
theorem Ul (f:Tree->Int) (w:Int) (hw:0<=w):∀(r acc:List Tree),(∀k∈r,w<=f k)->vD ((uj acc r).map f)+w*(acc.length+r.length-(uj acc r).length)<=vD (acc.map f)+vD (r.map f)
 | [],acc,_=>by
  unfold uj;simp[vD]
 | k::r,acc,h=>by
  have ih:=Ul f w hw r (bif acc.any (fun o=>uf o k) then acc else acc++[k]) fun x hx=>h x (by simp[hx])
  have hk:=h k (by simp);unfold uj;cases hb:acc.any (fun o=>uf o k) with
  | true =>
   rw[hb] at ih;simp only[cond_true] at ih ⊢;simp only[vD,map_cons,sum_cons,length_cons] at ih ⊢;have e:w*((acc.length:Int)+((r.length+1:Nat):Int)-((uj acc r).length:Int))=w*((acc.length:Int)+(r.length:Int)-((uj acc r).length:Int))+w:=by
    push_cast; rw[show (acc.length:Int)+((r.length:Int)+1)-((uj acc r).length:Int)=((acc.length:Int)+(r.length:Int)-((uj acc r).length:Int))+1 by omega,Int.mul_add]; omega
   rw[e]; omega
  | false =>
   rw[hb] at ih;simp only[cond_false] at ih ⊢;simp only[vD,map_cons,map_append,map_nil,List.sum_append,sum_cons,List.sum_nil,length_append,length_cons,length_nil] at ih ⊢;have e:((acc.length+(0+1):Nat):Int)+(r.length:Int)=(acc.length:Int)+((r.length+1:Nat):Int):=by push_cast; omega
   rw[e] at ih;omega
theorem RQ:∀(r acc:List Tree),(∀x∈acc,x∈uj acc r)/\∀x∈r,∃y∈uj acc r,er y=er x
 | [],acc=>⟨fun x hx=>hx,by simp⟩
 | k::r,acc=>by
  have ih:=RQ r (bif acc.any (fun o=>uf o k) then acc else acc++[k]);unfold uj;cases hb:acc.any (fun o=>uf o k) with
  | true =>
   rw[hb] at ih;simp only[cond_true] at ih ⊢;refine ⟨ih.1,fun x hx=>?_⟩;rcases mem_cons.1 hx with rfl | hx
   ·obtain ⟨o,ho,hs⟩:=List.any_eq_true.1 hb
    exact ⟨o,ih.1 o ho,qy.1 hs⟩
   ·exact ih.2 x hx
  | false =>
   rw[hb] at ih;simp only[cond_false] at ih ⊢;refine ⟨fun x hx=>ih.1 x (by simp[hx]),fun x hx=>?_⟩;rcases mem_cons.1 hx with rfl | hx
   ·exact ⟨x,ih.1 x (by simp),rfl⟩
   ·exact ih.2 x hx
theorem zd0:∀(l:List Int) (m:Int),Y2 m l<=m/\∀x∈l,Y2 m l<=x
 | [],m=>⟨Int.le_refl _,by simp⟩
 | x::r,m=>by
  have h:=zd0 r (if x<m then x else m);have e:Y2 m (x::r)=Y2 (if x<m then x else m) r:=rfl;rw[e];have h0:(if x<m then x else m)<=m/\(if x<m then x else m)<=x:=by split<;>omega
  refine ⟨by omega,fun y hy=>?_⟩;rcases mem_cons.1 hy with rfl | hy
  ·omega
  ·exact h.2 y hy
theorem zcZ (l:List Int) (x:Int) (h:x∈l):Zl l<=x:=by
 cases l with
 | nil=>simp at h
 | cons a r =>
  have:=zd0 r a;rcases mem_cons.1 h with rfl | h
  ·exact this.1
  ·exact this.2 x h
theorem zaI (l:List Int) (x:Int) (h:x∈l):x<=uZ l:=by
 cases l with
 | nil=>simp at h
 | cons a r =>
  have:=Wk r a;rcases mem_cons.1 h with rfl | h
  ·exact this.1
  ·exact this.2 x h
theorem minL_eq (hl:1<=l.length) (hm:1<=m.length) (h1:∀x∈l,x∈m) (h2:∀x∈m,x∈l):Zl l=Zl m:=by
 have a1:=zcZ m (Zl l) (h1 _ (XL hl));have a2:=zcZ l (Zl m) (h2 _ (XL hm));omega
theorem maxL_eq (hl:1<=l.length) (hm:1<=m.length) (h1:∀x∈l,x∈m) (h2:∀x∈m,x∈l):uZ l=uZ m:=by
 have a1:=zaI m (uZ l) (h1 _ (XM hl));have a2:=zaI l (uZ m) (h2 _ (XM hm));omega
theorem zdA (l:List Tree):vD (l.map fun t=>(t.size:Int))=((zS l).length:Int):=by
 induction l with
 | nil=>rfl
 | cons k r ih =>
  rw[vN,length_append];simp only[vD,map_cons,sum_cons] at ih ⊢;rw[ih]; unfold Tree.size; push_cast; rfl
theorem ZH (t:Tree):1<=t.size:=by
 obtain ⟨n,ks⟩:=t;rw[vn]; omega
theorem Qg (c:Cxt u D) (h:OKT u D t) (e:XC t=some y):FK u D t y/\y.size<t.size:=by
 obtain ⟨n,ks⟩:=t;have e:(bif nK n==9||nK n==10 then
  (bif ((uj [] ks).length:Int)==(ks.length:Int) then none else bif ((uj [] ks).length:Int)==1 then some ((uj [] ks).getD 0 (.nd n ks)) else some (.nd (n.1,n.2.1,n.2.2.1,((uj [] ks).length:Int),n.2.2.2.2) (uj [] ks))) else none)=some y:=e
 cases h9:(nK n==9||nK n==10) with
 | false=>rw[h9] at e; cases e
 | true =>
 rw[h9] at e;simp only[cond_true] at e;have hh:nK n=9\/nK n=10:=by simpa using h9
 obtain ⟨w1,w2,w3⟩:=h.wf.several (t:=.nd n ks) hh;have w1:2<=ks.length:=w1;have w2:ks.length<=16:=w2;have w3:(ks.length:Int)=nC n:=w3;have hmem:∀x∈uj [] ks,x∈ks:=fun x hx=>by
  rcases RR ks [] x hx with h | h
  ·simp at h
  ·exact h
 have hlen:=Um ks [];have hcov:=(RQ ks []).2;have hsum:=Ul (mag u D) 0 (by omega) ks [] fun k hk=>XP c (h.kid hk)
 have hsz:=Ul (fun t=>(t.size:Int)) 1 (by omega) ks [] fun k hk=>by have:=ZH k; omega
 simp only[zdA] at hsz;rw[show (zS ([]:List Tree)).length=0 from rfl] at hsz;generalize uj [] ks=ds at*;simp only[length_nil,Nat.zero_add,map_nil,vD,List.sum_nil] at hlen hsum hsz;have hd1:1<=ds.length:=by
  cases hks:ks with
  | nil=>rw[hks] at w1; simp at w1
  | cons k r =>
   obtain ⟨z,hz,_⟩:=hcov k (by rw[hks]; simp);exact length_pos_of_mem hz
 cases h1:((ds.length:Int)==(ks.length:Int)) with
 | true=>rw[h1] at e; cases e
 | false =>
 rw[h1] at e;simp only[cond_false] at e;have hlt:ds.length<ks.length:=by
  rw[beq_eq_false_iff_ne] at h1;omega
 have hty:∀vs:List Int,tyN n vs=qk vs:=by
  intro vs; unfold tyN; rcases hh with hh | hh<;>(rw[hh]; rfl)
 have hmag:∀vs:List Int,xJ u D n vs=vD vs:=by
  intro vs; unfold xJ; rcases hh with hh | hh<;>(rw[hh]; rfl)
 have hne:=h.tyne;have tyAll:∀k∈ks,ty k=tyN n (ks.map ty):=by
  rw[hty] at hne ⊢;cases hks:ks with
  | nil=>rw[hks] at w1; simp at w1
  | cons k r =>
   rw[hks,map_cons] at hne;obtain ⟨o1,o2⟩:=YC hne;intro x hx;rw[map_cons,o1];rcases mem_cons.1 hx with rfl | hx
   ·rfl
   ·exact o2 _ (mem_map.2 ⟨x,hx,rfl⟩)
 have evs:∀q,(∀x∈ds.map (ev u D q),x∈ks.map (ev u D q))/\(∀x∈ks.map (ev u D q),x∈ds.map (ev u D q)):=by
  intro q;refine ⟨fun x hx=>?_,fun x hx=>?_⟩
  ·obtain ⟨k,hk,rfl⟩:=mem_map.1 hx
   exact mem_map.2 ⟨k,hmem k hk,rfl⟩
  ·obtain ⟨k,hk,rfl⟩:=mem_map.1 hx
   obtain ⟨z,hz,ez⟩:=hcov k hk;exact mem_map.2 ⟨z,hz,zde ez u D q⟩
 have evEq:∀(m:za.T),m.1=n.1->∀q,evN u D q m (ds.map (ev u D q))=evN u D q n (ks.map (ev u D q)):=by
  intro m hm q;obtain ⟨a1,a2⟩:=evs q;have l1:1<=(ds.map (ev u D q)).length:=by simpa using hd1
  have l2:1<=(ks.map (ev u D q)).length:=by simp; omega
  have hm:nK m=nK n:=hm;unfold evN;rcases hh with hh | hh
  ·rw[hm,hh]; exact minL_eq l1 l2 a1 a2
  ·rw[hm,hh]; exact maxL_eq l1 l2 a1 a2
 have hsl:(zS ds).length<(zS ks).length:=by omega
 have hm2:vD (ds.map (mag u D))<=vD (ks.map (mag u D)):=by simp only[vD]; omega
 cases h2:((ds.length:Int)==1) with
 | true =>
  rw[h2] at e;simp only[cond_true,Option.some.injEq] at e;obtain ⟨a,rfl⟩:=length_eq_one_iff.1 (show ds.length=1 by have:=beq_iff_eq.1 h2; omega);have e:a=y:=e;subst e;have ha:=hmem a (by simp);refine Y9 h ha (tyAll a ha) ?_ ?_
  ·rw[hmag]
   simp only[map_cons,map_nil,vD,sum_cons,List.sum_nil] at hm2 ⊢;omega
  ·intro q hq
   rw[<-evEq n rfl q];unfold evN;rcases hh with hh | hh<;>(rw[hh]; rfl)
 | false =>
  rw[h2] at e;simp only[cond_false,Option.some.injEq] at e;have h2:ds.length≠1:=by rw[beq_eq_false_iff_ne] at h2; omega
  generalize hm':((n.1,n.2.1,n.2.2.1,(ds.length:Int),n.2.2.2.2):za.T)=m at e;have m1:m.1=n.1:=by rw[<-hm']
  have mC:nC m=ds.length:=by rw[<-hm']
  have mN:nN m=nN n:=by rw[<-hm']
  have mO:nO m=nO n:=by rw[<-hm']
  have mT:nT m=nT n:=by rw[<-hm']
  have hhm:nK m=9\/nK m=10:=by rw[show nK m=nK n from m1]; exact hh
  have hnode:=h.node;obtain ⟨g1,g2,g3,g4,g5,g6,g7,g8⟩:=wD hnode;have hasks:tI m=tI n:=by unfold tI; rw[show nK m=nK n from m1]
  have arm:ar m=ds.length:=by
   rcases hhm with hk | hk
   ·rw[yI hk]; show (nC m).toNat=_; omega
   ·rw[yI hk]; show (nC m).toNat=_; omega
  have hnm:vA D.length m (ar m)=0:=by
   unfold vA tz uV aK opB ue Yh;rw[hasks,mN,mO,mT,show nK m=nK n from m1];have k1:(decide (1<=nK n)&&decide (nK n<=16))=true:=g1;have k3:decide (nN n>bif decide ((tI n).2.1<0) then (D.length:Int)-1 else (tI n).2.1)=false:=decide_eq_false (by have g3:nN n<=bif decide ((tI n).2.1<0) then (D.length:Int)-1 else (tI n).2.1:=g3; omega);have k5:(bif (tI n).2.2.2 then decide (nO n>=1)&&decide (nO n<=6) else nO n==0)=true:=g5;have hA:(tI n).1<0:=by
    unfold tI;rcases hh with hh | hh<;>(rw[hh]; decide)
   have k4:(bif decide ((tI n).1<0) then decide (nC m>=2)&&decide (nC m<=16) else nC m==0)=true:=by
    rw[decide_eq_true hA,mC]; simp; omega
   have kt:(tI n).2.2.1=false:=by
    unfold tI;rcases hh with hh | hh<;>(rw[hh]; rfl)
   rw[k1,k3,k5,k4,kt,decide_eq_false (show ¬nN n<0 by omega),decide_eq_false (show ¬((ar m:Nat):Int)<((ar m:Nat):Int) by omega)];have:nT n=[]:=g6 kt;rw[this]; rfl
  have hty':∀vs:List Int,tyN m vs=qk vs:=by
   intro vs; unfold tyN; rcases hhm with hh | hh<;>(rw[hh]; rfl)
  have hmag':∀vs:List Int,xJ u D m vs=vD vs:=by
   intro vs; unfold xJ; rcases hhm with hh | hh<;>(rw[hh]; rfl)
  have htyE:ty (.nd m ds)=ty (.nd n ks):=by
   rw[qR,qR,hty'];cases hds:ds with
   | nil=>rw[hds] at hd1; simp at hd1
   | cons a r =>
    rw[map_cons];show (bif (r.map ty).all (fun x=>x==ty a) then ty a else -1)=_;have:(r.map ty).all (fun x=>x==ty a)=true:=by
     rw[List.all_eq_true];intro x hx;obtain ⟨k,hk,rfl⟩:=mem_map.1 hx;rw[tyAll k (hmem k (by rw[hds]; simp[hk])),tyAll a (hmem a (by rw[hds]; simp))]; simp
    rw[this];exact tyAll a (hmem a (by rw[hds]; simp))
  have hmagE:mag u D (.nd m ds)<=mag u D (.nd n ks):=by
   rw[qb,qb,hmag,hmag']; exact hm2
  have hsize:(Tree.nd m ds).size<(Tree.nd n ks).size:=by rw[vn,vn]; omega
  subst e;refine ⟨⟨OKT.mk' (by rw[arm]) hnm (by have:=h.size; omega) ?_ ?_ ?_,Nat.le_of_lt hsize,htyE,?_,hmagE,?_,?_⟩,hsize⟩
  ·have hE:=(tP.1 h.tys).1
   unfold tyE;rw[htyE,show (ty (.nd n ks) == -1)=false from by rw[beq_eq_false_iff_ne]; exact Uu hE];have:WP m (ds.map noQ)=false:=by
    unfold WP; rcases hhm with hh | hh<;>(rw[hh]; rfl)
   show (bif WP m (ds.map noQ) then (81:Int) else 0)=0;rw[this]; rfl
  ·have h1:=(tP.1 h.mgs).1
   have:∀v,vR m v=vR n v:=by
    intro v; unfold vR; rw[show nK m=nK n from m1]
   rw[this];exact Si hmagE h1
  ·exact fun k hk=>h.kid (hmem k hk)
  ·intro hf
   have hk:∀k∈ks,(vV k).1=true:=fun k hk=>Vu hk hf
   rw[Zb];unfold Sd;have:isQ m=false:=by
    unfold isQ; rcases hhm with hh | hh<;>(rw[hh]; rfl)
   rw[this];simp only[cond_false];rw[List.all_eq_true];intro x hx;obtain ⟨k,hk',rfl⟩:=mem_map.1 hx;exact hk k (hmem k hk')
  ·rw[tV,tV,show nK m=nK n from m1]
   have:uZ (ds.map deep)<=uZ (ks.map deep):=by
    have g:=Vn (l:=ks.map deep) (fun x hx=>by
     obtain ⟨k,_,rfl⟩:=mem_map.1 hx;exact (tc k).1)
    refine QB g.1 fun x hx=>?_
    obtain ⟨k,hk,rfl⟩:=mem_map.1 hx;exact g.2 _ (mem_map.2 ⟨k,hmem k hk,rfl⟩)
   omega
  ·intro q hq
   rw[tU,tU]; exact evEq m m1 q
theorem tq_mul {a b:Int} (hb:0<b) (h:tr a b=0):tq a b*b=a:=by
 have h1:=aQR (a:=a) (b:=b) (by omega);obtain ⟨_,_,_,h1,_⟩:=h1;have hR:aR a b=0:=by
  have:=Qb a b (by omega);rw[h] at this;exact this.symm
 rw[hR,show ((b.natAbs:Nat):Int)=b by omega,Int.mul_comm] at h1;unfold tq dsg;rw[decide_eq_false (show ¬b<0 by omega)];by_cases ha:a<0
 ·rw[decide_eq_true ha]
  show -aQ a b*b=a;rw[Int.neg_mul]; omega
 ·rw[decide_eq_false ha]
  show aQ a b*b=a;omega
theorem tq_nn {a b:Int} (hb:0<b) (ha:0<=a):0<=tq a b:=by
 have h1:=aQR (a:=a) (b:=b) (by omega);unfold tq dsg;rw[decide_eq_false (show ¬b<0 by omega),decide_eq_false (show ¬a<0 by omega)];exact h1.1
theorem zfG (hk:k=1\/k=2) (h0:0<=v) (h1:v<=1000000000000) (hm:(bif k==1 then v else v*u)<=BND) :
  OKT u D (.nd (k,v,0,0,[],a) [])/\Tree.size (.nd (k,v,0,0,[],a) [])=1/\ty (.nd (k,v,0,0,[],a) [])=k-1/\mag u D (.nd (k,v,0,0,[],a) [])=(bif k==1 then v else v*u)/\deep (.nd (k,v,0,0,[],a) [])=0 /\
   (∀q,ev u D q (.nd (k,v,0,0,[],a) [])=bif k==1 then v else v*u)/\(vV (.nd (k,v,0,0,[],a) [])).1=true:=by
 have hs:Tree.size (.nd (k,v,0,0,[],a) [])=1:=by rw[vn]; rfl
 have ht:ty (.nd (k,v,0,0,[],a) [])=k-1:=by
  rw[qR]; unfold tyN;rcases hk with rfl | rfl<;>rfl
 have hmg:mag u D (.nd (k,v,0,0,[],a) [])=(bif k==1 then v else v*u):=by
  rw[qb]; unfold xJ;rcases hk with rfl | rfl<;>rfl
 have har:ar ((k,v,0,0,[],a):za.T)=0:=by
  rcases hk with rfl | rfl
  ·rw[yI (k:=1) rfl]; rfl
  ·rw[yI (k:=2) rfl]; rfl
 have hmo:Yh ((k,v,0,0,[],a):za.T) D.length=1000000000000:=by
  rcases hk with rfl | rfl
  ·rw[uU (k:=1) rfl]; rfl
  ·rw[uU (k:=2) rfl]; rfl
 have hn:vA D.length ((k,v,0,0,[],a):za.T) (ar ((k,v,0,0,[],a):za.T))=0:=by
  unfold vA;rw[har,hmo,show nN ((k,v,0,0,[],a):za.T)=v from rfl,decide_eq_false (show ¬v<0 by omega),decide_eq_false (show ¬v>1000000000000 by omega)];rcases hk with rfl | rfl<;>rfl
 refine ⟨OKT.mk' (by rw[har]; rfl) hn (by rw[hs]; decide) ?_ ?_ (by simp),hs,ht,hmg,?_,fun q=>?_,?_⟩
 ·unfold tyE
  rw[ht];rcases hk with rfl | rfl<;>rfl
 ·rw[hmg]
  unfold vR;rcases hk with rfl | rfl<;>exact hm
 ·rw[tV]
  rcases hk with rfl | rfl<;>rfl
 ·rw[tU]; unfold evN
  rcases hk with rfl | rfl<;>rfl
 ·rw[Zb]; unfold Sd isQ
  rcases hk with rfl | rfl<;>rfl
theorem ze2 (hk:k=1\/k=2) (h0:0<=v) (h1:v<=1000000000000) (hm:(bif k==1 then v else v*u)<=BND) :
  OKT u D (.nd (5,0,0,0,[],a) [.nd (k,v,0,0,[],a) []])/\Tree.size (.nd (5,0,0,0,[],a) [.nd (k,v,0,0,[],a) []])=2/\ty (.nd (5,0,0,0,[],a) [.nd (k,v,0,0,[],a) []])=k-1/\mag u D (.nd (5,0,0,0,[],a) [.nd (k,v,0,0,[],a) []])=(bif k==1 then v else v*u)/\deep (.nd (5,0,0,0,[],a) [.nd (k,v,0,0,[],a) []])=0 /\
   (∀q,ev u D q (.nd (5,0,0,0,[],a) [.nd (k,v,0,0,[],a) []])=0-bif k==1 then v else v*u)/\(vV (.nd (5,0,0,0,[],a) [.nd (k,v,0,0,[],a) []])).1=true:=by
 obtain ⟨l1,l2,l3,l4,l5,l6,l7⟩:=zfG (u:=u) (D:=D) (a:=a) hk h0 h1 hm;have har:ar ((5,0,0,0,[],a):za.T)=1:=by rw[yI (k:=5) rfl]; rfl
 have hn:vA D.length ((5,0,0,0,[],a):za.T) (ar ((5,0,0,0,[],a):za.T))=0:=by
  unfold vA Yh;rw[har]; rfl
 have hs:Tree.size (.nd (5,0,0,0,[],a) [.nd (k,v,0,0,[],a) []])=2:=by
  rw[vn,vN,length_append,show (Tree.flat (.nd (k,v,0,0,[],a) [])).length=1 from l2]; rfl
 have ht:ty (.nd (5,0,0,0,[],a) [.nd (k,v,0,0,[],a) []])=k-1:=by
  rw[qR,map_cons,map_nil,l3]; rfl
 have hmg:mag u D (.nd (5,0,0,0,[],a) [.nd (k,v,0,0,[],a) []])=(bif k==1 then v else v*u):=by
  rw[qb,map_cons,map_nil,l4]; show vD [_]=_; simp[vD]
 refine ⟨OKT.mk' (by rw[har]; rfl) hn (by rw[hs]; decide) ?_ ?_ (by intro k hk; rw[mem_singleton.1 hk]; exact l1),hs,ht,hmg,?_,fun q=>?_,?_⟩
 ·unfold tyE
  rw[ht];rcases hk with rfl | rfl<;>rfl
 ·rw[hmg]; exact hm
 ·rw[tV,map_cons,map_nil,l5]; rfl
 ·rw[tU,map_cons,map_nil,l6]; rfl
 ·rw[Zb,map_cons,map_nil]
  show ([vV (.nd (k,v,0,0,[],a) [])].all fun x=>x.1)=true;simp only[all_cons,List.all_nil,l7,Bool.and_self]
theorem zaU {a:Tree} (h:OKT u D a) (hf:(vV a).1=true) (hs:a.size<=1):qW a.root=true/\a.kids=[]:=by
 obtain ⟨n,ks⟩:=a;rw[vn] at hs;have hl:=vo ks;have hks:ks=[]:=eq_nil_of_length_eq_zero (by omega);obtain ⟨_,hk⟩:=Ui h hf;have hlen:=h.len;subst hks;refine ⟨?_,rfl⟩;have no:∀k:Int,nK n=k->¬(0=(bif decide ((get wt uK k.toNat).1>=0) then (get wt uK k.toNat).1.toNat else (nC n).toNat))->False:=fun k hk hne=>hne (by rw[<-yI hk]; exact hlen)
 have hw:=fun hk=>(h.wf.several (t:=.nd n []) hk).1
 show (nK n==1||nK n==2)=true
 rcases hk with hk | hk | hk | hk | hk | hk | hk | hk | hk
 ·rw[hk]; rfl
 ·rw[hk]; rfl
 ·exact (no 5 hk (by show ¬0=1; decide)).elim
 ·exact (no 6 hk (by show ¬0=2; decide)).elim
 ·exact (no 7 hk (by show ¬0=2; decide)).elim
 ·exact (no 8 hk (by show ¬0=2; decide)).elim
 ·exact absurd (hw (.inl hk)) (by show ¬2<=0; decide)
 ·exact absurd (hw (.inr hk)) (by show ¬2<=0; decide)
 ·exact (no 15 hk (by show ¬0=1; decide)).elim
theorem zcr (c:Cxt u D) (h:OKT u D t) (hf:(vV t).1=true) (hp:qt t=false):2<=t.size/\(t.size=2->0<=ev u D q t):=by
 have hu:=c.hu;refine ⟨?_,fun h2=>?_⟩
 ·rcases Nat.lt_or_ge t.size 2 with hs | hs
  ·have:=(zaU h hf (by omega)).1
   unfold qt at hp;rw[this] at hp; cases hp
  ·exact hs
 ·obtain ⟨n,ks⟩:=t
  obtain ⟨_,hk⟩:=Ui h hf;rw[vn] at h2;have hl:=vo ks;have litv:∀a:Tree,a.size<=1->a∈ks->qW a.root=true/\nN a.root>=0/\0<=ev u D q a/\(nN a.root=0->ev u D q a=0):=by
   intro a hs hm;obtain ⟨l1,l2⟩:=zaU (h.kid hm) (Vu hm hf) hs;have hn:=(wD (h.kid hm).wf.node).2.1;obtain ⟨m,ls⟩:=a;have l1':(nK m==1||nK m==2)=true:=l1
   have hn:0<=nN m:=hn;refine ⟨l1,hn,?_⟩;have:ev u D q (.nd m ls)=bif nK m==1 then nN m else nN m*u:=by
    rw[tU]; unfold evN;simp only[Bool.or_eq_true,beq_iff_eq] at l1';rcases l1' with l | l<;>(rw[l]; rfl)
   rw[this];show 0<=(bif nK m==1 then nN m else nN m*u)/\(nN m=0->(bif nK m==1 then nN m else nN m*u)=0);have h3:0<=nN m*u:=Int.mul_nonneg hn (by omega);cases nK m==1
   ·exact ⟨h3,fun e=>by simp only[cond_false]; rw[e,Int.zero_mul]⟩
   ·exact ⟨hn,fun e=>e⟩
  have one:ks.length=1->∃a,ks=[a]/\a.size<=1:=by
   intro h1;obtain ⟨a,rfl⟩:=length_eq_one_iff.1 h1;refine ⟨a,rfl,?_⟩;have:=tS (ks:=[a]) (k:=a) (by simp);unfold Tree.size;rw[vN,length_append] at h2;omega
  have two:2<=ks.length->False:=fun h=>by omega
  have hw:=fun hk=>(h.wf.several (t:=.nd n ks) hk).1
  rcases hk with hk | hk | hk | hk | hk | hk | hk | hk | hk
  ·exfalso; unfold qt qW at hp
   have hp:((nK n==1||nK n==2)||_)=false:=hp
   rw[hk] at hp; cases hp
  ·exfalso; unfold qt qW at hp
   have hp:((nK n==1||nK n==2)||_)=false:=hp
   rw[hk] at hp; cases hp
  ·obtain ⟨a,rfl,ha⟩:=one (by rw[h.len,yI hk]; rfl)
   obtain ⟨l1,l2,l3,l4⟩:=litv a ha (by simp);have hz:nN a.root=0:=by
    have hp:((nK n==1||nK n==2)||(nK n==5&&(qW a.root&&nN a.root != 0)))=false:=hp
    rw[hk,l1] at hp;have hp:(nN a.root != 0)=false:=hp;simpa using hp
   rw[tU];have:evN u D q n ([a].map (ev u D q))=0-ev u D q a:=by unfold evN; rw[hk]; rfl
   rw[this,l4 hz]; decide
  ·exact (two (by rw[h.len,yI hk]; exact Nat.le_refl 2)).elim
  ·exact (two (by rw[h.len,yI hk]; exact Nat.le_refl 2)).elim
  ·exact (two (by rw[h.len,yI hk]; exact Nat.le_refl 2)).elim
  ·exact (two (hw (.inl hk))).elim
  ·exact (two (hw (.inr hk))).elim
  ·obtain ⟨a,rfl,ha⟩:=one (by rw[h.len,yI hk]; rfl)
   obtain ⟨l1,l2,l3,l4⟩:=litv a ha (by simp);rw[tU];have:evN u D q n ([a].map (ev u D q))=Ye 2 (ev u D q a*(10000-nN n)) 10000:=by unfold evN; rw[hk]; rfl
   rw[this,divM2];have hN:=(wD h.node).2.2.1;rw[uU hk] at hN;have hN:nN n<=10000:=hN;exact tq_nn (by decide) (Int.mul_nonneg l3 (by omega))
theorem zcs (c:Cxt u D) (hq:okQ D q) (h:OKT u D t) (e:Yv u D q t=some y):FK u D t y/\y.size<t.size:=by
 unfold Yv at e;cases hf:(vV t).1 with
 | false=>rw[hf] at e; cases e
 | true =>
 rw[hf] at e;simp only[Bool.not_true,cond_false] at e;cases hp:qt t with
 | true=>rw[hp] at e; cases e
 | false =>
 rw[hp] at e;simp only[cond_false] at e;have hI:=Wh c hq t h;have a1:=hI.lo;have a2:=hI.hi;have a3:=hI.bd;have hu:=c.hu;obtain ⟨s1,s2⟩:=zcr c (q:=q) h hf hp;have hty:=QJ t h hf;have hdeep:=(tc t).1;have key:∀k v:Int,(k=1\/k=2)->ty t=k-1->(bif k==1 then v else v*u)=ev u D q t->QD k v t=some y->FK u D t y/\y.size<t.size:=by
  intro k v hk htk hv e;unfold QD at e;cases h1:decide (v < -1000000000000) with
  | true=>rw[h1] at e; cases e
  | false =>
  rw[h1] at e;have h1:=of_decide_eq_false h1;simp only[cond_false] at e;cases h2:decide (v>1000000000000) with
  | true=>rw[h2] at e; cases e
  | false =>
  rw[h2] at e;have h2:=of_decide_eq_false h2;simp only[cond_false] at e;have hvu:∀w:Int,w=v\/w=0-v->(bif k==1 then w else w*u)=ev u D q t\/(bif k==1 then w else w*u)=0-ev u D q t:=by
   intro w hw;rw[<-hv];rcases hw with rfl | rfl
   ·exact .inl rfl
   ·right
    cases k==1
    ·simp only[cond_false]; rw[Int.sub_mul]; omega
    ·rfl
  cases h3:decide (v<0) with
  | true =>
   rw[h3] at e;have h3:=of_decide_eq_true h3;simp only[cond_true,Option.some.injEq] at e;have hb:=hvu (0-v) (.inr rfl);have hneg:ev u D q t<0:=by
    rw[<-hv];cases k==1
    ·exact Int.mul_neg_of_neg_of_pos h3 (by omega)
    ·exact h3
   have hval:(bif k==1 then 0-v else (0-v)*u)=0-ev u D q t:=by
    rw[<-hv];cases k==1
    ·simp only[cond_false]; rw[Int.sub_mul]; omega
    ·rfl
   obtain ⟨l1,l2,l3,l4,l5,l6,l7⟩:=ze2 (u:=u) (D:=D) (k:=k) (v:=0-v) (a:=t.root.2.2.2.2.2) hk (by omega) (by omega) (by rw[hval]; omega);subst e;have hs3:t.size≠2:=fun hh=>by have:=s2 hh; omega
   refine ⟨⟨l1,by omega,by rw[l3,htk],fun _=>l7,by rw[l4,hval]; omega,by omega,fun q' hq'=>?_⟩,by omega⟩;rw[l6,hval,zaZ u D q' q hf]; omega
  | false =>
   rw[h3] at e;have h3:=of_decide_eq_false h3;simp only[cond_false,Option.some.injEq] at e;obtain ⟨l1,l2,l3,l4,l5,l6,l7⟩:=zfG (u:=u) (D:=D) (k:=k) (v:=v) (a:=t.root.2.2.2.2.2) hk (by omega) (by omega) (by rw[hv]; omega);subst e;refine ⟨⟨l1,by omega,by rw[l3,htk],fun _=>l7,by rw[l4,hv]; omega,by omega,fun q' hq'=>?_⟩,by omega⟩;rw[l6,hv,zaZ u D q' q hf]
 cases hm:(vV t).2 with
 | false =>
  rw[hm] at e hty;exact key 1 _ (.inl rfl) hty rfl e
 | true =>
  rw[hm] at e hty;simp only[cond_true] at e;cases hz:decide (tr (ev u D q t) u=0) with
  | false=>rw[hz] at e; cases e
  | true =>
   rw[hz] at e;exact key 2 _ (.inr rfl) hty (tq_mul (by omega) (of_decide_eq_true hz)) e
def Yt:List (Option Tree)->Option Tree
 | []=>none
 | some y::_=>some y
 | none::r=>Yt r
def q0 (D:List xB.T):List Int:=List.replicate D.length 0
theorem zfb (D:List xB.T):okQ D (q0 D):=⟨by unfold q0; simp,fun x hx=>by rw[List.eq_of_mem_replicate hx]; omega⟩
noncomputable def Zf (u:Int) (D:List xB.T) (t:Tree):Option Tree:=Yt [Yv u D (q0 D) t,negT t,offT t,YO t,XC t,XK t,zay t]
theorem UK {P:Tree->Prop} {y:Tree}:∀{l:List (Option Tree)},Yt l=some y->(∀o∈l,o=some y->P y)->P y
 | [],h,_=>by cases h
 | some z::r,h,hp=>by
  have:z=y:=by simpa [Yt] using h
  subst this;exact hp (some z) (by simp) rfl
 | none::r,h,hp=>UK (l:=r) h fun o ho=>hp o (by simp[ho])
theorem XY:∀{l:List (Option Tree)},Yt l=none↔∀o∈l,o=none
 | []=>by simp[Yt]
 | some z::r=>by simp[Yt]
 | none::r=>by
  have:=XY (l:=r);simp only[Yt,mem_cons,forall_eq_or_imp,true_and];exact this
theorem S6 (c:Cxt u D) (h:OKT u D t) (e:Zf u D t=some y):FK u D t y/\y.size<t.size:=by
 refine UK (P:=fun y=>FK u D t y/\y.size<t.size) e fun o ho he=>?_
 subst he;simp only[mem_cons,List.not_mem_nil,or_false] at ho;rcases ho with ho | ho | ho | ho | ho | ho | ho
 ·exact zcs c (zfb D) h ho.symm
 ·exact zfv c h ho.symm
 ·exact zfp c h ho.symm
 ·exact SU c h ho.symm
 ·exact Qg c h ho.symm
 ·exact Qx c h ho.symm
 ·exact zdY c h ho.symm
noncomputable def tJ (u:Int) (D:List xB.T):Nat->Tree->Tree
 | 0,t=>t
 | n+1,t=>match Zf u D (.nd t.root (t.kids.map (tJ u D n))) with
  | some y=>tJ u D n y
  | none=>.nd t.root (t.kids.map (tJ u D n))
theorem Y7 {u:Int} {D:List xB.T} (c:Cxt u D):∀(n:Nat) (t:Tree),t.size<n->OKT u D t->FK u D t (tJ u D n t)/\∀s∈(tJ u D n t).subs,Zf u D s=none
 | 0,t,h,_=>by omega
 | n+1,t,hn,h=>by
  obtain ⟨m,ks⟩:=t;have ihk:∀k∈ks,FK u D k (tJ u D n k)/\∀s∈(tJ u D n k).subs,Zf u D s=none:=fun k hk=>Y7 c n k (by have:=ZT (n:=m) hk; omega) (h.kid hk)
  have hx:=FK.kids c h fun k hk=>(ihk k hk).1
  have e:tJ u D (n+1) (.nd m ks)=match Zf u D (.nd m (ks.map (tJ u D n))) with
   | some y=>tJ u D n y
   | none=>.nd m (ks.map (tJ u D n)):=rfl
  rw[e];cases hr:Zf u D (.nd m (ks.map (tJ u D n))) with
  | some y =>
   obtain ⟨r1,r2⟩:=S6 c hx.okt hr;have:=hx.size;obtain ⟨i1,i2⟩:=Y7 c n y (by omega) r1.okt;exact ⟨(hx.trans r1).trans i1,i2⟩
  | none =>
   refine ⟨hx,tP.2 ⟨hr,fun k hk=>?_⟩⟩;obtain ⟨x,hx',rfl⟩:=mem_map.1 hk;exact (ihk x hx').2
theorem RA {R:Type} (me:zb.M) (F:Nat) (kk:LTr za.T->List (LTr za.T)->zd.T->Option R) (L:List (LTr za.T)) (N:Int) (f:zd.T) (x:LTr za.T) (g:Tree->Tree):∀(xs:List Tree) (i:Int) (pre Z:List (LTr za.T)),(pre.length:Int)=i->Z.length=xs.length->
  (∀k∈xs,me f (toL k)=some ((toL (g k),()),()))->zb.l3.rg me F (fun x _ _ _ _ f kids=>kk x kids f) L N (xs.map toL) i x f (pre++Z)=kk x (pre++xs.map (fun k=>toL (g k))) f
 | [],i,pre,Z,hi,hZ,h=>by
  have:Z=[]:=eq_nil_of_length_eq_zero (by simpa using hZ);subst this; rfl
 | k::r,i,pre,Z,hi,hZ,h=>by
  cases Z with
  | nil=>simp at hZ
  | cons z Z =>
   simp only[map_cons];unfold zb.l3.rg;subst hi;rw[h k (by simp),zh,xS (by
    simp only[length_append,length_cons]; omega),cond_true]
   have ih:=RA me F kk L N f x g r ((pre.length:Int)+1) (pre++[toL (g k)]) Z (by simp) (by simpa using hZ) (fun y hy=>h y (by simp[hy]));rw[show (pre++z::Z).set ((pre.length:Nat):Int).toNat (toL (g k))=(pre++[toL (g k)])++Z by
    rw[show ((pre.length:Nat):Int).toNat=pre.length from rfl,List.set_append_right _ _ (Nat.le_refl _),Nat.sub_self]; simp]
   refine ih.trans ?_;simp
theorem zaj {R:Type} (me:zb.M) (F:Nat) (k0 k1:LTr za.T->Option R) (L:List (Nat×zd.T)) (N:Int) (f:zd.T) (x:LTr za.T):∀(rs:List (Nat×Option Tree)) (i:Int),
  (∀r∈rs,zb.d63 me F r.1 (f,x,())=some ((Yq r.2,()),()))->
  zb.l9.rg me F k0 (fun x _ _ _ _ _=>k1 x) L N (rs.map fun r=>(r.1,f)) i x f=match Yt (rs.map (·.2)) with
   | some y=>oB (me f (toL y)) fun c=>k0 c.1.1
   | none=>k1 x
 | [],i,h=>rfl
 | (fn,r)::rs,i,h=>by
  have h1:=h (fn,r) (by simp);have ih:=zaj me F k0 k1 L N f x rs (i+1) fun r hr=>h r (by simp[hr])
  simp only[map_cons];unfold zb.l9.rg;simp only at h1;rw[h1,zh];cases r with
  | none =>
   show (bif LTr.isNd (LTr.nil:LTr za.T) then _ else _)=_;exact ih
  | some y =>
   show (bif LTr.isNd (toL y) then _ else _)=_;rw[up]; rfl
theorem QX (me:zb.M) (F:Nat) (f:zd.T) (x:LTr za.T):zb.d63 me F vI (f,x,())=yj.sh F f x:=rfl
theorem d63_neg (me:zb.M) (F:Nat) (f:zd.T) (x:LTr za.T):zb.d63 me F uv (f,x,())=wg.sh F f x:=rfl
theorem d63_off (me:zb.M) (F:Nat) (f:zd.T) (x:LTr za.T):zb.d63 me F ut (f,x,())=we.sh F f x:=rfl
theorem QY (me:zb.M) (F:Nat) (f:zd.T) (x:LTr za.T):zb.d63 me F vJ (f,x,())=xj.sh F f x:=rfl
theorem zba (me:zb.M) (F:Nat) (f:zd.T) (x:LTr za.T):zb.d63 me F vO (f,x,())=zj.sh F f x:=rfl
theorem zbb (me:zb.M) (F:Nat) (f:zd.T) (x:LTr za.T):zb.d63 me F vP (f,x,())=xv.sh F f x:=rfl
theorem zgh (me:zb.M) (F:Nat) (f:zd.T) (x:LTr za.T):zb.d63 me F uo (f,x,())=xU.sh F f x:=rfl
theorem zc5 (me:zb.M) (F:Nat) (hF:4096<F) (f:zd.T) (m:za.T) (ks:List Tree) (g:Tree->Tree) (hk:∀k∈ks,me f (toL k)=some ((toL (g k),()),())) (hl:ks.length<=4096) (r1 r2 r3 r4 r5 r6 r7:Option Tree)
  (h1:yj.sh F f (toL (.nd m (ks.map g)))=some ((Yq r1,()),()))
  (h2:wg.sh F f (toL (.nd m (ks.map g)))=some ((Yq r2,()),()))
  (h3:we.sh F f (toL (.nd m (ks.map g)))=some ((Yq r3,()),()))
  (h4:xj.sh F f (toL (.nd m (ks.map g)))=some ((Yq r4,()),()))
  (h5:zj.sh F f (toL (.nd m (ks.map g)))=some ((Yq r5,()),()))
  (h6:xv.sh F f (toL (.nd m (ks.map g)))=some ((Yq r6,()),()))
  (h7:xU.sh F f (toL (.nd m (ks.map g)))=some ((Yq r7,()),())) :
  zb.sh0 me F f (toL (.nd m ks))=match Yt [r1,r2,r3,r4,r5,r6,r7] with
   | some y=>oB (me f (toL y)) fun c=>some ((c.1.1,()),())
   | none=>some ((toL (.nd m (ks.map g)),()),()):=by
 have hmx:(4096:Nat)<=wF:=by decide
 have hlen:(ks.map toL).length=ks.length:=length_map ..;unfold zb.sh0;rw[up,cond_true,tX];rw[show (Tree.nd m ks).kids=ks from rfl];rw[decide_eq_true (show (0:Int)<=((ks.map toL).length:Int) by omega),decide_eq_true (Int.le_refl ((ks.map toL).length:Int)),decide_eq_true (show ((ks.map toL).length:Int)<=(wF:Int) by rw[hlen]; omega)];simp only[Bool.and_self,cond_true];refine Eq.trans (zb.l3.rq me F _ (ks.map toL) _ rfl (by rw[hlen]; omega) (ks.map toL) 0 F _ _ _ (by simp) (by rw[hlen]; omega)) ?_;refine (RA me F (fun x2 kids2 f2=>zb.j7 me F (fun r47=>(some ((r47,()),()):Option zb.sg.R)) (fun r48=>some ((r48,()),())) x2 kids2 f2) (ks.map toL) ((ks.map toL).length:Int) f (toL (.nd m ks)) g ks 0 [] _ rfl (by
  rw[length_replicate,hlen]; omega) hk).trans ?_
 unfold zb.j7;rw[up,cond_true,uw,nil_append];have hX:LTr.nd (Tree.nd m ks).root (ks.map fun k=>toL (g k))=toL (.nd m (ks.map g)):=by rw[Xx,map_map]; rfl
 rw[hX];have hrs:∀r∈[(vI,r1),(uv,r2),(ut,r3),(vJ,r4),(vO,r5),(vP,r6),(uo,r7)],zb.d63 me F r.1 (f,toL (.nd m (ks.map g)),())=some ((Yq r.2,()),()):=by
  intro r hr;simp only[mem_cons,List.not_mem_nil,or_false] at hr;rcases hr with rfl | rfl | rfl | rfl | rfl | rfl | rfl
  ·exact (QX me F f _).trans h1
  ·exact (d63_neg me F f _).trans h2
  ·exact (d63_off me F f _).trans h3
  ·exact (QY me F f _).trans h4
  ·exact (zba me F f _).trans h5
  ·exact (zbb me F f _).trans h6
  ·exact (zgh me F f _).trans h7
 refine Eq.trans (zb.l9.rq me F _ _ [(vI,f),(uv,f),(ut,f),(vJ,f),(vO,f),(vP,f),(uo,f)] _ rfl (by show 7<9223372036854775807; decide) _ 0 F _ _ rfl (by show 7<F; omega)) ?_;exact zaj me F (fun r45=>(some ((r45,()),()):Option zb.sg.R)) (fun r45=>some ((r45,()),())) _ _ f (toL (.nd m (ks.map g))) _ 0 hrs
theorem Uh (F:Nat) (hF:F=FU) {u:Int} {D:List xB.T} (c:Cxt u D):∀(n:Nat) (t:Tree),t.size<n->OKT u D t->zb.it F n (mk u) (toL t)=some ((toL (tJ u D n t),()),())
 | 0,t,h,_=>by omega
 | n+1,t,hn,h=>by
  obtain ⟨m,ks⟩:=t;have hFb:4096<F:=by rw[hF]; exact tl
  have hsz:=h.size;rw[vn] at hsz;have hlen:=vo ks;have ihk:∀k∈ks,zb.it F n (mk u) (toL k)=some ((toL (tJ u D n k),()),()):=fun k hk=>Uh F hF c n k (by have:=ZT (n:=m) hk; omega) (h.kid hk)
  have hx:=FK.kids c h fun k hk=>(Y7 c n k (by have:=ZT (n:=m) hk; omega) (h.kid hk)).1
  have hxs:=hx.size;have e:tJ u D (n+1) (.nd m ks)=match Zf u D (.nd m (ks.map (tJ u D n))) with
   | some y=>tJ u D n y
   | none=>.nd m (ks.map (tJ u D n)):=rfl
  rw[e];have hs4:(Tree.nd m (ks.map (tJ u D n))).size<=4096:=by have:=hx.okt.size; omega
  have hwf:=hx.okt.wf;refine (zc5 (zb.it F n) F hFb (mk u) m ks (tJ u D n) ihk (by omega) _ _ _ _ _ _ _ (by rw[hF]; exact zcq c (zfb D) hx.okt) (zfu F (mk u) hwf) (zfo F (mk u) hwf) (by rw[hF]; exact ST (mk u) hwf hs4) (by rw[hF]; exact Qf (mk u) hwf hs4) (Qw F (mk u) hwf) (zdX F (mk u) hwf)).trans ?_;show (match Zf u D (.nd m (ks.map (tJ u D n))) with
    | some y=>oB (zb.it F n (mk u) (toL y)) fun c=>some ((c.1.1,()),())
    | none=>some ((toL (.nd m (ks.map (tJ u D n))),()),()))=_
  cases hr:Zf u D (.nd m (ks.map (tJ u D n))) with
  | none=>rfl
  | some y =>
   obtain ⟨r1,r2⟩:=S6 c hx.okt hr;show oB (zb.it F n (mk u) (toL y)) _=_;rw[Uh F hF c n y (by omega) r1.okt]; rfl
theorem ze5 (hv:1<=v) (hle:v<=u) {dims:Nat} {n:za.T} (hn:vA dims n (ar n)=0) (h:∀x∈vs,0<=x):xJ v D n vs<=xJ u D n vs:=by
 obtain ⟨g1,g2,g3,g4,g5,g6,g7,g8⟩:=wD hn;have h0:0<=vs.getD 0 0:=by
  cases vs with
  | nil=>exact Int.le_refl _
  | cons a r=>exact h a (by simp)
 have sc:(nK n=13\/nK n=14)->xJ v D n vs<=xJ u D n vs:=by
  intro hk;have hb:Zg (nT n)=true:=g8 (by
   unfold ue tI;rcases hk with hk | hk<;>(rw[hk]; rfl))
  obtain ⟨l1,l2,l3⟩:=tZ hb;have hr:=(XE (nT n) 0 (-1) (by omega) (by omega) l3).1;have hw:=(qC (nT n) (-1) (by omega) l3).1;have hl:=(Zn (nT n) (-1) (by omega) l3).1;have e:∀u:Int,xJ u D n vs=u*(vz 0 (nT n)*(vs.getD 0 0+vL (nT n))+v8 (nT n)):=by
   intro u; unfold xJ;rcases hk with hk | hk<;>(rw[hk]; rfl)
  rw[e,e];have h1:0<=vz 0 (nT n)*(vs.getD 0 0+vL (nT n)):=Int.mul_nonneg hr (by omega);exact Int.mul_le_mul_of_nonneg_right hle (by omega)
 rcases ug g1 with hh | hh | hh | hh | hh | hh | hh | hh | hh | hh | hh | hh | hh | hh | hh | hh
 ·unfold xJ; rw[hh]; exact Int.le_refl _
 ·have e:∀u:Int,xJ u D n vs=nN n*u:=by intro u; unfold xJ; rw[hh]; rfl
  rw[e,e];exact Int.mul_le_mul_of_nonneg_left hle g2
 ·unfold xJ; rw[hh]; exact Int.le_refl _
 ·unfold xJ; rw[hh]; exact Int.le_refl _
 ·unfold xJ; rw[hh]; exact Int.le_refl _
 ·unfold xJ; rw[hh]; exact Int.le_refl _
 ·unfold xJ; rw[hh]; exact Int.le_refl _
 ·unfold xJ; rw[hh]; exact Int.le_refl _
 ·unfold xJ; rw[hh]; exact Int.le_refl _
 ·unfold xJ; rw[hh]; exact Int.le_refl _
 ·unfold xJ; rw[hh]; exact Int.le_refl _
 ·unfold xJ; rw[hh]; exact Int.le_refl _
 ·exact sc (.inl hh)
 ·exact sc (.inr hh)
 ·unfold xJ; rw[hh]; exact Int.le_refl _
 ·unfold xJ; rw[hh]; exact Int.le_refl _
theorem OKT.unit (c:Cxt u D) (hv:1<=v) (hle:v<=u) (t:Tree):OKT u D t->OKT v D t/\mag v D t<=mag u D t:=by
 have c':Cxt v D:=⟨hv,by have:=c.hu2; omega,c.hD,c.hd4⟩;refine Tree.ind (P:=fun t=>OKT u D t->OKT v D t/\mag v D t<=mag u D t) (fun n ks ih h=>?_) t;have hk:=fun k hk=>ih k hk (h.kid hk)
 have hm:mag v D (.nd n ks)<=mag u D (.nd n ks):=by
  rw[qb,qb];refine Int.le_trans (Rp (u:=v) hv h.node h.len fun k hkm=>⟨XP c' (hk k hkm).1,(hk k hkm).2⟩) (ze5 hv hle h.node fun x hx=>?_);obtain ⟨k,hkm,rfl⟩:=mem_map.1 hx;exact XP c (h.kid hkm)
 exact ⟨OKT.mk' h.len h.node h.size (tP.1 h.tys).1 (Si hm (tP.1 h.mgs).1) fun k hkm=>(hk k hkm).1,hm⟩
theorem T4 {p:zO.T} (h:Good p t) (hu:(vg p.2.1 t).2.2=0):Cxt (vt t) p.2.1/\OKT (vt t) p.2.1 t/\ty t=1/\deep t<=6:=by
 obtain ⟨a1,a2,a3,a4,a5⟩:=R9 h hu;have hh:=tg h.head;have hd:=(tc t).1;have hb:=ZR (t:=t) a1;have hs:t.size=p.2.2.2.length:=by rw[Tree.size,h.flat]
 refine ⟨⟨hb.1,hb.2,hh.2.2.1,hh.2.1⟩,⟨h.wf,by rw[hs]; exact h.len,Z3 a2,fun s hs=>?_⟩,a3,a1⟩;have:=Z3 a4 s hs;unfold Ys at this;cases hd:decide (vR s.root (mag (vt t) p.2.1 s)>BND) with
 | true=>rw[hd] at this; exact absurd (show (90:Int)=0 from this) (by decide)
 | false=>have:=of_decide_eq_false hd; omega
theorem Th {a b:Tree} (h:deep b<=deep a):∃k:Nat,vt a=(10000:Int)^k*vt b/\(k:Int)=deep a-deep b:=by
 have h1:=(tc a).1;have h2:=(tc b).1;refine ⟨(deep a-deep b).toNat,?_,by omega⟩;unfold vt;rw[<-Int.pow_add];congr 1
 omega
theorem zbv (h:OKT (vt y) D y) (ht:ty y=1) (hd:deep y<=6):vg D y=(mk (vt y),0,0):=by
 rw[zeH (Xa 0 h.tys) ht hd];have:ve (Ys (vt y) D) y.subs 0=none:=Xa 0 fun s hs=>by
  unfold Ys;rw[decide_eq_false (by have:=h.mgs s hs; omega)]; rfl
 unfold Zm;rw[this];rfl
noncomputable def XX (D:List xB.T) (t:Tree):Tree:=tJ (vt t) D FU t
structure Fd (p:zO.T) (t y:Tree):Prop where
 fk:FK (vt t) p.2.1 t y
 clean:∀s∈y.subs,Zf (vt t) p.2.1 s=none
 okt:OKT (vt y) p.2.1 y
 good:Good (p.1,p.2.1,p.2.2.1,y.flat) y
 unit:vg p.2.1 y=(mk (vt y),0,0)
theorem zaS {p:zO.T} (h:Good p t) (hu:(vg p.2.1 t).2.2=0):Fd p t (XX p.2.1 t):=by
 obtain ⟨c,o,h1,h6⟩:=T4 h hu;have hs:=o.size;have hF:(4096:Nat)<FU:=tl;obtain ⟨k1,k2⟩:=Y7 c FU t (by omega) o;have hy:tJ (vt t) p.2.1 FU t=XX p.2.1 t:=rfl;rw[hy] at k1 k2;generalize XX p.2.1 t=y at*;have hd:=k1.deep;have ub:=ZR (t:=y) (by omega);have hle:vt y<=vt t:=by
  obtain ⟨k,e,_⟩:=Th hd;rw[e];have:(1:Int)<=(10000:Int)^k:=by
   have:=Int.pow_pos (n:=10000) (m:=k) (by decide);omega
  have:=Int.mul_le_mul_of_nonneg_right (c:=vt y) this (by omega);omega
 have oy:=(OKT.unit c ub.1 hle y k1.okt).1;exact ⟨k1,k2,oy,good_of h.head oy.wf oy.size,zbv oy (by rw[k1.ty,h1]) (by omega)⟩
theorem zgN (F:Nat) (hF:F=FU) {p:zO.T} (h:Good p t) (hU:wM.sh F p=some (((vg p.2.1 t).1,(vg p.2.1 t).2.1,(vg p.2.1 t).2.2,()),())) :
  wI.sh F p=some ((bif (vg p.2.1 t).2.2 != 0 then ((⟨#[]⟩:ByteArray),[],0,[]) else (p.1,p.2.1,p.2.2.1,(XX p.2.1 t).flat),(vg p.2.1 t).2.2,()),()):=by
 have hFb:4096<F:=by rw[hF]; exact tl
 unfold wI.sh;rw[hU,zh];simp only;cases hu:((vg p.2.1 t).2.2 != 0) with
 | true=>rfl
 | false =>
  simp only[cond_false];have hu:(vg p.2.1 t).2.2=0:=by simpa using hu
  obtain ⟨c,o,h1,h6⟩:=T4 h hu;have hs:=o.size;have hd:=(tg h.head).2.1;have fd:=zaS h hu;have ys:=fd.okt.size;have e5:(vg p.2.1 t).1=mk (vt t):=by rw[(R9 h hu).2.2.2.2]
  rw[zfT F hFb h,zh,e5];rw[show zb.sh F (mk (vt t)) (toL t)=zb.it F F (mk (vt t)) (toL t) from rfl,Uh F hF c F t (by omega) o,zh,zeq F (by omega),zh];rw[show tJ (vt t) p.2.1 F t=XX p.2.1 t by rw[hF]; rfl];rw[show zB.sh F (toL (XX p.2.1 t)) []=zB.it F F (toL (XX p.2.1 t)) [] from rfl,laid_it F hFb (XX p.2.1 t) fd.okt.wf F [] (by omega) (by simp; omega),zh,nil_append,hu]
theorem Fold_eq {p:zO.T} (h:Good p t):wI.sh FU p=some ((bif (vg p.2.1 t).2.2 != 0 then ((⟨#[]⟩:ByteArray),[],0,[]) else (p.1,p.2.1,p.2.2.1,(XX p.2.1 t).flat),(vg p.2.1 t).2.2,()),()):=zgN FU rfl h (Unit_eq h)
theorem zgO {p:zO.T} (h:(uG p).2≠0):wI.sh FU p=some (((⟨#[]⟩,[],0,[]),(uG p).2,()),()):=by
 unfold wI.sh;rw[zgJ h,zh];simp only;rw[show ((uG p).2 != 0)=true by simpa using h];rfl
theorem V4 (hk:1<=k):decide (k*a<0)=decide (a<0):=by
 by_cases h:a<0
 ·rw[decide_eq_true h,decide_eq_true]
  exact Int.mul_neg_of_pos_of_neg (by omega) h
 ·rw[decide_eq_false h,decide_eq_false]
  have:=Int.mul_nonneg (a:=k) (b:=a) (by omega) (by omega);omega
theorem zek {k a b:Int} (hk:1<=k):dsg (k*a) (k*b)=dsg a b:=by
 unfold dsg;rw[V4 hk,V4 hk]
theorem zgI {k a b:Int} (hk:1<=k):aQ (k*a) (k*b)=aQ a b:=by
 unfold aQ;rw[Int.natAbs_mul,Int.natAbs_mul];push_cast;exact Int.mul_ediv_mul_of_pos _ _ (by omega)
theorem zgH {k a b:Int} (hk:1<=k):aR (k*a) (k*b)=k*aR a b:=by
 unfold aR;rw[Int.natAbs_mul,Int.natAbs_mul];push_cast;rw[Int.mul_emod_mul_of_pos _ _ (by omega),show ((k.natAbs:Nat):Int)=k by omega]
theorem zeM {k a b:Int} (hk:1<=k):tq (k*a) (k*b)=tq a b:=by
 unfold tq;rw[zek hk,zgI hk]
theorem zeL {k a b:Int} (hk:1<=k):tr (k*a) (k*b)=k*tr a b:=by
 unfold tr;rw[V4 hk,zgH hk];cases decide (a<0) with
 | true=>simp only[cond_true]; rw[Int.mul_neg]
 | false=>rfl
theorem zbt {k x:Int} (hk:1<=k):decide (k*x=0)=decide (x=0):=by
 refine decide_eq_decide.2 ?_;rw[Int.mul_eq_zero];omega
theorem TJ {k:Int} (hk:1<=k):∀(l:List Int) (m:Int),Y2 (k*m) (l.map (k*·))=k*Y2 m l
 | [],m=>rfl
 | x::r,m=>by
  have ih:=TJ hk r (if x<m then x else m);show Y2 (if k*x<k*m then k*x else k*m) (r.map (k*·))=k*Y2 (if x<m then x else m) r
  rw[<-ih];congr 1
  by_cases h:x<m
  ·rw[if_pos h,if_pos (Int.mul_lt_mul_of_pos_left h (by omega))]
  ·rw[if_neg h,if_neg]
   have:=Int.mul_le_mul_of_nonneg_left (c:=k) (show m<=x by omega) (by omega);omega
theorem TM {k:Int} (hk:1<=k):∀(l:List Int) (m:Int),uR (k*m) (l.map (k*·))=k*uR m l
 | [],m=>rfl
 | x::r,m=>by
  have ih:=TM hk r (if x>m then x else m);show uR (if k*x>k*m then k*x else k*m) (r.map (k*·))=k*uR (if x>m then x else m) r
  rw[<-ih];congr 1
  by_cases h:x>m
  ·rw[if_pos h,if_pos (Int.mul_lt_mul_of_pos_left h (by omega))]
  ·rw[if_neg h,if_neg]
   have:=Int.mul_le_mul_of_nonneg_left (c:=k) (show x<=m by omega) (by omega);omega
theorem zbU (hk:1<=k) (l:List Int):Zl (l.map (k*·))=k*Zl l:=by
 cases l with
 | nil=>show (0:Int)=k*0; omega
 | cons a r=>exact TJ hk r a
theorem zbW (hk:1<=k) (l:List Int):uZ (l.map (k*·))=k*uZ l:=by
 cases l with
 | nil=>show (0:Int)=k*0; omega
 | cons a r=>exact TM hk r a
theorem okt_dv (hS0:0<=S) (hu:u=10000^S.toNat) (t:Tree):OKT u D t->deep t<=S->Dv S u D q t:=by
 refine Tree.ind (P:=fun t=>OKT u D t->deep t<=S->Dv S u D q t) (fun n ks ih h hd=>?_) t;exact zcI hS0 hu h.node h.len hd fun k hk=>ih k hk (h.kid hk) (by have:=YL (n:=n) hk; omega)
def scV (k:Int) (t:Tree) (v:Int):Int:=bif ty t==1 then k*v else v
theorem zg3 (hS0:0<=S) (hv:v=10000^S.toNat) (hk:1<=k) (hu:u=k*v) (t:Tree):OKT v D t->deep t<=S->ev u D q t=scV k t (ev v D q t):=by
 refine Tree.ind (P:=fun t=>OKT v D t->deep t<=S->ev u D q t=scV k t (ev v D q t)) (fun n ks ih h hd=>?_) t;obtain ⟨g1,g2,g3,g4,g5,g6,g7,g8⟩:=wD h.node;have hdk:∀x∈ks,deep x<=S:=fun x hx=>by have:=YL (n:=n) hx; omega
 have IH:∀x∈ks,ev u D q x=scV k x (ev v D q x):=fun x hx=>ih x hx (h.kid hx) (hdk x hx)
 have hne:=h.tyne;have hdv:∀x∈ks,Dv S v D q x:=fun x hx=>okt_dv hS0 hv x (h.kid hx) (hdk x hx)
 have T:ty (.nd n ks)=tyN n (ks.map ty):=qR n ks;rw[tU,tU];unfold scV;rw[T];have alike:(nK n=5\/nK n=6\/nK n=7\/nK n=9\/nK n=10)->∀x∈ks,ty x=tyN n (ks.map ty):=by
  intro hh;have e:∀vs:List Int,tyN n vs=qk vs:=by
   intro vs; unfold tyN; rcases hh with hh | hh | hh | hh | hh<;>(rw[hh]; rfl)
  rw[e] at hne ⊢;cases hks:ks with
  | nil=>intro x hx; cases hx
  | cons a r =>
   rw[hks,map_cons] at hne;obtain ⟨o1,o2⟩:=YC hne;intro x hx;rw[map_cons,o1];rcases mem_cons.1 hx with rfl | hx
   ·rfl
   ·exact o2 _ (mem_map.2 ⟨x,hx,rfl⟩)
 have maps:(∀x∈ks,ty x=tyN n (ks.map ty))->ks.map (ev u D q)=(ks.map (ev v D q)).map (fun y=>bif tyN n (ks.map ty)==1 then k*y else y):=by
  intro ha;rw[map_map];refine map_congr_left fun x hx=>?_
  rw[IH x hx];unfold scV;rw[ha x hx]; rfl
 have cnt1:∀x:Tree,vS (ty x)=true->(ty x==1)=false:=by
  intro x hx;unfold vS at hx;have:=of_decide_eq_true hx;rw[beq_eq_false_iff_ne]; omega
 have same0:∀x∈ks,vS (ty x)=true->ev u D q x=ev v D q x:=by
  intro x hx hc;rw[IH x hx]; unfold scV;rw[cnt1 x hc]; rfl
 have lin:∀(f:List Int->Int),(nK n=5\/nK n=6\/nK n=7\/nK n=9\/nK n=10)->(∀u vs,evN u D q n vs=f vs)->(∀l:List Int,f (l.map (k*·))=k*f l)->evN u D q n (ks.map (ev u D q))=bif tyN n (ks.map ty)==1 then k*evN v D q n (ks.map (ev v D q)) else evN v D q n (ks.map (ev v D q)):=by
  intro f hh hf hl;rw[hf,hf,maps (alike hh)];cases tyN n (ks.map ty)==1 with
  | true=>simp only[cond_true]; exact hl _
  | false=>simp only[cond_false,List.map_id']
 have getk:∀(l:List Int) (i:Nat),(l.map (k*·)).getD i 0=k*l.getD i 0:=by
  intro l i;rw[getD_eq_getElem?_getD,getD_eq_getElem?_getD,List.getElem?_map];cases l[i]? with
  | none=>show (0:Int)=k*0; omega
  | some x=>rfl
 rcases ug g1 with hh | hh | hh | hh | hh | hh | hh | hh | hh | hh | hh | hh | hh | hh | hh | hh
 ·have e1:tyN n (ks.map ty)=0:=by unfold tyN; rw[hh]; rfl
  rw[e1];show _=evN v D q n (ks.map (ev v D q));unfold evN; rw[hh]; rfl
 ·have e1:tyN n (ks.map ty)=1:=by unfold tyN; rw[hh]; rfl
  have e:∀(u:Int) vs,evN u D q n vs=nN n*u:=fun u vs=>by unfold evN; rw[hh]; rfl
  rw[e1,e,e,hu];show nN n*(k*v)=k*(nN n*v);rw[<-Int.mul_assoc,Int.mul_comm (nN n) k,Int.mul_assoc]
 ·have e1:tyN n (ks.map ty)=2+2*nN n:=by unfold tyN; rw[hh]; rfl
  rw[e1,show ((2+2*nN n:Int)==1)=false by rw[beq_eq_false_iff_ne]; omega];show _=evN v D q n (ks.map (ev v D q));unfold evN; rw[hh]; rfl
 ·have e1:tyN n (ks.map ty)=3+2*nN n:=by unfold tyN; rw[hh]; rfl
  rw[e1,show ((3+2*nN n:Int)==1)=false by rw[beq_eq_false_iff_ne]; omega];show _=evN v D q n (ks.map (ev v D q));unfold evN; rw[hh]; rfl
 ·exact lin (fun vs=>0-vs.getD 0 0) (by simp[hh]) (fun u vs=>by unfold evN; rw[hh]; rfl) fun l=>by
   show 0-(l.map (k*·)).getD 0 0=k*(0-l.getD 0 0)
   rw[getk,Int.mul_sub]; omega
 ·exact lin (fun vs=>vs.getD 0 0+vs.getD 1 0) (by simp[hh]) (fun u vs=>by unfold evN; rw[hh]; rfl) fun l=>by
   show (l.map (k*·)).getD 0 0+(l.map (k*·)).getD 1 0=k*(l.getD 0 0+l.getD 1 0)
   rw[getk,getk,Int.mul_add]
 ·exact lin (fun vs=>vs.getD 0 0-vs.getD 1 0) (by simp[hh]) (fun u vs=>by unfold evN; rw[hh]; rfl) fun l=>by
   show (l.map (k*·)).getD 0 0-(l.map (k*·)).getD 1 0=k*(l.getD 0 0-l.getD 1 0)
   rw[getk,getk,Int.mul_sub]
 ·obtain ⟨a,b,rfl⟩:=ZY (show ks.length=2 by rw[h.len,yI hh]; rfl)
  have e:∀(u x y:Int),evN u D q n [x,y]=x*y:=fun u x y=>by unfold evN; rw[hh]; rfl
  have et:∀x y:Int,tyN n [x,y]=Yz x y:=fun x y=>by unfold tyN; rw[hh]; rfl
  have ha:=Uu ((h.kid (k:=a) (by simp)).tys a (S1 a));have hb:=Uu ((h.kid (k:=b) (by simp)).tys b (S1 b));simp only[map_cons,map_nil] at hne ⊢;rw[et] at hne ⊢;rw[e,e,IH a (by simp),IH b (by simp)];unfold scV;generalize ev v D q a=x;generalize ev v D q b=y;generalize ty a=A at*;generalize ty b=B at*;have m1:k*x*y=k*(x*y):=Int.mul_assoc ..;have m2:x*(k*y)=k*(x*y):=by rw[<-Int.mul_assoc,Int.mul_comm x k,Int.mul_assoc]
  unfold Yz at hne ⊢;cases a0:(A==0) with
  | true =>
   have:A=0:=by simpa using a0
   subst this;show (bif (0:Int)==1 then k*x else x)*(bif B==1 then k*y else y)=bif B==1 then k*(x*y) else x*y
   cases B==1
   ·rfl
   ·exact m2
  | false =>
   rw[a0] at hne;simp only[cond_false] at hne ⊢;cases b0:(B==0) with
   | true =>
    have:B=0:=by simpa using b0
    subst this;show (bif A==1 then k*x else x)*(bif (0:Int)==1 then k*y else y)=bif A==1 then k*(x*y) else x*y
    cases A==1
    ·rfl
    ·exact m1
   | false =>
    rw[b0] at hne;simp only[cond_false] at hne ⊢;cases c1:(vS A&&B==1) with
    | true =>
     simp only[Bool.and_eq_true,beq_iff_eq] at c1;obtain ⟨c1,rfl⟩:=c1;have:(A==1)=false:=by
      unfold vS at c1;have:=of_decide_eq_true c1;rw[beq_eq_false_iff_ne]; omega
     rw[this];exact m2
    | false =>
     rw[c1] at hne;simp only[cond_false] at hne ⊢;cases c2:(vS B&&A==1) with
     | true =>
      simp only[Bool.and_eq_true,beq_iff_eq] at c2;obtain ⟨c2,rfl⟩:=c2;have:(B==1)=false:=by
       unfold vS at c2;have:=of_decide_eq_true c2;rw[beq_eq_false_iff_ne]; omega
      rw[this];exact m1
     | false=>rw[c2] at hne; exact absurd rfl hne
 ·exact lin Zl (by simp[hh]) (fun u vs=>by unfold evN; rw[hh]; rfl) (zbU hk)
 ·exact lin uZ (by simp[hh]) (fun u vs=>by unfold evN; rw[hh]; rfl) (zbW hk)
 all_goals (
  obtain ⟨a,r,hks⟩:∃a r,ks=a::r:=by
   have hl:=h.len;rw[yI hh] at hl;cases ks with
   | nil=>first | exact absurd (show 0=1 from hl) (by decide) | exact absurd (show 0=3 from hl) (by decide)
   | cons a r=>exact ⟨a,r,rfl⟩
  subst hks;simp only[map_cons] at hne ⊢)
 ·have et:∀x r,tyN n (x::r)=bif vS x then x else -1:=fun x r=>by unfold tyN; rw[hh]; rfl
  rw[et] at hne ⊢;cases hc:vS (ty a) with
  | false=>rw[hc] at hne; exact absurd rfl hne
  | true =>
   simp only[cond_true];rw[cnt1 a hc,same0 a (by simp) hc];have e:∀(u x:Int) r,evN u D q n (x::r)=uZ [0,x-nN n]:=fun u x r=>by unfold evN; rw[hh]; rfl
   rw[e,e]; rfl
 ·have et:∀x r,tyN n (x::r)=bif vS x then x else -1:=fun x r=>by unfold tyN; rw[hh]; rfl
  rw[et] at hne ⊢;cases hc:vS (ty a) with
  | false=>rw[hc] at hne; exact absurd rfl hne
  | true =>
   simp only[cond_true];rw[cnt1 a hc,same0 a (by simp) hc];have e:∀(u x:Int) r,evN u D q n (x::r)=Zl [nN n,x]:=fun u x r=>by unfold evN; rw[hh]; rfl
   rw[e,e]; rfl
 ·have et:∀x r,tyN n (x::r)=bif vS x then 1 else -1:=fun x r=>by unfold tyN; rw[hh]; rfl
  rw[et] at hne ⊢;cases hc:vS (ty a) with
  | false=>rw[hc] at hne; exact absurd rfl hne
  | true =>
   simp only[cond_true];rw[same0 a (by simp) hc];have e:∀(u x:Int) r,evN u D q n (x::r)=u*T3 x (nT n):=fun u x r=>by unfold evN; rw[hh]; rfl
   rw[e,e,hu,Int.mul_assoc]; rfl
 ·have et:∀x r,tyN n (x::r)=bif vS x then 1 else -1:=fun x r=>by unfold tyN; rw[hh]; rfl
  rw[et] at hne ⊢;cases hc:vS (ty a) with
  | false=>rw[hc] at hne; exact absurd rfl hne
  | true =>
   simp only[cond_true];rw[same0 a (by simp) hc];have e:∀(u x:Int) r,evN u D q n (x::r)=u*vol x (nT n):=fun u x r=>by unfold evN; rw[hh]; rfl
   rw[e,e,hu,Int.mul_assoc]; rfl
 ·have et:∀x r,tyN n (x::r)=bif x==1 then 1 else -1:=fun x r=>by unfold tyN; rw[hh]; rfl
  rw[et] at hne ⊢;cases hc:(ty a==1) with
  | false=>rw[hc] at hne; exact absurd rfl hne
  | true =>
   have h1:ty a=1:=by simpa using hc
   simp only[cond_true];have e:∀(u x:Int) r,evN u D q n (x::r)=Ye 2 (x*(10000-nN n)) 10000:=fun u x r=>by unfold evN; rw[hh]; rfl
   rw[e,e,IH a (by simp)];unfold scV;rw[hc];have hda:deep a+1<=S:=by
    have h2:=(VB (ks:=a::r) (k:=a) (by simp)).2;have h3:deep (.nd n (a::r))=uZ ((a::r).map deep)+1:=by
     rw[tV,show (nK n==15)=true by rw[hh]; rfl]; rfl
    omega
   obtain ⟨c,hc⟩:=(hdv a (by simp)).mul h1 (e:=S-1) (by omega) (by omega);rw[show S-(S-1)=1 by omega] at hc;have hc:ev v D q a=c*10000:=hc;rw[hc];show Ye 2 (k*(c*10000)*(10000-nN n)) 10000=k*Ye 2 (c*10000*(10000-nN n)) 10000;have e3:c*10000*(10000-nN n)=c*(10000-nN n)*10000:=by
    rw[Int.mul_assoc,Int.mul_comm 10000,<-Int.mul_assoc]
   have e4:k*(c*10000)*(10000-nN n)=k*(c*(10000-nN n))*10000:=by
    rw[Int.mul_assoc,e3,<-Int.mul_assoc]
   rw[e3,e4,Z5 (by decide),Z5 (by decide)]
 ·have et:∀x r,tyN n (x::r)=bif vS x then qk r else -1:=fun x r=>by unfold tyN; rw[hh]; rfl
  obtain ⟨b,d,rfl⟩:=ZY (show r.length=2 by
   have hl:=h.len;rw[yI hh] at hl;have hl:r.length+1=3:=hl;omega)
  rw[et] at hne ⊢;cases hc:vS (ty a) with
  | false=>rw[hc] at hne; exact absurd rfl hne
  | true =>
   rw[hc] at hne;simp only[cond_true,map_cons,map_nil] at hne ⊢;obtain ⟨o1,o2⟩:=YC hne;have o2:=o2 (ty d) (by simp);rw[o1,same0 a (by simp) hc];have e:∀(u x y z:Int),evN u D q n [x,y,z]=bif Z2 (nO n) x (nN n) then y else z:=fun u x y z=>by unfold evN; rw[hh]; rfl
   rw[e,e,IH b (by simp),IH d (by simp)];unfold scV;rw[o2];cases Z2 (nO n) (ev v D q a) (nN n)<;>cases ty b==1<;>rfl
theorem zbf (hS0:0<=S) (hv:v=10000^S.toNat) (hv1:1<=v) (hk:1<=k) (hu:u=k*v) (h:OKT v D t) (hd:deep t<=S):Yv u D q t=Yv v D q t:=by
 unfold Yv;cases hf:(vV t).1 with
 | false=>rfl
 | true =>
  have hty:=QJ t h hf;rw[zg3 hS0 hv hk hu t h hd];unfold scV;rw[hty];cases hm:(vV t).2 with
  | false=>rfl
  | true =>
   show (bif qt t then none else bif !decide (tr (k*ev v D q t) u=0) then none else QD 2 (tq (k*ev v D q t) u) t)=_;rw[hu,zeL hk,zeM hk,zbt hk]; rfl
theorem zbF (hS0:0<=S) (hv:v=10000^S.toNat) (hv1:1<=v) (hk:1<=k) (hu:u=k*v) (h:OKT v D t) (hd:deep t<=S):Zf u D t=Zf v D t:=by
 unfold Zf;rw[zbf hS0 hv hv1 hk hu h hd]
theorem OKT.sub (t:Tree):OKT u D t->∀s∈t.subs,OKT u D s:=by
 refine Tree.ind (P:=fun t=>OKT u D t->∀s∈t.subs,OKT u D s) (fun n ks ih h=>?_) t;exact tP.2 ⟨h,fun k hk=>ih k hk (h.kid hk)⟩
theorem Fold_in (F:Nat) (hF:F=FU) {p:zO.T} (h:Good p t):wI.sh F p=some ((bif (vg p.2.1 t).2.2 != 0 then ((⟨#[]⟩:ByteArray),[],0,[]) else (p.1,p.2.1,p.2.2.1,(XX p.2.1 t).flat),(vg p.2.1 t).2.2,()),()):=by subst hF; exact Fold_eq h
theorem zgM (F:Nat) (hF:F=FU) {p:zO.T} (h:(uG p).2≠0):wI.sh F p=some (((⟨#[]⟩,[],0,[]),(uG p).2,()),()):=by subst hF; exact zgO h
theorem zc6 {dims:Nat} (t:Tree):WF dims t->∀n∈t.flat,(nT n).length<=16:=by
 refine Tree.ind (P:=fun t=>WF dims t->∀n∈t.flat,(nT n).length<=16) (fun n ks ih h=>?_) t;obtain ⟨⟨h1,h2⟩,h3⟩:=qQ.1 h;intro m hm;rw[tM,mem_append] at hm;rcases hm with hm | hm
 ·unfold zS at hm
  obtain ⟨l,hl,hml⟩:=mem_flatten.1 hm;obtain ⟨k,hk,rfl⟩:=mem_map.1 hl;exact ih k hk (h3 k hk) m hml
 ·rw[mem_singleton.1 hm]
  exact Xz h2
theorem TG_of {dims:Nat} (h:WF dims t):TG t:=fun s hs=>by
 obtain ⟨h1,h2⟩:=h s hs;have g:=wD h2;exact ⟨g.1,g.2.2.2.1,h1.symm⟩
def Lies (p:zO.T) (s:Tree) (b:Nat):Prop:=∃a post,p.2.2.2=a++s.flat++post/\a.length=b
theorem Lies.le {p:zO.T} (h:Lies p s b):b+s.size<=p.2.2.2.length:=by
 obtain ⟨a,post,e,rfl⟩:=h;rw[e]; simp only[length_append]; unfold Tree.size; omega
theorem Lies.first {p:zO.T} {b dims F:Nat} (hF:4096<F) (hp:p.2.2.2.length<=1024) (hw:WF dims s) (h:Lies p s b):zI.sh F p ((b:Int)+(s.size:Int)-1)=some (((b:Int),()),()):=by
 have hl:=h.le;obtain ⟨a,post,e,rfl⟩:=h;exact SL F hF (TG_of hw) e (by omega)
theorem Lies.at {p:zO.T} (h:Lies p s b) (hj:j<s.size):p.2.2.2[b+j]?=s.flat[j]?:=by
 obtain ⟨a,post,e,rfl⟩:=h;have hj:j<s.flat.length:=hj;rw[e,append_assoc,List.getElem?_append_right (by omega),Nat.add_sub_cancel_left,List.getElem?_append_left hj]
theorem zdK (s:Tree):s.flat[s.size-1]?=some s.root:=by
 obtain ⟨n,ks⟩:=s;rw[vn,tM,Nat.add_sub_cancel,List.getElem?_append_right (Nat.le_refl _),Nat.sub_self]; rfl
theorem Lies.root {p:zO.T} (h:Lies p s b):get za p.2.2.2 ((b:Int)+(s.size:Int)-1).toNat=s.root/\idx ((b:Int)+(s.size:Int)-1) p.2.2.2.length=true:=by
 have hp:=ZH s;have hl:=h.le;have e:((b:Int)+(s.size:Int)-1)=((b+(s.size-1):Nat):Int):=by omega
 rw[e];refine ⟨?_,xS (by omega)⟩;show p.2.2.2.getD (b+(s.size-1)) _=_;rw[getD_eq_getElem?_getD,h.at (by omega),zdK]; rfl
theorem RG (a c:List Tree):zS (a++c)=zS a++zS c:=ud a c
theorem Lies.kid {p:zO.T} {n:za.T} {k:Tree} (h:Lies p (.nd n (pre++k::post)) b):Lies p k (b+(zS pre).length):=by
 obtain ⟨a,r,e,rfl⟩:=h;rw[tM,RG,vN] at e;exact ⟨a++zS pre,zS post++[n]++r,by rw[e]; simp,by simp⟩
def uJ:Nat->List Tree->List Int
 | _,[]=>[]
 | b,k::r=>((b:Int)+(k.size:Int)-1)::uJ (b+k.size) r
theorem TU:∀(a c:List Tree) (b:Nat),uJ b (a++c)=uJ b a++uJ (b+(zS a).length) c
 | [],c,b=>by simp[uJ,zS]
 | k::r,c,b=>by
  simp only[cons_append,uJ,TU r c,vN,length_append];rw[show b+k.size+(zS r).length=b+(k.flat.length+(zS r).length) by unfold Tree.size; omega]
theorem Zo:∀(l:List Tree) (b:Nat),(uJ b l).length=l.length
 | [],b=>rfl
 | k::r,b=>by simp[uJ,Zo r]
theorem Ru (F:Nat) (hF:4096<F) {R:Type} (kk:List Int->Option R) {p:zO.T} (hp:p.2.2.2.length<=1024) {dims b:Nat}:∀(m:Nat) (ks:List Tree) (l:List Int) (fu:Nat),ks.length=m->m<fu->(∀k∈ks,WF dims k)->(∃a post,p.2.2.2=a++zS ks++post/\a.length=b)->l.length+m<=2048->
  yt.l4 F (fun l _ _ _ _=>kk l) fu l ((b:Int)+((zS ks).length:Int)-1) (m:Int) p=kk (uJ b ks++l)
 | 0,ks,l,fu+1,hm,hf,hw,hl,hl2=>by
  have:ks=[]:=eq_nil_of_length_eq_zero hm;subst this;rfl
 | m+1,ks,l,fu+1,hm,hf,hw,hl,hl2=>by
  obtain ⟨init,k,rfl⟩:∃init k,ks=init++[k]:=by
   rcases List.eq_nil_or_concat ks with h | ⟨i,k,h⟩
   ·rw[h] at hm; simp at hm
   ·exact ⟨i,k,by rw[h,List.concat_eq_append]⟩
  have hm:init.length=m:=by simpa using hm
  obtain ⟨a,post,e,ha⟩:=hl;rw[RG,u7] at e ⊢;have hlen:=congrArg List.length e;simp only[length_append] at hlen;have hk:Lies p k (b+(zS init).length):=⟨a++zS init,post,by rw[e]; simp,by simp[ha]⟩;have ih:=Ru F hF kk hp (dims:=dims) (b:=b) m init (((b:Int)+(((zS init).length+k.flat.length:Nat):Int)-1)::l) fu hm (by omega) (fun x hx=>hw x (by simp[hx])) ⟨a,k.flat++post,by rw[e]; simp,ha⟩ (by simp only[length_cons]; omega);have hf1:=hk.first hF hp (hw k (by simp));rw[show (((b+(zS init).length:Nat):Int)+(k.size:Int)-1)=(b:Int)+(((zS init).length+k.flat.length:Nat):Int)-1 by unfold Tree.size; omega] at hf1;unfold yt.l4 yt.l4.y;rw[decide_eq_true (show ((m+1:Nat):Int)>0 by omega),length_append,hf1,zh,uq (show ([(b:Int)+(((zS init).length+k.flat.length:Nat):Int)-1]:List Int).length+l.length<=4194304 by simp only[length_cons,length_nil]; omega)];simp only[cond_true];rw[yz (n:=((b+(zS init).length:Nat):Int)-1) (by omega) (by omega),yz (n:=((m+1:Nat):Int)-1) (by omega) (by omega),show ((m+1:Nat):Int)-1=(m:Int) by omega,
   show ((b+(zS init).length:Nat):Int)-1=(b:Int)+((zS init).length:Int)-1 by omega]
  refine ih.trans ?_;rw[TU];simp only[uJ,append_assoc,singleton_append];congr 3
  unfold Tree.size; omega
theorem zf4 (F:Nat) (hF:4096<F) {p:zO.T} (hp:p.2.2.2.length<=1024) {dims b:Nat} (hw:WF dims s) (h:Lies p s b):yt.sh F p ((b:Int)+(s.size:Int)-1)=some ((uJ b s.kids,()),()):=by
 obtain ⟨r1,r2⟩:=h.root;have hl:=h.le;obtain ⟨n,ks⟩:=s;have hg:=hw.good;have hsz:(Tree.nd n ks).size=(zS ks).length+1:=vn n ks;have hln:=vo ks;unfold yt.sh;rw[r2,r1,ZK F hg.1 hg.2,zh];simp only[cond_true];rw[yz (n:=(b:Int)+((Tree.nd n ks).size:Int)-1-1) (by omega) (by omega),hsz,show (b:Int)+(((zS ks).length+1:Nat):Int)-1-1=(b:Int)+((zS ks).length:Int)-1 by omega];have hk:ks.length=ar n:=hw.len;obtain ⟨a,post,e,ha⟩:=h;rw[tM] at e;have:=Ru F hF (fun l=>(some ((l,()),()):Option yt.sg.R)) hp (dims:=dims) (b:=b) ks.length ks [] F rfl (by omega) (fun k hk=>XS hw hk) ⟨a,n::post,by rw[e]; simp,ha⟩ (by simp; omega);rw[append_nil,hk] at this;exact this
def e0 (n:za.T):za.T:=(n.1,n.2.1,n.2.2.1,n.2.2.2.1,n.2.2.2.2.1,0)
theorem zdf (s:Tree):(er s).flat=s.flat.map e0:=by
 refine Tree.ind (P:=fun s=>(er s).flat=s.flat.map e0) (fun n ks ih=>?_) s;rw[zb0,tM,tM,map_append];have:zS (ks.map er)=(zS ks).map e0:=by
  unfold zS;rw[List.map_flatten,map_map,map_map];congr 1
  exact map_congr_left fun k hk=>ih k hk
 rw[this]; rfl
theorem wf_er {dims:Nat} (s:Tree):WF dims s->WF dims (er s):=by
 refine Tree.ind (P:=fun s=>WF dims s->WF dims (er s)) (fun n ks ih h=>?_) s;obtain ⟨⟨h1,h2⟩,h3⟩:=qQ.1 h;rw[zb0];refine qQ.2 ⟨⟨by rw[length_map]; exact h1,h2⟩,fun k hk=>?_⟩;obtain ⟨x,hx,rfl⟩:=mem_map.1 hk;exact ih x hx (h3 x hx)
theorem zfX {dims:Nat} (h1:WF dims s) (h2:WF dims t) (h:s.flat=t.flat):s=t:=by
 have a:=(R7 s h1 [] []).2.1;have b:=(R7 t h2 [] []).2.1;rw[h] at a;have:([]:List Tree)++[s]=[]++[t]:=by
  have a':tW [] (t.flat++[])=[]++[s]:=a;have b':tW [] (t.flat++[])=[]++[t]:=b;rw[<-a',b']
 simpa using this
theorem zcd {dims:Nat} (h1:WF dims s) (h2:WF dims t) (h:s.flat.map e0=t.flat.map e0):er s=er t:=zfX (wf_er s h1) (wf_er t h2) (by rw[zdf,zdf,h])
theorem Tr (F:Nat) {R:Type} (k0:Bool->Option R) (kk:Option R) (a b:za.T) (hl:(nT a).length=(nT b).length) (hs:(nT a).length<4611686018427387904):∀(d i fu:Nat),i+d=(nT a).length->d<fu->
  ∃r:Bool,yh.l4 F k0 (fun _ _ _ _=>kk) fu (i:Int) a b=(bif r then kk else k0 false)/\(r=true->∀j,i<=j->j<(nT a).length->(nT a)[j]?=(nT b)[j]?)
 | 0,i,fu+1,hi,hf=>by
  refine ⟨true,?_,fun _ j h1 h2=>by omega⟩;unfold yh.l4 yh.l4.y;rw[decide_eq_false (show ¬(i:Int)<((nT a).length:Int) by omega)]; rfl
 | d+1,i,fu+1,hi,hf=>by
  obtain ⟨r,e,hr⟩:=Tr F k0 kk a b hl hs d (i+1) fu (by omega) (by omega);have ga:(nT a)[i]?=some (get yp (nT a) i):=by
   show _=some ((nT a).getD i _);rw[getD_eq_getElem?_getD,List.getElem?_eq_getElem (by omega)]; rfl
  have gb:(nT b)[i]?=some (get yp (nT b) i):=by
   show _=some ((nT b).getD i _);rw[getD_eq_getElem?_getD,List.getElem?_eq_getElem (by omega)]; rfl
  unfold yh.l4 yh.l4.y;rw[decide_eq_true (show (i:Int)<((nT a).length:Int) by omega),show idx (i:Int) a.2.2.2.2.1.length=true from xS (show i<(nT a).length by omega),show idx (i:Int) b.2.2.2.2.1.length=true from xS (show i<(nT b).length by omega)];simp only[cond_true];rw[show ((i:Nat):Int).toNat=i from rfl];cases hq:(((get yp a.2.2.2.2.1 i).1==(get yp b.2.2.2.2.1 i).1)&&(((get yp a.2.2.2.2.1 i).2==(get yp b.2.2.2.2.1 i).2)&&true)) with
  | false=>exact ⟨false,rfl,fun h=>by cases h⟩
  | true =>
   simp only[Bool.not_true,cond_false];rw[yz (n:=(i:Int)+1) (by omega) (by omega)];refine ⟨r,e,fun h j h1 h2=>?_⟩;rcases Nat.lt_or_ge i j with h3 | h3
   ·exact hr h j h3 h2
   ·have:j=i:=by omega
    subst this;rw[ga,gb];simp only[Bool.and_eq_true,beq_iff_eq,Bool.and_true] at hq;congr 1
    exact Prod.ext hq.1 hq.2
theorem zf1 (F:Nat) (a b:za.T) (hF:(nT a).length<F) (hs:(nT a).length<4611686018427387904):∃r:Bool,yh.sh F a b=some ((r,()),())/\(r=true->e0 a=e0 b):=by
 unfold yh.sh;cases h1:(a.1 != b.1) with
 | true=>exact ⟨false,rfl,fun h=>by cases h⟩
 | false =>
 cases h2:(a.2.1 != b.2.1) with
 | true=>exact ⟨false,rfl,fun h=>by cases h⟩
 | false =>
 cases h3:(a.2.2.1 != b.2.2.1) with
 | true=>exact ⟨false,rfl,fun h=>by cases h⟩
 | false =>
 cases h4:(a.2.2.2.1 != b.2.2.2.1) with
 | true=>exact ⟨false,rfl,fun h=>by cases h⟩
 | false =>
 cases h5:((a.2.2.2.2.1.length:Int) != (b.2.2.2.2.1.length:Int)) with
 | true=>exact ⟨false,rfl,fun h=>by cases h⟩
 | false =>
 simp only[bne_eq_false_iff_eq] at h1 h2 h3 h4 h5;have hl:(nT a).length=(nT b).length:=by show a.2.2.2.2.1.length=b.2.2.2.2.1.length; omega
 obtain ⟨r,e,hr⟩:=Tr F (fun r41=>(some ((r41,()),()):Option yh.sg.R)) (some ((true,()),())) a b hl hs (nT a).length 0 F (by omega) hF;refine ⟨r,?_,fun h=>?_⟩
 ·simp only[cond_false]
  refine e.trans ?_;cases r<;>rfl
 ·have ht:nT a=nT b:=List.ext_getElem? fun j=>by
   rcases Nat.lt_or_ge j (nT a).length with hj | hj
   ·exact hr h j (by omega) hj
   ·rw[List.getElem?_eq_none hj,List.getElem?_eq_none (by omega)]
  have ht:a.2.2.2.2.1=b.2.2.2.2.1:=ht;unfold e0;rw[h1,h2,h3,h4,ht]
theorem SG (F:Nat) {R:Type} (k0:Bool->Option R) (kk:Option R) {p:zO.T} (hp:p.2.2.2.length<=1024) (hn:∀n∈p.2.2.2,(nT n).length<=16) (hF:4096<F) (a:Int):∀(d i k fu:Nat),(i:Int)+d=a+1->d<fu->i+d<=p.2.2.2.length->k+d<=p.2.2.2.length->
  ∃r:Bool,ya.l5 F k0 (fun _ _ _ _ _=>kk) fu a (i:Int) (k:Int) p=(bif r then kk else k0 false)/\(r=true->∀j,j<d->(p.2.2.2[i+j]?).map e0=(p.2.2.2[k+j]?).map e0)
 | 0,i,k,fu+1,hi,hf,h1,h2=>by
  refine ⟨true,?_,fun _ j h=>by omega⟩;unfold ya.l5 ya.l5.y;rw[decide_eq_false (by omega)]; rfl
 | d+1,i,k,fu+1,hi,hf,h1,h2=>by
  obtain ⟨r,e,hr⟩:=SG F k0 kk hp hn hF a d (i+1) (k+1) fu (by omega) (by omega) (by omega) (by omega);have gi:p.2.2.2[i]?=some (get za p.2.2.2 i):=by
   show _=some (p.2.2.2.getD i _);rw[getD_eq_getElem?_getD,List.getElem?_eq_getElem (by omega)]; rfl
  have gk:p.2.2.2[k]?=some (get za p.2.2.2 k):=by
   show _=some (p.2.2.2.getD k _);rw[getD_eq_getElem?_getD,List.getElem?_eq_getElem (by omega)]; rfl
  have hm:=hn _ (List.mem_of_getElem? gi);obtain ⟨r1,e1,hr1⟩:=zf1 F (get za p.2.2.2 i) (get za p.2.2.2 k) (by omega) (by omega);unfold ya.l5 ya.l5.y;rw[decide_eq_true (show (i:Int)<=a by omega),xS (show i<p.2.2.2.length by omega),xS (show k<p.2.2.2.length by omega)];simp only[cond_true];rw[show ((i:Nat):Int).toNat=i from rfl,show ((k:Nat):Int).toNat=k from rfl,e1,zh];cases r1 with
  | false=>exact ⟨false,rfl,fun h=>by cases h⟩
  | true =>
   simp only[Bool.not_true,cond_false];rw[yz (n:=(i:Int)+1) (by omega) (by omega),yz (n:=(k:Int)+1) (by omega) (by omega)];refine ⟨r,e,fun h j hj=>?_⟩;cases j with
   | zero=>rw[Nat.add_zero,Nat.add_zero,gi,gk,Option.map_some,Option.map_some,hr1 rfl]
   | succ j =>
    have:=hr h j (by omega);rw[show i+(j+1)=i+1+j by omega,show k+(j+1)=k+1+j by omega];exact this
theorem zgE (F:Nat) (hF:4096<F) {p:zO.T} (hp:p.2.2.2.length<=1024) (hn:∀n∈p.2.2.2,(nT n).length<=16) {dims b c:Nat} (hs:WF dims s) (ht:WF dims t) (ls:Lies p s b) (lt:Lies p t c) :
  ∃r:Bool,ya.sh F p ((b:Int)+(s.size:Int)-1) ((c:Int)+(t.size:Int)-1)=some ((r,()),())/\(r=true->er s=er t):=by
 have l1:=ls.le;have l2:=lt.le;have p1:=ZH s;have p2:=ZH t;unfold ya.sh;rw[ls.first hF hp hs,zh,lt.first hF hp ht,zh];simp only;rw[yz (n:=(b:Int)+(s.size:Int)-1-(b:Int)) (by omega) (by omega),yz (n:=(c:Int)+(t.size:Int)-1-(c:Int)) (by omega) (by omega)];by_cases hsz:s.size=t.size
 ·rw[show (((b:Int)+(s.size:Int)-1-(b:Int)) != ((c:Int)+(t.size:Int)-1-(c:Int)))=false by rw[bne_eq_false_iff_eq]; omega,cond_false]
  obtain ⟨r,e,hr⟩:=SG F (fun r64=>(some ((r64,()),()):Option ya.sg.R)) (some ((true,()),())) hp hn hF ((b:Int)+(s.size:Int)-1) s.size b c F (by omega) (by omega) l1 (by omega);refine ⟨r,?_,fun h=>zcd hs ht ?_⟩
  ·refine e.trans ?_
   cases r<;>rfl
  ·refine List.ext_getElem? fun j=>?_
   rw[List.getElem?_map,List.getElem?_map];rcases Nat.lt_or_ge j s.size with hj | hj
   ·rw[<-ls.at hj,<-lt.at (by omega)]
    exact hr h j hj
   ·have h1:s.flat.length<=j:=hj
    have h2:t.flat.length<=j:=by show t.size<=j; omega
    rw[List.getElem?_eq_none h1,List.getElem?_eq_none h2]
 ·rw[show (((b:Int)+(s.size:Int)-1-(b:Int)) != ((c:Int)+(t.size:Int)-1-(c:Int)))=true by rw[bne_iff_ne]; omega]
  exact ⟨false,rfl,fun h=>by cases h⟩
theorem Vd (F:Nat) (n:za.T):yK.sh F n=some ((qW n,()),()):=by
 unfold yK.sh qW;show (bif nK n==1 then _ else some ((nK n==2,()),()))=_;cases nK n==1<;>rfl
theorem Sr:∀(r acc:List Tree),(uj acc r).length=acc.length+r.length->(∀x∈r,∀o∈acc,uf o x=false)/\r.Pairwise (fun o x=>uf o x=false)
 | [],acc,_=>⟨by simp,List.Pairwise.nil⟩
 | k::r,acc,h=>by
  have hl:=Um r (bif acc.any (fun o=>uf o k) then acc else acc++[k]);have ih:=Sr r (acc++[k]);unfold uj at h;cases hb:acc.any (fun o=>uf o k) with
  | true =>
   rw[hb] at h hl;simp only[cond_true,length_cons] at h hl;omega
  | false =>
   rw[hb] at h;simp only[cond_false,length_cons] at h;obtain ⟨i1,i2⟩:=ih (by simp only[length_append,length_cons,length_nil]; omega);rw[List.any_eq_false] at hb;refine ⟨fun x hx o ho=>?_,List.pairwise_cons.2 ⟨fun x hx=>i1 x hx k (by simp),i2⟩⟩;rcases mem_cons.1 hx with rfl | hx
   ·simpa using hb o ho
   ·exact i1 x hx o (by simp[ho])
theorem XQ {p:zO.T} {n:za.T} (h:Lies p (.nd n ks) b) (hj:j<ks.length) :
  ∃c,Lies p ks[j] c/\get (.int .i64) (uJ b ks) j=(c:Int)+(ks[j].size:Int)-1:=by
 have e:ks=ks.take j++ks[j]::ks.drop (j+1):=by
  rw[List.getElem_cons_drop,take_append_drop]
 have hl:(ks.take j).length=j:=by rw[length_take]; omega
 refine ⟨b+(zS (ks.take j)).length,?_,?_⟩
 ·have h2:=h
  rw[e] at h2;exact h2.kid
 ·show (uJ b ks).getD j _=_
  have e2:=congrArg (uJ b) e;rw[TU] at e2;rw[e2,getD_eq_getElem?_getD,List.getElem?_append_right (by rw[Zo,hl]; exact Nat.le_refl _),Zo,hl,Nat.sub_self];rfl
section
variable (F:Nat) (hF:4096<F) {p:zO.T} (hp:p.2.2.2.length<=1024) (hn:∀n∈p.2.2.2,(nT n).length<=16) {dims:Nat}
include hF hp hn
theorem za4 {R:Type} (k0:Bool->Option R) (kk:List Int->Int->zO.T->Option R) {n:za.T} {ks:List Tree} {b:Nat} (h:Lies p (.nd n ks) b) (hw:WF dims (.nd n ks)) (hne:ks.Pairwise (fun o x=>uf o x=false)) (i:Nat) (hi:i<ks.length):∀(d k fu:Nat),k+d=i->d<fu->
  zG.l5 F k0 (fun l i _ _ p=>kk l i p) fu (uJ b ks) (i:Int) (k:Int) p=kk (uJ b ks) (i:Int) p
 | 0,k,fu+1,hk,hf=>by
  unfold zG.l5 zG.l5.y;rw[decide_eq_false (by omega)]; rfl
 | d+1,k,fu+1,hk,hf=>by
  have ih:=za4 k0 kk h hw hne i hi d (k+1) fu (by omega) (by omega);have hl:=h.le;have hls:ks.length<4096:=by have:=vo ks; rw[vn] at hl; omega
  obtain ⟨c1,l1,g1⟩:=XQ h hi;obtain ⟨c2,l2,g2⟩:=XQ h (show k<ks.length by omega);have w1:=XS hw (show ks[i]∈(Tree.nd n ks).kids from getElem_mem hi);have hkk:k<ks.length:=by omega
  have w2:=XS hw (show ks[k]∈(Tree.nd n ks).kids from getElem_mem hkk);obtain ⟨r,e,hr⟩:=zgE F hF hp hn w1 w2 l1 l2;have hs:=List.pairwise_iff_getElem.1 hne k i (by omega) hi (by omega);have hrf:r=false:=by
   cases r with
   | false=>rfl
   | true =>
    have:=hr rfl;rw[qy.2 this.symm] at hs;cases hs
  unfold zG.l5 zG.l5.y;rw[decide_eq_true (show (k:Int)<(i:Int) by omega),xS (show i<(uJ b ks).length by rw[Zo]; exact hi),xS (show k<(uJ b ks).length by rw[Zo]; omega)];simp only[cond_true];rw[show ((i:Nat):Int).toNat=i from rfl,show ((k:Nat):Int).toNat=k from rfl,g1,g2,e,zh,hrf];simp only[cond_false];rw[yz (n:=(k:Int)+1) (by omega) (by omega)];exact ih
theorem SY {R:Type} (k0:Bool->Option R) (kk:Option R) {n:za.T} {ks:List Tree} {b:Nat} (h:Lies p (.nd n ks) b) (hw:WF dims (.nd n ks)) (hne:ks.Pairwise (fun o x=>uf o x=false)):∀(d i fu:Nat),i+d=ks.length->d<fu->
  zG.l2 F k0 (fun _ _ _ _=>kk) fu (uJ b ks) (i:Int) p=kk
 | 0,i,fu+1,hi,hf=>by
  unfold zG.l2 zG.l2.y;rw[Zo,decide_eq_false (by omega)]; rfl
 | d+1,i,fu+1,hi,hf=>by
  have ih:=SY k0 kk h hw hne d (i+1) fu (by omega) (by omega);have hl:=h.le;have hls:ks.length<4096:=by have:=vo ks; rw[vn] at hl; omega
  unfold zG.l2 zG.l2.y;rw[Zo,decide_eq_true (show (i:Int)<(ks.length:Int) by omega)];simp only[cond_true];refine (za4 F hF hp hn (dims:=dims) (fun r42=>k0 r42) (fun l3 i3 p3=>zG.l2 F k0 (fun _ _ _ _=>kk) fu l3 (i64.wrap (i3+1)) p3) h hw hne i (by omega) i 0 F (by omega) (by omega)).trans ?_;rw[yz (n:=(i:Int)+1) (by omega) (by omega)];exact ih
theorem zeK {n:za.T} (h:Lies p (.nd n ks) b) (hw:WF dims (.nd n ks)) (hne:ks.Pairwise (fun o x=>uf o x=false)):zG.sh F p (uJ b ks)=some ((false,()),()):=by
 have hl:=h.le;have hls:ks.length<4096:=by have:=vo ks; rw[vn] at hl; omega
 unfold zG.sh;exact SY F hF hp hn (dims:=dims) _ _ h hw hne ks.length 0 F (by omega) (by omega)
end
theorem qa {c:Bool} (h:(bif c then some x else r)=none):c=false/\r=none:=by
 cases c with
 | true=>cases h
 | false=>exact ⟨rfl,h⟩
theorem zez (F:Nat) (hF:4096<F) {p:zO.T} (hp:p.2.2.2.length<=1024) (hn:∀n∈p.2.2.2,(nT n).length<=16) (hw:WF D.length s) (h:Lies p s b) (hc:Zf u D s=none) :
  ye.sh F p ((b:Int)+(s.size:Int)-1)=some ((false,()),()):=by
 have hk:=zf4 F hF hp hw h;obtain ⟨r1,r2⟩:=h.root;have hrs:=XY.1 hc;have hneg:negT s=none:=hrs _ (by simp);have hoff:offT s=none:=hrs _ (by simp);have hbr:YO s=none:=hrs _ (by simp);have hsev:XC s=none:=hrs _ (by simp);have hno:XK s=none:=hrs _ (by simp);have hon:zay s=none:=hrs _ (by simp);clear hc hrs;obtain ⟨n,ks⟩:=s;have hln:ks.length=ar n:=hw.len;unfold ye.sh;rw[r2,r1,hk,zh];simp only[cond_true];show (bif nK n==5 then _ else bif nK n==15 then some ((nN n==0,()),()) else bif nK n==16 then _ else bif nK n==9 then _ else _)=_;have K:∀(j:Nat) (hj:j<ks.length),idx (get (.int .i64) (uJ b ks) j) p.2.2.2.length=true/\get za p.2.2.2 (get (.int .i64) (uJ b ks) j).toNat=ks[j].root:=by
  intro j hj;obtain ⟨c,l,g⟩:=XQ h hj;rw[g];exact ⟨l.root.2,l.root.1⟩
 have I:∀(j:Nat),j<ks.length->idx (j:Int) (uJ b ks).length=true:=fun j hj=>xS (by rw[Zo]; exact hj)
 cases h5:(nK n==5) with
 | true =>
  have hh:nK n=5:=by simpa using h5
  obtain ⟨a,rfl⟩:=length_eq_one_iff.1 (show ks.length=1 by rw[hln,yI hh]; rfl);have h1:(bif nK n==5&&nK a.root==5 then some (kd a 0) else none)=none:=hneg;rw[h5] at h1;obtain ⟨h1,_⟩:=qa h1;have h1:(nK a.root==5)=false:=h1;have hj:0 < [a].length:=by simp
  simp only[cond_true];rw[show idx 0 (uJ b (Tree.nd n [a]).kids).length=true from I 0 hj,show idx (get (.int .i64) (uJ b (Tree.nd n [a]).kids) 0) p.2.2.2.length=true from (K 0 hj).1,show get za p.2.2.2 (get (.int .i64) (uJ b (Tree.nd n [a]).kids) 0).toNat=a.root from (K 0 hj).2];show some ((nK a.root==5,()),())=_;rw[h1]
 | false =>
 simp only[cond_false];cases h15:(nK n==15) with
 | true =>
  have h1:(bif nK n==15&&nN n==0 then some (kd (.nd n ks) 0) else none)=none:=hoff;rw[h15] at h1;obtain ⟨h1,_⟩:=qa h1;have h1:(nN n==0)=false:=h1;rw[h1]; rfl
 | false =>
 simp only[cond_false];cases h16:(nK n==16) with
 | true =>
  have hh:nK n=16:=by simpa using h16
  obtain ⟨a,c,d,rfl⟩:=len3 (show ks.length=3 by rw[hln,yI hh]; rfl);have h1:(bif nK n==16&&uf c d then some c else none)=none:=hbr;rw[h16] at h1;obtain ⟨h1,_⟩:=qa h1;have h1:uf c d=false:=h1;have hj1:1 < [a,c,d].length:=by simp
  have hj2:2 < [a,c,d].length:=by simp
  obtain ⟨c1,l1,g1⟩:=XQ h hj1;obtain ⟨c2,l2,g2⟩:=XQ h hj2;obtain ⟨r,e,hr⟩:=zgE F hF hp hn (XS hw (show c∈(Tree.nd n [a,c,d]).kids by show c∈[a,c,d]; simp)) (XS hw (show d∈(Tree.nd n [a,c,d]).kids by show d∈[a,c,d]; simp)) l1 l2;have hrf:r=false:=by
   cases r with
   | false=>rfl
   | true=>rw[qy.2 (hr rfl)] at h1; cases h1
  simp only[cond_true];rw[show idx 1 (uJ b (Tree.nd n [a,c,d]).kids).length=true from I 1 hj1,show idx 2 (uJ b (Tree.nd n [a,c,d]).kids).length=true from I 2 hj2];rw[show get (.int .i64) (uJ b (Tree.nd n [a,c,d]).kids) 1=(c1:Int)+(c.size:Int)-1 from g1,show get (.int .i64) (uJ b (Tree.nd n [a,c,d]).kids) 2=(c2:Int)+(d.size:Int)-1 from g2,e,zh,hrf];rfl
 | false =>
 simp only[cond_false];have tw:(nK n=9\/nK n=10)->zG.sh F p (uJ b (Tree.nd n ks).kids)=some ((false,()),()):=by
  intro hh;refine zeK F hF hp hn h hw ?_;have h1:(bif nK n==9||nK n==10 then
   (bif ((uj [] ks).length:Int)==(ks.length:Int) then none else bif ((uj [] ks).length:Int)==1 then some ((uj [] ks).getD 0 (.nd n ks)) else some (.nd (n.1,n.2.1,n.2.2.1,((uj [] ks).length:Int),n.2.2.2.2) (uj [] ks))) else none)=none:=hsev
  rw[show (nK n==9||nK n==10)=true by rcases hh with hh | hh<;>(rw[hh]; rfl)] at h1
  simp only[cond_true] at h1;cases hb:(((uj [] ks).length:Int)==(ks.length:Int)) with
  | true =>
   rw[beq_iff_eq] at hb;exact (Sr ks [] (by simp only[length_nil]; omega)).2
  | false =>
   rw[hb] at h1;simp only[cond_false] at h1;cases h2:(((uj [] ks).length:Int)==1)<;>(rw[h2] at h1; cases h1)
 cases h9:(nK n==9) with
 | true =>
  simp only[cond_true];unfold ye.j12;rw[show ((Tree.nd n ks).root.1==9)=true from h9];simp only[cond_true];rw[tw (.inl (by simpa using h9)),zh]
 | false =>
 simp only[cond_false];unfold ye.j12;show (bif nK n==10 then _ else bif nK n==6 then _ else _)=_;cases h10:(nK n==10) with
 | true =>
  simp only[cond_true];rw[tw (.inr (by simpa using h10)),zh]
 | false =>
 simp only[cond_false];have hno1:(bif nK n==6&&qi (kd (.nd n ks) 0) then some (kd (.nd n ks) 1) else bif (nK n==6||nK n==7)&&qi (kd (.nd n ks) 1) then some (kd (.nd n ks) 0) else none)=none:=hno
 have hon1:(bif nK n==8&&WM (kd (.nd n ks) 0) then some (kd (.nd n ks) 1) else bif nK n==8&&WM (kd (.nd n ks) 1) then some (kd (.nd n ks) 0) else none)=none:=hon;obtain ⟨n1,hno2⟩:=qa hno1;obtain ⟨n2,_⟩:=qa hno2;obtain ⟨o1,hon2⟩:=qa hon1;obtain ⟨o2,_⟩:=qa hon2;have two:(nK n=6\/nK n=7\/nK n=8)->∃a c,ks=[a,c]:=fun hh=>ZY (by rcases hh with hh | hh | hh<;>(rw[hln,yI hh]; rfl))
 cases h6:(nK n==6) with
 | true =>
  have hh:nK n=6:=by simpa using h6
  obtain ⟨a,c,rfl⟩:=two (.inl hh);have hj0:0 < [a,c].length:=by simp
  have hj1:1 < [a,c].length:=by simp
  rw[h6] at n1 n2;have n1:qi a=false:=n1;have n2:qi c=false:=n2;simp only[cond_true];unfold ye.j15;simp only[show ((Tree.nd n [a,c]).root.1==6)=true from h6,cond_true];rw[show idx 0 (uJ b (Tree.nd n [a,c]).kids).length=true from I 0 hj0,show idx 1 (uJ b (Tree.nd n [a,c]).kids).length=true from I 1 hj1,show idx (get (.int .i64) (uJ b (Tree.nd n [a,c]).kids) 0) p.2.2.2.length=true from (K 0 hj0).1,show idx (get (.int .i64) (uJ b (Tree.nd n [a,c]).kids) 1) p.2.2.2.length=true from (K 1 hj1).1,
   show get za p.2.2.2 (get (.int .i64) (uJ b (Tree.nd n [a,c]).kids) 0).toNat=a.root from (K 0 hj0).2,show get za p.2.2.2 (get (.int .i64) (uJ b (Tree.nd n [a,c]).kids) 1).toNat=c.root from (K 1 hj1).2]
  simp only[cond_true];rw[Vd,zh,Vd,zh];unfold qi at n1 n2;show (bif qW c.root then bif nN c.root==0 then _ else bif qW a.root then some ((nN a.root==0,()),()) else _ else bif qW a.root then some ((nN a.root==0,()),()) else _)=_;cases hlc:qW c.root with
  | true =>
   rw[hlc] at n2;have n2:(nN c.root==0)=false:=n2;rw[n2];cases hla:qW a.root with
   | true =>
    rw[hla] at n1;have n1:(nN a.root==0)=false:=n1;rw[n1]; rfl
   | false=>rfl
  | false =>
   cases hla:qW a.root with
   | true =>
    rw[hla] at n1;have n1:(nN a.root==0)=false:=n1;rw[n1]; rfl
   | false=>rfl
 | false =>
 simp only[cond_false];unfold ye.j15;show (bif nK n==7 then _ else bif nK n==8 then _ else some ((false,()),()))=_;cases h7:(nK n==7) with
 | true =>
  have hh:nK n=7:=by simpa using h7
  obtain ⟨a,c,rfl⟩:=two (.inr (.inl hh));have hj0:0 < [a,c].length:=by simp
  have hj1:1 < [a,c].length:=by simp
  rw[h7,Bool.or_true] at n2;have n2:qi c=false:=n2;simp only[cond_true];rw[show idx 0 (uJ b (Tree.nd n [a,c]).kids).length=true from I 0 hj0,show idx 1 (uJ b (Tree.nd n [a,c]).kids).length=true from I 1 hj1,show idx (get (.int .i64) (uJ b (Tree.nd n [a,c]).kids) 0) p.2.2.2.length=true from (K 0 hj0).1,show idx (get (.int .i64) (uJ b (Tree.nd n [a,c]).kids) 1) p.2.2.2.length=true from (K 1 hj1).1,
   show get za p.2.2.2 (get (.int .i64) (uJ b (Tree.nd n [a,c]).kids) 0).toNat=a.root from (K 0 hj0).2,show get za p.2.2.2 (get (.int .i64) (uJ b (Tree.nd n [a,c]).kids) 1).toNat=c.root from (K 1 hj1).2]
  simp only[cond_true];rw[Vd,zh];unfold qi at n2;show (bif qW c.root then bif nN c.root==0 then _ else bif nK n==6 then _ else _ else bif nK n==6 then _ else _)=_;rw[h6];cases hlc:qW c.root with
  | true =>
   rw[hlc] at n2;have n2:(nN c.root==0)=false:=n2;rw[n2]; rfl
  | false=>rfl
 | false =>
 simp only[cond_false];cases h8:(nK n==8) with
 | true =>
  have hh:nK n=8:=by simpa using h8
  obtain ⟨a,c,rfl⟩:=two (.inr (.inr hh));have hj0:0 < [a,c].length:=by simp
  have hj1:1 < [a,c].length:=by simp
  rw[h8] at o1 o2;have o1:(nK a.root==1&&nN a.root==1)=false:=o1;have o2:(nK c.root==1&&nN c.root==1)=false:=o2;simp only[cond_true];rw[show idx 0 (uJ b (Tree.nd n [a,c]).kids).length=true from I 0 hj0,show idx 1 (uJ b (Tree.nd n [a,c]).kids).length=true from I 1 hj1,show idx (get (.int .i64) (uJ b (Tree.nd n [a,c]).kids) 0) p.2.2.2.length=true from (K 0 hj0).1,show idx (get (.int .i64) (uJ b (Tree.nd n [a,c]).kids) 1) p.2.2.2.length=true from (K 1 hj1).1,
   show get za p.2.2.2 (get (.int .i64) (uJ b (Tree.nd n [a,c]).kids) 0).toNat=a.root from (K 0 hj0).2,show get za p.2.2.2 (get (.int .i64) (uJ b (Tree.nd n [a,c]).kids) 1).toNat=c.root from (K 1 hj1).2]
  simp only[cond_true];show (bif nK a.root==1 then bif nN a.root==1 then _ else bif nK c.root==1 then some ((nN c.root==1,()),()) else _ else bif nK c.root==1 then some ((nN c.root==1,()),()) else _)=_;cases ha:(nK a.root==1) with
  | true =>
   rw[ha] at o1;have o1:(nN a.root==1)=false:=o1;rw[o1];cases hcc:(nK c.root==1) with
   | true =>
    rw[hcc] at o2;have o2:(nN c.root==1)=false:=o2;rw[o2]; rfl
   | false=>rfl
  | false =>
   cases hcc:(nK c.root==1) with
   | true =>
    rw[hcc] at o2;have o2:(nN c.root==1)=false:=o2;rw[o2]; rfl
   | false=>rfl
 | false=>rfl
theorem zdJ (F:Nat) {p:zO.T} (hp:p.2.2.2.length<=1024) {dims:Nat} (hw:WF dims s) (h:Lies p s b):xH.sh F p ((b:Int)+(s.size:Int)-1)=some ((qt s,()),()):=by
 obtain ⟨r1,r2⟩:=h.root;have hl:=h.le;obtain ⟨n,ks⟩:=s;have hln:ks.length=ar n:=hw.len;unfold xH.sh qt;rw[r2,r1,Vd,zh];simp only[cond_true];cases qW (Tree.nd n ks).root with
 | true=>rfl
 | false =>
  simp only[cond_false,Bool.false_or];show (bif nK n==5 then _ else _)=some ((nK n==5&&_,()),());cases h5:(nK n==5) with
  | false=>rfl
  | true =>
   have hh:nK n=5:=by simpa using h5
   obtain ⟨a,rfl⟩:=length_eq_one_iff.1 (show ks.length=1 by rw[hln,yI hh]; rfl);have hk:Lies p a b:=by
    have:=Lies.kid (pre:=[]) (post:=[]) (k:=a) h;exact this
   obtain ⟨q1,q2⟩:=hk.root;have hsz:(Tree.nd n [a]).size=a.size+1:=by
    rw[vn,u7]; rfl
   have ha:=ZH a;simp only[cond_true];rw[yz (n:=(b:Int)+((Tree.nd n [a]).size:Int)-1-1) (by omega) (by omega),show (b:Int)+((Tree.nd n [a]).size:Int)-1-1=(b:Int)+(a.size:Int)-1 by omega,q2,q1,Vd,zh];simp only[cond_true,Bool.true_and];show (bif qW a.root then some ((nN a.root != 0,()),()) else some ((false,()),()))=some ((qW a.root&&nN a.root != 0,()),());cases qW a.root<;>rfl
def XB (v:Int):Bool:=decide (v>=-1000000000000)&&decide (v<=1000000000000)
theorem zac (F:Nat) (k0:Bool->Option R) (h:inR v=true):yD.j6 F k0 (mk v)=k0 (XB v):=by
 unfold yD.j6 XB;rw[rint_eq F h,zh];simp only;by_cases h1:-9223372036854775808<=v
 ·by_cases h2:v<9223372036854775808
  ·rw[decide_eq_true h1,decide_eq_true h2]
   simp only[Bool.and_self,cond_true];by_cases h3:v>=-1000000000000
   ·rw[decide_eq_true h3]; rfl
   ·rw[decide_eq_false h3]; rfl
  ·rw[decide_eq_false h2,Bool.and_false,decide_eq_false (show ¬v<=1000000000000 by omega),Bool.and_false]; rfl
 ·rw[decide_eq_false h1,Bool.false_and,decide_eq_false (show ¬v>=-1000000000000 by omega),Bool.false_and]; rfl
theorem zeQ (F:Nat) (hF:150<F) (h:inR v=true) (hu:0<u) (hu2:inR u=true) (money:Bool):yD.sh F (mk v) money (mk u)=some ((bif money then decide (tr v u=0)&&XB (tq v u) else XB v,()),()):=by
 unfold yD.sh;cases money with
 | false =>
  simp only[cond_false];exact zac F _ h
 | true =>
  simp only[cond_true];have hb:=tq_bd (a:=v) (b:=u) (by omega);have iq:inR (tq v u)=true:=by
   rw[yB] at h ⊢;rcases Int.lt_or_le v 0 with hv | hv
   ·have:u≠-1:=by omega
    by_cases hm:v=-170141183460469231731687303715884105728/\u=1
    ·obtain ⟨rfl,rfl⟩:=hm; decide
    ·have h0:=aQR (a:=v) (b:=u) (by omega)
     have:tq v u<=0:=by
      unfold tq dsg;rw[decide_eq_true hv,decide_eq_false (show ¬u<0 by omega)];show -aQ v u<=0;omega
     omega
   ·omega
  rw[Tp F hF (wu h) (wu hu2) (by rw[xR]; omega),zh,xR,xR,iq];simp only[cond_true];have hz:=Vm (v:=tr v u);by_cases h0:tr v u=0
  ·rw[h0]
   rw[show ((mk 0).1 != 0)=false from rfl,show ((mk 0).2 != 0)=false from rfl];simp only[cond_false];rw[zac F _ iq]; rfl
  ·rw[decide_eq_false h0,Bool.and_true] at hz
   rw[decide_eq_false h0];cases h1:((mk (tr v u)).1 != 0) with
   | true=>rfl
   | false =>
    have h1:(mk (tr v u)).1=0:=by simpa using h1
    rw[h1] at hz;have hz:((mk (tr v u)).2==0)=false:=hz;rw[show ((mk (tr v u)).2 != 0)=true by unfold bne; rw[hz]; rfl]; rfl
theorem Uw {p:zO.T}:∀(r:List Tree) (c:Nat),(∃a post,p.2.2.2=a++zS r++post/\a.length=c)->(∀k∈r,∀c,Lies p k c->∀i,i<k.size->∃s b,k.subs[i]?=some s/\Lies p s b/\c+i+1=b+s.size)->
  ∀i,i<(zS r).length->∃s b,(vW r)[i]?=some s/\Lies p s b/\c+i+1=b+s.size
 | [],c,_,_,i,hi=>by simp[zS] at hi
 | k::r,c,h,hk,i,hi=>by
  obtain ⟨a,post,e,ha⟩:=h;rw[vN] at e hi;have e2:vW (k::r)=k.subs++vW r:=by
   have:=Yy [k] r;rw[ZI] at this;exact this
  have hl:k.subs.length=k.size:=ZS k;rw[e2];rcases Nat.lt_or_ge i k.size with h1 | h1
  ·obtain ⟨s,b,g1,g2,g3⟩:=hk k (by simp) c ⟨a,zS r++post,by rw[e]; simp,ha⟩ i h1
   exact ⟨s,b,by rw[List.getElem?_append_left (by omega)]; exact g1,g2,g3⟩
  ·obtain ⟨s,b,g1,g2,g3⟩:=Uw r (c+k.size) ⟨a++k.flat,post,by rw[e]; simp,by simp[ha,Tree.size]⟩ (fun x hx=>hk x (by simp[hx])) (i-k.size) (by simp only[length_append] at hi; unfold Tree.size at*; omega)
   exact ⟨s,b,by rw[List.getElem?_append_right (by omega),hl]; exact g1,g2,by omega⟩
theorem zeP {p:zO.T} (t:Tree):∀c,Lies p t c->∀i,i<t.size->∃s b,t.subs[i]?=some s/\Lies p s b/\c+i+1=b+s.size:=by
 refine Tree.ind (P:=fun t=>∀c,Lies p t c->∀i,i<t.size->∃s b,t.subs[i]?=some s/\Lies p s b/\c+i+1=b+s.size) (fun n ks ih c h i hi=>?_) t;have hsl:=Yx ks;rw[vn] at hi;rw[q9];rcases Nat.lt_or_ge i (zS ks).length with h1 | h1
 ·obtain ⟨a,post,e,ha⟩:=h
  rw[tM] at e;obtain ⟨s,b,g1,g2,g3⟩:=Uw ks c ⟨a,n::post,by rw[e]; simp,ha⟩ ih i h1;exact ⟨s,b,by rw[List.getElem?_append_left (by omega)]; exact g1,g2,g3⟩
 ·have:i=(zS ks).length:=by omega
  subst this;refine ⟨.nd n ks,c,?_,h,by rw[vn]; omega⟩;rw[List.getElem?_append_right (by omega),hsl,Nat.sub_self]; rfl
theorem QH {t:Ty} {l:List Tree} {f:Tree->t.T} (h:l[i]?=some s):get t (l.map f) i=f s:=by
 show (l.map f).getD i _=_;rw[getD_eq_getElem?_getD,List.getElem?_map,h]; rfl
theorem Rq (h:QD k v t=none):XB v=false:=by
 unfold QD at h;unfold XB;cases h1:decide (v < -1000000000000) with
 | true =>
  have:=of_decide_eq_true h1;rw[decide_eq_false (show ¬v>=-1000000000000 by omega)]; rfl
 | false =>
  rw[h1] at h;simp only[cond_false] at h;cases h2:decide (v>1000000000000) with
  | true =>
   have:=of_decide_eq_true h2;rw[decide_eq_false (show ¬v<=1000000000000 by omega),Bool.and_false]
  | false =>
   rw[h2] at h;simp only[cond_false] at h;cases h3:decide (v<0)<;>(rw[h3] at h; cases h)
theorem zbe (h:Yv u D q s=none) (hf:(vV s).1=true) (hp:qt s=false) :
  (bif (vV s).2 then decide (tr (ev u D q s) u=0)&&XB (tq (ev u D q s) u) else XB (ev u D q s))=false:=by
 unfold Yv at h;rw[hf,hp] at h;simp only[Bool.not_true,cond_false] at h;cases hm:(vV s).2 with
 | false =>
  rw[hm] at h;exact Rq h
 | true =>
  rw[hm] at h;simp only[cond_true] at h ⊢;cases hz:decide (tr (ev u D q s) u=0) with
  | false=>rfl
  | true =>
   rw[hz] at h;exact Rq h
theorem Sw (F:Nat) (hF:4096<F) {R:Type} (k0:Bool->Option R) (kk:Option R) {p:zO.T} {y:Tree} {u:Int} (c:Cxt u p.2.1) (hu2:inR u=true) (hy:p.2.2.2=y.flat) (o:OKT u p.2.1 y) (hc:∀s∈y.subs,Zf u p.2.1 s=none):∀(d i fu:Nat),i+d=p.2.2.2.length->d<fu->
  zo.l13 F k0 (fun _ _ _ _ _ _ _=>kk) fu (y.subs.map ty) (y.subs.map noQ) (y.subs.map fun s=>mk (ev u p.2.1 (q0 p.2.1) s)) (i:Int) p (mk u)=kk
 | 0,i,fu+1,hi,hf=>by
  unfold zo.l13 zo.l13.y;rw[decide_eq_false (by omega)]; rfl
 | d+1,i,fu+1,hi,hf=>by
  have ih:=Sw F hF k0 kk c hu2 hy o hc d (i+1) fu (by omega) (by omega);have hlen:p.2.2.2.length=y.size:=by rw[hy]; rfl
  have hp:p.2.2.2.length<=1024:=by rw[hlen]; exact o.size
  have hn:∀n∈p.2.2.2,(nT n).length<=16:=by rw[hy]; exact zc6 y o.wf
  obtain ⟨s,b,g1,g2,g3⟩:=zeP (p:=p) y 0 ⟨[],[],by rw[hy]; simp,rfl⟩ i (by omega);have hs:s∈y.subs:=List.mem_of_getElem? g1;have os:=OKT.sub y o s hs;have hr:=hc s hs;have hlb:∀{α:Type} (f:Tree->α),idx (i:Int) (y.subs.map f).length=true:=fun f=>xS (by rw[length_map,ZS]; show i<y.size; omega)
  have hpos:=ZH s;have ei:(i:Int)=(b:Int)+(s.size:Int)-1:=by omega
  have hnext:i64.wrap ((i:Int)+1)=((i+1:Nat):Int):=by
   rw[yz (n:=(i:Int)+1) (by omega) (by omega)]; rfl
  unfold zo.l13 zo.l13.y;rw[decide_eq_true (show (i:Int)<(p.2.2.2.length:Int) by omega)];simp only[cond_true];rw[show ye.sh F p (i:Int)=some ((false,()),()) by rw[ei]; exact zez F hF hp hn os.wf g2 hr,zh];simp only[cond_false];rw[hlb noQ,show get .bool (y.subs.map noQ) ((i:Int)).toNat=noQ s from QH (t:=.bool) g1];simp only[cond_true];cases hq:noQ s with
  | false =>
   simp only[cond_false];rw[hnext]; exact ih
  | true =>
   simp only[cond_true];rw[show xH.sh F p (i:Int)=some ((qt s,()),()) by rw[ei]; exact zdJ F hp os.wf g2,zh];cases hpl:qt s with
   | true =>
    simp only[Bool.not_true,cond_false];rw[hnext]; exact ih
   | false =>
    simp only[Bool.not_false,cond_true];have hfx:(vV s).1=true:=by rw[os.noq]; exact hq
    have hty:=QJ s os hfx;have hI:=Wh c (zfb p.2.1) s os;have i1:=hI.lo;have i2:=hI.hi;have i3:=hI.bd;have hBND:BND=1329227995784915872903807060280344576:=rfl;have hu:=c.hu;rw[hlb,hlb ty];simp only[cond_true];rw[show get zd (y.subs.map fun s=>mk (ev u p.2.1 (q0 p.2.1) s)) ((i:Int)).toNat=mk (ev u p.2.1 (q0 p.2.1) s) from QH (t:=zd) g1,
     show get (.int .i64) (y.subs.map ty) ((i:Int)).toNat=ty s from QH (t:=.int .i64) g1]
    rw[zeQ F (by omega) (by rw[yB]; omega) (by omega) hu2,zh];have hmny:(ty s==1)=(vV s).2:=by
     rw[hty];cases (vV s).2<;>rfl
    rw[hmny,zbe ((XY.1 hr) _ (by simp)) hfx hpl];simp only[cond_false];rw[hnext]; exact ih
theorem SV (F:Nat) {R:Type} (kk:List Int->Int->Int->List Bool->Int->zO.T->zd.T->List Int->Option R) (types:List Int) (e f:Int) (fix:List Bool) (g:Int) (p:zO.T) (unit:zd.T) (hl:p.2.1.length<=4):∀(d i fu:Nat),i+d=p.2.1.length->d<fu->
  zo.l6 F (fun types e f fix g _ _ p unit zero=>kk types e f fix g p unit zero) fu types e f fix g (i:Int) p unit (List.replicate i 0)=kk types e f fix g p unit (q0 p.2.1)
 | 0,i,fu+1,hi,hf=>by
  unfold zo.l6 zo.l6.y;rw[decide_eq_false (by omega)];have:i=p.2.1.length:=by omega
  subst this; rfl
 | d+1,i,fu+1,hi,hf=>by
  have ih:=SV F kk types e f fix g p unit hl d (i+1) fu (by omega) (by omega);unfold zo.l6 zo.l6.y;rw[decide_eq_true (show (i:Int)<(p.2.1.length:Int) by omega),uq (show (List.replicate i (0:Int)).length+([0]:List Int).length<=4194304 by rw[length_replicate]; simp only[length_cons,length_nil]; omega)];simp only[cond_true];rw[yz (n:=(i:Int)+1) (by omega) (by omega),<-List.replicate_succ'];exact ih
theorem q0_any (D:List xB.T):(q0 D).any qB=false:=by
 rw[List.any_eq_false];intro x hx;rw[List.eq_of_mem_replicate hx];decide
theorem zgn (F:Nat) (hF:4096<F) {p:zO.T} (hg:Good p y) (o:OKT (vt y) p.2.1 y) (ht:ty y=1) (hu:vg p.2.1 y=(mk (vt y),0,0)) (h6:deep y<=6) (hc:∀s∈y.subs,Zf (vt y) p.2.1 s=none)
  (eU:xg.sh F p=some (((vg p.2.1 y).1,(vg p.2.1 y).2.1,(vg p.2.1 y).2.2,()),())):zo.sh F p=some ((true,()),()):=by
 have hh:=tg hg.head;have ub:=ZR (t:=y) h6;have c:Cxt (vt y) p.2.1:=⟨ub.1,ub.2,hh.2.2.1,hh.2.1⟩;have hN:=hg.len;unfold zo.sh;rw[Rb F hF hg,zh,eU,zh,Vg F hF hg,zh,hu,SX (Xa 0 o.tys) ht];refine (SV F (fun types4 e4 f4 fix4 g4 p4 unit4 zero4=>zo.j9 F (fun r211=>(some ((r211,()),()):Option zo.sg.R)) (fun r212=>some ((r212,()),())) (fun r213=>some ((r213,()),())) types4 e4 f4 fix4 g4 zero4 p4 unit4) (y.subs.map ty) 0 0 (y.subs.map noQ) 0 p (mk (vt y)) hh.2.1 p.2.1.length 0 F (by omega) (by omega)).trans ?_;have ev0:za1 p.2.1 y (q0 p.2.1)=(y.subs.map fun s=>mk (ev (vt y) p.2.1 (q0 p.2.1) s),0):=by
  unfold za1;rw[hu,q0_any,show (((q0 p.2.1).length:Int) != (p.2.1.length:Int))=false by unfold q0; rw[length_replicate]; simp]; rfl
 unfold zo.j9;rw[zar F hF hg (q0 p.2.1) eU,ev0,zh];simp only;rw[show ((0:Int) != 0)=false from rfl];simp only[cond_false];exact Sw F hF _ _ c (by rw[yB]; omega) hg.flat.symm o hc p.2.2.2.length 0 F (by omega) (by omega)
theorem zf8 (F:Nat) (hF:F=FU) {p:zO.T} (h:Good p t):xg.sh F p=some (((vg p.2.1 t).1,(vg p.2.1 t).2.1,(vg p.2.1 t).2.2,()),()):=by subst hF; exact zf9 h
theorem T8 (F:Nat) (hF:F=FU) (ha:xN.sh F=some ((true,()),())) (p:zO.T):yG.sh F p=some ((true,()),()):=by
 have hFb:4096<F:=by rw[hF]; exact tl
 unfold yG.sh;rw[ha,zh,show (!(((true,()),()):(Bool×Unit)×Unit).1.1)=false from rfl,cond_false];by_cases hc:(uG p).2=0
 ·obtain ⟨t,h⟩:=zgq hc
  rw[Fold_in F hF h,zh];simp only;cases hu:((vg p.2.1 t).2.2 != 0) with
  | true=>rfl
  | false =>
   have hu:(vg p.2.1 t).2.2=0:=by simpa using hu
   have fd:=zaS h hu;obtain ⟨c,o,h1,h6⟩:=T4 h hu;simp only[cond_false];generalize XX p.2.1 t=y at*;have hd:=fd.fk.deep;have hy:=(tc y).1;have ub:=ZR (t:=y) (by omega);obtain ⟨k,e,_⟩:=Th hd;have hk:(1:Int)<=(10000:Int)^k:=by
    have:=Int.pow_pos (n:=10000) (m:=k) (by decide);omega
   have hcl:∀s∈y.subs,Zf (vt y) p.2.1 s=none:=fun s hs=>by
    rw[<-zbF (u:=vt t) hy (rfl:vt y=10000^(deep y).toNat) ub.1 hk e (OKT.sub y fd.okt s hs) (RP y s hs)];exact fd.clean s hs
   have:=zgn F hFb fd.good fd.okt (by rw[fd.fk.ty,h1]) fd.unit (by omega) hcl (zf8 F hF fd.good);rw[this,hu];rfl
 ·rw[zgM F hF hc,zh]
  simp only;rw[show ((uG p).2 != 0)=true by simpa using hc];rfl
theorem T7 (p:zO.T):yG.sh FU p=some ((true,()),()):=T8 FU rfl zgC p
end Go.VS
