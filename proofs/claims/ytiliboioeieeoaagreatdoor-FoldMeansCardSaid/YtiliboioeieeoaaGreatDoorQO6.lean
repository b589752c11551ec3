import Derived.Test.YtiliboioeieeoaaGreatDoorQO5
set_option linter.unusedVariables false
set_option linter.unusedSimpArgs false
set_option linter.unusedSectionVars false
set_option linter.unusedVariables false
set_option linter.unusedSimpArgs false
set_option maxRecDepth 100000
namespace Go.VS
open Go
theorem Sx {p:zb.T->Bool}:∀l:List Tree,(yH l).all p=l.all (fun t=>t.flat.all p)
 | []=>rfl
 | t::r=>by rw[vo,List.all_append,Sx r,List.all_cons]
theorem noQ_nd (n:zb.T) (ks:List Tree):noQ (.nd n ks)=(ks.all noQ&&!isQ n):=by
 unfold noQ;rw[Yv,List.all_append,Sx];simp
theorem fix_noQ (t:Tree):(∀s∈t.subs,isQ s.root=true->s.kids=[])->(wJ t).1=noQ t:=by
 refine Tree.ind (P:=fun t=>(∀s∈t.subs,isQ s.root=true->s.kids=[])->(wJ t).1=noQ t) (fun n ks ih h=>?_) t;obtain ⟨h1,h2⟩:=vX.1 h;rw[tc,noQ_nd];unfold UW;cases hq:isQ n with
 | true=>simp
 | false =>
  simp only[cond_false,Bool.not_false,Bool.and_true,List.all_map];have:∀l:List Tree,(∀k∈l,k∈ks)->l.all ((fun x=>x.1) ∘ wJ)=l.all noQ:=by
   intro l;induction l with
   | nil=>intro _; rfl
   | cons k r ihr =>
    intro hl;rw[List.all_cons,List.all_cons,ihr fun x hx=>hl x (by simp[hx])];congr 1
    exact ih k (hl k (by simp)) (h2 k (hl k (by simp)))
  exact this ks fun _ h=>h
theorem OKT.noq {u:Int} {D:List yy.T} {t:Tree} (h:OKT u D t):(wJ t).1=noQ t:=by
 refine fix_noQ t fun s hs hq=>?_
 obtain ⟨h1,h2⟩:=h.wf s hs;have:ar s.root=0:=by
  unfold isQ at hq;simp only[Bool.or_eq_true,beq_iff_eq] at hq;rcases hq with hq | hq
  ·rw[z8 hq]; rfl
  ·rw[z8 hq]; rfl
 exact List.eq_nil_of_length_eq_zero (by rw[h1,this])
theorem evN_at (u:Int) (D:List yy.T) (q:List Int) (n:zb.T) (vs:List Int):evN u D q (n.1,n.2.1,n.2.2.1,n.2.2.2.1,n.2.2.2.2.1,0) vs=evN u D q n vs:=rfl
theorem ev_er (u:Int) (D:List yy.T) (q:List Int) (t:Tree):ev u D q (er t)=ev u D q t:=by
 refine Tree.ind (P:=fun t=>ev u D q (er t)=ev u D q t) (fun n ks ih=>?_) t;rw[zdh,uk,uk,evN_at,List.map_map];congr 1
 exact List.map_congr_left fun k hk=>ih k hk
theorem zb6 {x y:Tree} (h:er x=er y) (u:Int) (D:List yy.T) (q:List Int):ev u D q x=ev u D q y:=by rw[<-ev_er,h,ev_er]
theorem Ql {t:Tree} (u:Int) (D:List yy.T) (q q':List Int):(wJ t).1=true->ev u D q t=ev u D q' t:=by
 refine Tree.ind (P:=fun t=>(wJ t).1=true->ev u D q t=ev u D q' t) (fun n ks ih h=>?_) t;rw[tc] at h;unfold UW at h;cases hq:isQ n with
 | true=>rw[hq] at h; cases h
 | false =>
  rw[hq] at h;simp only[cond_false] at h;have hk:ks.map (ev u D q)=ks.map (ev u D q'):=List.map_congr_left fun k hk=>ih k hk (List.all_eq_true.1 h _ (List.mem_map.2 ⟨k,hk,rfl⟩))
  rw[uk,uk,hk];unfold isQ at hq;simp only[Bool.or_eq_false_iff] at hq;unfold evN;rw[hq.1,hq.2];rfl
theorem Z3 {u:Int} {D:List yy.T} (c:Cxt u D) {t:Tree} (h:OKT u D t):0<=mag u D t:=by
 have hq:okQ D (List.replicate D.length 0):=⟨by simp,fun x hx=>by rw[List.eq_of_mem_replicate hx]; omega⟩;have:=Zm c hq t h;have a1:=this.lo;have a2:=this.hi;omega
structure FK (u:Int) (D:List yy.T) (x y:Tree):Prop where
 okt:OKT u D y
 size:y.size<=x.size
 ty:ty y=ty x
 fix:(wJ x).1=true->(wJ y).1=true
 mag:mag u D y<=mag u D x
 deep:deep y<=deep x
 ev:∀q,okQ D q->ev u D q y=ev u D q x
theorem FK.refl {u:Int} {D:List yy.T} {x:Tree} (h:OKT u D x):FK u D x x:=⟨h,Nat.le_refl _,rfl,id,Int.le_refl _,Int.le_refl _,fun _ _=>rfl⟩
theorem FK.trans {u:Int} {D:List yy.T} {x y z:Tree} (h1:FK u D x y) (h2:FK u D y z):FK u D x z :=
 ⟨h2.okt,Nat.le_trans h2.size h1.size,h2.ty.trans h1.ty,fun h=>h2.fix (h1.fix h),Int.le_trans h2.mag h1.mag,Int.le_trans h2.deep h1.deep,fun q hq=>(h2.ev q hq).trans (h1.ev q hq)⟩
theorem TB {f g:Tree->Int}:∀l:List Tree,(∀k∈l,f k<=g k)->wx (l.map f)<=wx (l.map g)
 | [],_=>Int.le_refl _
 | k::r,h=>by
  have h1:=h k (by simp);have h2:=TB r fun x hx=>h x (by simp[hx])
  unfold wx at*;simp only[List.map_cons,List.sum_cons];omega
theorem T3:∀(l:List Tree) (f g:Tree->Int) (a b:Int),a<=b->(∀k∈l,f k<=g k)->tN a (l.map f)<=tN b (l.map g)
 | [],f,g,a,b,h,_=>h
 | k::r,f,g,a,b,h,hk=>by
  have h1:=hk k (by simp);simp only[List.map_cons];show tN (if f k>a then f k else a) (r.map f)<=tN (if g k>b then g k else b) (r.map g);refine T3 r f g _ _ ?_ fun x hx=>hk x (by simp[hx])
  split<;>split<;>omega
theorem zbH (l:List Tree) (f g:Tree->Int) (h:∀k∈l,f k<=g k):vT (l.map f)<=vT (l.map g):=by
 cases l with
 | nil=>exact Int.le_refl _
 | cons k r=>exact T3 r f g _ _ (h k (by simp)) fun x hx=>h x (by simp[hx])
theorem T4 {u:Int} (hu:1<=u) {D:List yy.T} {dims:Nat} {n:zb.T} (hn:wD dims n (ar n)=0) {ks:List Tree} (hl:ks.length=ar n) {f g:Tree->Int} (h:∀k∈ks,0<=f k/\f k<=g k):yQ u D n (ks.map f)<=yQ u D n (ks.map g):=by
 obtain ⟨g1,g2,g3,g4,g5,g6,g7,g8⟩:=xF hn;have hs:=TB ks fun k hk=>(h k hk).2
 have get0:∀(a:Tree) (r:List Tree) (f:Tree->Int),((a::r).map f).getD 0 0=f a:=fun _ _ _=>rfl
 have sc:∀{k:Int},nK n=k->(k=13\/k=14)->yQ u D n (ks.map f)<=yQ u D n (ks.map g):=by
  intro k hh hk;obtain ⟨a,rfl⟩:=List.length_eq_one_iff.1 (show ks.length=1 by rw[hl,z8 hh]; rcases hk with rfl | rfl<;>rfl)
  have hb:qJ (nT n)=true:=g8 (by
   unfold ut uB;rw[hh]; rcases hk with rfl | rfl<;>rfl)
  obtain ⟨l1,l2,l3⟩:=uw hb;have hr:=(XA (nT n) 0 (-1) (by omega) (by omega) l3).1;have e:∀f:Tree->Int,yQ u D n ([a].map f)=u*(wN 0 (nT n)*(f a+wK (nT n))+vp (nT n)):=by
   intro f; unfold yQ; rw[hh]; rcases hk with rfl | rfl<;>rfl
  rw[e,e];have ha:=(h a (by simp)).2;have h1:wN 0 (nT n)*(f a+wK (nT n))<=wN 0 (nT n)*(g a+wK (nT n)):=Int.mul_le_mul_of_nonneg_left (by omega) hr;exact Int.mul_le_mul_of_nonneg_left (by omega) (by omega)
 rcases v8 g1 with hh | hh | hh | hh | hh | hh | hh | hh | hh | hh | hh | hh | hh | hh | hh | hh
 ·have e:∀vs,yQ u D n vs=nN n:=fun vs=>by unfold yQ; rw[hh]; rfl
  rw[e,e]; exact Int.le_refl _
 ·have e:∀vs,yQ u D n vs=nN n*u:=fun vs=>by unfold yQ; rw[hh]; rfl
  rw[e,e]; exact Int.le_refl _
 ·have e:∀vs,yQ u D n vs=1099511627776:=fun vs=>by unfold yQ; rw[hh]; rfl
  rw[e,e]; exact Int.le_refl _
 ·have e:∀vs,yQ u D n vs=uq 1099511627776 (dS (D.getD (nN n).toNat (ByteArray.empty,0))):=fun vs=>by unfold yQ; rw[hh]; rfl
  rw[e,e]; exact Int.le_refl _
 ·have e:∀vs,yQ u D n vs=wx vs:=fun vs=>by unfold yQ; rw[hh]; rfl
  rw[e,e]; exact hs
 ·have e:∀vs,yQ u D n vs=wx vs:=fun vs=>by unfold yQ; rw[hh]; rfl
  rw[e,e]; exact hs
 ·have e:∀vs,yQ u D n vs=wx vs:=fun vs=>by unfold yQ; rw[hh]; rfl
  rw[e,e]; exact hs
 ·obtain ⟨a,b,rfl⟩:=Zp (show ks.length=2 by rw[hl,z8 hh]; rfl)
  have e:∀f:Tree->Int,yQ u D n ([a,b].map f)=f a*f b:=fun f=>by unfold yQ; rw[hh]; rfl
  rw[e,e];have ha:=h a (by simp);have hb:=h b (by simp);exact Int.mul_le_mul ha.2 hb.2 hb.1 (by omega)
 ·have e:∀vs,yQ u D n vs=wx vs:=fun vs=>by unfold yQ; rw[hh]; rfl
  rw[e,e]; exact hs
 ·have e:∀vs,yQ u D n vs=wx vs:=fun vs=>by unfold yQ; rw[hh]; rfl
  rw[e,e]; exact hs
 ·have e:∀vs,yQ u D n vs=wx vs+nN n:=fun vs=>by unfold yQ; rw[hh]; rfl
  rw[e,e]; omega
 ·have e:∀vs,yQ u D n vs=wx vs+nN n:=fun vs=>by unfold yQ; rw[hh]; rfl
  rw[e,e]; omega
 ·exact sc hh (.inl rfl)
 ·exact sc hh (.inr rfl)
 ·obtain ⟨a,rfl⟩:=List.length_eq_one_iff.1 (show ks.length=1 by rw[hl,z8 hh]; rfl)
  have e:∀f:Tree->Int,yQ u D n ([a].map f)=f a:=fun f=>by unfold yQ; rw[hh]; rfl
  rw[e,e]; exact (h a (by simp)).2
 ·have e:∀vs,yQ u D n vs=wx vs+nN n:=fun vs=>by unfold yQ; rw[hh]; rfl
  rw[e,e]; omega
theorem UZ {n:zb.T} {a b:Int} (h:a<=b) (hb:vj n b<=BND):vj n a<=BND:=by
 unfold vj at*;cases h15:(nK n==15) with
 | true=>rw[h15] at hb; simp only[cond_true] at hb ⊢; omega
 | false=>rw[h15] at hb; simp only[cond_false] at hb ⊢; omega
theorem UU (g:Tree->Tree):∀l:List Tree,(∀k∈l,(g k).size<=k.size)->(yH (l.map g)).length<=(yH l).length
 | [],_=>Nat.le_refl _
 | k::r,h=>by
  have h1:=h k (by simp);have h2:=UU g r fun x hx=>h x (by simp[hx])
  rw[List.map_cons,vo,vo];unfold Tree.size at h1;simp only[List.length_append];omega
theorem FK.kids {u:Int} {D:List yy.T} (c:Cxt u D) {n:zb.T} {ks:List Tree} (h:OKT u D (.nd n ks)) {g:Tree->Tree} (hg:∀k∈ks,FK u D k (g k)):FK u D (.nd n ks) (.nd n (ks.map g)):=by
 obtain ⟨⟨h1,h2⟩,h3⟩:=tY.1 h.wf;have hsz:(Tree.nd n (ks.map g)).size<=(Tree.nd n ks).size:=by
  rw[wX,wX];have:=UU g ks fun k hk=>(hg k hk).size
  omega
 have hty:Go.VS.ty (.nd n (ks.map g))=Go.VS.ty (.nd n ks):=by
  rw[tG,tG,List.map_map];congr 1
  exact List.map_congr_left fun k hk=>(hg k hk).ty
 have hmag:Go.VS.mag u D (.nd n (ks.map g))<=Go.VS.mag u D (.nd n ks):=by
  rw[uI,uI,List.map_map];exact T4 c.hu h2 h1 fun k hk=>⟨Z3 c (hg k hk).okt,(hg k hk).mag⟩
 have htyE:=(vX.1 h.tys).1;have hnq:∀k∈ks,noQ k=true->noQ (g k)=true:=fun k hk hq=>by
  rw[<-(hg k hk).okt.noq];exact (hg k hk).fix (by rw[(h.kid hk).noq]; exact hq)
 have hlin:W2 n (ks.map noQ)=false:=by
  unfold tyE at htyE;have hne:(Go.VS.ty (.nd n ks) == -1)=false:=by
   rw[beq_eq_false_iff_ne]; exact Vo (t:=.nd n ks) htyE
  rw[hne] at htyE;cases hl:W2 n (ks.map noQ) with
  | false=>rfl
  | true =>
   have:W2 (Tree.nd n ks).root ((Tree.nd n ks).kids.map noQ)=true:=hl;rw[this] at htyE;exact absurd (show (81:Int)=0 from htyE) (by decide)
 have hlin':W2 n ((ks.map g).map noQ)=false:=by
  unfold W2 at hlin ⊢;cases h8:(nK n==8) with
  | false=>rfl
  | true =>
   have hk8:nK n=8:=by simpa using h8
   obtain ⟨a,b,rfl⟩:=Zp (show ks.length=2 by rw[h1,z8 hk8]; rfl);rw[h8] at hlin;simp only[List.map_cons,List.map_nil,List.getD_cons_zero,List.getD_cons_succ,Bool.true_and] at hlin ⊢;cases ha:noQ a with
   | true=>rw[hnq a (by simp) ha]; rfl
   | false =>
    cases hb:noQ b with
    | true=>rw[hnq b (by simp) hb]; simp
    | false=>rw[ha,hb] at hlin; cases hlin
 refine ⟨OKT.mk' (by simpa using h1) h2 (by have:=h.size; omega) ?_ ?_ ?_,hsz,hty,?_,hmag,?_,?_⟩
 ·unfold tyE
  rw[hty,show (Go.VS.ty (.nd n ks) == -1)=false from by rw[beq_eq_false_iff_ne]; exact Vo (t:=.nd n ks) htyE];show (bif W2 n ((ks.map g).map noQ) then (81:Int) else 0)=0;rw[hlin']; rfl
 ·exact UZ hmag (vX.1 h.mgs).1
 ·intro k hk
  obtain ⟨x,hx,rfl⟩:=List.mem_map.1 hk;exact (hg x hx).okt
 ·intro hf
  rw[tc] at hf ⊢;unfold UW at hf ⊢;cases hq:isQ n with
  | true=>rw[hq] at hf; cases hf
  | false =>
   rw[hq] at hf;simp only[cond_false,List.all_map] at hf ⊢;rw[List.all_eq_true] at hf ⊢;exact fun k hk=>(hg k hk).fix (hf k hk)
 ·rw[uE,uE,List.map_map]
  have:=zbH ks (Go.VS.deep ∘ g) Go.VS.deep fun k hk=>(hg k hk).deep
  omega
 ·intro q hq
  rw[uk,uk,List.map_map];congr 1
  exact List.map_congr_left fun k hk=>(hg k hk).ev q hq
end Go.VS
