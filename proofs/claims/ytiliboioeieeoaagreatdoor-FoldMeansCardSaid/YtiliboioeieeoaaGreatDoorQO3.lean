import Derived.Test.YtiliboioeieeoaaGreatDoorQO2
set_option linter.unusedVariables false
set_option linter.unusedSimpArgs false
set_option linter.unusedSectionVars false
set_option linter.unusedVariables false
set_option linter.unusedSimpArgs false
set_option maxRecDepth 100000
namespace Go.VS
open Go
structure OKT (u:Int) (D:List yy.T) (t:Tree):Prop where
 wf:WF D.length t
 size:t.size<=1024
 tys:∀s∈t.subs,tyE s=0
 mgs:∀s∈t.subs,vj s.root (mag u D s)<=BND
theorem OKT.kid {u:Int} {D:List yy.T} {n:zb.T} {ks:List Tree} (h:OKT u D (.nd n ks)) {k:Tree} (hk:k∈ks):OKT u D k :=
 ⟨(tY.1 h.wf).2 k hk,by have:=h.size; rw[wX] at this; have:=uz hk; omega,(vX.1 h.tys).2 k hk,(vX.1 h.mgs).2 k hk⟩
theorem OKT.mk' {u:Int} {D:List yy.T} {n:zb.T} {ks:List Tree} (h1:ks.length=ar n) (h2:wD D.length n (ar n)=0) (h3:Tree.size (.nd n ks)<=1024) (h4:tyE (.nd n ks)=0) (h5:vj n (mag u D (.nd n ks))<=BND)
  (h6:∀k∈ks,OKT u D k):OKT u D (.nd n ks) :=
 ⟨tY.2 ⟨⟨h1,h2⟩,fun k hk=>(h6 k hk).wf⟩,h3,vX.2 ⟨h4,fun k hk=>(h6 k hk).tys⟩,vX.2 ⟨h5,fun k hk=>(h6 k hk).mgs⟩⟩
structure Cxt (u:Int) (D:List yy.T):Prop where
 hu:1<=u
 hu2:u<=1000000000000000000000000
 hD:dE [] D=0
 hd4:D.length<=4
theorem Zm {u:Int} {D:List yy.T} (c:Cxt u D) {q:List Int} (hq:okQ D q) (t:Tree):OKT u D t->Inv u D q t:=by
 refine Tree.ind (P:=fun t=>OKT u D t->Inv u D q t) (fun n ks ih h=>?_) t;obtain ⟨⟨h1,h2⟩,h3⟩:=tY.1 h.wf;have htop:wh ks n=.nd n ks:=by
  unfold wh;rw[h1,Nat.sub_self]; rfl
 have hm:=(vX.1 h.mgs).1;have:=(Ui FU (by decide) c.hu c.hu2 (p:=(ByteArray.empty,D,0,[])) c.hD c.hd4 hq (st:=ks) (n:=n) (by show wD D.length n ks.length=0; rw[h1]; exact h2) (fun k hk=>ih k hk (h.kid hk)) (by
  show ZO u D (wh ks n)=0;rw[htop];unfold ZO;rw[decide_eq_false (by have:vj (Tree.nd n ks).root (mag u D (Tree.nd n ks))<=BND:=hm; omega)]; rfl)).1
 rw[htop] at this;exact this
theorem Vo {t:Tree} (h:tyE t=0):ty t≠-1:=by
 intro e;unfold tyE at h;rw[e] at h;exact absurd (show (80:Int)=0 from h) (by decide)
theorem qS {a:Int} {r:List Int} (h:uY (a::r)≠-1):uY (a::r)=a/\∀x∈r,x=a:=by
 have e:uY (a::r)=bif r.all (fun x=>x==a) then a else -1:=rfl
 rw[e] at h ⊢;cases hb:r.all (fun x=>x==a) with
 | false=>rw[hb] at h; exact absurd rfl h
 | true =>
  refine ⟨rfl,fun x hx=>?_⟩;have:=List.all_eq_true.1 hb x hx;simpa using this
theorem zdf {u:Int} {D:List yy.T} (t:Tree):OKT u D t->(wJ t).1=true->ty t=if (wJ t).2 then 1 else 0:=by
 refine Tree.ind (P:=fun t=>OKT u D t->(wJ t).1=true->ty t=if (wJ t).2 then 1 else 0) (fun n ks ih h hf=>?_) t;obtain ⟨⟨h1,h2⟩,h3⟩:=tY.1 h.wf;obtain ⟨g1,g2,g3,g4,g5,g6,g7,g8⟩:=xF h2;have hne:=Vo (vX.1 h.tys).1;rw[tc] at hf ⊢;rw[tG] at hne ⊢;unfold UW at hf ⊢;cases hq:isQ n with
 | true=>rw[hq] at hf; cases hf
 | false =>
 rw[hq] at hf;simp only[cond_false] at hf ⊢;have hk:∀k∈ks,(wJ k).1=true:=fun k hk=>List.all_eq_true.1 hf _ (List.mem_map.2 ⟨k,hk,rfl⟩)
 have hty:∀k∈ks,ty k=if (wJ k).2 then 1 else 0:=fun k hkm=>ih k hkm (h.kid hkm) (hk k hkm)
 have alike:∀(a:Tree) (r:List Tree),ks=a::r->(nK n==2)=false->tyN n (ks.map ty)=uY (ks.map ty)->tyN n (ks.map ty)=if (nK n==2||(ks.map wJ).any (·.2))=true then 1 else 0:=by
  intro a r e h2' e2;rw[e2] at hne ⊢;subst e;simp only[List.map_cons] at hne ⊢;obtain ⟨o1,o2⟩:=qS hne;rw[o1,h2',Bool.false_or,hty a (by simp),List.any_cons];have hall:∀x∈r,(wJ x).2=(wJ a).2:=by
   intro x hx;have e3:=o2 (ty x) (List.mem_map.2 ⟨x,hx,rfl⟩);rw[hty x (by simp[hx]),hty a (by simp)] at e3;cases hx2:(wJ x).2<;>cases ha2:(wJ a).2<;>rw[hx2,ha2] at e3<;>first | rfl | (simp at e3)
  cases ha:(wJ a).2 with
  | true=>simp
  | false =>
   have:(r.map wJ).any (·.2)=false:=by
    rw[List.any_eq_false];intro y hy;obtain ⟨x,hx,rfl⟩:=List.mem_map.1 hy;rw[hall x hx,ha]; simp
   rw[this]; rfl
 rcases v8 g1 with hh | hh | hh | hh | hh | hh | hh | hh | hh | hh | hh | hh | hh | hh | hh | hh
 ·have:ks=[]:=List.eq_nil_of_length_eq_zero (by rw[h1,z8 hh]; rfl)
  subst this;unfold tyN; rw[hh]; rfl
 ·have:ks=[]:=List.eq_nil_of_length_eq_zero (by rw[h1,z8 hh]; rfl)
  subst this;unfold tyN; rw[hh]; rfl
 ·unfold isQ at hq; rw[hh] at hq; cases hq
 ·unfold isQ at hq; rw[hh] at hq; cases hq
 ·have hl:ks.length=1:=by rw[h1,z8 hh]; rfl
  obtain ⟨a,e⟩:=List.length_eq_one_iff.1 hl;exact alike a [] e (by rw[hh]; rfl) (by unfold tyN; rw[hh]; rfl)
 ·have hl:ks.length=2:=by rw[h1,z8 hh]; rfl
  obtain ⟨a,b,e⟩:=Zp hl;exact alike a [b] e (by rw[hh]; rfl) (by unfold tyN; rw[hh]; rfl)
 ·have hl:ks.length=2:=by rw[h1,z8 hh]; rfl
  obtain ⟨a,b,e⟩:=Zp hl;exact alike a [b] e (by rw[hh]; rfl) (by unfold tyN; rw[hh]; rfl)
 ·have hl:ks.length=2:=by rw[h1,z8 hh]; rfl
  obtain ⟨a,b,e⟩:=Zp hl;subst e;have et:tyN n ([a,b].map ty)=ZX (ty a) (ty b):=by unfold tyN; rw[hh]; rfl
  rw[et] at hne ⊢;rw[hh,hty a (by simp),hty b (by simp)] at*;simp only[List.map_cons,List.map_nil,List.any_cons,List.any_nil,Bool.or_false];cases ha:(wJ a).2<;>cases hb:(wJ b).2<;>first | rfl | (rw[ha,hb] at hne; exact absurd rfl hne)
 ·have h2k:2<=ks.length:=by
   rw[uc hh] at g4;have g4:(decide (nC n>=2)&&decide (nC n<=16))=true:=g4;simp at g4;rw[h1,z8 hh];show 2<=(nC n).toNat;omega
  obtain ⟨a,r,e⟩:∃a r,ks=a::r:=by
   cases hks:ks with
   | nil=>rw[hks] at h2k; simp at h2k
   | cons a r=>exact ⟨a,r,rfl⟩
  exact alike a r e (by rw[hh]; rfl) (by unfold tyN; rw[hh]; rfl)
 ·have h2k:2<=ks.length:=by
   rw[uc hh] at g4;have g4:(decide (nC n>=2)&&decide (nC n<=16))=true:=g4;simp at g4;rw[h1,z8 hh];show 2<=(nC n).toNat;omega
  obtain ⟨a,r,e⟩:∃a r,ks=a::r:=by
   cases hks:ks with
   | nil=>rw[hks] at h2k; simp at h2k
   | cons a r=>exact ⟨a,r,rfl⟩
  exact alike a r e (by rw[hh]; rfl) (by unfold tyN; rw[hh]; rfl)
 all_goals (
  have hl:1<=ks.length:=by rw[h1,z8 hh]; first | exact Nat.le_refl 1 | exact (by decide:1<=3)
  obtain ⟨a,r,e⟩:∃a r,ks=a::r:=by
   cases hks:ks with
   | nil=>rw[hks] at hl; simp at hl
   | cons a r=>exact ⟨a,r,rfl⟩
  subst e;have hta:=hty a (by simp);have hcn:w9 (ty a)=false:=by rw[hta]; cases (wJ a).2<;>rfl)
 ·exfalso; apply hne; unfold tyN; rw[hh]; show (bif w9 (ty a) then ty a else -1)=-1; rw[hcn]; rfl
 ·exfalso; apply hne; unfold tyN; rw[hh]; show (bif w9 (ty a) then ty a else -1)=-1; rw[hcn]; rfl
 ·exfalso; apply hne; unfold tyN; rw[hh]; show (bif w9 (ty a) then (1:Int) else -1)=-1; rw[hcn]; rfl
 ·exfalso; apply hne; unfold tyN; rw[hh]; show (bif w9 (ty a) then (1:Int) else -1)=-1; rw[hcn]; rfl
 ·have hr:r=[]:=List.eq_nil_of_length_eq_zero (by
   have:(a::r).length=1:=by rw[h1,z8 hh]; rfl
   simpa using this)
  subst hr;have et:tyN n ([a].map ty)=bif ty a==1 then 1 else -1:=by unfold tyN; rw[hh]; rfl
  rw[et] at hne ⊢;rw[hta] at hne ⊢;rw[hh];simp only[List.map_cons,List.map_nil,List.any_cons,List.any_nil,Bool.or_false];cases ha:(wJ a).2<;>first | rfl | (rw[ha] at hne; exact absurd rfl hne)
 ·exfalso; apply hne; unfold tyN; rw[hh]; show (bif w9 (ty a) then uY (r.map ty) else -1)=-1; rw[hcn]; rfl
theorem Vc {u:Int} {D:List yy.T} {n:zb.T} {ks:List Tree} (h:OKT u D (.nd n ks)) (hf:(wJ (.nd n ks)).1=true) :
  (∀k∈ks,(wJ k).1=true)/\(nK n=1\/nK n=2\/nK n=5\/nK n=6\/nK n=7\/nK n=8\/nK n=9\/nK n=10\/nK n=15):=by
 obtain ⟨⟨h1,h2⟩,h3⟩:=tY.1 h.wf;obtain ⟨g1,g2,g3,g4,g5,g6,g7,g8⟩:=xF h2;have hne:=Vo (vX.1 h.tys).1;rw[tc] at hf;rw[tG] at hne;unfold UW at hf;cases hq:isQ n with
 | true=>rw[hq] at hf; cases hf
 | false =>
 rw[hq] at hf;simp only[cond_false] at hf;have hk:∀k∈ks,(wJ k).1=true:=fun k hk=>List.all_eq_true.1 hf _ (List.mem_map.2 ⟨k,hk,rfl⟩)
 refine ⟨hk,?_⟩;have no:∀(k:Int),nK n=k->1<=ks.length->(tyN n (ks.map ty)=if w9 ((ks.map ty).getD 0 0) then tyN n (ks.map ty) else -1)->False:=by
  intro k hh hl e;obtain ⟨a,r,e'⟩:∃a r,ks=a::r:=by
   cases hks:ks with
   | nil=>rw[hks] at hl; simp at hl
   | cons a r=>exact ⟨a,r,rfl⟩
  subst e';have hta:=zdf a (h.kid (by simp)) (hk a (by simp));have hcn:w9 (ty a)=false:=by rw[hta]; cases (wJ a).2<;>rfl
  simp only[List.map_cons,List.getD_cons_zero,hcn] at e;exact hne e
 have cond_if:∀(b:Bool) (x:Int),(bif b then x else -1)=if b then (bif b then x else -1) else -1:=fun b x=>by cases b<;>rfl
 rcases v8 g1 with hh | hh | hh | hh | hh | hh | hh | hh | hh | hh | hh | hh | hh | hh | hh | hh
 ·exact .inl hh
 ·exact .inr (.inl hh)
 ·unfold isQ at hq; rw[hh] at hq; cases hq
 ·unfold isQ at hq; rw[hh] at hq; cases hq
 ·simp[hh]
 ·simp[hh]
 ·simp[hh]
 ·simp[hh]
 ·simp[hh]
 ·simp[hh]
 ·exact (no 11 hh (by rw[h1,z8 hh]; exact Nat.le_refl 1) (by unfold tyN; rw[hh]; exact cond_if _ _)).elim
 ·exact (no 12 hh (by rw[h1,z8 hh]; exact Nat.le_refl 1) (by unfold tyN; rw[hh]; exact cond_if _ _)).elim
 ·exact (no 13 hh (by rw[h1,z8 hh]; exact Nat.le_refl 1) (by unfold tyN; rw[hh]; exact cond_if _ _)).elim
 ·exact (no 14 hh (by rw[h1,z8 hh]; exact Nat.le_refl 1) (by unfold tyN; rw[hh]; exact cond_if _ _)).elim
 ·simp[hh]
 ·exact (no 16 hh (by rw[h1,z8 hh]; exact (by decide:1<=3)) (by unfold tyN; rw[hh]; exact cond_if _ _)).elim
end Go.VS
