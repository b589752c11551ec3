import Derived.Test.YtiliboioeieeoaaGreatDoorQO10
set_option linter.unusedVariables false
set_option linter.unusedSimpArgs false
set_option linter.unusedSectionVars false
set_option linter.unusedVariables false
set_option linter.unusedSimpArgs false
set_option maxRecDepth 100000
namespace Go.VS
open Go
theorem WM {k a:Int} (hk:1<=k):decide (k*a<0)=decide (a<0):=by
 by_cases h:a<0
 ·rw[decide_eq_true h,decide_eq_true]
  exact Int.mul_neg_of_pos_of_neg (by omega) h
 ·rw[decide_eq_false h,decide_eq_false]
  have:=Int.mul_nonneg (a:=k) (b:=a) (by omega) (by omega);omega
theorem zbE {k a b:Int} (hk:1<=k):dsg (k*a) (k*b)=dsg a b:=by
 unfold dsg;rw[WM hk,WM hk]
theorem zdx {k a b:Int} (hk:1<=k):aQ (k*a) (k*b)=aQ a b:=by
 unfold aQ;rw[Int.natAbs_mul,Int.natAbs_mul];push_cast;exact Int.mul_ediv_mul_of_pos _ _ (by omega)
theorem zdw {k a b:Int} (hk:1<=k):aR (k*a) (k*b)=k*aR a b:=by
 unfold aR;rw[Int.natAbs_mul,Int.natAbs_mul];push_cast;rw[Int.mul_emod_mul_of_pos _ _ (by omega),show ((k.natAbs:Nat):Int)=k by omega]
theorem zc7 {k a b:Int} (hk:1<=k):tq (k*a) (k*b)=tq a b:=by
 unfold tq;rw[zbE hk,zdx hk]
theorem zc5 {k a b:Int} (hk:1<=k):tr (k*a) (k*b)=k*tr a b:=by
 unfold tr;rw[WM hk,zdw hk];cases decide (a<0) with
 | true=>simp only[cond_true]; rw[Int.mul_neg]
 | false=>rfl
theorem Qt {k x:Int} (hk:1<=k):decide (k*x=0)=decide (x=0):=by
 refine decide_eq_decide.2 ?_;rw[Int.mul_eq_zero];omega
theorem Uj {k:Int} (hk:1<=k):∀(l:List Int) (m:Int),Yx (k*m) (l.map (k*·))=k*Yx m l
 | [],m=>rfl
 | x::r,m=>by
  have ih:=Uj hk r (if x<m then x else m);show Yx (if k*x<k*m then k*x else k*m) (r.map (k*·))=k*Yx (if x<m then x else m) r
  rw[<-ih];congr 1
  by_cases h:x<m
  ·rw[if_pos h,if_pos (Int.mul_lt_mul_of_pos_left h (by omega))]
  ·rw[if_neg h,if_neg]
   have:=Int.mul_le_mul_of_nonneg_left (c:=k) (show m<=x by omega) (by omega);omega
theorem Ul {k:Int} (hk:1<=k):∀(l:List Int) (m:Int),tI (k*m) (l.map (k*·))=k*tI m l
 | [],m=>rfl
 | x::r,m=>by
  have ih:=Ul hk r (if x>m then x else m);show tI (if k*x>k*m then k*x else k*m) (r.map (k*·))=k*tI (if x>m then x else m) r
  rw[<-ih];congr 1
  by_cases h:x>m
  ·rw[if_pos h,if_pos (Int.mul_lt_mul_of_pos_left h (by omega))]
  ·rw[if_neg h,if_neg]
   have:=Int.mul_le_mul_of_nonneg_left (c:=k) (show x<=m by omega) (by omega);omega
theorem QK {k:Int} (hk:1<=k) (l:List Int):qG (l.map (k*·))=k*qG l:=by
 cases l with
 | nil=>show (0:Int)=k*0; omega
 | cons a r=>exact Uj hk r a
theorem QM {k:Int} (hk:1<=k) (l:List Int):vJ (l.map (k*·))=k*vJ l:=by
 cases l with
 | nil=>show (0:Int)=k*0; omega
 | cons a r=>exact Ul hk r a
theorem okt_dv {u S:Int} (hS0:0<=S) (hu:u=10000^S.toNat) {D:List yr.T} {q:List Int} (t:Tree):OKT u D t->deep t<=S->Dv S u D q t:=by
 refine Tree.ind (P:=fun t=>OKT u D t->deep t<=S->Dv S u D q t) (fun n ks ih h hd=>?_) t;exact step_dv hS0 hu h.node h.len hd fun k hk=>ih k hk (h.kid hk) (by have:=qU (n:=n) hk; omega)
def scV (k:Int) (t:Tree) (v:Int):Int:=bif ty t==1 then k*v else v
theorem zcW {u v k S:Int} (hS0:0<=S) (hv:v=10000^S.toNat) (hk:1<=k) (hu:u=k*v) {D:List yr.T} {q:List Int} (t:Tree):OKT v D t->deep t<=S->ev u D q t=scV k t (ev v D q t):=by
 refine Tree.ind (P:=fun t=>OKT v D t->deep t<=S->ev u D q t=scV k t (ev v D q t)) (fun n ks ih h hd=>?_) t;obtain ⟨g1,g2,g3,g4,g5,g6,g7,g8⟩:=xB h.node;have hdk:∀x∈ks,deep x<=S:=fun x hx=>by have:=qU (n:=n) hx; omega
 have IH:∀x∈ks,ev u D q x=scV k x (ev v D q x):=fun x hx=>ih x hx (h.kid hx) (hdk x hx)
 have hne:=h.tyne;have hdv:∀x∈ks,Dv S v D q x:=fun x hx=>okt_dv hS0 hv x (h.kid hx) (hdk x hx)
 have T:ty (.nd n ks)=tyN n (ks.map ty):=tB n ks;rw[vY,vY];unfold scV;rw[T];have alike:(nK n=5\/nK n=6\/nK n=7\/nK n=9\/nK n=10)->∀x∈ks,ty x=tyN n (ks.map ty):=by
  intro hh;have e:∀vs:List Int,tyN n vs=uU vs:=by
   intro vs; unfold tyN; rcases hh with hh | hh | hh | hh | hh<;>(rw[hh]; rfl)
  rw[e] at hne ⊢;cases hks:ks with
  | nil=>intro x hx; cases hx
  | cons a r =>
   rw[hks,List.map_cons] at hne;obtain ⟨o1,o2⟩:=qK hne;intro x hx;rw[List.map_cons,o1];rcases List.mem_cons.1 hx with rfl | hx
   ·rfl
   ·exact o2 _ (List.mem_map.2 ⟨x,hx,rfl⟩)
 have maps:(∀x∈ks,ty x=tyN n (ks.map ty))->ks.map (ev u D q)=(ks.map (ev v D q)).map (fun y=>bif tyN n (ks.map ty)==1 then k*y else y):=by
  intro ha;rw[List.map_map];refine List.map_congr_left fun x hx=>?_
  rw[IH x hx];unfold scV;rw[ha x hx]; rfl
 have cnt1:∀x:Tree,wR (ty x)=true->(ty x==1)=false:=by
  intro x hx;unfold wR at hx;have:=of_decide_eq_true hx;rw[beq_eq_false_iff_ne]; omega
 have same0:∀x∈ks,wR (ty x)=true->ev u D q x=ev v D q x:=by
  intro x hx hc;rw[IH x hx]; unfold scV;rw[cnt1 x hc]; rfl
 have lin:∀(f:List Int->Int),(nK n=5\/nK n=6\/nK n=7\/nK n=9\/nK n=10)->(∀u vs,evN u D q n vs=f vs)->(∀l:List Int,f (l.map (k*·))=k*f l)->evN u D q n (ks.map (ev u D q))=bif tyN n (ks.map ty)==1 then k*evN v D q n (ks.map (ev v D q)) else evN v D q n (ks.map (ev v D q)):=by
  intro f hh hf hl;rw[hf,hf,maps (alike hh)];cases tyN n (ks.map ty)==1 with
  | true=>simp only[cond_true]; exact hl _
  | false=>simp only[cond_false,List.map_id']
 have getk:∀(l:List Int) (i:Nat),(l.map (k*·)).getD i 0=k*l.getD i 0:=by
  intro l i;rw[List.getD_eq_getElem?_getD,List.getD_eq_getElem?_getD,List.getElem?_map];cases l[i]? with
  | none=>show (0:Int)=k*0; omega
  | some x=>rfl
 rcases ue g1 with hh | hh | hh | hh | hh | hh | hh | hh | hh | hh | hh | hh | hh | hh | hh | hh
 ·have e1:tyN n (ks.map ty)=0:=by unfold tyN; rw[hh]; rfl
  rw[e1];show _=evN v D q n (ks.map (ev v D q));unfold evN; rw[hh]; rfl
 ·have e1:tyN n (ks.map ty)=1:=by unfold tyN; rw[hh]; rfl
  have e:∀(u:Int) vs,evN u D q n vs=nN n*u:=fun u vs=>by unfold evN; rw[hh]; rfl
  rw[e1,e,e,hu];show nN n*(k*v)=k*(nN n*v);rw[<-Int.mul_assoc,Int.mul_comm (nN n) k,Int.mul_assoc]
 ·have e1:tyN n (ks.map ty)=2+2*nN n:=by unfold tyN; rw[hh]; rfl
  rw[e1,show ((2+2*nN n:Int)==1)=false by rw[beq_eq_false_iff_ne]; omega];show _=evN v D q n (ks.map (ev v D q));unfold evN; rw[hh]; rfl
 ·have e1:tyN n (ks.map ty)=3+2*nN n:=by unfold tyN; rw[hh]; rfl
  rw[e1,show ((3+2*nN n:Int)==1)=false by rw[beq_eq_false_iff_ne]; omega];show _=evN v D q n (ks.map (ev v D q));unfold evN; rw[hh]; rfl
 ·exact lin (fun vs=>0-vs.getD 0 0) (by simp[hh]) (fun u vs=>by unfold evN; rw[hh]; rfl) fun l=>by
   show 0-(l.map (k*·)).getD 0 0=k*(0-l.getD 0 0)
   rw[getk,Int.mul_sub]; omega
 ·exact lin (fun vs=>vs.getD 0 0+vs.getD 1 0) (by simp[hh]) (fun u vs=>by unfold evN; rw[hh]; rfl) fun l=>by
   show (l.map (k*·)).getD 0 0+(l.map (k*·)).getD 1 0=k*(l.getD 0 0+l.getD 1 0)
   rw[getk,getk,Int.mul_add]
 ·exact lin (fun vs=>vs.getD 0 0-vs.getD 1 0) (by simp[hh]) (fun u vs=>by unfold evN; rw[hh]; rfl) fun l=>by
   show (l.map (k*·)).getD 0 0-(l.map (k*·)).getD 1 0=k*(l.getD 0 0-l.getD 1 0)
   rw[getk,getk,Int.mul_sub]
 ·obtain ⟨a,b,rfl⟩:=Zd (show ks.length=2 by rw[h.len,yh hh]; rfl)
  have e:∀(u x y:Int),evN u D q n [x,y]=x*y:=fun u x y=>by unfold evN; rw[hh]; rfl
  have et:∀x y:Int,tyN n [x,y]=ZN x y:=fun x y=>by unfold tyN; rw[hh]; rfl
  have ha:=Va ((h.kid (k:=a) (by simp)).tys a (Tl a));have hb:=Va ((h.kid (k:=b) (by simp)).tys b (Tl b));simp only[List.map_cons,List.map_nil] at hne ⊢;rw[et] at hne ⊢;rw[e,e,IH a (by simp),IH b (by simp)];unfold scV;generalize ev v D q a=x;generalize ev v D q b=y;generalize ty a=A at*;generalize ty b=B at*;have m1:k*x*y=k*(x*y):=Int.mul_assoc ..;have m2:x*(k*y)=k*(x*y):=by rw[<-Int.mul_assoc,Int.mul_comm x k,Int.mul_assoc]
  unfold ZN at hne ⊢;cases a0:(A==0) with
  | true =>
   have:A=0:=by simpa using a0
   subst this;show (bif (0:Int)==1 then k*x else x)*(bif B==1 then k*y else y)=bif B==1 then k*(x*y) else x*y
   cases B==1
   ·rfl
   ·exact m2
  | false =>
   rw[a0] at hne;simp only[cond_false] at hne ⊢;cases b0:(B==0) with
   | true =>
    have:B=0:=by simpa using b0
    subst this;show (bif A==1 then k*x else x)*(bif (0:Int)==1 then k*y else y)=bif A==1 then k*(x*y) else x*y
    cases A==1
    ·rfl
    ·exact m1
   | false =>
    rw[b0] at hne;simp only[cond_false] at hne ⊢;cases c1:(wR A&&B==1) with
    | true =>
     simp only[Bool.and_eq_true,beq_iff_eq] at c1;obtain ⟨c1,rfl⟩:=c1;have:(A==1)=false:=by
      unfold wR at c1;have:=of_decide_eq_true c1;rw[beq_eq_false_iff_ne]; omega
     rw[this];exact m2
    | false =>
     rw[c1] at hne;simp only[cond_false] at hne ⊢;cases c2:(wR B&&A==1) with
     | true =>
      simp only[Bool.and_eq_true,beq_iff_eq] at c2;obtain ⟨c2,rfl⟩:=c2;have:(B==1)=false:=by
       unfold wR at c2;have:=of_decide_eq_true c2;rw[beq_eq_false_iff_ne]; omega
      rw[this];exact m1
     | false=>rw[c2] at hne; exact absurd rfl hne
 ·exact lin qG (by simp[hh]) (fun u vs=>by unfold evN; rw[hh]; rfl) (QK hk)
 ·exact lin vJ (by simp[hh]) (fun u vs=>by unfold evN; rw[hh]; rfl) (QM hk)
 all_goals (
  obtain ⟨a,r,hks⟩:∃a r,ks=a::r:=by
   have hl:=h.len;rw[yh hh] at hl;cases ks with
   | nil=>first | exact absurd (show 0=1 from hl) (by decide) | exact absurd (show 0=3 from hl) (by decide)
   | cons a r=>exact ⟨a,r,rfl⟩
  subst hks;simp only[List.map_cons] at hne ⊢)
 ·have et:∀x r,tyN n (x::r)=bif wR x then x else -1:=fun x r=>by unfold tyN; rw[hh]; rfl
  rw[et] at hne ⊢;cases hc:wR (ty a) with
  | false=>rw[hc] at hne; exact absurd rfl hne
  | true =>
   simp only[cond_true];rw[cnt1 a hc,same0 a (by simp) hc];have e:∀(u x:Int) r,evN u D q n (x::r)=vJ [0,x-nN n]:=fun u x r=>by unfold evN; rw[hh]; rfl
   rw[e,e]; rfl
 ·have et:∀x r,tyN n (x::r)=bif wR x then x else -1:=fun x r=>by unfold tyN; rw[hh]; rfl
  rw[et] at hne ⊢;cases hc:wR (ty a) with
  | false=>rw[hc] at hne; exact absurd rfl hne
  | true =>
   simp only[cond_true];rw[cnt1 a hc,same0 a (by simp) hc];have e:∀(u x:Int) r,evN u D q n (x::r)=qG [nN n,x]:=fun u x r=>by unfold evN; rw[hh]; rfl
   rw[e,e]; rfl
 ·have et:∀x r,tyN n (x::r)=bif wR x then 1 else -1:=fun x r=>by unfold tyN; rw[hh]; rfl
  rw[et] at hne ⊢;cases hc:wR (ty a) with
  | false=>rw[hc] at hne; exact absurd rfl hne
  | true =>
   simp only[cond_true];rw[same0 a (by simp) hc];have e:∀(u x:Int) r,evN u D q n (x::r)=u*UA x (nT n):=fun u x r=>by unfold evN; rw[hh]; rfl
   rw[e,e,hu,Int.mul_assoc]; rfl
 ·have et:∀x r,tyN n (x::r)=bif wR x then 1 else -1:=fun x r=>by unfold tyN; rw[hh]; rfl
  rw[et] at hne ⊢;cases hc:wR (ty a) with
  | false=>rw[hc] at hne; exact absurd rfl hne
  | true =>
   simp only[cond_true];rw[same0 a (by simp) hc];have e:∀(u x:Int) r,evN u D q n (x::r)=u*vol x (nT n):=fun u x r=>by unfold evN; rw[hh]; rfl
   rw[e,e,hu,Int.mul_assoc]; rfl
 ·have et:∀x r,tyN n (x::r)=bif x==1 then 1 else -1:=fun x r=>by unfold tyN; rw[hh]; rfl
  rw[et] at hne ⊢;cases hc:(ty a==1) with
  | false=>rw[hc] at hne; exact absurd rfl hne
  | true =>
   have h1:ty a=1:=by simpa using hc
   simp only[cond_true];have e:∀(u x:Int) r,evN u D q n (x::r)=Y6 2 (x*(10000-nN n)) 10000:=fun u x r=>by unfold evN; rw[hh]; rfl
   rw[e,e,IH a (by simp)];unfold scV;rw[hc];have hda:deep a+1<=S:=by
    have h2:=(X7 (ks:=a::r) (k:=a) (by simp)).2;have h3:deep (.nd n (a::r))=vJ ((a::r).map deep)+1:=by
     rw[uz,show (nK n==15)=true by rw[hh]; rfl]; rfl
    omega
   obtain ⟨c,hc⟩:=(hdv a (by simp)).mul h1 (e:=S-1) (by omega) (by omega);rw[show S-(S-1)=1 by omega] at hc;have hc:ev v D q a=c*10000:=hc;rw[hc];show Y6 2 (k*(c*10000)*(10000-nN n)) 10000=k*Y6 2 (c*10000*(10000-nN n)) 10000;have e3:c*10000*(10000-nN n)=c*(10000-nN n)*10000:=by
    rw[Int.mul_assoc,Int.mul_comm 10000,<-Int.mul_assoc]
   have e4:k*(c*10000)*(10000-nN n)=k*(c*(10000-nN n))*10000:=by
    rw[Int.mul_assoc,e3,<-Int.mul_assoc]
   rw[e3,e4,Zm (by decide),Zm (by decide)]
 ·have et:∀x r,tyN n (x::r)=bif wR x then uU r else -1:=fun x r=>by unfold tyN; rw[hh]; rfl
  obtain ⟨b,d,rfl⟩:=Zd (show r.length=2 by
   have hl:=h.len;rw[yh hh] at hl;have hl:r.length+1=3:=hl;omega)
  rw[et] at hne ⊢;cases hc:wR (ty a) with
  | false=>rw[hc] at hne; exact absurd rfl hne
  | true =>
   rw[hc] at hne;simp only[cond_true,List.map_cons,List.map_nil] at hne ⊢;obtain ⟨o1,o2⟩:=qK hne;have o2:=o2 (ty d) (by simp);rw[o1,same0 a (by simp) hc];have e:∀(u x y z:Int),evN u D q n [x,y,z]=bif qQ (nO n) x (nN n) then y else z:=fun u x y z=>by unfold evN; rw[hh]; rfl
   rw[e,e,IH b (by simp),IH d (by simp)];unfold scV;rw[o2];cases qQ (nO n) (ev v D q a) (nN n)<;>cases ty b==1<;>rfl
theorem Qg {u v k S:Int} (hS0:0<=S) (hv:v=10000^S.toNat) (hv1:1<=v) (hk:1<=k) (hu:u=k*v) {D:List yr.T} {q:List Int} {t:Tree} (h:OKT v D t) (hd:deep t<=S):Z0 u D q t=Z0 v D q t:=by
 unfold Z0;cases hf:(wq t).1 with
 | false=>rfl
 | true =>
  have hty:=Q2 t h hf;rw[zcW hS0 hv hk hu t h hd];unfold scV;rw[hty];cases hm:(wq t).2 with
  | false=>rfl
  | true =>
   show (bif qC t then none else bif !decide (tr (k*ev v D q t) u=0) then none else QP 2 (tq (k*ev v D q t) u) t)=_;rw[hu,zc5 hk,zc7 hk,Qt hk]; rfl
theorem QB {u v k S:Int} (hS0:0<=S) (hv:v=10000^S.toNat) (hv1:1<=v) (hk:1<=k) (hu:u=k*v) {D:List yr.T} {t:Tree} (h:OKT v D t) (hd:deep t<=S):tU u D t=tU v D t:=by
 unfold tU;rw[Qg hS0 hv hv1 hk hu h hd]
theorem OKT.sub {u:Int} {D:List yr.T} (t:Tree):OKT u D t->∀s∈t.subs,OKT u D s:=by
 refine Tree.ind (P:=fun t=>OKT u D t->∀s∈t.subs,OKT u D s) (fun n ks ih h=>?_) t;exact vH.2 ⟨h,fun k hk=>ih k hk (h.kid hk)⟩
end Go.VS
