import Derived.Test.YtiliboioeieeoaaGreatDoorQO10
set_option linter.unusedVariables false
set_option linter.unusedSimpArgs false
set_option linter.unusedSectionVars false
set_option linter.unusedVariables false
set_option linter.unusedSimpArgs false
set_option maxRecDepth 100000
namespace Go.VS
open Go
theorem WZ {k a:Int} (hk:1<=k):decide (k*a<0)=decide (a<0):=by
 by_cases h:a<0
 ·rw[decide_eq_true h,decide_eq_true]
  exact Int.mul_neg_of_pos_of_neg (by omega) h
 ·rw[decide_eq_false h,decide_eq_false]
  have:=Int.mul_nonneg (a:=k) (b:=a) (by omega) (by omega);omega
theorem Vg {k a b:Int} (hk:1<=k):dsg (k*a) (k*b)=dsg a b:=by
 unfold dsg;rw[WZ hk,WZ hk]
theorem zdS {k a b:Int} (hk:1<=k):aQ (k*a) (k*b)=aQ a b:=by
 unfold aQ;rw[Int.natAbs_mul,Int.natAbs_mul];push_cast;exact Int.mul_ediv_mul_of_pos _ _ (by omega)
theorem zdR {k a b:Int} (hk:1<=k):aR (k*a) (k*b)=k*aR a b:=by
 unfold aR;rw[Int.natAbs_mul,Int.natAbs_mul];push_cast;rw[Int.mul_emod_mul_of_pos _ _ (by omega),show ((k.natAbs:Nat):Int)=k by omega]
theorem zcn {k a b:Int} (hk:1<=k):tq (k*a) (k*b)=tq a b:=by
 unfold tq;rw[Vg hk,zdS hk]
theorem zcl {k a b:Int} (hk:1<=k):tr (k*a) (k*b)=k*tr a b:=by
 unfold tr;rw[WZ hk,zdR hk];cases decide (a<0) with
 | true=>simp only[cond_true]; rw[Int.mul_neg]
 | false=>rfl
theorem zc3 {k m q r b:Int} (hk:1<=k):awB m q (k*r) (k*b)=awB m q r b:=by
 have e:∀x:Int,((((k*x).natAbs:Nat)):Int)=k*(x.natAbs:Int):=by
  intro x;rw[Int.natAbs_mul];push_cast;rw[show ((k.natAbs:Nat):Int)=k by omega]
 unfold awB;rw[Vg hk,e,e];have e2:2*(k*((r.natAbs:Nat):Int))=k*(2*((r.natAbs:Nat):Int)):=by
  rw[<-Int.mul_assoc,Int.mul_comm 2 k,Int.mul_assoc]
 rw[e2];have l1:decide (k*((b.natAbs:Nat):Int)<k*(2*((r.natAbs:Nat):Int)))=decide (((b.natAbs:Nat):Int)<2*((r.natAbs:Nat):Int)):=by
  refine decide_eq_decide.2 ?_;exact Int.mul_lt_mul_left (by omega)
 have l2:decide (k*(2*((r.natAbs:Nat):Int))=k*((b.natAbs:Nat):Int))=decide (2*((r.natAbs:Nat):Int)=((b.natAbs:Nat):Int)):=by
  refine decide_eq_decide.2 ?_;exact ⟨fun h=>Int.eq_of_mul_eq_mul_left (by omega) h,fun h=>by rw[h]⟩
 rw[l1,l2]
theorem QK {k x:Int} (hk:1<=k):decide (k*x=0)=decide (x=0):=by
 refine decide_eq_decide.2 ?_;rw[Int.mul_eq_zero];omega
theorem zak {k m a b:Int} (hk:1<=k):tw m (k*a) (k*b)=tw m a b:=by
 unfold tw;rw[zcl hk,zcn hk,zc3 hk,Vg hk,QK hk]
theorem Uy {k:Int} (hk:1<=k):∀(l:List Int) (m:Int),YI (k*m) (l.map (k*·))=k*YI m l
 | [],m=>rfl
 | x::r,m=>by
  have ih:=Uy hk r (if x<m then x else m);show YI (if k*x<k*m then k*x else k*m) (r.map (k*·))=k*YI (if x<m then x else m) r
  rw[<-ih];congr 1
  by_cases h:x<m
  ·rw[if_pos h,if_pos (Int.mul_lt_mul_of_pos_left h (by omega))]
  ·rw[if_neg h,if_neg]
   have:=Int.mul_le_mul_of_nonneg_left (c:=k) (show m<=x by omega) (by omega);omega
theorem UB {k:Int} (hk:1<=k):∀(l:List Int) (m:Int),tN (k*m) (l.map (k*·))=k*tN m l
 | [],m=>rfl
 | x::r,m=>by
  have ih:=UB hk r (if x>m then x else m);show tN (if k*x>k*m then k*x else k*m) (r.map (k*·))=k*tN (if x>m then x else m) r
  rw[<-ih];congr 1
  by_cases h:x>m
  ·rw[if_pos h,if_pos (Int.mul_lt_mul_of_pos_left h (by omega))]
  ·rw[if_neg h,if_neg]
   have:=Int.mul_le_mul_of_nonneg_left (c:=k) (show x<=m by omega) (by omega);omega
theorem Q4 {k:Int} (hk:1<=k) (l:List Int):qN (l.map (k*·))=k*qN l:=by
 cases l with
 | nil=>show (0:Int)=k*0; omega
 | cons a r=>exact Uy hk r a
theorem Q6 {k:Int} (hk:1<=k) (l:List Int):vT (l.map (k*·))=k*vT l:=by
 cases l with
 | nil=>show (0:Int)=k*0; omega
 | cons a r=>exact UB hk r a
theorem okt_dv {u S:Int} (hS0:0<=S) (hu:u=10000^S.toNat) {D:List yy.T} {q:List Int} (t:Tree):OKT u D t->deep t<=S->Dv S u D q t:=by
 refine Tree.ind (P:=fun t=>OKT u D t->deep t<=S->Dv S u D q t) (fun n ks ih h hd=>?_) t;exact step_dv hS0 hu h.node h.len hd fun k hk=>ih k hk (h.kid hk) (by have:=Za (n:=n) hk; omega)
def scV (k:Int) (t:Tree) (v:Int):Int:=bif ty t==1 then k*v else v
theorem zdg {u v k S:Int} (hS0:0<=S) (hv:v=10000^S.toNat) (hk:1<=k) (hu:u=k*v) {D:List yy.T} {q:List Int} (t:Tree):OKT v D t->deep t<=S->ev u D q t=scV k t (ev v D q t):=by
 refine Tree.ind (P:=fun t=>OKT v D t->deep t<=S->ev u D q t=scV k t (ev v D q t)) (fun n ks ih h hd=>?_) t;obtain ⟨g1,g2,g3,g4,g5,g6,g7,g8⟩:=xF h.node;have hdk:∀x∈ks,deep x<=S:=fun x hx=>by have:=Za (n:=n) hx; omega
 have IH:∀x∈ks,ev u D q x=scV k x (ev v D q x):=fun x hx=>ih x hx (h.kid hx) (hdk x hx)
 have hne:=h.tyne;have hdv:∀x∈ks,Dv S v D q x:=fun x hx=>okt_dv hS0 hv x (h.kid hx) (hdk x hx)
 have T:ty (.nd n ks)=tyN n (ks.map ty):=tG n ks;rw[uk,uk];unfold scV;rw[T];have alike:(nK n=5\/nK n=6\/nK n=7\/nK n=9\/nK n=10)->∀x∈ks,ty x=tyN n (ks.map ty):=by
  intro hh;have e:∀vs:List Int,tyN n vs=uY vs:=by
   intro vs; unfold tyN; rcases hh with hh | hh | hh | hh | hh<;>(rw[hh]; rfl)
  rw[e] at hne ⊢;cases hks:ks with
  | nil=>intro x hx; cases hx
  | cons a r =>
   rw[hks,List.map_cons] at hne;obtain ⟨o1,o2⟩:=qS hne;intro x hx;rw[List.map_cons,o1];rcases List.mem_cons.1 hx with rfl | hx
   ·rfl
   ·exact o2 _ (List.mem_map.2 ⟨x,hx,rfl⟩)
 have maps:(∀x∈ks,ty x=tyN n (ks.map ty))->ks.map (ev u D q)=(ks.map (ev v D q)).map (fun y=>bif tyN n (ks.map ty)==1 then k*y else y):=by
  intro ha;rw[List.map_map];refine List.map_congr_left fun x hx=>?_
  rw[IH x hx];unfold scV;rw[ha x hx]; rfl
 have cnt1:∀x:Tree,w9 (ty x)=true->(ty x==1)=false:=by
  intro x hx;unfold w9 at hx;have:=of_decide_eq_true hx;rw[beq_eq_false_iff_ne]; omega
 have same0:∀x∈ks,w9 (ty x)=true->ev u D q x=ev v D q x:=by
  intro x hx hc;rw[IH x hx]; unfold scV;rw[cnt1 x hc]; rfl
 have lin:∀(f:List Int->Int),(nK n=5\/nK n=6\/nK n=7\/nK n=9\/nK n=10)->(∀u vs,evN u D q n vs=f vs)->(∀l:List Int,f (l.map (k*·))=k*f l)->evN u D q n (ks.map (ev u D q))=bif tyN n (ks.map ty)==1 then k*evN v D q n (ks.map (ev v D q)) else evN v D q n (ks.map (ev v D q)):=by
  intro f hh hf hl;rw[hf,hf,maps (alike hh)];cases tyN n (ks.map ty)==1 with
  | true=>simp only[cond_true]; exact hl _
  | false=>simp only[cond_false,List.map_id']
 have getk:∀(l:List Int) (i:Nat),(l.map (k*·)).getD i 0=k*l.getD i 0:=by
  intro l i;rw[List.getD_eq_getElem?_getD,List.getD_eq_getElem?_getD,List.getElem?_map];cases l[i]? with
  | none=>show (0:Int)=k*0; omega
  | some x=>rfl
 rcases v8 g1 with hh | hh | hh | hh | hh | hh | hh | hh | hh | hh | hh | hh | hh | hh | hh | hh
 ·have e1:tyN n (ks.map ty)=0:=by unfold tyN; rw[hh]; rfl
  rw[e1];show _=evN v D q n (ks.map (ev v D q));unfold evN; rw[hh]; rfl
 ·have e1:tyN n (ks.map ty)=1:=by unfold tyN; rw[hh]; rfl
  have e:∀(u:Int) vs,evN u D q n vs=nN n*u:=fun u vs=>by unfold evN; rw[hh]; rfl
  rw[e1,e,e,hu];show nN n*(k*v)=k*(nN n*v);rw[<-Int.mul_assoc,Int.mul_comm (nN n) k,Int.mul_assoc]
 ·have e1:tyN n (ks.map ty)=2+2*nN n:=by unfold tyN; rw[hh]; rfl
  rw[e1,show ((2+2*nN n:Int)==1)=false by rw[beq_eq_false_iff_ne]; omega];show _=evN v D q n (ks.map (ev v D q));unfold evN; rw[hh]; rfl
 ·have e1:tyN n (ks.map ty)=3+2*nN n:=by unfold tyN; rw[hh]; rfl
  rw[e1,show ((3+2*nN n:Int)==1)=false by rw[beq_eq_false_iff_ne]; omega];show _=evN v D q n (ks.map (ev v D q));unfold evN; rw[hh]; rfl
 ·exact lin (fun vs=>0-vs.getD 0 0) (by simp[hh]) (fun u vs=>by unfold evN; rw[hh]; rfl) fun l=>by
   show 0-(l.map (k*·)).getD 0 0=k*(0-l.getD 0 0)
   rw[getk,Int.mul_sub]; omega
 ·exact lin (fun vs=>vs.getD 0 0+vs.getD 1 0) (by simp[hh]) (fun u vs=>by unfold evN; rw[hh]; rfl) fun l=>by
   show (l.map (k*·)).getD 0 0+(l.map (k*·)).getD 1 0=k*(l.getD 0 0+l.getD 1 0)
   rw[getk,getk,Int.mul_add]
 ·exact lin (fun vs=>vs.getD 0 0-vs.getD 1 0) (by simp[hh]) (fun u vs=>by unfold evN; rw[hh]; rfl) fun l=>by
   show (l.map (k*·)).getD 0 0-(l.map (k*·)).getD 1 0=k*(l.getD 0 0-l.getD 1 0)
   rw[getk,getk,Int.mul_sub]
 ·obtain ⟨a,b,rfl⟩:=Zp (show ks.length=2 by rw[h.len,z8 hh]; rfl)
  have e:∀(u x y:Int),evN u D q n [x,y]=x*y:=fun u x y=>by unfold evN; rw[hh]; rfl
  have et:∀x y:Int,tyN n [x,y]=ZX x y:=fun x y=>by unfold tyN; rw[hh]; rfl
  have ha:=Vo ((h.kid (k:=a) (by simp)).tys a (Wo a));have hb:=Vo ((h.kid (k:=b) (by simp)).tys b (Wo b));simp only[List.map_cons,List.map_nil] at hne ⊢;rw[et] at hne ⊢;rw[e,e,IH a (by simp),IH b (by simp)];unfold scV;generalize ev v D q a=x;generalize ev v D q b=y;generalize ty a=A at*;generalize ty b=B at*;have m1:k*x*y=k*(x*y):=Int.mul_assoc ..;have m2:x*(k*y)=k*(x*y):=by rw[<-Int.mul_assoc,Int.mul_comm x k,Int.mul_assoc]
  unfold ZX at hne ⊢;cases a0:(A==0) with
  | true =>
   have:A=0:=by simpa using a0
   subst this;show (bif (0:Int)==1 then k*x else x)*(bif B==1 then k*y else y)=bif B==1 then k*(x*y) else x*y
   cases B==1
   ·rfl
   ·exact m2
  | false =>
   rw[a0] at hne;simp only[cond_false] at hne ⊢;cases b0:(B==0) with
   | true =>
    have:B=0:=by simpa using b0
    subst this;show (bif A==1 then k*x else x)*(bif (0:Int)==1 then k*y else y)=bif A==1 then k*(x*y) else x*y
    cases A==1
    ·rfl
    ·exact m1
   | false =>
    rw[b0] at hne;simp only[cond_false] at hne ⊢;cases c1:(w9 A&&B==1) with
    | true =>
     simp only[Bool.and_eq_true,beq_iff_eq] at c1;obtain ⟨c1,rfl⟩:=c1;have:(A==1)=false:=by
      unfold w9 at c1;have:=of_decide_eq_true c1;rw[beq_eq_false_iff_ne]; omega
     rw[this];exact m2
    | false =>
     rw[c1] at hne;simp only[cond_false] at hne ⊢;cases c2:(w9 B&&A==1) with
     | true =>
      simp only[Bool.and_eq_true,beq_iff_eq] at c2;obtain ⟨c2,rfl⟩:=c2;have:(B==1)=false:=by
       unfold w9 at c2;have:=of_decide_eq_true c2;rw[beq_eq_false_iff_ne]; omega
      rw[this];exact m1
     | false=>rw[c2] at hne; exact absurd rfl hne
 ·exact lin qN (by simp[hh]) (fun u vs=>by unfold evN; rw[hh]; rfl) (Q4 hk)
 ·exact lin vT (by simp[hh]) (fun u vs=>by unfold evN; rw[hh]; rfl) (Q6 hk)
 all_goals (
  obtain ⟨a,r,hks⟩:∃a r,ks=a::r:=by
   have hl:=h.len;rw[z8 hh] at hl;cases ks with
   | nil=>first | exact absurd (show 0=1 from hl) (by decide) | exact absurd (show 0=3 from hl) (by decide)
   | cons a r=>exact ⟨a,r,rfl⟩
  subst hks;simp only[List.map_cons] at hne ⊢)
 ·have et:∀x r,tyN n (x::r)=bif w9 x then x else -1:=fun x r=>by unfold tyN; rw[hh]; rfl
  rw[et] at hne ⊢;cases hc:w9 (ty a) with
  | false=>rw[hc] at hne; exact absurd rfl hne
  | true =>
   simp only[cond_true];rw[cnt1 a hc,same0 a (by simp) hc];have e:∀(u x:Int) r,evN u D q n (x::r)=vT [0,x-nN n]:=fun u x r=>by unfold evN; rw[hh]; rfl
   rw[e,e]; rfl
 ·have et:∀x r,tyN n (x::r)=bif w9 x then x else -1:=fun x r=>by unfold tyN; rw[hh]; rfl
  rw[et] at hne ⊢;cases hc:w9 (ty a) with
  | false=>rw[hc] at hne; exact absurd rfl hne
  | true =>
   simp only[cond_true];rw[cnt1 a hc,same0 a (by simp) hc];have e:∀(u x:Int) r,evN u D q n (x::r)=qN [nN n,x]:=fun u x r=>by unfold evN; rw[hh]; rfl
   rw[e,e]; rfl
 ·have et:∀x r,tyN n (x::r)=bif w9 x then 1 else -1:=fun x r=>by unfold tyN; rw[hh]; rfl
  rw[et] at hne ⊢;cases hc:w9 (ty a) with
  | false=>rw[hc] at hne; exact absurd rfl hne
  | true =>
   simp only[cond_true];rw[same0 a (by simp) hc];have e:∀(u x:Int) r,evN u D q n (x::r)=u*UQ x (nT n):=fun u x r=>by unfold evN; rw[hh]; rfl
   rw[e,e,hu,Int.mul_assoc]; rfl
 ·have et:∀x r,tyN n (x::r)=bif w9 x then 1 else -1:=fun x r=>by unfold tyN; rw[hh]; rfl
  rw[et] at hne ⊢;cases hc:w9 (ty a) with
  | false=>rw[hc] at hne; exact absurd rfl hne
  | true =>
   simp only[cond_true];rw[same0 a (by simp) hc];have e:∀(u x:Int) r,evN u D q n (x::r)=u*vol x (nT n):=fun u x r=>by unfold evN; rw[hh]; rfl
   rw[e,e,hu,Int.mul_assoc]; rfl
 ·have et:∀x r,tyN n (x::r)=bif x==1 then 1 else -1:=fun x r=>by unfold tyN; rw[hh]; rfl
  rw[et] at hne ⊢;cases hc:(ty a==1) with
  | false=>rw[hc] at hne; exact absurd rfl hne
  | true =>
   have h1:ty a=1:=by simpa using hc
   simp only[cond_true];have e:∀(u x:Int) r,evN u D q n (x::r)=tw 2 (x*(10000-nN n)) 10000:=fun u x r=>by unfold evN; rw[hh]; rfl
   rw[e,e,IH a (by simp)];unfold scV;rw[hc];have hda:deep a+1<=S:=by
    have h2:=(U6 (ks:=a::r) (k:=a) (by simp)).2;have h3:deep (.nd n (a::r))=vT ((a::r).map deep)+1:=by
     rw[uE,show (nK n==15)=true by rw[hh]; rfl]; rfl
    omega
   obtain ⟨c,hc⟩:=(hdv a (by simp)).mul h1 (e:=S-1) (by omega) (by omega);rw[show S-(S-1)=1 by omega] at hc;have hc:ev v D q a=c*10000:=hc;rw[hc];show tw 2 (k*(c*10000)*(10000-nN n)) 10000=k*tw 2 (c*10000*(10000-nN n)) 10000;have e3:c*10000*(10000-nN n)=c*(10000-nN n)*10000:=by
    rw[Int.mul_assoc,Int.mul_comm 10000,<-Int.mul_assoc]
   have e4:k*(c*10000)*(10000-nN n)=k*(c*(10000-nN n))*10000:=by
    rw[Int.mul_assoc,e3,<-Int.mul_assoc]
   rw[e3,e4,Zx (by decide),Zx (by decide)]
 ·have et:∀x r,tyN n (x::r)=bif w9 x then uY r else -1:=fun x r=>by unfold tyN; rw[hh]; rfl
  obtain ⟨b,d,rfl⟩:=Zp (show r.length=2 by
   have hl:=h.len;rw[z8 hh] at hl;have hl:r.length+1=3:=hl;omega)
  rw[et] at hne ⊢;cases hc:w9 (ty a) with
  | false=>rw[hc] at hne; exact absurd rfl hne
  | true =>
   rw[hc] at hne;simp only[cond_true,List.map_cons,List.map_nil] at hne ⊢;obtain ⟨o1,o2⟩:=qS hne;have o2:=o2 (ty d) (by simp);rw[o1,same0 a (by simp) hc];have e:∀(u x y z:Int),evN u D q n [x,y,z]=bif qY (nO n) x (nN n) then y else z:=fun u x y z=>by unfold evN; rw[hh]; rfl
   rw[e,e,IH b (by simp),IH d (by simp)];unfold scV;rw[o2];cases qY (nO n) (ev v D q a) (nN n)<;>cases ty b==1<;>rfl
theorem OKT.sub {u:Int} {D:List yy.T} (t:Tree):OKT u D t->∀s∈t.subs,OKT u D s:=by
 refine Tree.ind (P:=fun t=>OKT u D t->∀s∈t.subs,OKT u D s) (fun n ks ih h=>?_) t;exact vX.2 ⟨h,fun k hk=>ih k hk (h.kid hk)⟩
end Go.VS
