import Derived.Test.YtiliboioeieeoaaGreatDoorQO12
set_option linter.unusedVariables false
set_option linter.unusedSimpArgs false
set_option linter.unusedSectionVars false
set_option linter.unusedVariables false
set_option linter.unusedSimpArgs false
set_option maxRecDepth 100000
namespace Go.VS
open Go
theorem zad (x:ByteArray):(x==x)=true:=(Go.MapKept.bytes_beq x x).2 rfl
theorem Rg (F:Nat) (hF:F=FU) {p:zZ.T} {t:Tree} (h:Good p t):xa.sh F p=some ((bif (vq p.2.1 t).2.2 != 0 then ((⟨#[]⟩:ByteArray),[],0,[]) else (p.1,p.2.1,p.2.2.1,(Zx p.2.1 t).flat),(vq p.2.1 t).2.2,()),()):=by subst hF; exact Fold_eq h
theorem Qq (F:Nat) (hF:F=FU) {p:zZ.T} (h:(vf p).2≠0):xa.sh F p=some (((⟨#[]⟩,[],0,[]),(vf p).2,()),()):=by subst hF; exact zdC h
theorem zbT (F:Nat) (hF:F=FU) (p:zZ.T):∃r,xa.sh F p=some r:=by
 by_cases hc:(vf p).2=0
 ·obtain ⟨t,h⟩:=Qi hc
  exact ⟨_,Rg F hF h⟩
 ·exact ⟨_,Qq F hF hc⟩
theorem UN (F:Nat) {R:Type} (k0:Bool->Option R) (kk:Option R) (l:List yr.T) (hl:l.length<4611686018427387904):∀(d i fu:Nat),i+d=l.length->d<fu->
  zF.l4 F k0 (fun _ _ _ _ _=>kk) fu l l (l.length:Int) (i:Int)=kk
 | 0,i,fu+1,hi,hf=>by
  unfold zF.l4 zF.l4.body;rw[decide_eq_false (by omega)]; rfl
 | d+1,i,fu+1,hi,hf=>by
  have ih:=UN F k0 kk l hl d (i+1) fu (by omega) (by omega);unfold zF.l4 zF.l4.body;rw[decide_eq_true (show (i:Int)<(l.length:Int) by omega),xh (show i<l.length by omega)];simp only[cond_true,beq_self_eq_true,Bool.and_true];rw[zad];simp only[Bool.not_true,cond_false];rw[yT (n:=(i:Int)+1) (by omega) (by omega)];exact ih
theorem zcg (F:Nat) (n:zb.T) (h1:(nT n).length<F) (h2:(nT n).length<4611686018427387904):zp.d29 F vR (n,n,())=some ((true,()),()):=by
 show xf.sh F n n=_;unfold xf.sh;rw[beq_self_eq_true,beq_self_eq_true,beq_self_eq_true,beq_self_eq_true];simp only[cond_true];rw[T4 F h1 h2,zq];rw[decide_eq_true rfl]
theorem Vq (F:Nat) {R:Type} (k0:Bool->Option R) (kk:Option R) (l:List zb.T) (hl:l.length<4611686018427387904) (hn:∀n∈l,(nT n).length<F/\(nT n).length<4611686018427387904):∀(d i fu:Nat),i+d=l.length->d<fu->
  zp.l4 F k0 (fun _ _ _ _ _ _=>kk) fu l vR l (l.length:Int) (i:Int)=kk
 | 0,i,fu+1,hi,hf=>by
  unfold zp.l4 zp.l4.body;rw[decide_eq_false (by omega)]; rfl
 | d+1,i,fu+1,hi,hf=>by
  have ih:=Vq F k0 kk l hl hn d (i+1) fu (by omega) (by omega);have hm:get zb l ((i:Int)).toNat∈l:=by
   show l.getD i _∈l;rw[List.getD_eq_getElem?_getD,List.getElem?_eq_getElem (by omega)];exact List.getElem_mem (by omega)
  unfold zp.l4 zp.l4.body;rw[decide_eq_true (show (i:Int)<(l.length:Int) by omega),xh (show i<l.length by omega)];simp only[cond_true];rw[zcg F _ (hn _ hm).1 (hn _ hm).2,zq];simp only[Bool.not_true,cond_false];rw[yT (n:=(i:Int)+1) (by omega) (by omega)];exact ih
theorem zbc (F:Nat) (p:zZ.T) (hD:p.2.1.length<F) (hN:p.2.2.2.length<F) (h1:p.2.1.length<4611686018427387904) (h2:p.2.2.2.length<4611686018427387904) (hn:∀n∈p.2.2.2,(nT n).length<F/\(nT n).length<4611686018427387904) :
  xL.sh F p p=some ((true,()),()):=by
 have e1:zF.sh F p.2.1 p.2.1=some ((true,()),()):=by
  unfold zF.sh;rw[show (((p.2.1.length:Nat):Int) != ((p.2.1.length:Nat):Int))=false by simp,cond_false];exact UN F _ _ p.2.1 h1 p.2.1.length 0 F (by omega) (by omega)
 have e2:zp.sh F p.2.2.2 p.2.2.2 vR=some ((true,()),()):=by
  unfold zp.sh;rw[show (((p.2.2.2.length:Nat):Int) != ((p.2.2.2.length:Nat):Int))=false by simp,cond_false];exact Vq F _ _ p.2.2.2 h2 hn p.2.2.2.length 0 F (by omega) (by omega)
 unfold xL.sh;rw[beq_self_eq_true,beq_self_eq_true,e1,zq,e2,zq]; rfl
theorem RY {p:zZ.T} {t y:Tree} (fd:Fd p t y) (h6:deep t<=6):Zx p.2.1 y=y:=by
 have hd:=fd.fk.deep;have hy:=(uh y).1;have ub:=Xd (t:=y) (by omega);obtain ⟨k,e,_⟩:=VZ hd;have hk:(1:Int)<=(10000:Int)^k:=by
  have:=Int.pow_pos (n:=10000) (m:=k) (by decide);omega
 refine Vl FU y fun s hs=>?_
 rw[<-QB (u:=wu t) hy (rfl:wu y=10000^(deep y).toNat) ub.1 hk e (OKT.sub y fd.okt s hs) (zbH y s hs)];exact fd.clean s hs
theorem QY {dims:Nat} (t:Tree):WF dims t->∀n∈t.flat,(nT n).length<=16:=by
 refine Tree.ind (P:=fun t=>WF dims t->∀n∈t.flat,(nT n).length<=16) (fun n ks ih h=>?_) t;obtain ⟨⟨h1,h2⟩,h3⟩:=tA.1 h;intro m hm;rw[Zj,List.mem_append] at hm;rcases hm with hm | hm
 ·unfold yF at hm
  obtain ⟨l,hl,hml⟩:=List.mem_flatten.1 hm;obtain ⟨k,hk,rfl⟩:=List.mem_map.1 hl;exact ih k hk (h3 k hk) m hml
 ·rw[List.mem_singleton.1 hm]
  exact ZI h2
theorem zbP (F:Nat) (hF:F=FU) (ha:yw.sh F=some ((true,()),())) (p:zZ.T):zL.sh F p=some ((true,()),()):=by
 have hFb:4096<F:=by rw[hF]; exact uc
 unfold zL.sh;rw[ha,zq,show (!(((true,()),()):(Bool×Unit)×Unit).1.1)=false from rfl,cond_false];obtain ⟨r,hr⟩:=zbT F hF (⟨#[]⟩,[],0,[]);by_cases hc:(vf p).2=0
 ·obtain ⟨t,h⟩:=Qi hc
  rw[Rg F hF h,zq];simp only;cases hu:((vq p.2.1 t).2.2 != 0) with
  | true =>
   simp only[cond_true];rw[hr,zq]; rfl
  | false =>
   have hu:(vq p.2.1 t).2.2=0:=by simpa using hu
   have fd:=RX h hu;have h6:=(UB h hu).2.2.2;simp only[cond_false];generalize Zx p.2.1 t=y at*;rw[Rg F hF fd.good,zq];simp only;rw[fd.unit,RY fd h6];simp only;rw[show ((0:Int) != 0)=false from rfl,show ((0:Int)==0)=true from rfl];simp only[cond_false,cond_true];have hd:=(uY h.head).2.1;have hs:y.flat.length<=1024:=fd.okt.size;rw[zbc F (p.1,p.2.1,p.2.2.1,y.flat) (by show p.2.1.length<F; omega) (by show y.flat.length<F; omega) (by show p.2.1.length<_; omega) (by show y.flat.length<_; omega) (fun n hn=>by
    have:=QY y fd.okt.wf n hn;omega),zq]
 ·rw[Qq F hF hc,zq]
  simp only;rw[hr,zq,show ((vf p).2 != 0)=true by simpa using hc];rfl
theorem zbO (p:zZ.T):zL.sh FU p=some ((true,()),()):=zbP FU rfl zdt p
end Go.VS
