import Derived.Test.YtiliboioeieeoaaGreatDoorQO13A
import Derived.Test.YtiliboioeieeoaaGreatDoorQKb
set_option linter.unusedVariables false
set_option linter.unusedSimpArgs false
set_option linter.unusedSectionVars false
set_option linter.unusedVariables false
set_option linter.unusedSimpArgs false
set_option maxRecDepth 100000
namespace Go.VS
open Go
theorem fd_ev {p:zL.T} {t y:Tree} (fd:Fd p t y) (h1:ty t=1) (h6:deep t<=6) {q:List Int} (hq:okQ p.2.1 q) {k:Nat} (e:xH t=(10000:Int)^k*xH y) :
  ev (xH t) p.2.1 q t=10000^k*ev (xH y) p.2.1 q y:=by
 have hd:=fd.fk.deep;have hy:=(ud y).1;have hk:(1:Int)<=(10000:Int)^k:=by
  have:=Int.pow_pos (n:=10000) (m:=k) (by decide);omega
 rw[<-fd.fk.ev q hq,zdg hy (rfl:xH y=10000^(deep y).toNat) hk e y fd.okt (Int.le_refl _)];unfold scV;rw[fd.fk.ty,h1]; rfl
theorem zce {D:List yy.T} {t y:Tree} (h1:(wi D t).2.2=0) (h2:(wi D y).2.2=0) (q:List Int):(uf D y q).2=(uf D t q).2:=by
 unfold uf;rw[h1,h2];cases (q.length:Int) != (D.length:Int) with
 | true=>rfl
 | false =>
  cases q.any qB<;>rfl
theorem Yw {D:List yy.T} {t y:Tree} (h1:(wi D t).2.2=0) (h2:(wi D y).2.2=0) (q:List Int):(wM D y q).2=(wM D t q).2:=by
 unfold wM;rw[zce h1 h2];cases h:((uf D t q).2 != 0) with
 | true=>rfl
 | false=>rfl
theorem zbS {D:List yy.T} {t:Tree} (q:List Int) (h:(wM D t q).2≠0):(wM D t q).1=(0,0):=by
 unfold wM at*;cases h1:((uf D t q).2 != 0) with
 | true=>rfl
 | false=>rw[h1] at h; exact absurd rfl h
theorem zcz {p:zL.T} {t y:Tree} (fd:Fd p t y) (hu:(wi p.2.1 t).2.2=0) (h1:ty t=1) (h6:deep t<=6) (q:List Int) {k:Nat} (e:xH t=(10000:Int)^k*xH y):tA p.2.2.1 p.2.1 y q=tA p.2.2.1 p.2.1 t q:=by
 have hk:(1:Int)<=(10000:Int)^k:=by
  have:=Int.pow_pos (n:=10000) (m:=k) (by decide);omega
 have hu2:(wi p.2.1 y).2.2=0:=by rw[fd.unit]
 unfold tA;rw[Yw hu hu2];cases hx:((wM p.2.1 t q).2 != 0) with
 | true=>rfl
 | false =>
  have hx:(wM p.2.1 t q).2=0:=by simpa using hx
  obtain ⟨v1,v2,v3,v4⟩:=Xm (Wd hx).1;have hq:=SX v2 v3;simp only[cond_false];rw[fd_ev fd h1 h6 hq e,e];unfold QT;rw[zak hk]
theorem UA (F:Nat) {R:Type} (k0 k1 k2:Bool->Option R) (kk:Option R) {p:zL.T} {t y:Tree} (h:Good p t) (hu:(wi p.2.1 t).2.2=0) (fd:Fd p t y) {k:Nat} (e:xH t=(10000:Int)^k*xH y) (hk6:k<=6)
  (hP:∀q,xj.sh F p q=some (((tA p.2.2.1 p.2.1 t q).1,(tA p.2.2.1 p.2.1 t q).2,()),()))
  (hP2:∀q,xj.sh F (p.1,p.2.1,p.2.2.1,y.flat) q=some (((tA p.2.2.1 p.2.1 y q).1,(tA p.2.2.1 p.2.1 y q).2,()),()))
  (hX:∀q,xd.sh F p q=some (((wM p.2.1 t q).1,(wM p.2.1 t q).2,()),()))
  (hX2:∀q,xd.sh F (p.1,p.2.1,p.2.2.1,y.flat) q=some (((wM p.2.1 y q).1,(wM p.2.1 y q).2,()),()))
  (list:List (List Int)):∀(d i fu:Nat),i+d=256->d<fu->
  zr.l14 F k0 k1 k2 (fun _ _ _ _ _ _=>kk) fu list (i:Int) p (p.1,p.2.1,p.2.2.1,y.flat) (mk (10000^k))=kk
 | 0,i,fu+1,hi,hf=>by
  unfold zr.l14 zr.l14.body;cases decide ((i:Int)<(list.length:Int)) with
  | false=>rfl
  | true =>
   simp only[cond_true];rw[decide_eq_false (by omega)]; rfl
 | d+1,i,fu+1,hi,hf=>by
  have ih:=UA F k0 k1 k2 kk h hu fd e hk6 hP hP2 hX hX2 list d (i+1) fu (by omega) (by omega);obtain ⟨c,o,h1,h6⟩:=Wa h hu;have hu2:(wi p.2.1 y).2.2=0:=by rw[fd.unit]
  unfold zr.l14 zr.l14.body;cases hl:decide ((i:Int)<(list.length:Int)) with
  | false=>rfl
  | true =>
   have hl:=of_decide_eq_true hl;simp only[cond_true];rw[decide_eq_true (show (i:Int)<256 by omega),xm (show i<list.length by omega)];simp only[cond_true];generalize get (.sl (.int .i64)) list ((i:Int)).toNat=q;rw[hP,zp,hP2,zp];simp only;rw[zcz fd hu h1 h6 q e];simp only[bne_self_eq_false,cond_false];rw[hX,zp,hX2,zp];simp only;rw[Yw hu hu2];simp only[bne_self_eq_false,cond_false];have hkp:(1:Int)<=(10000:Int)^k:=by
    have:=Int.pow_pos (n:=10000) (m:=k) (by decide);omega
   have hkb:(10000:Int)^k<=1000000000000000000000000:=by
    have:k=0\/k=1\/k=2\/k=3\/k=4\/k=5\/k=6:=by omega
    rcases this with h | h | h | h | h | h | h<;>rw[h]<;>decide
   have wk:wfW (mk ((10000:Int)^k)):=xq (by rw[zP]; omega);cases hx:((wM p.2.1 t q).2==0) with
   | false =>
    have hxn:(wM p.2.1 y q).2≠0:=by rw[Yw hu hu2]; simpa using hx
    have w0:wfW ((0,0):Int×Int):=xq (v:=0) (by rw[zP]; omega);rw[zbS q hxn,qv F w0 wk,zp];simp only[cond_false];rw[yV (n:=(i:Int)+1) (by omega) (by omega)];exact ih
   | true =>
    have hx:(wM p.2.1 t q).2=0:=by simpa using hx
    have hxy:(wM p.2.1 y q).2=0:=by rw[Yw hu hu2]; exact hx
    obtain ⟨x1,x2⟩:=Wd hx;obtain ⟨v1,v2,v3,v4⟩:=Xm x1;have hq:=SX v2 v3;have hI:=Zm c hq t o;have hBND:BND=1329227995784915872903807060280344576:=rfl;have i1:=hI.lo;have i2:=hI.hi;have i3:=hI.bd;have hev:=fd_ev fd h1 h6 hq e;have hub:=tZ (t:=y) (by have:=fd.fk.deep; omega);have hIy:=Zm (u:=xH y) ⟨hub.1,hub.2,c.hD,c.hd4⟩ hq y fd.okt;have j1:=hIy.lo;have j2:=hIy.hi;have j3:=hIy.bd;have hin:inR (ev (xH t) p.2.1 q t)=true:=by rw[zP]; omega
    rw[x2,(Wd hxy).2];simp only;rw[qv F (xq (by rw[zP]; omega)) wk,xh,xh,Int.mul_comm,<-hev,zp];unfold v7 vQ;rw[hin];simp only[cond_true,beq_self_eq_true,Bool.and_true,Bool.not_true,cond_false];rw[show ((0:Int) != 0)=false from rfl,cond_false];rw[yV (n:=(i:Int)+1) (by omega) (by omega)];exact ih
theorem Ti (F:Nat) (hF:F=FU) (p:zL.T):∃r,zF.sh F p=some r:=by
 have hFb:4096<F:=by rw[hF]; exact vZ
 by_cases hc:(vd p).2=0
 ·obtain ⟨t,h⟩:=Qx hc
  exact ⟨_,Wl F hFb h⟩
 ·unfold zF.sh
  rw[Yc F (by omega),zp];simp only;rw[show ((vd p).2 != 0)=true by simpa using hc];exact ⟨_,rfl⟩
theorem QF (F:Nat) (hF:F=FU) {p:zL.T} {t:Tree} (h:Good p t) (q:List Int):xj.sh F p q=some (((tA p.2.2.1 p.2.1 t q).1,(tA p.2.2.1 p.2.1 t q).2,()),()):=by subst hF; exact zdV h q
theorem QG (F:Nat) (hF:F=FU) {p:zL.T} {t:Tree} (h:Good p t) (q:List Int):xd.sh F p q=some (((wM p.2.1 t q).1,(wM p.2.1 t q).2,()),()):=by subst hF; exact QH h q
theorem zdW (F:Nat) (hF:F=FU) {k:Int} (h1:0<=k) (h2:k<=9):zQ.sh F k=some ((mk (10000^k.toNat),0,()),()):=by subst hF; exact RO h1 h2
theorem zbG (F:Nat) (hF:F=FU) (ha:yx.sh F=some ((true,()),())) (p:zL.T) (list:List (List Int)):zr.sh F p list=some ((true,()),()):=by
 have hFb:4096<F:=by rw[hF]; exact vZ
 unfold zr.sh;rw[ha,zp,show (!(((true,()),()):(Bool×Unit)×Unit).1.1)=false from rfl,cond_false];obtain ⟨r,hr⟩:=Ti F hF (⟨#[]⟩,[],0,[]);obtain ⟨r',hr'⟩:=Ti F hF p;by_cases hc:(vd p).2=0
 ·obtain ⟨t,h⟩:=Qx hc
  rw[Fold_in F hF h,zp];simp only;cases hu:((wi p.2.1 t).2.2 != 0) with
  | true =>
   simp only[cond_true];rw[hr',zp,hr,zp]; rfl
  | false =>
   have hu:(wi p.2.1 t).2.2=0:=by simpa using hu
   have fd:=Qh h hu;obtain ⟨c,o,h1,h6⟩:=Wa h hu;simp only[cond_false];generalize Z8 p.2.1 t=y at*;have hd:=fd.fk.deep;have hy:=(ud y).1;obtain ⟨k,e,ek⟩:=Uc hd;rw[Wl F hFb h,zp,Wl F hFb fd.good,zp];simp only;rw[show ((0:Int) != 0)=false from rfl,cond_false,cond_false,decide_eq_false (show ¬deep y>deep t by omega),cond_false,yV (n:=deep t-deep y) (by omega) (by omega),zdW F hF (by omega) (by omega),zp];simp only;rw[show ((0:Int) != 0)=false from rfl,cond_false,show (deep t-deep y).toNat=k by omega];exact UA F _ _ _ _ h hu fd e (by omega) (fun q=>QF F hF h q) (fun q=>QF F hF fd.good q) (fun q=>QG F hF h q) (fun q=>QG F hF fd.good q) list 256 0 F (by omega) (by omega)
 ·rw[zdX F hF hc,zp,hr',zp]
  simp only;rw[hr,zp,show ((vd p).2 != 0)=true by simpa using hc];rfl
theorem zbF (p:zL.T) (list:List (List Int)):zr.sh FU p list=some ((true,()),()):=zbG FU rfl zdO p list
end Go.VS
