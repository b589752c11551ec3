import Derived.Test.YtiliboioeieeoaaGreatDoorQO10
import Derived.Test.YtiliboioeieeoaaGreatDoorQKa
set_option linter.unusedVariables false
set_option linter.unusedSimpArgs false
set_option linter.unusedSectionVars false
set_option linter.unusedVariables false
set_option linter.unusedSimpArgs false
set_option maxRecDepth 100000
namespace Go.VS
open Go
theorem Q8 (x:ByteArray):(x==x)=true:=(Go.MapKept.bytes_beq x x).2 rfl
theorem To:(bif (([]:List zb.T).length:Int)==0 then some ((((⟨#[]⟩:ByteArray).toList==(⟨#[]⟩:ByteArray).toList),()),()) else some ((false,()),()):Option zo.sg.R)=some ((true,()),()):=by
 rw[beq_self_eq_true]; rfl
theorem zaR (F:Nat) (hF:F=FU) {p:zQ.T} {t:Tree} (h:Good p t):xa.sh F p=some (((Zi p.2.1 t).1,(Zi p.2.1 t).2.1,(Zi p.2.1 t).2.2,()),()):=by subst hF; exact Mags_eq h
theorem zdd (F:Nat) (hF:F=FU) {p:zQ.T} (h:(wg p).2≠0):xa.sh F p=some (([],(wg p).1,(wg p).2,()),()):=by subst hF; exact zdc h
theorem Fold_at (F:Nat) (hF:F=FU) {p:zQ.T} {t:Tree} (h:Good p t):xc.sh F p=some ((bif (wo p.2.1 t).2.2 != 0 then ((⟨#[]⟩:ByteArray),[],0,[]) else (p.1,p.2.1,p.2.2.1,(ZI p.2.1 t).flat),(wo p.2.1 t).2.2,()),()):=by subst hF; exact Fold_eq h
theorem zdg (F:Nat) (hF:F=FU) {p:zQ.T} (h:(wg p).2≠0):xc.sh F p=some (((⟨#[]⟩,[],0,[]),(wg p).2,()),()):=by subst hF; exact zdf h
theorem TW (F:Nat) {R:Type} (k0:Bool->Option R) (kk:Option R) {p q:zQ.T} (h:q.2.1=p.2.1) (hl:p.2.1.length<4611686018427387904):∀(d i fu:Nat),i+d=p.2.1.length->d<fu->
  zo.l15 F k0 (fun _ _ _ _=>kk) fu (i:Int) p q=kk
 | 0,i,fu+1,hi,hf=>by
  unfold zo.l15 zo.l15.body;rw[decide_eq_false (by omega)]; rfl
 | d+1,i,fu+1,hi,hf=>by
  have ih:=TW F k0 kk h hl d (i+1) fu (by omega) (by omega);unfold zo.l15 zo.l15.body;rw[decide_eq_true (show (i:Int)<(p.2.1.length:Int) by omega),h,xi (show i<p.2.1.length by omega)];simp only[cond_true,beq_self_eq_true,Bool.and_true];rw[Q8];simp only[Bool.not_true,cond_false];rw[yV (n:=(i:Int)+1) (by omega) (by omega)];exact ih
theorem Re (F:Nat) (hF:F=FU) (ha:yt.sh F=some ((true,()),())) (p:zQ.T):zo.sh F p=some ((true,()),()):=by
 have hFb:4096<F:=by rw[hF]; exact vN
 unfold zo.sh;rw[ha,zr,show (!(((true,()),()):(Bool×Unit)×Unit).1.1)=false from rfl,cond_false];by_cases hc:(wg p).2=0
 ·obtain ⟨t,h⟩:=zcW hc
  rw[Fold_at F hF h,zr,zaR F hF h,zr];simp only;have em:(Zi p.2.1 t).2.2=(wo p.2.1 t).2.2:=by
   unfold Zi;cases hu:((wo p.2.1 t).2.2 != 0) with
   | true=>rfl
   | false=>exact (show (wo p.2.1 t).2.2=0 by simpa using hu).symm
  rw[em,show ((wo p.2.1 t).2.2 != (wo p.2.1 t).2.2)=false by simp,cond_false];cases hu:((wo p.2.1 t).2.2 != 0) with
  | true=>exact To
  | false =>
   have hu:(wo p.2.1 t).2.2=0:=by simpa using hu
   have fd:=RQ h hu;generalize ZI p.2.1 t=y at*;simp only[cond_false];have e6:(Zi (p.1,p.2.1,p.2.2.1,y.flat).2.1 y).2.2=0:=by
    show (Zi p.2.1 y).2.2=0;unfold Zi;rw[fd.unit]; rfl
   rw[zaR F hF fd.good,zr,UP F hFb h,zr,UP F hFb fd.good,zr];simp only;rw[e6];have hd:=fd.fk.deep;have hs:y.flat.length<=p.2.2.2.length:=by
    have:=fd.fk.size;rw[Tree.size,Tree.size,h.flat] at this;exact this
   rw[show ((0:Int) != 0)=false from rfl,cond_false,cond_false,cond_false,decide_eq_false (show ¬deep y>deep t by omega),cond_false,decide_eq_false (show ¬(y.flat.length:Int)>(p.2.2.2.length:Int) by omega),cond_false];simp only[beq_self_eq_true,bne_self_eq_false,Bool.not_true,cond_false];have hl:=(uQ h.head).2.1;exact TW F _ _ (p:=p) (q:=(p.1,p.2.1,p.2.2.1,y.flat)) rfl (by omega) p.2.1.length 0 F (by omega) (by omega)
 ·rw[zdg F hF hc,zr,zdd F hF hc,zr]
  simp only;rw[show ((wg p).2 != (wg p).2)=false by simp,cond_false,show ((wg p).2 != 0)=true by simpa using hc,cond_true];exact To
theorem Rd (p:zQ.T):zo.sh FU p=some ((true,()),()):=Re FU rfl zd8 p
end Go.VS
