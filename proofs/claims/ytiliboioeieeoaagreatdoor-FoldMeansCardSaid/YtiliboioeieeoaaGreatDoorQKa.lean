/- Plain laws, joined from smaller texts. -/
import Derived.Test.YtiliboioeieeoaaGreatDoorQR1
set_option linter.unusedVariables false
set_option linter.unusedSimpArgs false
set_option linter.unusedSectionVars false
set_option maxRecDepth 100000
namespace Go.VS
open Go IntKind
def wfW (w:Int×Int):Prop:=-9223372036854775808<=w.1/\w.1<9223372036854775808/\0<=w.2/\w.2<18446744073709551616
def val (w:Int×Int):Int:=w.1*18446744073709551616+w.2
def mk (v:Int):Int×Int:=(v/18446744073709551616,v%18446744073709551616)
def inR (v:Int):Bool:=decide (-170141183460469231731687303715884105728<=v)&&decide (v<170141183460469231731687303715884105728)
def v7 (v:Int):Int×Int:=bif inR v then mk v else (0,0)
def vQ (v:Int):Int:=bif inR v then 0 else 10
theorem zP {v:Int}:inR v=true↔-170141183460469231731687303715884105728<=v/\v<170141183460469231731687303715884105728:=by simp[inR]
theorem qg {v:Int}:inR v=false↔(v < -170141183460469231731687303715884105728\/170141183460469231731687303715884105728<=v):=by
 cases h:inR v with
 | true=>simp; have:=zP.1 h; omega
 | false =>
  simp;rcases Int.lt_or_le v (-170141183460469231731687303715884105728) with h' | h'
  ·exact .inl h'
  ·rcases Int.lt_or_le v 170141183460469231731687303715884105728 with h'' | h''
   ·rw[zP.2 ⟨h',h''⟩] at h; cases h
   ·exact .inr h''
theorem zcT {w:Int×Int} (h:wfW w):mk (val w)=w:=by
 obtain ⟨a,b⟩:=w;obtain ⟨h1,h2,h3,h4⟩:=h;simp only[mk,val] at*;ext<;>simp only<;>omega
theorem xh {v:Int}:val (mk v)=v:=by simp only[val,mk]; omega
theorem xq {v:Int} (h:inR v=true):wfW (mk v):=by
 have:=zP.1 h;simp only[wfW,mk];omega
theorem zaX {w:Int×Int} (h:wfW w):inR (val w)=true:=by
 rw[zP];obtain ⟨h1,h2,h3,h4⟩:=h;simp only[val];omega
theorem VY (v:Int):wfW (v7 v):=by
 unfold v7;cases h:inR v with
 | true=>exact xq h
 | false=>simp[wfW]
theorem VX (n:Int):∃k,i64.wrap n=n+18446744073709551616*k/\-9223372036854775808<=i64.wrap n/\i64.wrap n<9223372036854775808:=by
 rw[Xl];split
 ·exact ⟨-(n/18446744073709551616)-1,by omega,by omega,by omega⟩
 ·exact ⟨-(n/18446744073709551616),by omega,by omega,by omega⟩
theorem vr (F:Nat) {v:Int} (h1:-9223372036854775808<=v) (h2:v<9223372036854775808):zR.sh F v=some ((mk v,()),()):=by
 unfold zR.sh;have e:(2^(min (63:Int).toNat IntKind.i64.bits):Int)=9223372036854775808:=by decide
 have e2:v.fdiv 9223372036854775808=v/18446744073709551616:=by rw[Int.fdiv_eq_ediv_of_nonneg _ (by omega)]; omega
 rw[e,e2,wE];rfl
theorem Zr {v:Int} (h1:-9223372036854775808<=v) (h2:v<9223372036854775808):inR v=true:=by rw[zP]; omega
theorem Yj (F:Nat) {x y c:Int} (h1:0<=x) (h2:0<=y) (h3:0<=c) (h4:c<=1):yh.sh F x y c=some (((x+y+c)%18446744073709551616,(x+y+c)/18446744073709551616,()),()):=by
 simp[yh.sh,h1,h2,h3,h4]
theorem th (F:Nat) {x y c:Int} (h1:0<=x) (h2:0<=y) (h2':y<18446744073709551616) (h3:0<=c) (h4:c<=1):z6.sh F x y c=some (((x-y-c)%18446744073709551616,(if x<y+c then 1 else 0),()),()):=by
 simp[z6.sh,h1,h2,h2',h3,h4]
theorem Th (F:Nat) {a b:Int×Int} (ha:wfW a) (hb:wfW b):xA.sh F a b=some ((v7 (val a+val b),vQ (val a+val b),()),()):=by
 obtain ⟨a1,a2⟩:=a;obtain ⟨b1,b2⟩:=b;obtain ⟨h1,h2,h3,h4⟩:=ha;obtain ⟨g1,g2,g3,g4⟩:=hb;simp only at*;unfold xA.sh;simp only[wE];rw[Yj F (by omega) (by omega) (by omega) (by omega)];simp only[zp];rw[Yj F (by omega) (by omega) (by omega) (by omega)];simp only[zp,v7,vQ,val,mk];obtain ⟨k,e1,e2,e3⟩:=VX ((a1%18446744073709551616+b1%18446744073709551616+(a2+b2+0)/18446744073709551616)%18446744073709551616);generalize i64.wrap ((a1%18446744073709551616+b1%18446744073709551616+(a2+b2+0)/18446744073709551616)%18446744073709551616)=r at*;cases hr:inR (a1*18446744073709551616+a2+(b1*18446744073709551616+b2)) with
 | true =>
  rw[zP] at hr;have q1:r=(a1*18446744073709551616+a2+(b1*18446744073709551616+b2))/18446744073709551616:=by omega
  have q2:(a2+b2+0)%18446744073709551616=(a1*18446744073709551616+a2+(b1*18446744073709551616+b2))%18446744073709551616:=by omega
  have hs:(decide (a1<0)==decide (b1<0)&&!(decide (r<0)==decide (a1<0)))=false:=by
   by_cases x1:a1<0<;>by_cases x2:b1<0<;>by_cases x3:r<0<;>simp[x1,x2,x3]<;>omega
  simp only[cond_true];rw[<-q1,<-q2];cases hx:(decide (a1<0)==decide (b1<0)) with
  | true =>
   rw[hx] at hs;simp only[Bool.true_and] at hs;simp only[hs,cond_true,cond_false]
  | false=>rfl
 | false =>
  rw[qg] at hr;have hs:(decide (a1<0)==decide (b1<0))=true/\(!(decide (r<0)==decide (a1<0)))=true:=by
   by_cases x1:a1<0<;>by_cases x2:b1<0<;>by_cases x3:r<0<;>simp[x1,x2,x3]<;>omega
  simp only[hs.1,hs.2,cond_true,cond_false]
theorem SG (F:Nat) {a b:Int×Int} (ha:wfW a) (hb:wfW b):xz.sh F a b=some ((v7 (val a-val b),vQ (val a-val b),()),()):=by
 obtain ⟨a1,a2⟩:=a;obtain ⟨b1,b2⟩:=b;obtain ⟨h1,h2,h3,h4⟩:=ha;obtain ⟨g1,g2,g3,g4⟩:=hb;simp only at*;unfold xz.sh;simp only[wE];rw[th F (by omega) (by omega) (by omega) (by omega) (by omega)];simp only[zp];have hbo:(a2<b2/\(if a2<b2+0 then (1:Int) else 0)=1)\/(b2<=a2/\(if a2<b2+0 then (1:Int) else 0)=0):=by split<;>omega
 generalize (if a2<b2+0 then (1:Int) else 0)=bo at*;rw[th F (by omega) (by omega) (by omega) (by omega) (by omega)];simp only[zp,v7,vQ,val,mk];obtain ⟨k,e1,e2,e3⟩:=VX ((a1%18446744073709551616-b1%18446744073709551616-bo)%18446744073709551616);generalize i64.wrap ((a1%18446744073709551616-b1%18446744073709551616-bo)%18446744073709551616)=r at*;cases hr:inR (a1*18446744073709551616+a2-(b1*18446744073709551616+b2)) with
 | true =>
  rw[zP] at hr;have q1:r=(a1*18446744073709551616+a2-(b1*18446744073709551616+b2))/18446744073709551616:=by omega
  have q2:(a2-b2-0)%18446744073709551616=(a1*18446744073709551616+a2-(b1*18446744073709551616+b2))%18446744073709551616:=by omega
  have hs:(!(decide (a1<0)==decide (b1<0))&&!(decide (r<0)==decide (a1<0)))=false:=by
   by_cases x1:a1<0<;>by_cases x2:b1<0<;>by_cases x3:r<0<;>simp[x1,x2,x3]<;>omega
  simp only[cond_true];rw[<-q1,<-q2];cases hx:(!(decide (a1<0)==decide (b1<0))) with
  | true =>
   rw[hx] at hs;simp only[Bool.true_and] at hs;simp only[hs,cond_true,cond_false]
  | false=>rfl
 | false =>
  rw[qg] at hr;have hs:(!(decide (a1<0)==decide (b1<0)))=true/\(!(decide (r<0)==decide (a1<0)))=true:=by
   by_cases x1:a1<0<;>by_cases x2:b1<0<;>by_cases x3:r<0<;>simp[x1,x2,x3]<;>omega
  simp only[hs.1,hs.2,cond_true,cond_false]
theorem wf_zero:wfW (0,0):=by simp[wfW]
theorem zcR (F:Nat) {a:Int×Int} (ha:wfW a):xT.sh F a=some ((v7 (-val a),vQ (-val a),()),()):=by
 unfold xT.sh;rw[SG F wf_zero ha];have:val (0,0)-val a=-val a:=by simp[val]
 rw[this];rfl
def tD (x y:Int):Int:=if x<y then -1 else if x=y then 0 else 1
theorem zbd {x y:Int} (h:x<y):tD x y=-1:=by unfold tD; rw[if_pos h]
theorem cmpZ_eq {x y:Int} (h:x=y):tD x y=0:=by unfold tD; rw[if_neg (by omega),if_pos h]
theorem zbe {x y:Int} (h:y<x):tD x y=1:=by unfold tD; rw[if_neg (by omega),if_neg (by omega)]
theorem Vi (F:Nat) {a b:Int×Int} (ha:wfW a) (hb:wfW b):xp.sh F a b=some ((tD (val a) (val b),()),()):=by
 obtain ⟨a1,a2⟩:=a;obtain ⟨b1,b2⟩:=b;obtain ⟨h1,h2,h3,h4⟩:=ha;obtain ⟨g1,g2,g3,g4⟩:=hb;simp only at*;unfold xp.sh;simp only[Bool.and_true];by_cases x1:a1<b1
 ·have y1:(a1==b1)=false:=by rw[beq_eq_false_iff_ne]; omega
  rw[zbd (by simp only[val]; omega)];simp[y1,x1]
 ·by_cases x2:a1=b1
  ·subst x2
   by_cases x3:a2=b2
   ·subst x3
    rw[cmpZ_eq rfl];simp
   ·have y3:(a2==b2)=false:=by rw[beq_eq_false_iff_ne]; exact x3
    by_cases x4:a2<b2
    ·rw[zbd (by simp only[val]; omega)]
     simp[y3,x4]
    ·rw[zbe (by simp only[val]; omega)]
     simp[y3,x4]
  ·have y1:(a1==b1)=false:=by rw[beq_eq_false_iff_ne]; omega
   rw[zbe (by simp only[val]; omega)];simp[y1,x1]
theorem zcp {a b a' b':Int} (h1:a=a') (h2:b=b'):(some ((a,b,()),()):Option ((Int×Int×Unit)×Unit))=some ((a',b',()),()):=by rw[h1,h2]
theorem Yk (F:Nat) {a:Int×Int} (ha:wfW a):xD.sh F a=some ((((val a).natAbs:Int)/18446744073709551616,((val a).natAbs:Int)%18446744073709551616,()),()):=by
 obtain ⟨a1,a2⟩:=a;obtain ⟨h1,h2,h3,h4⟩:=ha;simp only at*;unfold xD.sh;simp only[wE];by_cases x:a1>=0
 ·have e:((val (a1,a2)).natAbs:Int)=a1*18446744073709551616+a2:=by simp only[val]; omega
  rw[e];simp only[x,decide_true,cond_true];exact zcp (by omega) (by omega)
 ·have e:((val (a1,a2)).natAbs:Int)=-(a1*18446744073709551616+a2):=by simp only[val]; omega
  rw[e];simp only[x,decide_false,cond_false];rw[th F (by omega) (by omega) (by omega) (by omega) (by omega)];simp only[zp];have hbo:(0<a2/\(if 0<a2+0 then (1:Int) else 0)=1)\/(a2=0/\(if 0<a2+0 then (1:Int) else 0)=0):=by split<;>omega
  generalize (if 0<a2+0 then (1:Int) else 0)=bo at*;rw[th F (by omega) (by omega) (by omega) (by omega) (by omega)];simp only[zp];exact zcp (by omega) (by omega)
theorem X7 (F:Nat) {b:Bool} {hi lo:Int} (h1:0<=hi) (h2:hi<18446744073709551616) (h3:0<=lo) (h4:lo<18446744073709551616) {v:Int} (hv:v=bif b then -(hi*18446744073709551616+lo) else hi*18446744073709551616+lo) :
  xG.sh F b hi lo=some ((v7 v,vQ v,()),()):=by
 unfold xG.sh;have e:(2^(min (63:Int).toNat IntKind.u64.bits):Int)=9223372036854775808:=by decide
 rw[e,Int.fdiv_eq_ediv_of_nonneg _ (by omega)];by_cases x:hi<9223372036854775808
 ·have e1:(hi/9223372036854775808==0)=true:=by rw[beq_iff_eq]; omega
  rw[e1,yV (by omega) (by omega)];have hw:wfW (hi,lo):=⟨by simp only; omega,x,h3,h4⟩;cases b with
  | true =>
   simp only[cond_true] at hv ⊢;rw[zcR F hw];simp only[zp];have:v=-val (hi,lo):=by rw[hv]; rfl
   rw[this]
  | false =>
   simp only[cond_true,cond_false] at hv ⊢;have:v=val (hi,lo):=by rw[hv]; rfl
   rw[this];simp only[v7,vQ,zaX hw,cond_true,zcT hw]
 ·have e1:(hi/9223372036854775808==0)=false:=by rw[beq_eq_false_iff_ne]; omega
  rw[e1];cases b with
  | true =>
   simp only[cond_true,cond_false] at hv ⊢;by_cases y:hi=9223372036854775808
   ·subst y
    by_cases z:lo=0
    ·subst z
     subst hv;rfl
    ·have e2:(lo==0)=false:=by rw[beq_eq_false_iff_ne]; exact z
     have hr:inR v=false:=by rw[qg]; omega
     simp only[v7,vQ,hr,cond_false,e2,beq_self_eq_true,cond_true]
   ·have e2:(hi==9223372036854775808)=false:=by rw[beq_eq_false_iff_ne]; exact y
    have hr:inR v=false:=by rw[qg]; omega
    simp only[v7,vQ,hr,cond_false,e2]
  | false =>
   simp only[cond_false] at hv ⊢;have hr:inR v=false:=by rw[qg]; omega
   simp only[v7,vQ,hr,cond_false]
theorem UC {x:Int} (h1:0<=x) (h2:x<18446744073709551616):u64.wrap ((BitVec.ofInt IntKind.u64.bits x &&& BitVec.ofInt IntKind.u64.bits 4294967295).toNat:Int)=x%4294967296:=by
 obtain ⟨X,rfl⟩:=Int.eq_ofNat_of_zero_le h1;show u64.wrap ((BitVec.ofInt 64 (X:Int) &&& BitVec.ofInt 64 ((4294967295:Nat):Int)).toNat:Int)=_;rw[BitVec.ofInt_natCast,BitVec.ofInt_natCast,BitVec.toNat_and,BitVec.toNat_ofNat,BitVec.toNat_ofNat,Nat.mod_eq_of_lt (by omega:X<2^64),Nat.mod_eq_of_lt (by decide)];have:X &&& 4294967295=X%4294967296:=Nat.and_two_pow_sub_one_eq_mod X 32;rw[this,xf (by omega) (by omega)];omega
theorem zaI {x:Int} (h1:0<=x) (h2:x<18446744073709551616):u64.wrap ((BitVec.ofInt IntKind.u64.bits x ||| BitVec.ofInt IntKind.u64.bits 0).toNat:Int)=x:=by
 obtain ⟨X,rfl⟩:=Int.eq_ofNat_of_zero_le h1;show u64.wrap ((BitVec.ofInt 64 (X:Int) ||| BitVec.ofInt 64 ((0:Nat):Int)).toNat:Int)=_
 rw[BitVec.ofInt_natCast,BitVec.ofInt_natCast,BitVec.toNat_or,BitVec.toNat_ofNat,BitVec.toNat_ofNat,Nat.mod_eq_of_lt (by omega:X<2^64)];simp;rw[xf (by omega) (by omega)]
theorem zero_or {x:Int} (h1:0<=x) (h2:x<18446744073709551616):u64.wrap ((BitVec.ofInt IntKind.u64.bits 0 ||| BitVec.ofInt IntKind.u64.bits x).toNat:Int)=x:=by
 rw[BitVec.or_comm]; exact zaI h1 h2
theorem Ul {x:Int} (h:0<=x):x.fdiv (2^(min (32:Int).toNat IntKind.u64.bits))=x/4294967296:=by
 have e:(2^(min (32:Int).toNat IntKind.u64.bits):Int)=4294967296:=by decide
 rw[e,Int.fdiv_eq_ediv_of_nonneg _ (by omega)]
theorem qM {a b m n:Int} (ha:0<=a) (ha':a<=m) (hb:0<=b) (hb':b<=n):0<=a*b/\a*b<=m*n :=
 ⟨Int.mul_nonneg ha hb,Int.mul_le_mul ha' hb' hb (by omega)⟩
theorem X5 (F:Nat) {x y:Int} (h1:0<=x) (h2:x<18446744073709551616) (h3:0<=y) (h4:y<18446744073709551616) :
  yF.sh F x y=some ((x*y/18446744073709551616,x*y%18446744073709551616,()),()):=by
 unfold yF.sh;rw[UC h1 h2,UC h3 h4,Ul h1,Ul h3];have hx:x=x/4294967296*4294967296+x%4294967296:=by omega
 have hy:y=y/4294967296*4294967296+y%4294967296:=by omega
 have bx1:0<=x/4294967296/\x/4294967296<=4294967295:=by omega
 have bx0:0<=x%4294967296/\x%4294967296<=4294967295:=by omega
 have by1:0<=y/4294967296/\y/4294967296<=4294967295:=by omega
 have by0:0<=y%4294967296/\y%4294967296<=4294967295:=by omega
 have hxy:x*y=(x/4294967296)*(y/4294967296)*18446744073709551616+((x/4294967296)*(y%4294967296)+(x%4294967296)*(y/4294967296))*4294967296+(x%4294967296)*(y%4294967296):=by
  generalize x/4294967296=x1 at*;generalize x%4294967296=x0 at*;generalize y/4294967296=y1 at*;generalize y%4294967296=y0 at*;rw[hx,hy];simp only[Int.add_mul,Int.mul_add];have r1:x1*4294967296*(y1*4294967296)=x1*y1*18446744073709551616:=by
   rw[Int.mul_assoc,Int.mul_left_comm 4294967296,<-Int.mul_assoc]; rfl
  have r2:x1*4294967296*y0=x1*y0*4294967296:=by rw[Int.mul_right_comm]
  have r3:x0*(y1*4294967296)=x0*y1*4294967296:=by rw[Int.mul_assoc]
  rw[r1,r2,r3];omega
 have A:=qM bx1.1 bx1.2 by1.1 by1.2;have B:=qM bx1.1 bx1.2 by0.1 by0.2;have C:=qM bx0.1 bx0.2 by1.1 by1.2;have D:=qM bx0.1 bx0.2 by0.1 by0.2;rw[hxy];generalize (x/4294967296)*(y/4294967296)=a at*;generalize (x/4294967296)*(y%4294967296)=b at*;generalize (x%4294967296)*(y/4294967296)=c at*;generalize (x%4294967296)*(y%4294967296)=d at*;clear hxy hx hy bx1 bx0 by1 by0;have w1:u64.wrap a=a:=xf (by omega) (by omega);have w2:u64.wrap b=b:=xf (by omega) (by omega);have w3:u64.wrap c=c:=xf (by omega) (by omega);have w4:u64.wrap d=d:=xf (by omega) (by omega);rw[w1,w2,w3,w4,Ul D.1];have w5:u64.wrap (b+d/4294967296)=b+d/4294967296:=xf (by omega) (by omega);rw[w5,UC (by omega) (by omega),Ul (by omega)];have w6:u64.wrap ((b+d/4294967296)%4294967296+c)=(b+d/4294967296)%4294967296+c:=xf (by omega) (by omega);rw[w6,Ul (by omega)];have w7:u64.wrap (a+(b+d/4294967296)/4294967296)=a+(b+d/4294967296)/4294967296:=xf (by omega) (by omega);rw[w7];have w8:u64.wrap (a+(b+d/4294967296)/4294967296+((b+d/4294967296)%4294967296+c)/4294967296)=a+(b+d/4294967296)/4294967296+((b+d/4294967296)%4294967296+c)/4294967296:=xf (by omega) (by omega);rw[w8,wE];exact zcp (by omega) (by omega)
theorem tL {a:Int×Int} (ha:wfW a):decide (a.1<0)=decide (val a<0):=by
 obtain ⟨a1,a2⟩:=a;obtain ⟨h1,h2,h3,h4⟩:=ha;have:a1<0↔val (a1,a2)<0:=by simp only[val] at*; omega
 simp[this]
theorem Vl {a:Int×Int} (ha:wfW a):0<=((val a).natAbs:Int)/\((val a).natAbs:Int)<=170141183460469231731687303715884105728:=by
 have:=zP.1 (zaX ha);omega
theorem TR {x y m n:Int} (hm:m=x.natAbs) (hn:n=y.natAbs):x*y=bif !(decide (x<0)==decide (y<0)) then -(m*n) else m*n:=by
 subst hm hn;by_cases h1:x<0
 ·have e1:(x.natAbs:Int)=-x:=by omega
  by_cases h2:y<0
  ·have e2:(y.natAbs:Int)=-y:=by omega
   simp[h1,h2,e1,e2,Int.neg_mul_neg]
  ·have e2:(y.natAbs:Int)=y:=by omega
   simp[h1,h2,e1,e2,Int.neg_mul]
 ·have e1:(x.natAbs:Int)=x:=by omega
  by_cases h2:y<0
  ·have e2:(y.natAbs:Int)=-y:=by omega
   simp[h1,h2,e1,e2,Int.mul_neg]
  ·have e2:(y.natAbs:Int)=y:=by omega
   simp[h1,h2,e1,e2]
theorem wmul_j (F:Nat) {R:Type} (k:(Int×Int)->Int->Option R) {a b:Int×Int} (ha:wfW a) (hb:wfW b) (r:Int×Int) {ah al bh bl:Int}
  (h1:0<=ah/\ah<=9223372036854775808) (h2:0<=al/\al<18446744073709551616) (h3:0<=bh/\bh<=9223372036854775808) (h4:0<=bl/\bl<18446744073709551616)
  (hA:((val a).natAbs:Int)=ah*18446744073709551616+al) (hB:((val b).natAbs:Int)=bh*18446744073709551616+bl) (h0:ah=0\/bh=0) :
  yf.j5 F (fun e w=>k w e) (fun e w=>k w e) ah al bh bl a b r=k (v7 (val a*val b)) (vQ (val a*val b)):=by
 unfold yf.j5;rw[X5 F h2.1 h2.2 h4.1 h4.2];simp only[zp];have hp:xO.sh F (ah != 0) bl al=some ((if ah≠0 then bl else al,()),()):=by
  unfold xO.sh;by_cases h:ah=0
  ·simp[h]
  ·have:(ah != 0)=true:=by simp[h]
   simp[this,h]
 rw[hp];simp only[zp];obtain ⟨c,hc1,hc2,hc3⟩:∃c,c=ah*bl+bh*al/\yF.sh F (u64.wrap ((BitVec.ofInt IntKind.u64.bits ah ||| BitVec.ofInt IntKind.u64.bits bh).toNat:Int)) (if ah≠0 then bl else al) =
   some ((c/18446744073709551616,c%18446744073709551616,()),())/\0<=c:=by
  rcases h0 with rfl | rfl
  ·refine ⟨bh*al,by simp,?_,Int.mul_nonneg h3.1 h2.1⟩
   rw[zero_or h3.1 (by omega),if_neg (by simp),X5 F h3.1 (by omega) h2.1 h2.2]
  ·refine ⟨ah*bl,by simp,?_,Int.mul_nonneg h1.1 h4.1⟩
   rw[zaI h1.1 (by omega)];by_cases h:ah=0
   ·subst h
    rw[if_neg (by simp),X5 F (by omega) (by omega) h2.1 h2.2];simp
   ·rw[if_pos h,X5 F h1.1 (by omega) h4.1 h4.2]
 rw[hc2];simp only[zp];have hd:0<=al*bl:=Int.mul_nonneg h2.1 h4.1;have hd':al*bl<=340282366920938463426481119284349108225:=(qM h2.1 (by omega:al<=18446744073709551615) h4.1 (by omega:bl<=18446744073709551615)).2;have hm:((val a).natAbs:Int)*((val b).natAbs:Int)=c*18446744073709551616+al*bl:=by
  rw[hA,hB,hc1];rcases h0 with rfl | rfl
  ·simp only[Int.zero_mul,Int.zero_add,Int.mul_add]
   have:al*(bh*18446744073709551616)=bh*al*18446744073709551616:=by rw[Int.mul_left_comm,<-Int.mul_assoc]
   omega
  ·simp only[Int.zero_mul,Int.zero_add,Int.add_zero,Int.add_mul]
   have:ah*18446744073709551616*bl=ah*bl*18446744073709551616:=by rw[Int.mul_right_comm]
   omega
 have hs:=TR (x:=val a) (y:=val b) rfl rfl;rw[hm,<-tL ha,<-tL hb] at hs;generalize al*bl=d at*;generalize hsg:(!(decide (a.1<0)==decide (b.1<0)))=sg at*;rw[Yj F (by omega) (by omega) (by omega) (by omega)];simp only[zp];by_cases q1:c/18446744073709551616=0
 ·have e1:(c/18446744073709551616 != 0)=false:=by simp[q1]
  rw[e1];simp only[cond_false];by_cases q2:(d/18446744073709551616+c%18446744073709551616+0)/18446744073709551616=0
  ·have e2:((d/18446744073709551616+c%18446744073709551616+0)/18446744073709551616 != 0)=false:=by rw[q2]; rfl
   rw[e2];simp only[cond_false];rw[X7 F (v:=val a*val b) (by omega) (by omega) (by omega) (by omega) (by rw[hs]; cases sg<;>simp only[cond_true,cond_false]<;>omega)];simp only[zp]
  ·have e2:((d/18446744073709551616+c%18446744073709551616+0)/18446744073709551616 != 0)=true:=bne_iff_ne.2 q2
   rw[e2];simp only[cond_true];have hr:inR (val a*val b)=false:=by rw[qg,hs]; cases sg<;>simp only[cond_true,cond_false]<;>omega
   simp only[v7,vQ,hr,cond_false]
 ·have e1:(c/18446744073709551616 != 0)=true:=by simp[q1]
  rw[e1];simp only[cond_true];have hr:inR (val a*val b)=false:=by rw[qg,hs]; cases sg<;>simp only[cond_true,cond_false]<;>omega
  simp only[v7,vQ,hr,cond_false]
theorem qv (F:Nat) {a b:Int×Int} (ha:wfW a) (hb:wfW b):yf.sh F a b=some ((v7 (val a*val b),vQ (val a*val b),()),()):=by
 have ba:=Vl ha;have bb:=Vl hb;unfold yf.sh;rw[Yk F ha,Yk F hb];simp only[zp];have key:∀(h0:((val a).natAbs:Int)/18446744073709551616=0\/((val b).natAbs:Int)/18446744073709551616=0),yf.j5 F (fun e w=>some ((w,e,()),())) (fun e w=>some ((w,e,()),()))
   (((val a).natAbs:Int)/18446744073709551616) (((val a).natAbs:Int)%18446744073709551616) (((val b).natAbs:Int)/18446744073709551616) (((val b).natAbs:Int)%18446744073709551616) a b (0,0) =
   (some ((v7 (val a*val b),vQ (val a*val b),()),()):Option yf.sg.R):=fun h0 =>
  wmul_j F (fun w e=>some ((w,e,()),())) ha hb (0,0) (by omega) (by omega) (by omega) (by omega) (by omega) (by omega) h0
 by_cases q1:((val a).natAbs:Int)/18446744073709551616=0
 ·have e1:(((val a).natAbs:Int)/18446744073709551616 != 0)=false:=by simp[q1]
  rw[e1];simp only[cond_false];exact key (.inl q1)
 ·have e1:(((val a).natAbs:Int)/18446744073709551616 != 0)=true:=by simp[q1]
  rw[e1];simp only[cond_true];by_cases q2:((val b).natAbs:Int)/18446744073709551616=0
  ·have e2:(((val b).natAbs:Int)/18446744073709551616 != 0)=false:=by simp[q2]
   rw[e2];simp only[cond_false];exact key (.inr q2)
  ·have e2:(((val b).natAbs:Int)/18446744073709551616 != 0)=true:=by simp[q2]
   rw[e2];simp only[cond_true];have hs:=TR (x:=val a) (y:=val b) rfl rfl;have hp:(18446744073709551616:Int)*18446744073709551616<=((val a).natAbs:Int)*((val b).natAbs:Int):=Int.mul_le_mul (by omega) (by omega) (by omega) (by omega);have hr:inR (val a*val b)=false:=by
    rw[qg,hs];generalize ((val a).natAbs:Int)*((val b).natAbs:Int)=m at*;cases (!(decide (val a<0)==decide (val b<0)))<;>simp only[cond_true,cond_false]<;>omega
   simp only[v7,vQ,hr,cond_false]
def FU:Nat:=4194304
def QM (l:List (Int×Int)):Int:=(l.map val).sum
theorem zcr {x:Int} (h1:-9223372036854775808<=x) (h2:x<9223372036854775808):x.fdiv (2^(min (63:Int).toNat IntKind.i64.bits))=if x<0 then -1 else 0:=by
 have e:(2^(min (63:Int).toNat IntKind.i64.bits):Int)=9223372036854775808:=by decide
 rw[e,Int.fdiv_eq_ediv_of_nonneg _ (by omega)];split<;>omega
theorem pair2 {a b c d:Int} (h1:a=c) (h2:b=d):(a,b)=(c,d):=by rw[h1,h2]
theorem sum_rg (F:Nat) {R:Type} (k:Int->Int->Int->Option R) (l:List (Int×Int)) (N:Int) (xs:List (Int×Int)):∀(i lo hi top:Int) (r:Int×Int),(∀x∈xs,wfW x)->0<=lo->lo<18446744073709551616->0<=hi->hi<18446744073709551616->
  -4611686018427387904+xs.length<=top->top<=4611686018427387904-xs.length->
  ∃lo' hi' top',yp.l4.rg F (fun lo hi top _ _ _ _ _=>k lo hi top) l N xs i lo hi top r=k lo' hi' top'/\0<=lo'/\lo'<18446744073709551616/\0<=hi'/\hi'<18446744073709551616 /\
   -4611686018427387904<=top'/\top'<=4611686018427387904/\top'*340282366920938463463374607431768211456+hi'*18446744073709551616+lo'=top*340282366920938463463374607431768211456+hi*18446744073709551616+lo+QM xs:=by
 induction xs with
 | nil =>
  intro i lo hi top r _ h1 h2 h3 h4 h5 h6;exact ⟨lo,hi,top,by simp only[yp.l4.rg],h1,h2,h3,h4,by simp at h5; omega,by simp at h6; omega,by simp[QM]⟩
 | cons x xs ih =>
  intro i lo hi top r hw h1 h2 h3 h4 h5 h6;obtain ⟨x1,x2⟩:=x;obtain ⟨g1,g2,g3,g4⟩:=hw (x1,x2) (by simp);simp only at g1 g2 g3 g4;simp only[yp.l4.rg,wE];rw[Yj F h1 g3 (by omega) (by omega)];simp only[zp];rw[Yj F h3 (by omega) (by omega) (by omega)];simp only[zp];rw[zcr g1 g2];obtain ⟨s,hs⟩:∃s:Int,s=(if x1<0 then -1 else 0)/\(x1<0/\s=-1\/0<=x1/\s=0):=⟨_,rfl,by split<;>omega⟩;rw[<-hs.1];simp only[List.length_cons] at h5 h6;rw[yV (n:=(hi+x1%18446744073709551616+(lo+x2+0)/18446744073709551616)/18446744073709551616) (by omega) (by omega)];rw[yV (n:=s+_) (by omega) (by omega),yV (n:=top+_) (by omega) (by omega)];obtain ⟨lo',hi',top',e1,e2,e3,e4,e5,e6,e7,e8⟩:=ih (i+1) ((lo+x2+0)%18446744073709551616) ((hi+x1%18446744073709551616+(lo+x2+0)/18446744073709551616)%18446744073709551616)
   (top+(s+(hi+x1%18446744073709551616+(lo+x2+0)/18446744073709551616)/18446744073709551616)) r (fun y hy=>hw y (by simp[hy])) (by omega) (by omega) (by omega) (by omega) (by omega) (by omega)
  refine ⟨lo',hi',top',e1,e2,e3,e4,e5,e6,e7,?_⟩;rw[e8];simp only[QM,List.map_cons,List.sum_cons,val];omega
theorem wsum_eq (F:Nat) {l:List (Int×Int)} (hw:∀x∈l,wfW x) (hl:l.length<F) (hL:l.length<4611686018427387904):yp.sh F l=some ((v7 (QM l),vQ (QM l),()),()):=by
 unfold yp.sh;rw[show (0:Int)=((0:Nat):Int) from rfl,yp.l4.rg_eq F _ l _ rfl (by omega) l 0 F _ _ _ _ (by simp) hl];obtain ⟨lo,hi,top,e1,e2,e3,e4,e5,e6,e7,e8⟩:=sum_rg F (fun lo hi top=>bif (top != ((i64.wrap hi).fdiv (2^(min (63:Int).toNat IntKind.i64.bits)))) then (some (((0,0),10,()),()):Option yp.sg.R) else some (((i64.wrap hi,lo),0,()),()))
  l (l.length:Int) l 0 0 0 0 (0,0) hw (by omega) (by omega) (by omega) (by omega) (by omega) (by omega)
 refine e1.trans ?_;obtain ⟨k,f1,f2,f3⟩:=VX hi;rw[zcr f2 f3];simp only[Int.zero_mul,Int.zero_add] at e8;rw[<-e8];generalize i64.wrap hi=r at*;by_cases hr:r<0
 ·rw[if_pos hr]
  by_cases ht:top=-1
  ·have hb:(top != -1)=false:=by rw[ht]; rfl
   have hin:inR (top*340282366920938463463374607431768211456+hi*18446744073709551616+lo)=true:=by rw[zP]; omega
   simp only[hb,cond_false,v7,vQ,hin,cond_true,mk];rw[pair2 (a:=r) (b:=lo) (c:=(top*340282366920938463463374607431768211456+hi*18446744073709551616+lo)/18446744073709551616) (d:=(top*340282366920938463463374607431768211456+hi*18446744073709551616+lo)%18446744073709551616) (by omega) (by omega)]
  ·have hb:(top != -1)=true:=bne_iff_ne.2 ht
   have hin:inR (top*340282366920938463463374607431768211456+hi*18446744073709551616+lo)=false:=by rw[qg]; omega
   simp only[hb,cond_true,v7,vQ,hin,cond_false]
 ·rw[if_neg hr]
  by_cases ht:top=0
  ·have hb:(top != 0)=false:=by rw[ht]; rfl
   have hin:inR (top*340282366920938463463374607431768211456+hi*18446744073709551616+lo)=true:=by rw[zP]; omega
   simp only[hb,cond_false,v7,vQ,hin,cond_true,mk];rw[pair2 (a:=r) (b:=lo) (c:=(top*340282366920938463463374607431768211456+hi*18446744073709551616+lo)/18446744073709551616) (d:=(top*340282366920938463463374607431768211456+hi*18446744073709551616+lo)%18446744073709551616) (by omega) (by omega)]
  ·have hb:(top != 0)=true:=bne_iff_ne.2 ht
   have hin:inR (top*340282366920938463463374607431768211456+hi*18446744073709551616+lo)=false:=by rw[qg]; omega
   simp only[hb,cond_true,v7,vQ,hin,cond_false]
theorem power_0:zQ.sh FU 0=some ((mk (10000^(0:Int).toNat),0,()),()):=by kernel_rfl
theorem power_1:zQ.sh FU 1=some ((mk (10000^(1:Int).toNat),0,()),()):=by kernel_rfl
theorem power_2:zQ.sh FU 2=some ((mk (10000^(2:Int).toNat),0,()),()):=by kernel_rfl
theorem power_3:zQ.sh FU 3=some ((mk (10000^(3:Int).toNat),0,()),()):=by kernel_rfl
theorem power_4:zQ.sh FU 4=some ((mk (10000^(4:Int).toNat),0,()),()):=by kernel_rfl
theorem power_5:zQ.sh FU 5=some ((mk (10000^(5:Int).toNat),0,()),()):=by kernel_rfl
theorem power_6:zQ.sh FU 6=some ((mk (10000^(6:Int).toNat),0,()),()):=by kernel_rfl
theorem power_7:zQ.sh FU 7=some ((mk (10000^(7:Int).toNat),0,()),()):=by kernel_rfl
theorem power_8:zQ.sh FU 8=some ((mk (10000^(8:Int).toNat),0,()),()):=by kernel_rfl
theorem power_9:zQ.sh FU 9=some ((mk (10000^(9:Int).toNat),0,()),()):=by kernel_rfl
theorem RO {k:Int} (h1:0<=k) (h2:k<=9):zQ.sh FU k=some ((mk (10000^k.toNat),0,()),()):=by
 have:k=0\/k=1\/k=2\/k=3\/k=4\/k=5\/k=6\/k=7\/k=8\/k=9:=by omega
 rcases this with rfl | rfl | rfl | rfl | rfl | rfl | rfl | rfl | rfl | rfl
 ·exact power_0
 ·exact power_1
 ·exact power_2
 ·exact power_3
 ·exact power_4
 ·exact power_5
 ·exact power_6
 ·exact power_7
 ·exact power_8
 ·exact power_9
def uq (a b:Int):Int:=a/b+if a%b=0 then 0 else 1
theorem zdt (F:Nat) {s:Int} (h1:1<=s) (h2:s<=1000000000000):y9.sh F (mk 1099511627776) (mk s) 1=some ((mk (uq 1099511627776 s),0,()),()):=by
 have hq1:0<=1099511627776/s:=Int.ediv_nonneg (by omega) (by omega);have hq2:1099511627776/s<=1099511627776:=Int.ediv_le_self _ (by omega);have hr1:0<=1099511627776%s:=Int.emod_nonneg _ (by omega);have hr2:1099511627776%s<s:=Int.emod_lt_of_pos _ (by omega);have ms:mk s=(0,s):=by simp only[mk]; ext<;>simp only<;>omega
 have ma:mk 1099511627776=(0,1099511627776):=by rfl
 have mks:∀{v:Int},0<=v->v<18446744073709551616->mk v=(0,v):=fun h h'=>by simp only[mk]; ext<;>simp only<;>omega
 have hQ:yO.sh F (mk 1099511627776) (mk s)=some ((mk (1099511627776/s),mk (1099511627776%s),0,()),()):=by
  unfold yO.sh;have hb:(((mk s).1==0)&&(((mk s).2==0)&&true))=false:=by
   rw[ms]; simp; omega
  rw[hb];simp only[cond_false];rw[Yk F (xq (by rw[zP]; omega)),Yk F (xq (by rw[zP]; omega))];simp only[zp,xh];have n1:((1099511627776:Int).natAbs:Int)=1099511627776:=rfl;have n2:(s.natAbs:Int)=s:=by omega
  rw[n1,n2];have d1:(1099511627776:Int)/18446744073709551616=0:=by decide
  have d2:(1099511627776:Int)%18446744073709551616=1099511627776:=by decide
  have d3:s/18446744073709551616=0:=by omega
  have d4:s%18446744073709551616=s:=by omega
  rw[d1,d2,d3,d4];have hsne:(s != 0)=true:=bne_iff_ne.2 (by omega);have hs0:(s==0)=false:=by rw[beq_eq_false_iff_ne]; omega
  have hq:zS.sh F 0 1099511627776 0 s=some ((0,1099511627776/s,0,1099511627776%s,()),()):=by
   unfold zS.sh zl.sh;have e0:(0:Int).tmod s=0:=by simp
   have e1:(0:Int).tdiv s=0:=by simp
   have e2:(1099511627776:Int).tdiv s=1099511627776/s:=Int.tdiv_eq_ediv_of_nonneg (by omega);have e3:(1099511627776:Int).tmod s=1099511627776%s:=Int.tmod_eq_emod_of_nonneg (by omega);have e4:decide (s<=0)=false:=by simp; omega
   simp only[beq_self_eq_true,cond_true,hsne,e0,e1,hs0,cond_false,e4,zp,e2,e3];rw[xf (by omega) (by omega),xf (n:=1099511627776/s) (by omega) (by omega)]
  rw[hq];simp only[zp];have hng:(!(decide ((mk 1099511627776).1<0)==decide ((mk s).1<0)))=false:=by rw[ma,ms]; rfl
  rw[hng,X7 F (v:=1099511627776/s) (by omega) (by omega) (by omega) (by omega) (by simp)];simp only[zp];have i1:inR (1099511627776/s)=true:=by rw[zP]; omega
  have i2:inR (1099511627776%s)=true:=by rw[zP]; omega
  have hz:decide ((mk 1099511627776).1<0)=false:=by rw[ma]; rfl
  simp only[vQ,v7,i1,cond_true,bne_self_eq_false,cond_false];rw[hz,X7 F (v:=1099511627776%s) (by omega) (by omega) (by omega) (by omega) (by simp)];simp only[zp,vQ,v7,i2,cond_true]
 unfold y9.sh;rw[hQ];have c1:decide ((1:Int)<0)=false:=by decide
 have c2:decide ((1:Int)>4)=false:=by decide
 simp only[c1,c2,cond_false,zp,bne_self_eq_false];by_cases hz:1099511627776%s=0
 ·have e:(((mk (1099511627776%s)).1==0)&&(((mk (1099511627776%s)).2==0)&&true))=true:=by rw[hz]; rfl
  rw[e];simp only[cond_true,uq,hz,if_true,Int.add_zero]
 ·have e:(((mk (1099511627776%s)).1==0)&&(((mk (1099511627776%s)).2==0)&&true))=false:=by
   rw[mks hr1 (by omega)]; simp; exact hz
  rw[e];simp only[cond_false];have ha:xw.sh F (mk (1099511627776/s)) (mk (1099511627776%s)) (mk s) 1=some ((true,()),()):=by
   unfold xw.sh;rw[mks hr1 (by omega),ms];rfl
  rw[ha];simp only[zp,Bool.not_true,cond_false];have hng:(!(decide ((mk 1099511627776).1<0)==decide ((mk s).1<0)))=false:=by rw[ma,ms]; rfl
  rw[hng];simp only[cond_false];rw[vr F (by omega) (by omega)];simp only[zp];rw[Th F (xq (by rw[zP]; omega)) (xq (by rw[zP]; omega))];simp only[zp,xh];have i1:inR (1099511627776/s+1)=true:=by rw[zP]; omega
  simp only[vQ,v7,i1,cond_true,uq,hz,if_false]
def UF (c:Int):Bool:=decide (c>=97)&&decide (c<=122)
def digB (c:Int):Bool:=decide (c>=48)&&decide (c<=57)
def za1 (c:Int):Bool:=UF c||(digB c||c==95)
theorem W3 (F:Nat) (c:Int):yY.sh F c=some ((UF c,()),()):=by
 unfold yY.sh UF;cases decide (c>=97)<;>rfl
theorem zdw (F:Nat) (c:Int):xP.sh F c=some ((digB c,()),()):=by
 unfold xP.sh digB;cases decide (c>=48)<;>rfl
theorem zd7 (F:Nat) (c:Int):xJ.sh F c=some ((za1 c,()),()):=by
 unfold xJ.sh za1;rw[W3,zdw];simp only[zp];cases UF c<;>cases digB c<;>rfl
def cI (c:UInt8):Int:=(c.toNat:Int)
theorem bt_at {s:ByteArray} {n:Nat} {c:UInt8} {r:List UInt8} (h:s.data.toList.drop n=c::r):bt s (n:Int)=cI c:=by
 have:s.data.toList[n]?=some c:=by
  have:=congrArg (·[0]?) h
  simpa using this
 simp only[bt,Int.toNat_natCast,List.getD_eq_getElem?_getD,this,Option.getD_some,cI]
theorem vL (s:ByteArray):s.size=s.data.toList.length:=by rw[Array.length_toList]; rfl
theorem run_l2 (F:Nat) {R:Type} (k:Int->Option R) (s:ByteArray) (of:Nat) (p:Int->Bool) (hp:∀c,yj.d15 F of (c,())=some ((p c,()),())) (hs:s.size<4611686018427387904) :
  ∀(xs:List UInt8) (n fu:Nat),s.data.toList.drop n=xs->xs.length<fu->yj.l2 F (fun _ _ n _=>k n) fu s of (n:Int)=k ((n+(xs.takeWhile fun c=>p (cI c)).length:Nat):Int):=by
 intro xs;induction xs with
 | nil =>
  intro n fu h hf;obtain ⟨fu,rfl⟩:∃j,fu=j+1:=⟨fu-1,by simp at hf; omega⟩;have hn:s.size<=n:=by rw[vL]; simpa using h
  have e1:decide ((n:Int)<(s.size:Int))=false:=by simp; exact hn
  simp only[yj.l2,yj.l2.body,e1,cond_false,List.takeWhile_nil,List.length_nil,Nat.add_zero]
 | cons c xs ih =>
  intro n fu h hf;obtain ⟨fu,rfl⟩:∃j,fu=j+1:=⟨fu-1,by simp at hf; omega⟩;have hn:n<s.size:=by rw[vL]; exact wq h
  have e1:decide ((n:Int)<(s.size:Int))=true:=by simp; exact hn
  have e2:idx (n:Int) s.size=true:=xm hn;simp only[yj.l2,yj.l2.body,e1,e2,cond_true,bt_at h,hp,zp];cases hc:p (cI c) with
  | true =>
   simp only[cond_true];rw[yV (by omega) (by omega),<-xI,ih (n+1) fu (xL h) (by simp at hf; omega)];simp only[List.takeWhile_cons,hc,if_true,List.length_cons];congr 2
   omega
  | false =>
   simp only[cond_false,List.takeWhile_cons,hc];simp
theorem zcw (F:Nat) {s:ByteArray} {of:Nat} {p:Int->Bool} (hp:∀c,yj.d15 F of (c,())=some ((p c,()),())) (hs:s.size<4611686018427387904) (hF:s.size<F) :
  yj.sh F s of=some ((((s.data.toList.takeWhile fun c=>p (cI c)).length:Int),()),()):=by
 unfold yj.sh;have:=run_l2 F (fun n=>(some ((n,()),()):Option yj.sg.R)) s of p hp hs s.data.toList 0 F (by simp) (by rw[<-vL]; exact hF);simpa using this
theorem zal (F:Nat) (c:Int):yj.d15 F vO (c,())=some ((UF c,()),()):=by
 unfold yj.d15;rw[show mkT yj.ds15 [(v6,xJ.sp F),(vO,yY.sp F)] vO (c,())=yY.sh F c from rfl,W3]
theorem zbZ (F:Nat) (c:Int):yj.d15 F v6 (c,())=some ((za1 c,()),()):=by
 unfold yj.d15;rw[show mkT yj.ds15 [(v6,xJ.sp F),(vO,yY.sp F)] v6 (c,())=xJ.sh F c from rfl,zd7]
theorem uv {α:Type} {p:α->Bool}:∀{l:List α},((l.takeWhile p).length=l.length)↔l.all p=true
 | []=>by simp
 | a::l=>by
  simp only[List.takeWhile_cons,List.all_cons];cases h:p a with
  | true=>simp only[if_true,List.length_cons,Bool.true_and]; rw[<-uv (l:=l)]; omega
  | false=>simp
def wordsL:List UInt8:=[32,112,108,97,110,32,114,111,117,110,100,32,98,121,32,98,108,111,99,107,115,32,109,105,110,32,109,97,120,32,111,118,101,114,32,117,112,116,111,32,103,114,97,100,117,97,116,101,100,32,118,111,108,117,109,101,32,111,102,102,32,105,102,32,102,108,111,111,114,32,99,101,105,108,32,122,101,114,111,32,104,97,108,102,32,101,118,101,110,32]
def zcb (l:List UInt8):Bool:=!l.isEmpty&&(l.all (fun c=>UF (cI c))&&Lib.contains wordsL ([32]++l++[32]))
def X4 (l:List UInt8):Bool:=!l.isEmpty&&(decide (l.length<=32)&&(UF (cI (l.headD 0))&&(l.all (fun c=>za1 (cI c))&&!zcb l)))
theorem RY (s:ByteArray):(!(s.toList==(⟨#[]⟩:ByteArray).toList))=!s.data.toList.isEmpty:=by
 rw[ByteArray.toList_eq,ByteArray.toList_eq];cases s.data.toList<;>rfl
theorem word_eq (F:Nat) {s:ByteArray} (hs:s.size<=1048576) (hF:s.size<F):x8.sh F s=some ((zcb s.data.toList,()),()):=by
 unfold x8.sh;rw[RY,zcw F (zal F) (by omega) hF];unfold zcb;cases hE:s.data.toList.isEmpty with
 | true=>rfl
 | false =>
  simp only[Bool.not_false,cond_true,zp,Bool.true_and];by_cases ha:s.data.toList.all (fun c=>UF (cI c))=true
  ·have e1:(((s.data.toList.takeWhile fun c=>UF (cI c)).length:Int)==(s.size:Int))=true:=by
    rw[uv.2 ha,<-vL]; simp
   have s1:(⟨#[32]⟩:ByteArray).size=1:=rfl;have s2:((⟨#[32]⟩:ByteArray)++s).size=1+s.size:=by rw[ByteArray.size_append]; rfl
   have e2:Nat.ble ((⟨#[32]⟩:ByteArray).size+s.size) xu=true:=by rw[s1,Nat.ble_eq]; unfold xu; omega
   have e3:Nat.ble (((⟨#[32]⟩:ByteArray)++s).size+(⟨#[32]⟩:ByteArray).size) xu=true:=by rw[s1,s2,Nat.ble_eq]; unfold xu; omega
   rw[e1,e2,e3,ha];simp only[cond_true,Bool.true_and];have hd:((⟨#[32]⟩:ByteArray)++s++(⟨#[32]⟩:ByteArray)).data.toList=[32]++s.data.toList++[32]:=by simp[ByteArray.data_append]
   unfold yN.sh;rw[hd];rfl
  ·have e1:(((s.data.toList.takeWhile fun c=>UF (cI c)).length:Int)==(s.size:Int))=false:=by
    rw[beq_eq_false_iff_ne];intro h;apply ha;rw[<-uv];rw[vL] at h;exact_mod_cast h
   rw[e1];simp only[cond_false];rw[Bool.not_eq_true] at ha;rw[ha];rfl
theorem zaL (F:Nat) {s:ByteArray} (hF:64<F):xV.sh F s=some ((X4 s.data.toList,()),()):=by
 unfold xV.sh X4;rw[RY];cases hE:s.data.toList.isEmpty with
 | true=>rfl
 | false =>
  simp only[Bool.not_false,cond_true,Bool.true_and];by_cases hl:s.data.toList.length<=32
  ·have e1:decide ((s.size:Int)<=32)=true:=decide_eq_true (by have:=vL s; omega)
   have hpos:0<s.size:=by rw[vL]; cases h:s.data.toList with | nil=>rw[h] at hE; cases hE | cons=>simp
   have e2:idx 0 s.size=true:=xm (i:=0) hpos;have e3:bt s 0=cI (s.data.toList.headD 0):=by
    cases h:s.data.toList with
    | nil=>rw[h] at hE; cases hE
    | cons c r=>exact bt_at (n:=0) (r:=r) (by simpa using h)
   have hsz:s.size<=32:=by rw[vL]; exact hl
   rw[e1,e2,e3,W3,zcw F (zbZ F) (by omega) (by omega),word_eq F (by omega) (by omega)];simp only[cond_true,zp,hl,decide_true,Bool.true_and];cases UF (cI (s.data.toList.headD 0)) with
   | false=>rfl
   | true =>
    simp only[cond_true,Bool.true_and];by_cases ha:s.data.toList.all (fun c=>za1 (cI c))=true
    ·have e4:(((s.data.toList.takeWhile fun c=>za1 (cI c)).length:Int)==(s.size:Int))=true:=by
      rw[uv.2 ha,<-vL]; simp
     rw[e4,ha];rfl
    ·have e4:(((s.data.toList.takeWhile fun c=>za1 (cI c)).length:Int)==(s.size:Int))=false:=by
      rw[beq_eq_false_iff_ne];intro h;apply ha;rw[<-uv];rw[vL] at h;exact_mod_cast h
     rw[e4];rw[Bool.not_eq_true] at ha;rw[ha];rfl
  ·have e1:decide ((s.size:Int)<=32)=false:=decide_eq_false (by have:=vL s; omega)
   have e2:decide (s.data.toList.length<=32)=false:=decide_eq_false hl;rw[e1,e2];rfl
theorem Xa {n:Int} {len:Nat} (h1:0<=n) (h2:n<(len:Int)):idx n len=true:=by
 unfold idx; rw[decide_eq_true h1,decide_eq_true h2]; rfl
def ZT (a b:ByteArray):Bool:=a.toList==b.toList
theorem d16_eq (F:Nat) (e d:yy.T):zk.d16 F (wZ+1) (e,d,())=some ((ZT e.1 d.1,()),()):=by
 unfold zk.d16;rw[show mkT zk.ds16 [(ZI,xl.sp F)] (wZ+1) (e,d,())=xl.sh F e d from rfl];rfl
theorem zbM (F:Nat) {R:Type} (k:Int->Option R) (k':Option R) (L:List yy.T) (N:Int) (d:yy.T):∀(xs:List yy.T) (i:Nat),
  zk.l2.rg F k (fun _ _ _ _ _=>k') L N xs (i:Int) (wZ,d)=match xs.findIdx? (fun e=>ZT e.1 d.1) with | some j=>k ((i+j:Nat):Int) | none=>k':=by
 intro xs;induction xs with
 | nil=>intro i; rfl
 | cons x xs ih =>
  intro i;simp only[zk.l2.rg];rw[d16_eq];simp only[zp];cases h:ZT x.1 d.1 with
  | true=>simp[List.findIdx?_cons,h]
  | false =>
   simp only[cond_false];rw[<-xI,ih (i+1)];simp only[List.findIdx?_cons,h];cases hj:xs.findIdx? (fun e=>ZT e.1 d.1) with
   | none=>simp
   | some j=>simp; congr 1; omega
theorem Rs (F:Nat) {l:List yy.T} {d:yy.T} (hl:l.length<F) (hL:l.length<4611686018427387904):zY.sh F l (wZ,d)=some ((l.any (fun e=>ZT e.1 d.1),()),()):=by
 unfold zY.sh zk.sh;have h1:=zk.l2.rg_eq F (fun r42=>(some ((r42,()),()):Option zk.sg.R)) (fun s3 f3 t73 t83 t93=>some (((-1),()),())) l (l.length:Int) rfl (by omega) l 0 F (wZ,d) (by simp) hl;have h2:=zbM F (fun r=>(some ((r,()),()):Option zk.sg.R)) (some (((-1),()),())) l (l.length:Int) d l 0;have h3:=h1.trans h2;rw[show ((0:Nat):Int)=0 from rfl] at h3;rw[h3];cases h:l.findIdx? (fun e=>ZT e.1 d.1) with
 | none =>
  have:l.any (fun e=>ZT e.1 d.1)=false:=by
   rw[List.findIdx?_eq_none_iff] at h;rw[List.any_eq_false];intro x hx;simpa using h x hx
  simp only[zp,this];rfl
 | some j =>
  have:l.any (fun e=>ZT e.1 d.1)=true:=by
   rw[List.findIdx?_eq_some_iff_getElem] at h;obtain ⟨h1,h2,_⟩:=h;rw[List.any_eq_true];exact ⟨l[j],List.getElem_mem _,h2⟩
  simp only[zp,this];have:decide (((0+j:Nat):Int)>=0)=true:=decide_eq_true (by omega);rw[this]
abbrev dS (d:yy.T):Int:=d.2
def dE (pre:List yy.T):List yy.T->Int
 | []=>0
 | d::r=>bif !X4 d.1.data.toList then 61 else bif pre.any (fun e=>ZT e.1 d.1) then 61 else bif decide (dS d<1) then 50 else bif decide (dS d>1000000000000) then 50 else dE (pre++[d]) r
def ZH (name:ByteArray) (dims:List yy.T) (mode:Int):Int :=
 bif !X4 name.data.toList then 61 else bif decide ((dims.length:Int)<1) then 100 else bif decide ((dims.length:Int)>4) then 100 else bif dE [] dims != 0 then dE [] dims else bif decide (mode<0) then 50 else bif decide (mode>4) then 50 else 0
theorem tX {n i:Nat} (h:i<=n):zA n none (some (i:Int))=(true,0,i):=by
 unfold zA;have e1:decide ((0:Int)<=((i:Nat):Int))=true:=decide_eq_true (by omega);have e2:decide (((i:Nat):Int)<=(n:Int))=true:=decide_eq_true (by omega);simp only[Option.getD_none,Option.getD_some,e1,e2,Int.toNat_natCast];rfl
theorem Zd {n i:Nat} (h:i<=n):zA n (some (i:Int)) none=(true,i,n):=by
 unfold zA;have e1:decide ((0:Int)<=((i:Nat):Int))=true:=decide_eq_true (by omega);have e2:decide (((i:Nat):Int)<=(n:Int))=true:=decide_eq_true (by omega);have e3:decide ((n:Int)<=(n:Int))=true:=decide_eq_true (by omega);simp only[Option.getD_none,Option.getD_some,e1,e2,e3,Int.toNat_natCast];rfl
theorem head_rg (F:Nat) (hF:64<F) {R:Type} (k:Int->Option R) (k2:zL.T->Option R) (L:List yy.T) (N:Int) (p:zL.T) (hp:p.2.1=L) (hL:L.length<=32):∀(xs:List yy.T) (i:Nat),L.drop i=xs->
  z7.l6.rg F k k (fun _ _ _ _ p=>k2 p) L N xs (i:Int) p=bif dE (L.take i) xs != 0 then k (dE (L.take i) xs) else k2 p:=by
 intro xs;induction xs with
 | nil=>intro i h; rfl
 | cons d xs ih =>
  intro i h;have hi:=wq h;have hd:L[i]?=some d:=by have:=congrArg (·[0]?) h; simpa using this
  have htake:L.take (i+1)=L.take i++[d]:=by rw[List.take_add_one,hd]; rfl
  simp only[z7.l6.rg];rw[zaL F hF];simp only[zp,dE];rw[<-xI,ih (i+1) (xL h),htake];cases hn:X4 d.1.data.toList with
  | false=>rfl
  | true =>
   simp only[Bool.not_true,cond_false];rw[hp,tX (by omega)];simp only[cond_true,List.drop_zero];rw[Rs F (by simp; omega) (by simp; omega)];simp only[zp];cases hc:(L.take i).any (fun e=>ZT e.1 d.1) with
   | true=>rfl
   | false =>
    simp only[cond_false];cases decide (dS d<1) with
    | true=>rfl
    | false =>
     cases decide (dS d>1000000000000) with
     | true=>rfl
     | false=>rfl
theorem head_eq (F:Nat) (hF:64<F) (p:zL.T):z7.sh F p=some ((ZH p.1 p.2.1 p.2.2.1,()),()):=by
 unfold z7.sh ZH;rw[zaL F hF];simp only[zp];cases hn:X4 p.1.data.toList with
 | false=>rfl
 | true =>
  simp only[Bool.not_true,cond_false];cases h1:decide ((p.2.1.length:Int)<1) with
  | true=>rfl
  | false =>
   cases h2:decide ((p.2.1.length:Int)>4) with
   | true=>rfl
   | false =>
    have h2:=of_decide_eq_false h2;simp only[cond_false];refine Eq.trans (z7.l6.rg_eq F _ _ _ p.2.1 _ rfl (by omega) p.2.1 0 F _ (by simp) (by omega)) ?_;refine (head_rg F hF (fun r=>(some ((r,()),()):Option z7.sg.R)) (fun p=>bif decide (p.2.2.1<0) then some ((50,()),()) else bif decide (p.2.2.1>4) then some ((50,()),()) else some ((0,()),())) p.2.1 (p.2.1.length:Int) p rfl (by omega) p.2.1 0 (by simp)).trans ?_;simp only[List.take_zero];cases (dE [] p.2.1 != 0) with
    | true=>rfl
    | false =>
     cases decide (p.2.2.1<0) with
     | true=>rfl
     | false=>cases decide (p.2.2.1>4)<;>rfl
abbrev nK (n:zb.T):Int:=n.1
abbrev nN (n:zb.T):Int:=n.2.1
abbrev nO (n:zb.T):Int:=n.2.2.1
abbrev nC (n:zb.T):Int:=n.2.2.2.1
abbrev nT (n:zb.T):List zN.T:=n.2.2.2.2.1
abbrev uB (n:zb.T):Int×Int×Bool×Bool:=get yW vn (nK n).toNat
abbrev aK (n:zb.T):Int:=(uB n).1
def ar (n:zb.T):Nat:=bif decide (aK n>=0) then (aK n).toNat else (nC n).toNat
def tI (n:zb.T):Bool:=decide (1<=nK n)&&decide (nK n<=16)
def uy (n:zb.T):Bool:=bif decide (aK n<0) then decide (nC n>=2)&&decide (nC n<=16) else nC n==0
theorem qZ {n:zb.T}:tI n=true↔1<=nK n/\nK n<=16:=by simp[tI]
theorem Xp (F:Nat) {n:zb.T} (h:tI n=true) (hk:uy n=true):yL.sh F n=some (((ar n:Int),()),()):=by
 unfold yL.sh;have hg:=qZ.1 h;have e1:idx (nK n) 17=true:=Xa (by omega) (by omega);unfold ar;unfold uy at hk;rw[show idx n.1 17=true from e1];simp only[cond_true];cases ha:decide (aK n>=0) with
 | true =>
  have ha':=of_decide_eq_true ha;simp only[cond_true];have:(((aK n).toNat:Nat):Int)=aK n:=by omega
  rw[this]
 | false =>
  have ha':=of_decide_eq_false ha;simp only[cond_false];rw[decide_eq_true (show aK n<0 by omega)] at hk;simp at hk;have:(((nC n).toNat:Nat):Int)=nC n:=by omega
  rw[this]
abbrev tF (x:zN.T):Int:=x.1
abbrev tR (x:zN.T):Int:=x.2
def QZ (l:List zN.T) (i:Nat) (x:zN.T):Bool:=(decide (i=0)||!decide (tF x<=tF (l.getD (i-1) (0,0))))&&(!decide (tF x>1000000000000)&&(!decide (tR x < -1000000000000)&&!decide (tR x>1000000000000)))
def qx (l:List zN.T):List zN.T->Nat->Bool
 | [],_=>true
 | x::r,i=>QZ l i x&&qx l r (i+1)
def qJ (l:List zN.T):Bool:=decide (1<=l.length)&&(decide (l.length<=16)&&(decide (tF (l.getD 0 (0,0))=0)&&qx l l 0))
theorem zbs (F:Nat) {R:Type} (k:Bool->Option R) (k1:Option R) (l:List zN.T) (N:Int) (hl:l.length<=32):∀(xs:List zN.T) (i:Nat),l.drop i=xs->
  zJ.l4.rg F k (fun _ _ _ _ _=>k1) l N xs (i:Int) l=bif qx l xs i then k1 else k false:=by
 intro xs;induction xs with
 | nil=>intro i h; simp[zJ.l4.rg,qx]
 | cons x xs ih =>
  intro i h;have hi:=wq h;have ih:=ih (i+1) (xL h);rw[xI] at ih;simp only[zJ.l4.rg,qx,QZ];by_cases h0:i=0
  ·subst h0
   have e1:decide (((0:Nat):Int)>0)=false:=rfl;simp only[e1,cond_false,decide_true,Bool.true_or,Bool.true_and];cases decide (tF x>1000000000000)<;>cases decide (tR x < -1000000000000)<;>cases decide (tR x>1000000000000)<;>first | rfl | exact ih
  ·have e1:decide (((i:Nat):Int)>0)=true:=decide_eq_true (by omega)
   have e2:i64.wrap ((i:Int)-1)=((i-1:Nat):Int):=by rw[yV (by omega) (by omega)]; omega
   have e3:idx ((i-1:Nat):Int) l.length=true:=xm (by omega);have e4:get zN l (((i-1:Nat):Int).toNat)=l.getD (i-1) (0,0):=rfl;have e5:decide (i=0)=false:=decide_eq_false h0;simp only[e1,e2,e3,e4,e5,cond_true,Bool.false_or];cases decide (tF x<=tF (l.getD (i-1) (0,0)))<;>cases decide (tF x>1000000000000)<;>cases decide (tR x < -1000000000000)<;>cases decide (tR x>1000000000000)<;>first | rfl | exact ih
theorem zbt (F:Nat) (hF:64<F) (l:List zN.T):zJ.sh F l=some ((qJ l,()),()):=by
 unfold zJ.sh qJ;by_cases h1:1<=l.length
 ·have e1:decide ((l.length:Int)<1)=false:=decide_eq_false (by omega)
  by_cases h2:l.length<=16
  ·have e2:decide ((l.length:Int)>16)=false:=decide_eq_false (by omega)
   have e3:idx 0 l.length=true:=xm (i:=0) (by omega);simp only[e1,e2,e3,cond_false,cond_true,h1,h2,decide_true,Bool.true_and];have e4:get zN l 0=l.getD 0 (0,0):=rfl;rw[e4];by_cases h3:tF (l.getD 0 (0,0))=0
   ·have e5:(tF (l.getD 0 (0,0)) != 0)=false:=by rw[h3]; rfl
    rw[e5,h3];simp only[cond_false,decide_true,Bool.true_and];refine Eq.trans (zJ.l4.rg_eq F _ _ l _ rfl (by omega) l 0 F _ (by simp) (by omega)) ?_;refine Eq.trans (zbs F (fun r=>(some ((r,()),()):Option zJ.sg.R)) (some ((true,()),())) l (l.length:Int) (by omega) l 0 (by simp)) ?_;cases qx l l 0<;>rfl
   ·have e5:(tF (l.getD 0 (0,0)) != 0)=true:=bne_iff_ne.2 h3
    have e6:decide (tF (l.getD 0 (0,0))=0)=false:=decide_eq_false h3;rw[e5,e6];rfl
  ·have e2:decide ((l.length:Int)>16)=true:=decide_eq_true (by omega)
   have e3:decide (l.length<=16)=false:=decide_eq_false h2;rw[e1,e2,e3];simp
 ·have e1:decide ((l.length:Int)<1)=true:=decide_eq_true (by omega)
  have e3:decide (1<=l.length)=false:=decide_eq_false h1;rw[e1,e3];rfl
def YO (n:zb.T) (dims:Nat):Int:=bif decide ((uB n).2.1<0) then (dims:Int)-1 else (uB n).2.1
def opB (n:zb.T):Bool:=bif (uB n).2.2.2 then decide (nO n>=1)&&decide (nO n<=6) else nO n==0
def ut (n:zb.T):Bool:=(uB n).2.2.1
def wD (dims:Nat) (n:zb.T) (pile:Nat):Int :=
 bif !tI n then 50 else bif decide (nN n<0) then 50 else bif decide (nN n>YO n dims) then 50 else bif !uy n then 50 else bif !opB n then 50
 else bif !ut n&&decide (((nT n).length:Int)>0) then 50 else bif decide ((pile:Int)<(ar n:Int)) then 50 else bif ut n&&!qJ (nT n) then 51 else 0
theorem zcO (F:Nat) (hF:64<F) {R:Type} (k:Int->Option R) {n:zb.T} (hg:tI n=true) (pile:Nat) (most:Int) (kids op:Bool) (hk:kids=true->uy n=true) (a:yW.T) :
  zX.j13 F k k k (pile:Int) most kids op n a=k (bif decide (nN n<0) then 50 else bif decide (nN n>most) then 50 else bif !kids then 50 else bif !op then 50
 else bif !a.2.2.1&&decide (((nT n).length:Int)>0) then 50 else bif decide ((pile:Int)<(ar n:Int)) then 50 else bif a.2.2.1&&!qJ (nT n) then 51 else 0):=by
 unfold zX.j13;cases h1:decide (nN n<0) with
 | true=>rfl
 | false =>
  cases h2:decide (nN n>most) with
  | true=>rfl
  | false =>
   cases kids with
   | false=>rfl
   | true =>
    cases op with
    | false=>rfl
    | true =>
     simp only[Bool.not_true,cond_false];rw[Xp F hg (hk rfl)];simp only[zp];rw[zbt F hF];simp only[zp];cases h3:a.2.2.1 with
     | false =>
      simp only[Bool.not_false,cond_true,Bool.true_and,cond_false,Bool.false_and];cases decide (((nT n).length:Int)>0) with
      | true=>rfl
      | false=>cases decide ((pile:Int)<(ar n:Int))<;>rfl
     | true =>
      simp only[Bool.not_true,cond_true,Bool.true_and,cond_false,Bool.false_and];cases decide ((pile:Int)<(ar n:Int)) with
      | true=>rfl
      | false=>cases qJ (nT n)<;>rfl
theorem node_eq (F:Nat) (hF:64<F) (n:zb.T) {dims:Nat} (hd:dims<4611686018427387904) (pile:Nat):zX.sh F n (dims:Int) (pile:Int)=some ((wD dims n pile,()),()):=by
 unfold zX.sh wD;cases hg:tI n with
 | false =>
  have:decide ((n.1:Int)<1)=true\/decide ((n.1:Int)>16)=true:=by
   rcases Int.lt_or_le (nK n) 1 with h | h
   ·exact .inl (decide_eq_true h)
   ·rcases Int.lt_or_le 16 (nK n) with h' | h'
    ·exact .inr (decide_eq_true h')
    ·rw[qZ.2 ⟨h,h'⟩] at hg; cases hg
  rcases this with h | h
  ·rw[h]; rfl
  ·rw[h]; cases decide ((n.1:Int)<1)<;>rfl
 | true =>
  have hg':=qZ.1 hg;have e1:decide ((nK n:Int)<1)=false:=decide_eq_false (by omega);have e2:decide ((nK n:Int)>16)=false:=decide_eq_false (by omega);have e3:idx (nK n) 17=true:=Xa (by omega) (by omega);rw[show decide (n.1<1)=false from e1,show decide (n.1>16)=false from e2,show idx n.1 17=true from e3];simp only[cond_false,cond_true,Bool.not_true];have hw:i64.wrap ((dims:Int)-1)=(dims:Int)-1:=yV (by omega) (by omega);rw[hw];have key:∀most:Int,zX.j7 F (fun r=>(some ((r,()),()):Option zX.sg.R)) (fun r=>some ((r,()),())) (fun r=>some ((r,()),())) (pile:Int) most n (uB n) =
   some ((bif decide (nN n<0) then 50 else bif decide (nN n>most) then 50 else bif !uy n then 50 else bif !opB n then 50
    else bif !ut n&&decide (((nT n).length:Int)>0) then 50 else bif decide ((pile:Int)<(ar n:Int)) then 50 else bif ut n&&!qJ (nT n) then 51 else 0,()),()):=by
   intro most;have k10:∀kids:Bool,kids=uy n->zX.j10 F (fun r=>(some ((r,()),()):Option zX.sg.R)) (fun r=>some ((r,()),())) (fun r=>some ((r,()),())) (pile:Int) most kids n (uB n) =
    some ((bif decide (nN n<0) then 50 else bif decide (nN n>most) then 50 else bif !uy n then 50 else bif !opB n then 50
     else bif !ut n&&decide (((nT n).length:Int)>0) then 50 else bif decide ((pile:Int)<(ar n:Int)) then 50 else bif ut n&&!qJ (nT n) then 51 else 0,()),()):=by
    intro kids hkk;have k13:=fun op:Bool=>zcO F hF (fun r=>(some ((r,()),()):Option zX.sg.R)) hg pile most kids op (fun h=>by rw[<-hkk,h]) (uB n)
    unfold zX.j10;rw[show (fun r=>(some ((r,()),()):Option zX.sg.R))=(fun r=>some ((r,()),())) from rfl] at k13;rw[k13,k13,k13,hkk];unfold opB ut;cases (uB n).2.2.2 with
    | false=>rfl
    | true=>cases decide (nO n>=1)<;>rfl
   unfold zX.j7;cases ha:decide (aK n<0) with
   | true =>
    cases hc:decide (nC n>=2) with
    | true=>exact k10 _ (by unfold uy; rw[ha,hc]; rfl)
    | false=>exact k10 _ (by unfold uy; rw[ha,hc]; rfl)
   | false=>exact k10 _ (by unfold uy; rw[ha]; rfl)
  unfold YO;cases hm:decide ((uB n).2.1<0) with
  | true=>exact key _
  | false=>exact key _
def VW (dims:Nat):List zb.T->Nat->Nat->Option (Nat×Int)
 | [],_,_=>none
 | n::r,pile,i=>bif wD dims n pile != 0 then some (i,wD dims n pile) else VW dims r (pile-ar n+1) (i+1)
def Ts:List zb.T->Nat->Nat
 | [],pile=>pile
 | n::r,pile=>Ts r (pile-ar n+1)
theorem xF {dims:Nat} {n:zb.T} {pile:Nat} (h:wD dims n pile=0) :
  tI n=true/\0<=nN n/\nN n<=YO n dims/\uy n=true/\opB n=true/\(ut n=false->nT n=[])/\ar n<=pile/\(ut n=true->qJ (nT n)=true):=by
 unfold wD at h;cases h1:tI n with
 | false=>rw[h1] at h; exact absurd (show (50:Int)=0 from h) (by decide)
 | true =>
 rw[h1] at h;cases h2:decide (nN n<0) with
 | true=>rw[h2] at h; exact absurd (show (50:Int)=0 from h) (by decide)
 | false =>
 rw[h2] at h;cases h3:decide (nN n>YO n dims) with
 | true=>rw[h3] at h; exact absurd (show (50:Int)=0 from h) (by decide)
 | false =>
 rw[h3] at h;cases h4:uy n with
 | false=>rw[h4] at h; exact absurd (show (50:Int)=0 from h) (by decide)
 | true =>
 rw[h4] at h;cases h5:opB n with
 | false=>rw[h5] at h; exact absurd (show (50:Int)=0 from h) (by decide)
 | true =>
 rw[h5] at h;cases h6:(!ut n&&decide (((nT n).length:Int)>0)) with
 | true=>rw[h6] at h; exact absurd (show (50:Int)=0 from h) (by decide)
 | false =>
 rw[h6] at h;cases h7:decide ((pile:Int)<(ar n:Int)) with
 | true=>rw[h7] at h; exact absurd (show (50:Int)=0 from h) (by decide)
 | false =>
 rw[h7] at h;cases h8:(ut n&&!qJ (nT n)) with
 | true=>rw[h8] at h; exact absurd (show (51:Int)=0 from h) (by decide)
 | false =>
 have h2:=of_decide_eq_false h2;have h3:=of_decide_eq_false h3;have h7:=of_decide_eq_false h7;refine ⟨rfl,by omega,by omega,rfl,rfl,fun ht=>?_,by omega,fun ht=>?_⟩
 ·rw[ht] at h6
  simp only[Bool.not_false,Bool.true_and] at h6;have h6:=of_decide_eq_false h6;exact List.eq_nil_of_length_eq_zero (by omega)
 ·rw[ht] at h8
  simp only[Bool.true_and] at h8;cases hr:qJ (nT n) with
  | true=>rfl
  | false=>rw[hr] at h8; cases h8
theorem zbi {n:zb.T} (hg:tI n=true) (hk:uy n=true):ar n<=16:=by
 unfold ar;unfold uy at hk;cases h:decide (aK n<0) with
 | true =>
  have h':=of_decide_eq_true h;rw[h] at hk;simp at hk;rw[decide_eq_false (show ¬aK n>=0 by omega)];simp only[cond_false];omega
 | false =>
  have h':=of_decide_eq_false h;rw[decide_eq_true (show aK n>=0 by omega)];simp only[cond_true];have hg:=qZ.1 hg;have:∀i:Nat,(get yW vn i).1<=(16:Int):=by
   intro i;rcases Nat.lt_or_ge i 17 with hi | hi
   ·have:∀j:Fin 17,(get yW vn j.1).1<=(16:Int):=by decide
    exact this ⟨i,hi⟩
   ·have:get yW vn i=Ty.dflt yW:=by
     unfold get;rw[List.getD_eq_getElem?_getD,List.getElem?_eq_none (by exact hi)];rfl
    rw[this]; decide
  have:aK n<=(16:Int):=this _;omega
theorem zdC (F:Nat) (hF:64<F) {R:Type} (k0:Int->Int->Option R) (k1:Int->zL.T->Option R) (L:List zb.T) (N:Int) (p:zL.T) (hp:p.2.1.length<=32):∀(xs:List zb.T) (i pile:Nat),pile+xs.length<4611686018427387904->
  zM.l8.rg F k0 (fun pile _ _ _ _ p=>k1 pile p) L N xs (i:Int) (pile:Int) p=match VW p.2.1.length xs pile i with | some (j,e)=>k0 (j:Int) e | none=>k1 (Ts xs pile:Int) p:=by
 intro xs;induction xs with
 | nil=>intro i pile h; rfl
 | cons n xs ih =>
  intro i pile h;simp only[List.length_cons] at h;simp only[zM.l8.rg];rw[node_eq F hF n (by omega)];simp only[zp,VW,Ts];cases he:(wD p.2.1.length n pile != 0) with
  | true=>rfl
  | false =>
   simp only[cond_false];have he:wD p.2.1.length n pile=0:=by simpa using he
   obtain ⟨h1,h2,h3,h4,h5,h6,h7,h8⟩:=xF he;have ha:=zbi h1 h4;rw[Xp F h1 h4];simp only[zp];rw[yV (n:=1-(ar n:Int)) (by omega) (by omega),yV (by omega) (by omega)];rw[show (pile:Int)+(1-(ar n:Int))=((pile-ar n+1:Nat):Int) by omega];have:=ih (i+1) (pile-ar n+1) (by omega);rw[xI] at this;exact this
def vd (p:zL.T):Int×Int :=
 bif ZH p.1 p.2.1 p.2.2.1 != 0 then (-1,ZH p.1 p.2.1 p.2.2.1) else bif decide ((p.2.2.2.length:Int)>1024) then (1024,2) else
 match VW p.2.1.length p.2.2.2 0 0 with
 | some (j,e)=>((j:Int),e)
 | none=>bif ((Ts p.2.2.2 0:Int) != 1) then ((p.2.2.2.length:Int),50) else (0,0)
theorem uj {name:ByteArray} {dims:List yy.T} {mode:Int} (h:ZH name dims mode=0):1<=dims.length/\dims.length<=4/\dE [] dims=0/\X4 name.data.toList=true/\0<=mode/\mode<=4:=by
 unfold ZH at h;cases h0:X4 name.data.toList with
 | false=>rw[h0] at h; exact absurd (show (61:Int)=0 from h) (by decide)
 | true =>
 rw[h0] at h;cases h1:decide ((dims.length:Int)<1) with
 | true=>rw[h1] at h; exact absurd (show (100:Int)=0 from h) (by decide)
 | false =>
 rw[h1] at h;cases h2:decide ((dims.length:Int)>4) with
 | true=>rw[h2] at h; exact absurd (show (100:Int)=0 from h) (by decide)
 | false =>
 rw[h2] at h;cases h3:(dE [] dims != 0) with
 | true=>rw[h3] at h; simp only[Bool.not_true,cond_false,cond_true] at h; rw[h] at h3; exact absurd h3 (by decide)
 | false =>
 rw[h3] at h;cases h4:decide (mode<0) with
 | true=>rw[h4] at h; exact absurd (show (50:Int)=0 from h) (by decide)
 | false =>
 rw[h4] at h;cases h5:decide (mode>4) with
 | true=>rw[h5] at h; exact absurd (show (50:Int)=0 from h) (by decide)
 | false =>
 have h1:=of_decide_eq_false h1;have h2:=of_decide_eq_false h2;have h4:=of_decide_eq_false h4;have h5:=of_decide_eq_false h5;refine ⟨by omega,by omega,by simpa using h3,rfl,by omega,by omega⟩
theorem Yc (F:Nat) (hF:2048<F) (p:zL.T):zM.sh F p=some (((vd p).1,(vd p).2,()),()):=by
 unfold zM.sh vd;rw[head_eq F (by omega)];simp only[zp];cases h:(ZH p.1 p.2.1 p.2.2.1 != 0) with
 | true=>rfl
 | false =>
  have hh:=uj (show ZH p.1 p.2.1 p.2.2.1=0 by simpa using h);cases h1:decide ((p.2.2.2.length:Int)>1024) with
  | true=>rfl
  | false =>
   have h1:=of_decide_eq_false h1;simp only[cond_false];refine Eq.trans (zM.l8.rg_eq F _ _ p.2.2.2 _ rfl (by omega) p.2.2.2 0 F _ _ (by simp) (by omega)) ?_;refine (zdC F (by omega) (fun r24 r34=>(some ((r24,r34,()),()):Option zM.sg.R)) (fun pile5 p5=>bif (pile5 != 1) then some (((p5.2.2.2.length:Int),50,()),()) else some ((0,0,()),())) p.2.2.2 (p.2.2.2.length:Int) p (by omega) p.2.2.2 0 0 (by omega)).trans ?_;cases VW p.2.1.length p.2.2.2 0 0 with
   | some x=>rfl
   | none=>cases hc:((Ts p.2.2.2 0:Int) != 1)<;>simp only[cond_true,cond_false,hc]
inductive Tree:Type
 | nd:zb.T->List Tree->Tree
mutual
def Tree.fold {α:Type} (f:zb.T->List α->α):Tree->α
 | .nd n ks=>f n (Tree.foldL f ks)
def Tree.foldL {α:Type} (f:zb.T->List α->α):List Tree->List α
 | []=>[]
 | t::r=>Tree.fold f t::Tree.foldL f r
end
theorem Tree.foldL_map {α:Type} (f:zb.T->List α->α):∀l:List Tree,Tree.foldL f l=l.map (Tree.fold f)
 | []=>rfl
 | t::r=>by rw[Tree.foldL,Tree.foldL_map f r]; rfl
theorem Tree.fold_nd {α:Type} (f:zb.T->List α->α) (n:zb.T) (ks:List Tree):Tree.fold f (.nd n ks)=f n (ks.map (Tree.fold f)):=by
 rw[Tree.fold,Tree.foldL_map]
theorem Tree.ind {P:Tree->Prop} (h:∀n ks,(∀k∈ks,P k)->P (.nd n ks)) (t:Tree):P t :=
 Tree.rec (motive_1:=P) (motive_2:=fun l=>∀k∈l,P k) (fun n ks ih=>h n ks ih) (by simp) (fun t r h1 h2 k hk=>by
  rcases List.mem_cons.1 hk with rfl | hk
  ·exact h1
  ·exact h2 k hk) t
def Tree.root:Tree->zb.T | .nd n _=>n
def Tree.kids:Tree->List Tree | .nd _ ks=>ks
def Tree.flat:Tree->List zb.T:=Tree.fold (fun n ks=>ks.flatten++[n])
def yH (l:List Tree):List zb.T:=(l.map Tree.flat).flatten
theorem Yv (n:zb.T) (ks:List Tree):Tree.flat (.nd n ks)=yH ks++[n]:=Tree.fold_nd _ n ks
def Tree.size (t:Tree):Nat:=t.flat.length
def Xr:Tree->Tree×List Tree:=Tree.fold (fun n ks=>(.nd n (ks.map (·.1)),(ks.map (·.2)).flatten++[.nd n (ks.map (·.1))]))
theorem zbq (t:Tree):(Xr t).1=t:=by
 refine Tree.ind (P:=fun t=>(Xr t).1=t) (fun n ks ih=>?_) t;unfold Xr at*;rw[Tree.fold_nd];simp only[List.map_map];congr 1
 exact (List.map_congr_left ih).trans (List.map_id' ks)
def Tree.subs (t:Tree):List Tree:=(Xr t).2
def uL (l:List Tree):List Tree:=(l.map Tree.subs).flatten
theorem Xq (n:zb.T) (ks:List Tree):Tree.subs (.nd n ks)=uL ks++[.nd n ks]:=by
 have:(ks.map (fun k=>(Xr k).1))=ks:=(List.map_congr_left (fun k _=>zbq k)).trans (List.map_id' ks);unfold Tree.subs uL;rw[Xr,Tree.fold_nd,<-Xr];simp only[List.map_map];rw[show ((fun x:Tree×List Tree=>x.1) ∘ Xr)=(fun k=>(Xr k).1) from rfl,this];rfl
theorem Uh (t:Tree):t.subs.length=t.flat.length:=by
 refine Tree.ind (P:=fun t=>t.subs.length=t.flat.length) (fun n ks ih=>?_) t;rw[Xq,Yv];simp only[List.length_append,List.length_cons,List.length_nil,uL,yH,List.length_flatten,List.map_map];congr 2
 exact List.map_congr_left (fun k hk=>ih k hk)
def wh (st:List Tree) (n:zb.T):Tree:=.nd n (st.drop (st.length-ar n))
def wo (st:List Tree) (n:zb.T):List Tree:=st.take (st.length-ar n)++[wh st n]
def news:List Tree->List zb.T->List Tree
 | _,[]=>[]
 | st,n::r=>wh st n::news (wo st n) r
def ta:List Tree->List zb.T->List Tree
 | st,[]=>st
 | st,n::r=>ta (wo st n) r
def okS (dims:Nat):List Tree->List zb.T->Prop
 | _,[]=>True
 | st,n::r=>wD dims n st.length=0/\okS dims (wo st n) r
theorem TH {st:List Tree} {n:zb.T} (h:ar n<=st.length):(wo st n).length=st.length-ar n+1:=by
 simp[wo]
theorem zdB (dims:Nat):∀(xs:List zb.T) (st:List Tree) (i:Nat),VW dims xs st.length i=none->okS dims st xs/\(ta st xs).length=Ts xs st.length
 | [],st,i,h=>⟨trivial,rfl⟩
 | n::r,st,i,h=>by
  simp only[VW] at h;cases he:(wD dims n st.length != 0) with
  | true=>rw[he] at h; cases h
  | false =>
   rw[he] at h;have he:wD dims n st.length=0:=by simpa using he
   have hl:=TH (xF he).2.2.2.2.2.2.1;simp only[cond_false] at h;rw[<-hl] at h;have:=zdB dims r (wo st n) (i+1) h;refine ⟨⟨he,this.1⟩,?_⟩;rw[ta,this.2,hl];rfl
theorem zcI (dims:Nat):∀(xs:List zb.T) (st:List Tree) (i:Nat),okS dims st xs->VW dims xs st.length i=none/\Ts xs st.length=(ta st xs).length
 | [],st,i,h=>⟨rfl,rfl⟩
 | n::r,st,i,h=>by
  have hl:=TH (xF h.1).2.2.2.2.2.2.1;have:=zcI dims r (wo st n) (i+1) h.2;rw[hl] at this;simp only[VW,h.1,Ts,ta];exact this
theorem q8 (a b:List Tree):yH (a++b)=yH a++yH b:=by simp[yH]
theorem Vb (t:Tree):yH [t]=t.flat:=by simp[yH]
theorem vC (st:List Tree) (n:zb.T):yH (wo st n)=yH st++[n]:=by
 unfold wo wh;rw[q8,Vb,Yv,<-List.append_assoc,<-q8,List.take_append_drop]
theorem Sf:∀(xs:List zb.T) (st:List Tree),yH (ta st xs)=yH st++xs
 | [],st=>by simp[ta]
 | n::r,st=>by rw[ta,Sf r,vC]; simp
theorem TF (a b:List Tree):uL (a++b)=uL a++uL b:=by simp[uL]
theorem TC (t:Tree):uL [t]=t.subs:=by simp[uL]
theorem QN (st:List Tree) (n:zb.T):uL (wo st n)=uL st++[wh st n]:=by
 unfold wo;rw[TF,TC,wh,Xq,<-List.append_assoc,<-TF,List.take_append_drop]
theorem TD:∀(xs:List zb.T) (st:List Tree),uL (ta st xs)=uL st++news st xs
 | [],st=>by simp[ta,news]
 | n::r,st=>by rw[ta,TD r,QN,news]; simp
theorem QO {b st:List Tree} {n:zb.T} (h:ar n<=st.length):wh (b++st) n=wh st n/\wo (b++st) n=b++wo st n:=by
 have e:(b++st).length-ar n=b.length+(st.length-ar n):=by simp; omega
 have e1:wh (b++st) n=wh st n:=by
  unfold wh;rw[e,List.drop_append];simp
 refine ⟨e1,?_⟩;unfold wo;rw[e1,e,List.take_append,List.take_of_length_le (by omega)];simp
theorem Uv {dims:Nat} {n:zb.T} {p q:Nat} (h:wD dims n p=0) (hq:p<=q):wD dims n q=0:=by
 have hh:=xF h;have h7:decide ((p:Int)<(ar n:Int))=false:=decide_eq_false (by have:=hh.2.2.2.2.2.2.1; omega);have h7':decide ((q:Int)<(ar n:Int))=false:=decide_eq_false (by have:=hh.2.2.2.2.2.2.1; omega);unfold wD at*;rw[h7] at h;rw[h7'];exact h
theorem frame (dims:Nat) (b:List Tree):∀(xs:List zb.T) (st:List Tree),okS dims st xs->okS dims (b++st) xs/\news (b++st) xs=news st xs/\ta (b++st) xs=b++ta st xs
 | [],st,h=>⟨trivial,rfl,rfl⟩
 | n::r,st,h=>by
  have hf:=QO (b:=b) (xF h.1).2.2.2.2.2.2.1;have:=frame dims b r (wo st n) h.2;simp only[okS,news,ta,hf.1,hf.2];refine ⟨⟨Uv h.1 (by simp),this.1⟩,?_,this.2.2⟩;rw[this.2.1]
theorem wX (n:zb.T) (ks:List Tree):Tree.size (.nd n ks)=(yH ks).length+1:=by simp[Tree.size,Yv]
theorem Xs (t:Tree):1<=t.size:=by
 cases t with
 | nd n ks=>rw[wX]; omega
theorem vo (t:Tree) (l:List Tree):yH (t::l)=t.flat++yH l:=by simp[yH]
theorem wP:∀st:List Tree,st.length<=(yH st).length
 | []=>by simp
 | t::r=>by
  have:=wP r;have:=Xs t;rw[vo];simp only[List.length_append,List.length_cons];unfold Tree.size at this;omega
theorem vW {a:Nat} (h:a<=4194304):Nat.ble a xu=true:=by rw[Nat.ble_eq]; exact Nat.le_trans h (by decide)
theorem qP {a b:Nat} (h:b<=a) (ha:a<4611686018427387904):i64.wrap ((a:Int)-(b:Int))=((a-b:Nat):Int):=by
 rw[yV (by omega) (by omega)]; omega
theorem Uf {st:List Tree} {n:zb.T}:(wh st n).size+(yH (st.take (st.length-ar n))).length=(yH st).length+1:=by
 unfold wh;rw[wX];have:yH st=yH (st.take (st.length-ar n))++yH (st.drop (st.length-ar n)):=by rw[<-q8,List.take_append_drop]
 have:=congrArg List.length this;simp only[List.length_append] at this;omega
def vb:Nat->List Tree->List Int
 | _,[]=>[]
 | b,t::r=>(b:Int)::vb (b+t.size) r
def Z7:Nat->List Tree->List Int
 | _,[]=>[]
 | i,t::r=>((i+1-t.size:Nat):Int)::Z7 (i+1) r
theorem uh:∀(l:List Tree) (b:Nat),(vb b l).length=l.length
 | [],b=>rfl
 | t::r,b=>by simp[vb,uh r]
theorem UR:∀(l:List Tree) (b:Nat),(Z7 b l).length=l.length
 | [],b=>rfl
 | t::r,b=>by simp[Z7,UR r]
theorem Zg:∀(a c:List Tree) (b:Nat),vb b (a++c)=vb b a++vb (b+(yH a).length) c
 | [],c,b=>by simp[vb,yH]
 | t::r,c,b=>by
  simp only[List.cons_append,vb,Zg r c,vo,List.length_append];rw[show b+t.size+(yH r).length=b+(t.flat.length+(yH r).length) by unfold Tree.size; omega]
theorem RF (a:List Tree) (b m:Nat):(vb b a).take m=vb b (a.take m):=by
 have:vb b a=vb b (a.take m++a.drop m):=by rw[List.take_append_drop]
 rw[this,Zg,List.take_append];simp only[uh,List.length_take];rcases Nat.le_total m a.length with h | h
 ·rw[Nat.min_eq_left h,Nat.sub_self,List.take_zero,List.append_nil,List.take_of_length_le (by rw[uh,List.length_take]; omega)]
 ·rw[List.drop_of_length_le h]
  simp only[vb,List.take_nil,List.append_nil];rw[List.take_of_length_le (by rw[uh,List.length_take]; omega)]
theorem RG (st:List Tree) (n:zb.T):vb 0 (wo st n)=(vb 0 st).take (st.length-ar n)++[(((yH (st.take (st.length-ar n))).length:Nat):Int)]:=by
 unfold wo;rw[Zg,RF];simp only[vb,Nat.zero_add]
theorem QP {st:List Tree} {m:Nat} (h:m<st.length):(vb 0 st).getD m 0=(((yH (st.take m)).length:Nat):Int):=by
 have e:st=st.take m++st.drop m:=by rw[List.take_append_drop]
 have:vb 0 st=vb 0 (st.take m)++vb (0+(yH (st.take m)).length) (st.drop m):=by rw[<-Zg,List.take_append_drop]
 have hl:(vb 0 (st.take m)).length=m:=by rw[uh,List.length_take]; omega
 rw[List.getD_eq_getElem?_getD,this,List.getElem?_append_right (by omega),hl,Nat.sub_self];cases hd:st.drop m with
 | nil =>
  have:=congrArg List.length hd;simp at this;omega
 | cons t r=>simp[vb]
theorem zbR (F:Nat) {R:Type} (dims:Nat) (k:List Int->Option R) (L:List zb.T) (N:Int):∀(xs:List zb.T) (st:List Tree) (list:List Int),okS dims st xs->(yH st).length+xs.length<=2048->list.length<=(yH st).length->
  zB.l3.rg F (fun _ _ _ _ list _=>k list) L N xs ((yH st).length:Int) list (vb 0 st)=k (list++Z7 (yH st).length (news st xs)):=by
 intro xs;induction xs with
 | nil=>intro st list h h2 h3; simp[zB.l3.rg,news,Z7]
 | cons n xs ih =>
  intro st list h h2 h3;obtain ⟨g1,g2,g3,g4,g5,g6,g7,g8⟩:=xF h.1;have hst:=wP st;have hfs:=congrArg List.length (vC st n);have hts:=Uf (st:=st) (n:=n);have htp:=Xs (wh st n);simp only[List.length_cons,List.length_append,List.length_nil] at h2 hfs;have IH:=ih (wo st n) (list++[(((yH st).length+1-(wh st n).size:Nat):Int)]) h.2 (by omega) (by simp; omega);have e1:(yH st).length+1-(wh st n).size=(yH (st.take (st.length-ar n))).length:=by omega
  rw[hfs,RG,<-e1] at IH;simp only[zB.l3.rg];rw[Xp F g1 g4];simp only[zp,uh];rw[qP g7 (by omega)];rw[tX (by omega)];simp only[news,Z7,Int.toNat_natCast];simp only[Nat.zero_add,List.append_assoc,List.singleton_append] at IH;rw[xI] at IH;cases hk:decide ((ar n:Int)>0) with
  | true =>
   have hk:=of_decide_eq_true hk;have hm:st.length-ar n<st.length:=by omega
   have e2:get (.int .i64) (vb 0 st) (st.length-ar n)=(((yH st).length+1-(wh st n).size:Nat):Int):=by rw[e1]; exact QP hm
   rw[xm hm,e2];simp only[cond_true];rw[vW (by simp[uh]; omega),vW (by simp; omega)];simp only[cond_true];exact IH
  | false =>
   have hk:=of_decide_eq_false hk;have hk0:ar n=0:=by omega
   have e2:(yH st).length+1-(wh st n).size=(yH st).length:=by
    rw[e1,hk0,Nat.sub_zero,List.take_length]
   simp only[cond_false];rw[vW (by simp; omega),vW (by simp; omega)];simp only[cond_true];rw[hk0,Nat.sub_zero,List.take_of_length_le (by rw[uh]; omega),e2] at IH;rw[e2];exact IH
def isQ (n:zb.T):Bool:=nK n==3||nK n==4
def noQ (t:Tree):Bool:=t.flat.all fun n=>!isQ n
def qc:List zb.T->Int×Int->Int×Int
 | [],s=>s
 | n::r,s=>qc r (s.1+1,bif isQ n then s.1 else s.2)
theorem Yr:∀(a b:List zb.T) (s:Int×Int),qc (a++b) s=qc b (qc a s)
 | [],b,s=>rfl
 | n::r,b,s=>Yr r b _
theorem W4:∀(a:List zb.T) (s:Int×Int),(qc a s).1=s.1+a.length
 | [],s=>by simp[qc]
 | n::r,s=>by rw[qc,W4 r]; simp; omega
theorem R9:∀(c:List zb.T) (s:Int×Int) (b:Int),b<=s.1->(decide ((qc c s).2<b)=((c.all fun n=>!isQ n)&&decide (s.2<b)))
 | [],s,b,h=>by rw[List.all_nil,Bool.true_and]; rfl
 | n::r,s,b,h=>by
  rw[qc,R9 r _ b (by simp; omega)];simp only[List.all_cons];cases hq:isQ n with
  | true =>
   have:decide (s.1<b)=false:=decide_eq_false (by omega);simp[this]
  | false=>simp
theorem Qa:∀(a:List zb.T) (s:Int×Int),s.2<s.1->(qc a s).2<(qc a s).1
 | [],s,h=>h
 | n::r,s,h=>by
  rw[qc];refine Qa r _ ?_;cases isQ n with
  | true=>simp only[cond_true]; omega
  | false=>simp only[cond_false]; omega
theorem noQ_top (st:List Tree) (n:zb.T):decide ((qc (yH st++[n]) (0,-1)).2<(((yH st).length+1-(wh st n).size:Nat):Int))=noQ (wh st n):=by
 have hts:=Uf (st:=st) (n:=n);have e1:(yH st).length+1-(wh st n).size=(yH (st.take (st.length-ar n))).length:=by omega
 have e2:yH st++[n]=yH (st.take (st.length-ar n))++(wh st n).flat:=by
  rw[<-vC]; unfold wo; rw[q8,Vb]
 rw[e1,e2,Yr];have h1:=W4 (yH (st.take (st.length-ar n))) (0,-1);rw[R9 _ _ _ (by rw[h1]; simp)];have h2:=Qa (yH (st.take (st.length-ar n))) (0,-1) (by decide);rw[h1] at h2;simp only[Int.zero_add] at h2;rw[decide_eq_true h2,Bool.and_true];rfl
theorem Qv (F:Nat) {R:Type} (dims:Nat) (k:List Bool->Option R) (L:List zb.T) (N:Int) (list:List Int):∀(xs:List zb.T) (st:List Tree) (pre:List Int) (out:List Bool),okS dims st xs->(yH st).length+xs.length<=2048->
  list=pre++Z7 (yH st).length (news st xs)->pre.length=(yH st).length->out.length=(yH st).length->
  zv.l7.rg F (fun _ _ _ _ _ _ out=>k out) L N xs ((yH st).length:Int) list (qc (yH st) (0,-1)).2 (out++List.replicate xs.length false)=k (out++(news st xs).map noQ):=by
 intro xs;induction xs with
 | nil=>intro st pre out h h2 h3 h4 h5; simp[zv.l7.rg,news]
 | cons n xs ih =>
  intro st pre out h h2 h3 h4 h5;have hfs:=congrArg List.length (vC st n);simp only[List.length_cons,List.length_append,List.length_nil] at h2 hfs;simp only[news,Z7] at h3;have IH:=ih (wo st n) (pre++[(((yH st).length+1-(wh st n).size:Nat):Int)]) (out++[noQ (wh st n)]) h.2 (by omega) (by rw[h3,hfs]; simp) (by simp; omega) (by simp; omega);have hq:=noQ_top st n;rw[Yr] at hq;have hl:=W4 (yH st) (0,-1);simp only[Int.zero_add] at hl;rw[hfs,xI,vC,Yr] at IH;simp only[qc,hl] at IH hq;have hg:get (.int .i64) list (Int.toNat ((yH st).length:Int))=(((yH st).length+1-(wh st n).size:Nat):Int):=by
   rw[Int.toNat_natCast,get,h3,List.getD_eq_getElem?_getD,List.getElem?_append_right (by omega),h4,Nat.sub_self];rfl
  have hi1:idx ((yH st).length:Int) list.length=true:=xm (by rw[h3]; simp; omega);have hi2:idx ((yH st).length:Int) (out++List.replicate (n::xs).length false).length=true:=xm (by simp; omega);have hset:∀b:Bool,(out++List.replicate (n::xs).length false).set (Int.toNat ((yH st).length:Int)) b=(out++[b])++List.replicate xs.length false:=by
   intro b;rw[Int.toNat_natCast,List.set_append_right _ _ (by omega),h5,Nat.sub_self];simp[List.replicate_succ]
  simp only[zv.l7.rg,hi1,hi2,hset,cond_true,hg];simp only[news,List.map_cons];simp only[List.append_assoc,List.singleton_append] at IH ⊢;cases h3':(nK n==3) with
  | true =>
   have hqq:isQ n=true:=by unfold isQ; rw[h3']; rfl
   rw[hqq] at IH hq;simp only[cond_true] at IH hq;rw[hq];exact IH
  | false =>
   cases h4':(nK n==4) with
   | true =>
    have hqq:isQ n=true:=by unfold isQ; rw[h3',h4']; rfl
    rw[hqq] at IH hq;simp only[cond_true] at IH hq;rw[hq];exact IH
   | false =>
    have hqq:isQ n=false:=by unfold isQ; rw[h3',h4']; rfl
    rw[hqq] at IH hq;simp only[cond_false] at IH hq;rw[hq];exact IH
def tN (m:Int) (l:List Int):Int:=l.foldl (fun m x=>if x>m then x else m) m
def vT:List Int->Int
 | []=>0
 | a::r=>tN a r
def deep:Tree->Int:=Tree.fold (fun n ks=>vT ks+bif nK n==15 then 1 else 0)
theorem uE (n:zb.T) (ks:List Tree):deep (.nd n ks)=vT (ks.map deep)+bif nK n==15 then 1 else 0:=Tree.fold_nd _ n ks
theorem zaR {b:Int}:∀(l:List Int) (m:Int),m<=b->(∀x∈l,x<=b)->tN m l<=b
 | [],m,h,_=>h
 | x::r,m,h,hl=>by
  show tN (if x>m then x else m) r<=b;refine zaR r _ ?_ (fun y hy=>hl y (by simp[hy]));have:=hl x (by simp);split<;>omega
theorem S6:∀(l:List Int) (m:Int),m<=tN m l/\∀x∈l,x<=tN m l
 | [],m=>⟨by simp[tN],by simp⟩
 | x::r,m=>by
  have h:=S6 r (if x>m then x else m);have e:tN m (x::r)=tN (if x>m then x else m) r:=rfl;rw[e];have h0:m<=(if x>m then x else m)/\x<=(if x>m then x else m):=by split<;>omega
  refine ⟨by omega,fun y hy=>?_⟩;rcases List.mem_cons.1 hy with rfl | hy
  ·omega
  ·exact h.2 y hy
theorem zaQ {b:Int} {l:List Int} (hb:0<=b) (h:∀x∈l,x<=b):vT l<=b:=by
 cases l with
 | nil=>exact hb
 | cons a r=>exact zaR r a (h a (by simp)) (fun x hx=>h x (by simp[hx]))
theorem S5 {l:List Int} (h0:∀x∈l,0<=x):0<=vT l/\∀x∈l,x<=vT l:=by
 cases l with
 | nil=>simp[vT]
 | cons a r =>
  have:=S6 r a;refine ⟨by have:=h0 a (by simp); simp only[vT]; omega,fun x hx=>?_⟩;rcases List.mem_cons.1 hx with rfl | hx
  ·exact this.1
  ·exact this.2 x hx
theorem uz {ks:List Tree} {k:Tree} (h:k∈ks):k.size<=(yH ks).length:=by
 obtain ⟨a,b,rfl⟩:=List.append_of_mem h;rw[q8,vo];simp only[List.length_append,Tree.size];omega
theorem ud (t:Tree):0<=deep t/\deep t<=t.size:=by
 refine Tree.ind (P:=fun t=>0<=deep t/\deep t<=t.size) (fun n ks ih=>?_) t;rw[uE,wX];have h1:0<=vT (ks.map deep):=(S5 (by simp only[List.mem_map]; rintro x ⟨k,hk,rfl⟩; exact (ih k hk).1)).1;have h2:vT (ks.map deep)<=(yH ks).length:=zaQ (by omega) (by
  simp only[List.mem_map];rintro x ⟨k,hk,rfl⟩
  have:=(ih k hk).2;have:=uz hk;omega)
 cases nK n==15<;>simp only[cond_true,cond_false]<;>omega
theorem zcX (F:Nat) {R:Type} (k:Int->Option R) (X:List Int):∀(xs:List Int) (i m:Int),zE.l5.rg F (fun _ m _ _=>k m) X xs i m=k (tN m xs)
 | [],i,m=>rfl
 | x::r,i,m=>by
  rw[zE.l5.rg,zcX F k X r];rfl
theorem max_eq (F:Nat) {l:List Int} (h:1<=l.length) (hF:l.length<F) (hL:l.length<4611686018427387904):zE.sh F l=some ((vT l,()),()):=by
 unfold zE.sh;rw[decide_eq_false (show ¬(l.length:Int)<1 by omega),show idx 0 l.length=true from xm (i:=0) (by omega)];simp only[cond_false,cond_true];cases l with
 | nil=>simp at h
 | cons a r =>
  refine Eq.trans (zE.l5.rg_eq F _ (a::r) (by omega) r 1 F _ (by simp) (by simp at hF; omega)) ?_;exact zcX F (fun m=>(some ((m,()),()):Option zE.sg.R)) (a::r) r _ _
theorem zct (F:Nat) (hF:4096<F) {R:Type} (dims:Nat) (k:List Int->Option R) (L:List zb.T) (N:Int):∀(xs:List zb.T) (st:List Tree) (i:Int),okS dims st xs->(yH st).length+xs.length<=2048->
  zF.l6.rg F (fun _ _ _ _ pile=>k pile) L N xs i (st.map deep)=k ((ta st xs).map deep):=by
 intro xs;induction xs with
 | nil=>intro st i h h2; rfl
 | cons n xs ih =>
  intro st i h h2;obtain ⟨g1,g2,g3,g4,g5,g6,g7,g8⟩:=xF h.1;have hst:=wP st;have hfs:=congrArg List.length (vC st n);simp only[List.length_cons,List.length_append,List.length_nil] at h2 hfs;have IH:=ih (wo st n) (i+1) h.2 (by omega);have hbd:=ud (wh st n);have hts:=Uf (st:=st) (n:=n);have hstep:(wo st n).map deep=(st.map deep).take (st.length-ar n)++[deep (wh st n)]:=by
   unfold wo; simp[List.map_take]
  have hd:deep (wh st n)=vT ((st.map deep).drop (st.length-ar n))+bif nK n==15 then 1 else 0:=by
   unfold wh; rw[uE,List.map_drop]
  rw[hstep] at IH;simp only[zF.l6.rg];rw[Xp F g1 g4];simp only[zp];have hlen:(st.map deep).length=st.length:=by simp
  rw[hlen,qP g7 (by omega),tX (by omega),Zd (by omega)];simp only[cond_true];rw[List.take_of_length_le (by rw[hlen]; omega:(st.map deep).length<=st.length)];cases hk:decide ((ar n:Int)>0) with
  | true =>
   have hk:=of_decide_eq_true hk;simp only[cond_true];rw[max_eq F (by rw[List.length_drop,hlen]; omega) (by rw[List.length_drop,hlen]; omega) (by rw[List.length_drop,hlen]; omega)];simp only[zp];cases h15:(nK n==15) with
   | true =>
    rw[h15] at hd;simp only[cond_true] at hd;simp only[cond_true];rw[yV (by omega) (by omega),<-hd,vW (by simp; omega)];exact IH
   | false =>
    rw[h15] at hd;simp only[cond_false,Int.add_zero] at hd;simp only[cond_false];rw[<-hd,vW (by simp; omega)];exact IH
  | false =>
   have hk:=of_decide_eq_false hk;have hk0:ar n=0:=by omega
   simp only[cond_false];rw[hk0,Nat.sub_zero,List.drop_of_length_le (by rw[hlen]; omega)] at hd;rw[hk0,Nat.sub_zero,List.take_of_length_le (by rw[hlen]; omega)] at IH;cases h15:(nK n==15) with
   | true =>
    rw[h15] at hd;simp only[cond_true];rw[vW (by simp; omega)];simp only[cond_true];rw[show i64.wrap (0+1)=deep (wh st n) by rw[hd]; rfl];exact IH
   | false =>
    rw[h15] at hd;simp only[cond_false];rw[vW (by simp; omega)];simp only[cond_true];rw[hd] at IH;exact IH
structure Good (p:zL.T) (t:Tree):Prop where
 head:ZH p.1 p.2.1 p.2.2.1=0
 len:p.2.2.2.length<=1024
 ok:okS p.2.1.length [] p.2.2.2
 eq:ta [] p.2.2.2=[t]
theorem Good.flat {p:zL.T} {t:Tree} (h:Good p t):t.flat=p.2.2.2:=by
 have:=Sf p.2.2.2 [];rw[h.eq,Vb] at this;simpa [yH] using this
theorem Good.subs {p:zL.T} {t:Tree} (h:Good p t):news [] p.2.2.2=t.subs:=by
 have:=TD p.2.2.2 [];rw[h.eq,TC] at this;simpa [uL] using this.symm
theorem Qx {p:zL.T} (h:(vd p).2=0):∃t,Good p t:=by
 unfold vd at h;cases h1:(ZH p.1 p.2.1 p.2.2.1 != 0) with
 | true =>
  rw[h1] at h;simp only[cond_true] at h;rw[h] at h1;cases h1
 | false =>
  rw[h1] at h;have h1:ZH p.1 p.2.1 p.2.2.1=0:=by simpa using h1
  cases h2:decide ((p.2.2.2.length:Int)>1024) with
  | true=>rw[h2] at h; exact absurd (show (2:Int)=0 from h) (by decide)
  | false =>
   rw[h2] at h;have h2:=of_decide_eq_false h2;simp only[cond_false] at h;cases h3:VW p.2.1.length p.2.2.2 0 0 with
   | some x =>
    rw[h3] at h;have hne:∀(xs:List zb.T) (pile i:Nat),VW p.2.1.length xs pile i=some x->x.2≠0:=by
     intro xs;induction xs with
     | nil=>intro pile i h; cases h
     | cons n r ih =>
      intro pile i h;simp only[VW] at h;cases he:(wD p.2.1.length n pile != 0) with
      | true =>
       rw[he] at h;simp only[cond_true,Option.some.injEq] at h;rw[<-h];simpa using he
      | false=>rw[he] at h; exact ih _ _ h
    exact absurd h (hne _ _ _ h3)
   | none =>
    rw[h3] at h;have:=zdB p.2.1.length p.2.2.2 [] 0 h3;cases h4:((Ts p.2.2.2 0:Int) != 1) with
    | true=>rw[h4] at h; exact absurd (show (50:Int)=0 from h) (by decide)
    | false =>
     have h4:(Ts p.2.2.2 0:Int)=1:=by simpa using h4
     have hl:(ta [] p.2.2.2).length=1:=by rw[this.2]; simp only[List.length_nil]; omega
     obtain ⟨t,ht⟩:=List.length_eq_one_iff.1 hl;exact ⟨t,h1,by omega,this.1,ht⟩
theorem Good.check {p:zL.T} {t:Tree} (h:Good p t):vd p=(0,0):=by
 unfold vd;have:=zcI p.2.1.length p.2.2.2 [] 0 h.ok;rw[h.eq] at this;simp only[List.length_nil,List.length_cons] at this;rw[h.head,this.1,this.2,decide_eq_false (by have:=h.len; omega)];rfl
theorem zc9 (F:Nat) (hF:4096<F) {p:zL.T} {t:Tree} (h:Good p t):xt.sh F p=some ((Z7 0 t.subs,0,()),()):=by
 unfold xt.sh zB.sh;rw[Yc F (by omega),h.check];have hl:=h.len;have e:=Eq.trans (zB.l3.rg_eq F (fun _ _ _ _ list2 _=>zB.j13 F (fun r23=>(some ((r23,()),()):Option zB.sg.R)) list2) p.2.2.2 _ rfl (by omega) p.2.2.2 0 F [] [] (by simp) (by omega))
  (zbR F p.2.1.length (fun list=>some ((list,()),())) p.2.2.2 (p.2.2.2.length:Int) p.2.2.2 [] [] h.ok (by simp[yH]; omega) (by simp))
 rw[h.subs] at e;have e:zB.l3 F (fun _ _ _ _ list2 _=>zB.j13 F (fun r23=>(some ((r23,()),()):Option zB.sg.R)) list2) F p.2.2.2 (p.2.2.2.length:Int) 0 [] []=some ((Z7 0 t.subs,()),()):=e;rw[e];rfl
theorem QI (F:Nat) (hF:4096<F) {p:zL.T} {t:Tree} (h:Good p t):zv.sh F p=some ((t.subs.map noQ,0,()),()):=by
 unfold zv.sh;rw[zc9 F hF h];simp only[zp,bne_self_eq_false,cond_false];have hl:=h.len;have hn:t.subs.length=p.2.2.2.length:=by rw[Uh,h.flat]
 have hz:(decide (0<=((Z7 0 t.subs).length:Int))&&decide (((Z7 0 t.subs).length:Int)<=((Z7 0 t.subs).length:Int))&&decide (((Z7 0 t.subs).length:Int)<=(xu:Int)))=true:=by
  have:xu=1099511627776:=rfl;rw[UR,this];simp;omega
 rw[hz];simp only[cond_true];have e:=Eq.trans (zv.l7.rg_eq F (fun _ _ _ _ _ _ out2=>zv.j13 F (fun r23 r33=>(some ((r23,r33,()),()):Option zv.sg.R)) out2) p.2.2.2 _ rfl (by omega) p.2.2.2 0 F (Z7 0 t.subs) (-1) (YL .bool p.2.2.2.length) (by simp) (by omega))
  (Qv F p.2.1.length (fun out=>some ((out,0,()),())) p.2.2.2 (p.2.2.2.length:Int) (Z7 0 t.subs) p.2.2.2 [] [] [] h.ok (by simp[yH]; omega) (by rw[h.subs]; rfl) rfl rfl)
 rw[h.subs] at e;rw[show ((Z7 0 t.subs).length:Int).toNat=p.2.2.2.length by rw[UR,hn]; rfl];exact e
theorem Wl (F:Nat) (hF:4096<F) {p:zL.T} {t:Tree} (h:Good p t):zF.sh F p=some ((deep t,0,()),()):=by
 unfold zF.sh;rw[Yc F (by omega),h.check];have hl:=h.len;have e:=Eq.trans (zF.l6.rg_eq F (fun _ _ _ _ pile4=>zF.j17 F (fun r25 r35=>(some ((r25,r35,()),()):Option zF.sg.R)) pile4) p.2.2.2 _ rfl (by omega) p.2.2.2 0 F [] (by simp) (by omega))
  (zct F hF p.2.1.length (fun pile=>zF.j17 F (fun r25 r35=>(some ((r25,r35,()),()):Option zF.sg.R)) pile) p.2.2.2 (p.2.2.2.length:Int) p.2.2.2 [] 0 h.ok (by simp[yH]; omega))
 rw[h.eq] at e;exact e
def w9 (t:Int):Bool:=decide (t>=2)
def uY:List Int->Int
 | []=>-1
 | a::r=>bif r.all (fun x=>x==a) then a else -1
def ZX (a b:Int):Int :=
 bif a==0 then b else bif b==0 then a else bif w9 a&&b==1 then 1 else bif w9 b&&a==1 then 1 else -1
def tyN (n:zb.T) (ks:List Int):Int :=
 bif nK n==1 then 0 else bif nK n==2 then 1 else bif nK n==3 then 2+2*nN n else bif nK n==4 then 3+2*nN n
 else bif nK n==8 then ZX (ks.getD 0 0) (ks.getD 1 0)
 else bif nK n==11||nK n==12 then (bif w9 (ks.getD 0 0) then ks.getD 0 0 else -1)
 else bif nK n==13||nK n==14 then (bif w9 (ks.getD 0 0) then 1 else -1)
 else bif nK n==15 then (bif ks.getD 0 0==1 then 1 else -1)
 else bif nK n==16 then (bif w9 (ks.getD 0 0) then uY (ks.drop 1) else -1)
 else uY ks
def ty:Tree->Int:=Tree.fold tyN
theorem tG (n:zb.T) (ks:List Tree):ty (.nd n ks)=tyN n (ks.map ty):=Tree.fold_nd _ n ks
def W2 (n:zb.T) (fs:List Bool):Bool:=nK n==8&&(!fs.getD 0 false&&!fs.getD 1 false)
def tyE (t:Tree):Int:=bif ty t == -1 then 80 else bif W2 t.root (t.kids.map noQ) then 81 else 0
def wu (E:Tree->Int):List Tree->Nat->Option (Nat×Int)
 | [],_=>none
 | t::r,i=>bif E t != 0 then some (i,E t) else wu E r (i+1)
theorem zcH {a:Int}:∀(r:List Int),(a::r).all (fun x=>x==a)=r.all (fun x=>x==a):=by intro r; simp
theorem zcE (F:Nat) {R:Type} (k:Int->Option R) (k1:Int->yt.T->Option R) (L:List Int) (N:Int) (n:yt.T) (fr:Nat) (a:Int) (hfr:fr<n.2.1.length) (ha:get (.int .i64) n.2.1 fr=a):∀(xs:List Int) (i:Int),
  zz.l2.rg F k (fun fr _ _ _ _ n=>k1 fr n) L N xs i (fr:Int) n=bif xs.all (fun x=>x==a) then k1 fr n else k (-1)
 | [],i=>rfl
 | x::r,i=>by
  rw[zz.l2.rg,zcE F k k1 L N n fr a hfr ha r,xm hfr,Int.toNat_natCast,ha];simp only[cond_true,List.all_cons];cases hx:(x==a) with
  | true=>simp only[bne,hx,Bool.not_true,cond_false,Bool.true_and]
  | false=>simp only[bne,hx,Bool.not_false,cond_true,Bool.false_and,cond_false]
theorem zcF (F:Nat) (hF:64<F) (n:zb.T) (ks:List Int) (fx:List Bool) {fr:Nat} (h:fr<ks.length) (hl:ks.length<=32):zz.sh F (n,ks,fx) (fr:Int)=some ((uY (ks.drop fr),()),()):=by
 unfold zz.sh;simp only[];rw[Zd (by omega)];simp only[cond_true];rw[List.take_length];refine Eq.trans (zz.l2.rg_eq F _ _ (ks.drop fr) _ rfl (by simp; omega) (ks.drop fr) 0 F _ _ (by simp) (by simp; omega)) ?_;refine (zcE F (fun r41=>(some ((r41,()),()):Option zz.sg.R)) (fun fr n2=>bif idx fr n2.2.1.length then some ((get (.int .i64) n2.2.1 fr.toNat,()),()) else none) (ks.drop fr) _ (n,ks,fx) fr (get (.int .i64) ks fr) h rfl (ks.drop fr) _).trans ?_;simp only[];rw[xm h,Int.toNat_natCast];have hd:ks.drop fr=get (.int .i64) ks fr::ks.drop (fr+1):=by
  rw[List.drop_eq_getElem_cons h];congr 1
  unfold get;rw[List.getD_eq_getElem?_getD,List.getElem?_eq_getElem h];rfl
 rw[hd,zcH];simp only[uY];cases (ks.drop (fr+1)).all (fun x=>x==get (.int .i64) ks fr)<;>rfl
theorem W8 {n:Nat} (h:1<=n):idx 0 n=true:=xm (i:=0) (by omega)
theorem idx1 {n:Nat} (h:2<=n):idx 1 n=true:=xm (i:=1) (by omega)
theorem Yh (F:Nat) (hF:64<F) (n:zb.T) (ks:List Int) (fx:List Bool) (h:1<=ks.length) (hl:ks.length<=32):yl.sh F (n,ks,fx)=some ((uY ks,()),()):=by
 unfold yl.sh;rw[show (0:Int)=((0:Nat):Int) from rfl,zcF F hF n ks fx (by omega) hl];rfl
theorem QW (F:Nat) (n:zb.T) (ks:List Int) (fx:List Bool) (h:2<=ks.length):yr.sh F (n,ks,fx)=some ((ZX (ks.getD 0 0) (ks.getD 1 0),()),()):=by
 unfold yr.sh yD.sh ZX w9;simp only[zp];rw[W8 (by omega),idx1 (by omega)];simp only[cond_true];rw[show get (.int .i64) ks 0=ks.getD 0 0 from rfl,show get (.int .i64) ks 1=ks.getD 1 0 from rfl];cases (ks.getD 0 0==0) with
 | true=>rfl
 | false =>
  cases (ks.getD 1 0==0) with
  | true=>rfl
  | false=>cases decide (ks.getD 0 0>=2)<;>cases decide (ks.getD 1 0>=2)<;>cases (ks.getD 0 0==1)<;>cases (ks.getD 1 0==1)<;>rfl
theorem U8 (F:Nat) (n:zb.T) (ks:List Int) (fx:List Bool) (h:1<=ks.length):yk.sh F (n,ks,fx)=some ((bif w9 (ks.getD 0 0) then ks.getD 0 0 else -1,()),()):=by
 unfold yk.sh yD.sh w9;simp only[zp];rw[W8 (by omega)];simp only[cond_true];rw[show get (.int .i64) ks 0=ks.getD 0 0 from rfl];cases decide (ks.getD 0 0>=2)<;>rfl
theorem TT (F:Nat) (n:zb.T) (ks:List Int) (fx:List Bool) (h:1<=ks.length):yv.sh F (n,ks,fx)=some ((bif w9 (ks.getD 0 0) then 1 else -1,()),()):=by
 unfold yv.sh yD.sh w9;simp only[zp];rw[W8 (by omega)];simp only[cond_true];rw[show get (.int .i64) ks 0=ks.getD 0 0 from rfl];cases decide (ks.getD 0 0>=2)<;>rfl
theorem off_eq (F:Nat) (n:zb.T) (ks:List Int) (fx:List Bool) (h:1<=ks.length):yP.sh F (n,ks,fx)=some ((bif ks.getD 0 0==1 then 1 else -1,()),()):=by
 unfold yP.sh;rw[W8 (by omega)];simp only[cond_true];rw[show get (.int .i64) ks 0=ks.getD 0 0 from rfl];cases (ks.getD 0 0==1)<;>rfl
theorem test_eq (F:Nat) (hF:64<F) (n:zb.T) (ks:List Int) (fx:List Bool) (h:2<=ks.length) (hl:ks.length<=32):yE.sh F (n,ks,fx)=some ((bif w9 (ks.getD 0 0) then uY (ks.drop 1) else -1,()),()):=by
 unfold yE.sh yD.sh w9;simp only[zp];rw[W8 (by omega)];simp only[cond_true];rw[show get (.int .i64) ks 0=ks.getD 0 0 from rfl];have:=zcF F hF n ks fx (fr:=1) (by omega) hl;rw[show (((1:Nat):Int))=1 from rfl] at this;rw[this];cases decide (ks.getD 0 0>=2)<;>rfl
theorem v8 {n:zb.T} (h:tI n=true):nK n=1\/nK n=2\/nK n=3\/nK n=4\/nK n=5\/nK n=6\/nK n=7\/nK n=8\/nK n=9\/nK n=10\/nK n=11\/nK n=12\/nK n=13\/nK n=14\/nK n=15\/nK n=16:=by
 have:=qZ.1 h;omega
theorem z8 {n:zb.T} {k:Int} (h:nK n=k):ar n=bif decide ((get yW vn k.toNat).1>=0) then (get yW vn k.toNat).1.toNat else (nC n).toNat:=by
 unfold ar aK uB;rw[h]
theorem uc {n:zb.T} {k:Int} (h:nK n=k):uy n=bif decide ((get yW vn k.toNat).1<0) then decide (nC n>=2)&&decide (nC n<=16) else nC n==0:=by
 unfold uy aK uB;rw[h]
theorem uR {n:zb.T} {k:Int} (h:nK n=k) (dims:Nat):YO n dims=bif decide ((get yW vn k.toNat).2.1<0) then (dims:Int)-1 else (get yW vn k.toNat).2.1:=by
 unfold YO uB;rw[h]
theorem rule_eq (F:Nat) (hF:64<F) {dims:Nat} (hd:dims<=4) {n:zb.T} {pile:Nat} (h:wD dims n pile=0) :
  ∃r c,xE.sh F (nK n)=some ((r,c,()),())/\(bif decide (c<0) then nC n else c)=(ar n:Int) /\
   ∀(ks:List Int) (fx:List Bool),ks.length=ar n->zo.d63 F r ((n,ks,fx),())=some ((tyN n ks,()),()):=by
 obtain ⟨g1,g2,g3,g4,g5,g6,g7,g8⟩:=xF h;have ha:=zbi g1 g4;rcases v8 g1 with h | h | h | h | h | h | h | h | h | h | h | h | h | h | h | h
 ·exact ⟨wA,0,by rw[h]; rfl,by rw[z8 h]; rfl,fun ks fx hk=>by unfold tyN; rw[h]; rfl⟩
 ·exact ⟨wH,0,by rw[h]; rfl,by rw[z8 h]; rfl,fun ks fx hk=>by unfold tyN; rw[h]; rfl⟩
 ·rw[uR h] at g3
  have g3:nN n<=(dims:Int)-1:=g3;refine ⟨xY,0,by rw[h]; rfl,by rw[z8 h]; rfl,fun ks fx hk=>?_⟩;refine Eq.trans (show zo.d63 F xY ((n,ks,fx),())=yn.sh F (n,ks,fx) from rfl) ?_;unfold yn.sh tyN;rw[h,yV (n:=2*nN n) (by omega) (by omega),yV (n:=2+2*nN n) (by omega) (by omega)];rfl
 ·rw[uR h] at g3
  have g3:nN n<=(dims:Int)-1:=g3;refine ⟨wj,0,by rw[h]; rfl,by rw[z8 h]; rfl,fun ks fx hk=>?_⟩;refine Eq.trans (show zo.d63 F wj ((n,ks,fx),())=yz.sh F (n,ks,fx) from rfl) ?_;unfold yz.sh tyN;rw[h,yV (n:=2*nN n) (by omega) (by omega),yV (n:=3+2*nN n) (by omega) (by omega)];rfl
 ·have e:ar n=1:=by rw[z8 h]; rfl
  refine ⟨zO,1,by rw[h]; rfl,by rw[e]; rfl,fun ks fx hk=>?_⟩;refine Eq.trans (show zo.d63 F zO ((n,ks,fx),())=yl.sh F (n,ks,fx) from rfl) ?_;rw[Yh F hF n ks fx (by omega) (by omega)];unfold tyN; rw[h]; rfl
 ·have e:ar n=2:=by rw[z8 h]; rfl
  refine ⟨zO,2,by rw[h]; rfl,by rw[e]; rfl,fun ks fx hk=>?_⟩;refine Eq.trans (show zo.d63 F zO ((n,ks,fx),())=yl.sh F (n,ks,fx) from rfl) ?_;rw[Yh F hF n ks fx (by omega) (by omega)];unfold tyN; rw[h]; rfl
 ·have e:ar n=2:=by rw[z8 h]; rfl
  refine ⟨zO,2,by rw[h]; rfl,by rw[e]; rfl,fun ks fx hk=>?_⟩;refine Eq.trans (show zo.d63 F zO ((n,ks,fx),())=yl.sh F (n,ks,fx) from rfl) ?_;rw[Yh F hF n ks fx (by omega) (by omega)];unfold tyN; rw[h]; rfl
 ·have e:ar n=2:=by rw[z8 h]; rfl
  refine ⟨wa,2,by rw[h]; rfl,by rw[e]; rfl,fun ks fx hk=>?_⟩;refine Eq.trans (show zo.d63 F wa ((n,ks,fx),())=yr.sh F (n,ks,fx) from rfl) ?_;rw[QW F n ks fx (by omega)];unfold tyN; rw[h]; rfl
 ·rw[uc h] at g4
  have g4:(decide (nC n>=2)&&decide (nC n<=16))=true:=g4;simp at g4;have e:ar n=(nC n).toNat:=by rw[z8 h]; rfl
  refine ⟨zO,-1,by rw[h]; rfl,?_,fun ks fx hk=>?_⟩
  ·rw[e]; rw[decide_eq_true (show (-1:Int)<0 by omega)]; simp only[cond_true]; omega
  refine Eq.trans (show zo.d63 F zO ((n,ks,fx),())=yl.sh F (n,ks,fx) from rfl) ?_;rw[Yh F hF n ks fx (by omega) (by omega)];unfold tyN; rw[h]; rfl
 ·rw[uc h] at g4
  have g4:(decide (nC n>=2)&&decide (nC n<=16))=true:=g4;simp at g4;have e:ar n=(nC n).toNat:=by rw[z8 h]; rfl
  refine ⟨zO,-1,by rw[h]; rfl,?_,fun ks fx hk=>?_⟩
  ·rw[e]; rw[decide_eq_true (show (-1:Int)<0 by omega)]; simp only[cond_true]; omega
  refine Eq.trans (show zo.d63 F zO ((n,ks,fx),())=yl.sh F (n,ks,fx) from rfl) ?_;rw[Yh F hF n ks fx (by omega) (by omega)];unfold tyN; rw[h]; rfl
 ·have e:ar n=1:=by rw[z8 h]; rfl
  refine ⟨y6,1,by rw[h]; rfl,by rw[e]; rfl,fun ks fx hk=>?_⟩;refine Eq.trans (show zo.d63 F y6 ((n,ks,fx),())=yk.sh F (n,ks,fx) from rfl) ?_;rw[U8 F n ks fx (by omega)];unfold tyN; rw[h]; rfl
 ·have e:ar n=1:=by rw[z8 h]; rfl
  refine ⟨y6,1,by rw[h]; rfl,by rw[e]; rfl,fun ks fx hk=>?_⟩;refine Eq.trans (show zo.d63 F y6 ((n,ks,fx),())=yk.sh F (n,ks,fx) from rfl) ?_;rw[U8 F n ks fx (by omega)];unfold tyN; rw[h]; rfl
 ·have e:ar n=1:=by rw[z8 h]; rfl
  refine ⟨xc,1,by rw[h]; rfl,by rw[e]; rfl,fun ks fx hk=>?_⟩;refine Eq.trans (show zo.d63 F xc ((n,ks,fx),())=yv.sh F (n,ks,fx) from rfl) ?_;rw[TT F n ks fx (by omega)];unfold tyN; rw[h]; rfl
 ·have e:ar n=1:=by rw[z8 h]; rfl
  refine ⟨xc,1,by rw[h]; rfl,by rw[e]; rfl,fun ks fx hk=>?_⟩;refine Eq.trans (show zo.d63 F xc ((n,ks,fx),())=yv.sh F (n,ks,fx) from rfl) ?_;rw[TT F n ks fx (by omega)];unfold tyN; rw[h]; rfl
 ·have e:ar n=1:=by rw[z8 h]; rfl
  refine ⟨wF,1,by rw[h]; rfl,by rw[e]; rfl,fun ks fx hk=>?_⟩;refine Eq.trans (show zo.d63 F wF ((n,ks,fx),())=yP.sh F (n,ks,fx) from rfl) ?_;rw[off_eq F n ks fx (by omega)];unfold tyN; rw[h]; rfl
 ·have e:ar n=3:=by rw[z8 h]; rfl
  refine ⟨wy,3,by rw[h]; rfl,by rw[e]; rfl,fun ks fx hk=>?_⟩;refine Eq.trans (show zo.d63 F wy ((n,ks,fx),())=yE.sh F (n,ks,fx) from rfl) ?_;rw[test_eq F hF n ks fx (by omega) (by omega)];unfold tyN; rw[h]; rfl
theorem V1 {α β:Type} {f:α->β} {d:β} {l:List α} {m j:Nat}:(l.map f).getD (m+j) d=((l.drop m).map f).getD j d:=by
 rw[List.map_drop,List.getD_eq_getElem?_getD,List.getD_eq_getElem?_getD,List.getElem?_drop]
theorem zcj (F:Nat) (hF:64<F) {R:Type} {dims:Nat} (hd:dims<=4) (kE:List Int->Int->Int->Option R) (kO:List Int->List Int->Option R) (L:List zb.T) (N:Int) (fixed:List Bool):∀(xs:List zb.T) (st:List Tree) (pre:List Bool) (types:List Int),
  okS dims st xs->(yH st).length+xs.length<=2048->fixed=pre++(news st xs).map noQ->pre.length=(yH st).length->types.length=(yH st).length->
  zo.l8.rg F kE kE (fun _ _ _ _ _ types pile _=>kO types pile) L N xs ((yH st).length:Int) fixed types (st.map ty) (st.map noQ) =
   match wu tyE (news st xs) (yH st).length with
   | some (j,e)=>kE [] (j:Int) e
   | none=>kO (types++(news st xs).map ty) ((ta st xs).map ty):=by
 intro xs;induction xs with
 | nil=>intro st pre types h h2 h3 h4 h5; simp[zo.l8.rg,news,wu,ta]
 | cons n xs ih =>
  intro st pre types h h2 h3 h4 h5;obtain ⟨g1,g2,g3,g4,g5,g6,g7,g8⟩:=xF h.1;have hst:=wP st;have hfs:=congrArg List.length (vC st n);simp only[List.length_cons,List.length_append,List.length_nil] at h2 hfs;simp only[news,List.map_cons] at h3;have IH:=ih (wo st n) (pre++[noQ (wh st n)]) (types++[ty (wh st n)]) h.2 (by omega) (by rw[h3]; simp) (by simp; omega) (by simp; omega);have hst1:(wo st n).map ty=(st.map ty).take (st.length-ar n)++[ty (wh st n)]:=by unfold wo; simp[List.map_take]
  have hst2:(wo st n).map noQ=(st.map noQ).take (st.length-ar n)++[noQ (wh st n)]:=by unfold wo; simp[List.map_take]
  rw[hst1,hst2,hfs] at IH;obtain ⟨r,c,q1,q2,q3⟩:=rule_eq F hF hd h.1;have hl1:(st.map ty).length=st.length:=by simp
  have hl2:(st.map noQ).length=st.length:=by simp
  have hgf:get .bool fixed (Int.toNat ((yH st).length:Int))=noQ (wh st n):=by
   rw[Int.toNat_natCast,get,h3,List.getD_eq_getElem?_getD,List.getElem?_append_right (by omega),h4,Nat.sub_self];rfl
  have hif:idx ((yH st).length:Int) fixed.length=true:=xm (by rw[h3]; simp; omega);have ht:=q3 ((st.map ty).drop (st.length-ar n)) ((st.map noQ).drop (st.length-ar n)) (by simp; omega);have hty:tyN n ((st.map ty).drop (st.length-ar n))=ty (wh st n):=by unfold wh; rw[tG,List.map_drop]
  rw[hty] at ht;have hE:tyE (wh st n)=bif ty (wh st n) == -1 then 80 else bif W2 n ((st.map noQ).drop (st.length-ar n)) then 81 else 0:=by
   rw[<-List.map_drop]; rfl
  have hm:st.length-ar n<=st.length:=by omega
  have hb1:=Zd hm;have hb2:=tX hm;have ew:=qP g7 (by omega);have htk1:(st.map ty).take st.length=st.map ty:=List.take_of_length_le (by omega);have htk2:(st.map noQ).take st.length=st.map noQ:=List.take_of_length_le (by omega);have hbl1:∀y,Nat.ble (types.length+([y]:List Int).length) xu=true:=fun y=>vW (by simp; omega)
  have hbl2:∀y,Nat.ble (st.length-ar n+([y]:List Int).length) xu=true:=fun y=>vW (by simp; omega)
  have hbl3:∀y,Nat.ble (st.length-ar n+([y]:List Bool).length) xu=true:=fun y=>vW (by simp; omega)
  simp only[List.append_assoc,List.singleton_append] at IH;rw[xI] at IH;have h8a:(nK n==8)=true->ar n=2:=fun h=>by rw[z8 (by simpa using h)]; rfl
  simp only[zo.l8.rg];rw[q1];simp only[zp];simp only[news,wu,hE];generalize ar n=a at*;cases hc:decide (c<0) with
  | true =>
   rw[hc] at q2;have q2:n.2.2.2.1=(a:Int):=q2;simp only[cond_true,q2,hl1,hl2,ew,hb1,hb2,htk1,htk2];rw[ht];simp only[zp];cases hn:(ty (wh st n) == -1) with
   | true=>rfl
   | false =>
    simp only[cond_false,hbl1,hbl2,hbl3,hif,hgf,cond_true,W2];cases h8:(nK n==8) with
    | true =>
     have h8:=h8a h8;have hi1:idx ((st.length-a:Nat):Int) st.length=true:=xm (by omega);have hi2:idx ((st.length-a+1:Nat):Int) st.length=true:=xm (by omega);have ew2:i64.wrap (((st.length-a:Nat):Int)+1)=((st.length-a+1:Nat):Int):=by rw[yV (by omega) (by omega)]; omega
     have hg0:get .bool (st.map noQ) (st.length-a)=((st.map noQ).drop (st.length-a)).getD 0 false:=by rw[<-List.map_drop]; exact V1 (j:=0)
     have hg1:get .bool (st.map noQ) (st.length-a+1)=((st.map noQ).drop (st.length-a)).getD 1 false:=by rw[<-List.map_drop]; exact V1 (j:=1)
     simp only[hi1,hi2,ew2,cond_true,Int.toNat_natCast,hg0,hg1,Bool.true_and];cases ((st.map noQ).drop (st.length-a)).getD 0 false with
     | true=>exact IH
     | false =>
      cases ((st.map noQ).drop (st.length-a)).getD 1 false with
      | true=>exact IH
      | false=>rfl
    | false=>exact IH
  | false =>
   rw[hc] at q2;have q2:c=(a:Int):=q2;simp only[cond_false,cond_true,q2,hl1,hl2,ew,hb1,hb2,htk1,htk2];rw[ht];simp only[zp];cases hn:(ty (wh st n) == -1) with
   | true=>rfl
   | false =>
    simp only[cond_false,hbl1,hbl2,hbl3,hif,hgf,cond_true,W2];cases h8:(nK n==8) with
    | true =>
     have h8:=h8a h8;have hi1:idx ((st.length-a:Nat):Int) st.length=true:=xm (by omega);have hi2:idx ((st.length-a+1:Nat):Int) st.length=true:=xm (by omega);have ew2:i64.wrap (((st.length-a:Nat):Int)+1)=((st.length-a+1:Nat):Int):=by rw[yV (by omega) (by omega)]; omega
     have hg0:get .bool (st.map noQ) (st.length-a)=((st.map noQ).drop (st.length-a)).getD 0 false:=by rw[<-List.map_drop]; exact V1 (j:=0)
     have hg1:get .bool (st.map noQ) (st.length-a+1)=((st.map noQ).drop (st.length-a)).getD 1 false:=by rw[<-List.map_drop]; exact V1 (j:=1)
     simp only[hi1,hi2,ew2,cond_true,Int.toNat_natCast,hg0,hg1,Bool.true_and];cases ((st.map noQ).drop (st.length-a)).getD 0 false with
     | true=>exact IH
     | false =>
      cases ((st.map noQ).drop (st.length-a)).getD 1 false with
      | true=>exact IH
      | false=>rfl
    | false=>exact IH
def uG (t:Tree):List Int×Int×Int :=
 match wu tyE t.subs 0 with
 | some (j,e)=>([],(j:Int),e)
 | none=>bif ty t != 1 then ([],(t.size:Int)-1,80) else (t.subs.map ty,0,0)
theorem zdU (F:Nat) (hF:4096<F) {p:zL.T} {t:Tree} (h:Good p t):zo.sh F p=some (((uG t).1,(uG t).2.1,(uG t).2.2,()),()):=by
 unfold zo.sh;rw[Yc F (by omega),h.check,QI F hF h];simp only[zp,bne_self_eq_false,cond_false];have hl:=h.len;have hn:t.subs.length=p.2.2.2.length:=by rw[Uh,h.flat]
 have hs:t.size=p.2.2.2.length:=by rw[Tree.size,h.flat]
 have hp:=Xs t;refine Eq.trans (zo.l8.rg_eq F _ _ _ p.2.2.2 _ rfl (by omega) p.2.2.2 0 F _ [] [] [] (by simp) (by omega)) ?_;refine (zcj F (by omega) (uj h.head).2.1 (fun r26 r36 r46=>(some ((r26,r36,r46,()),()):Option zo.sg.R)) (fun types8 pile8=>zo.j23 F (fun r29 r39 r49=>some ((r29,r39,r49,()),())) (fun r210 r310 r410=>some ((r210,r310,r410,()),())) types8 pile8) p.2.2.2 _ (t.subs.map noQ) p.2.2.2 [] [] [] h.ok (by simp[yH]; omega) (by rw[h.subs]; rfl) rfl rfl).trans ?_;rw[h.subs,h.eq];unfold uG;rw[show (yH []).length=0 from rfl];cases wu tyE t.subs 0 with
 | some x=>rfl
 | none =>
  simp only[List.nil_append,List.map_cons,List.map_nil];unfold zo.j23;rw[show idx 0 [ty t].length=true from rfl,show get (.int .i64) [ty t] 0=ty t from rfl,List.length_map,hn,hs,yV (by omega) (by omega)];cases (ty t != 1)<;>rfl
theorem zc6 (F:Nat) (hF:4096<F) {p:zL.T} (h:(vd p).2≠0):zo.sh F p=some (([],(vd p).1,(vd p).2,()),()):=by
 unfold zo.sh;rw[Yc F (by omega)];simp only[zp];rw[show ((vd p).2 != 0)=true by simpa using h];rfl
theorem V4 (F:Nat) (u:zd.T) (o:Bool) (w:zd.T) (e:Int):yd.sh F (u,o) w e=some ((w,()),((u,o||e != 0),())):=by
 unfold yd.sh;cases o<;>rfl
theorem Yq (F:Nat) (u:zd.T) (o:Bool) {a b:zd.T} (ha:wfW a) (hb:wfW b):ya.sh F (u,o) a b=some ((v7 (val a*val b),()),((u,o||vQ (val a*val b) != 0),())):=by
 unfold ya.sh;rw[qv F ha hb];simp only[zp];rw[V4];rfl
theorem V2 (F:Nat) (u:zd.T) (o:Bool) {a b:zd.T} (ha:wfW a) (hb:wfW b):ye.sh F (u,o) a b=some ((v7 (val a+val b),()),((u,o||vQ (val a+val b) != 0),())):=by
 unfold ye.sh;rw[Th F ha hb];simp only[zp];rw[V4];rfl
theorem wt {v:Int} (h:inR v=true):v7 v=mk v/\(vQ v != 0)=false:=by
 unfold v7 vQ;rw[h];exact ⟨rfl,rfl⟩
theorem Xy {v:Int} (h:inR v=false):(vQ v != 0)=true:=by
 unfold vQ;rw[h];rfl
def UN:Int->List zN.T->Prop
 | _,[]=>True
 | lo,x::r=>lo<tF x/\tF x<=1000000000000/\-1000000000000<=tR x/\tR x<=1000000000000/\UN (tF x) r
theorem Vv (L:List zN.T):∀(xs:List zN.T) (i:Nat) (lo:Int),L.drop i=xs->qx L xs i=true->(i=0->∀x,xs.head?=some x->lo<tF x)->(i≠0->tF (L.getD (i-1) (0,0))=lo)->UN lo xs
 | [],i,lo,h,ho,h0,h1=>trivial
 | x::r,i,lo,h,ho,h0,h1=>by
  simp only[qx,QZ,Bool.and_eq_true,Bool.or_eq_true,Bool.not_eq_true',decide_eq_true_eq,decide_eq_false_iff_not] at ho;obtain ⟨⟨a1,a2,a3,a4⟩,a5⟩:=ho;have hx:L.getD i (0,0)=x:=by
   have:=congrArg (·[0]?) h
   rw[List.getD_eq_getElem?_getD];simp at this;rw[this]; rfl
  refine ⟨?_,by omega,by omega,by omega,Vv L r (i+1) (tF x) (xL h) a5 (by omega) (fun _=>by simp only[Nat.add_sub_cancel]; rw[hx])⟩;by_cases hi:i=0
  ·exact h0 hi x rfl
  ·rcases a1 with a1 | a1
   ·exact absurd a1 hi
   ·rw[h1 hi] at a1
    omega
theorem uw {l:List zN.T} (h:qJ l=true):1<=l.length/\l.length<=16/\UN (-1) l:=by
 simp only[qJ,Bool.and_eq_true,decide_eq_true_eq] at h;obtain ⟨a1,a2,a3,a4⟩:=h;refine ⟨a1,a2,Vv l l 0 (-1) (by simp) a4 (fun _ x hx=>?_) (fun h=>absurd rfl h)⟩;cases l with
 | nil=>cases hx
 | cons y r =>
  simp only[List.head?_cons,Option.some.injEq] at hx;subst hx;have a3:tF y=0:=a3;omega
def ur (v:Int):Int:=if 0-v>v then 0-v else v
theorem Rc {v:Int} (h1:-1000000000000<=v) (h2:v<=1000000000000):0<=ur v/\ur v<=1000000000000:=by unfold ur; split<;>omega
theorem far_eq (F:Nat) {v:Int} (h1:-1000000000000<=v) (h2:v<=1000000000000):xR.sh F v=some ((ur v,()),()):=by
 unfold xR.sh ur;rw[yV (n:=0-v) (by omega) (by omega)]
def vp:List zN.T->Int
 | a::b::r=>ur (tR a)*(tF b-tF a)+vp (b::r)
 | _=>0
def wN (r0:Int) (l:List zN.T):Int:=l.foldl (fun r t=>if ur (tR t)>r then ur (tR t) else r) r0
theorem tg:∀(l:List zN.T) (lo:Int),-1<=lo->UN lo l->0<=vp l/\vp l<=l.length*1000000000000000000000000
 | [],lo,_,h=>by simp[vp]
 | [a],lo,_,h=>by simp[vp]
 | a::b::r,lo,hlo,h=>by
  obtain ⟨a1,a2,a3,a4,a5⟩:=h;have ih:=tg (b::r) (tF a) (by omega) a5;obtain ⟨b1,b2,b3,b4,b5⟩:=a5;have hf:=Rc (v:=tR a) (by omega) (by omega);have:=qM hf.1 hf.2 (show 0<=tF b-tF a by omega) (show tF b-tF a<=1000000000000 by omega);have e:(1000000000000:Int)*1000000000000=1000000000000000000000000:=by decide
  rw[e] at this;simp only[vp,List.length_cons] at ih ⊢;push_cast at ih ⊢;omega
theorem XA:∀(l:List zN.T) (r0 lo:Int),0<=r0->r0<=1000000000000->UN lo l->0<=wN r0 l/\wN r0 l<=1000000000000
 | [],r0,lo,h1,h2,h=>⟨h1,h2⟩
 | a::r,r0,lo,h1,h2,h=>by
  obtain ⟨a1,a2,a3,a4,a5⟩:=h;have hf:=Rc (v:=tR a) (by omega) (by omega);exact XA r _ (tF a) (show 0<=(if ur (tR a)>r0 then ur (tR a) else r0) by split<;>omega) (show (if ur (tR a)>r0 then ur (tR a) else r0)<=1000000000000 by split<;>omega) a5
theorem Wt (F:Nat) {R:Type} (k:List zN.T->Int->zU.T->zd.T->zd.T->Option R) (L:List zN.T) (N:Int) (u x:zd.T) (r6:zd.T) (hL:L.length<=16):∀(xs:List zN.T) (i:Nat) (rate w lo:Int),L.drop i=xs->-1<=lo->UN lo xs->0<=w->w+xs.length*1000000000000000000000000<=20000000000000000000000000->
  zu.l3.rg F (fun tiers rate _ _ _ _ m x _ ways=>k tiers rate m x ways) L N xs (i:Int) L rate (u,false) x r6 (mk w)=k L (wN rate xs) (u,false) x (mk (w+vp xs))
 | [],i,rate,w,lo,h,hlo,hi,hw,hw2=>by simp only[zu.l3.rg,wN,vp,List.foldl_nil,Int.add_zero]
 | a::r,i,rate,w,lo,h,hlo,hi,hw,hw2=>by
  have ⟨a1,a2,a3,a4,a5⟩:=hi;have h0:=wq h;simp only[List.length_cons] at hw2;push_cast at hw2;have hf:=Rc (v:=tR a) (by omega) (by omega);have hlen:=congrArg List.length h;simp only[List.length_drop,List.length_cons] at hlen;simp only[zu.l3.rg];rw[far_eq F (by omega) (by omega),yV (n:=(i:Int)+1) (by omega) (by omega)];simp only[zp];cases r with
  | nil =>
   simp only[List.length_nil] at hlen;rw[decide_eq_false (show ¬((i:Int)+1<(L.length:Int)) by omega)];simp only[cond_false];have:=Wt F k L N u x r6 hL [] (i+1) (if ur (tR a)>rate then ur (tR a) else rate) w (tF a) (xL h) (by omega) trivial hw (by simp; omega);rw[xI] at this;rw[this];rfl
  | cons b r =>
   simp only[List.length_cons] at hlen;rw[decide_eq_true (show ((i:Int)+1<(L.length:Int)) by omega)];obtain ⟨b1,b2,b3,b4,b5⟩:=a5;have hg:get zN L (Int.toNat ((i:Int)+1))=b:=by
    rw[<-xI]; exact wC (xL h)
   have hid:idx ((i:Int)+1) L.length=true:=Xa (by omega) (by omega);have hp:=qM hf.1 hf.2 (show 0<=tF b-tF a by omega) (show tF b-tF a<=1000000000000 by omega);rw[show (1000000000000:Int)*1000000000000=1000000000000000000000000 by decide] at hp;simp only[cond_true];rw[vr F (v:=ur (tR a)) (by omega) (by omega),hid,hg,yV (n:=tF b-tF a) (by omega) (by omega),vr F (v:=tF b-tF a) (by omega) (by omega)];simp only[zp,cond_true];rw[Yq F u false (xq (by rw[zP]; omega)) (xq (by rw[zP]; omega))];simp only[zp,xh];have hin:inR (ur (tR a)*(tF b-tF a))=true:=by rw[zP]; omega
   rw[(wt hin).1,(wt hin).2];rw[V2 F u _ (xq (by rw[zP]; omega)) (xq hin)];simp only[zp,xh];have hin2:inR (w+ur (tR a)*(tF b-tF a))=true:=by rw[zP]; omega
   rw[(wt hin2).1,(wt hin2).2];simp only[beq_self_eq_true,Bool.and_true,Bool.or_false,cond_true];have:=Wt F k L N u x r6 hL (b::r) (i+1) (if ur (tR a)>rate then ur (tR a) else rate) (w+ur (tR a)*(tF b-tF a)) (tF a) (xL h) (by omega) ⟨b1,b2,b3,b4,b5⟩ (by omega) (by simp only[List.length_cons]; push_cast; simp only[List.length_cons] at hw2; push_cast at hw2; omega);rw[xI] at this;rw[this,Int.add_assoc];rfl
def wK:List zN.T->Int
 | []=>0
 | [a]=>tF a
 | _::b::r=>wK (b::r)
theorem T6:∀(l:List zN.T),1<=l.length->tF (l.getD (l.length-1) (0,0))=wK l
 | [],h=>by simp at h
 | [a],h=>rfl
 | a::b::r,h=>by
  have:=T6 (b::r) (by simp);simp only[wK,<-this];rfl
theorem qd:∀(l:List zN.T) (lo:Int),-1<=lo->UN lo l->0<=wK l/\wK l<=1000000000000
 | [],lo,h1,h=>by simp[wK]
 | [a],lo,h1,h=>by
  obtain ⟨a1,a2,a3,a4,a5⟩:=h;simp only[wK]; omega
 | a::b::r,lo,h1,h=>by
  obtain ⟨a1,a2,a3,a4,a5⟩:=h;exact qd (b::r) (tF a) (by omega) a5
def qF (u x:Int) (l:List zN.T):Int:=u*(wN 0 l*(x+wK l)+vp l)
def BND:Int:=1329227995784915872903807060280344576
theorem Q3 {a b:Int} (ha:1<=a) (hb:0<=b):b<=a*b:=by
 have:=Int.mul_le_mul_of_nonneg_right ha hb;omega
def QR (F:Nat) (tiers7:List zN.T) (rate7:Int) (m7:zU.T) (x7 ways7:zd.T):Option zu.sg.R :=
 bif idx (i64.wrap ((tiers7.length:Int)-1)) tiers7.length then oB (zR.sh F (get zN tiers7 ((i64.wrap ((tiers7.length:Int)-1)).toNat)).1) fun c_8 =>
  oB (ye.sh F m7 x7 c_8.1.1) fun c_9 =>
  bif (((m7.1.1==c_9.2.1.1.1)&&((m7.1.2==c_9.2.1.1.2)&&true))&&true) then oB (zR.sh F rate7) fun c_10 =>
   oB (ya.sh F c_9.2.1 c_10.1.1 c_9.1.1) fun c_11 =>
   bif (((c_9.2.1.1.1==c_11.2.1.1.1)&&((c_9.2.1.1.2==c_11.2.1.1.2)&&true))&&true) then oB (ye.sh F c_11.2.1 c_11.1.1 ways7) fun c_12 =>
    bif (((c_11.2.1.1.1==c_12.2.1.1.1)&&((c_11.2.1.1.2==c_12.2.1.1.2)&&true))&&true) then oB (ya.sh F c_12.2.1 c_9.2.1.1 c_12.1.1) fun c_13 =>
     bif (((c_12.2.1.1.1==c_13.2.1.1.1)&&((c_12.2.1.1.2==c_13.2.1.1.2)&&true))&&true) then some ((c_13.1.1,()),(c_13.2.1,()))
     else none
    else none
   else none
  else none
 else none
theorem X9 {v:Int} (h:0<=v):(inR v=true/\v<170141183460469231731687303715884105728)\/(inR v=false/\170141183460469231731687303715884105728<=v):=by
 rcases Int.lt_or_le v 170141183460469231731687303715884105728 with h' | h'
 ·exact .inl ⟨by rw[zP]; omega,h'⟩
 ·exact .inr ⟨by rw[qg]; omega,h'⟩
theorem RJ (F:Nat) (hF:64<F) {u x:Int} (hu:1<=u) (hu2:u<=1000000000000000000000000) (hx:0<=x) (hx2:x<=BND) {l:List zN.T} (hl:qJ l=true) :
  ∃w o,zu.sh F (mk u,false) (mk x) l=some ((w,()),((mk u,o),()))/\wfW w/\0<=qF u x l/\((o=true/\BND<qF u x l)\/(o=false/\w=mk (qF u x l)/\qF u x l<170141183460469231731687303715884105728)):=by
 obtain ⟨l1,l2,l3⟩:=uw hl;have hBND:BND=1329227995784915872903807060280344576:=rfl;have hlast:=qd l (-1) (by omega) l3;have hrate:=XA l 0 (-1) (by omega) (by omega) l3;have hways:=tg l (-1) (by omega) l3;have hX:zu.sh F (mk u,false) (mk x) l=QR F l (wN 0 l) (mk u,false) (mk x) (mk (0+vp l)):=by
  refine Eq.trans (zu.l3.rg_eq F _ l _ rfl (by omega) l 0 F l 0 (mk u,false) (mk x) (0,0) (0,0) (by simp) (by omega)) ?_;exact Wt F (QR F) l _ (mk u) (mk x) (0,0) l2 l 0 0 0 (-1) (by simp) (by omega) l3 (by omega) (by omega)
 rw[hX];unfold QR;rw[yV (n:=(l.length:Int)-1) (by omega) (by omega),show ((l.length:Int)-1)=((l.length-1:Nat):Int) by omega,xm (by omega),Int.toNat_natCast,show (get zN l (l.length-1)).1=wK l from T6 l l1];simp only[cond_true,Int.zero_add];unfold qF;generalize wK l=lf at*;generalize wN 0 l=rt at*;generalize vp l=ws at*;have iu:inR u=true:=by rw[zP]; omega
 have iws:inR ws=true:=by rw[zP]; omega
 have iR:inR (x+lf)=true:=by rw[zP]; omega
 rw[vr F (by omega) (by omega)];simp only[zp];rw[V2 F _ _ (xq (by rw[zP]; omega)) (xq (by rw[zP]; omega))];simp only[zp,xh];rw[vr F (v:=rt) (by omega) (by omega),(wt iR).1,(wt iR).2];simp only[zp,beq_self_eq_true,Bool.and_true,Bool.or_false,cond_true];rw[Yq F _ _ (xq (by rw[zP]; omega)) (xq iR)];simp only[zp,xh,beq_self_eq_true,Bool.and_true,cond_true,Bool.false_or];have hp0:0<=rt*(x+lf):=Int.mul_nonneg hrate.1 (by omega);have hs0:0<=rt*(x+lf)+ws:=by omega
 have hg:=Q3 hu hs0;generalize rt*(x+lf)=p at*;rw[V2 F _ _ (VY p) (xq iws)];simp only[zp,beq_self_eq_true,Bool.and_true,cond_true];rw[Yq F _ _ (xq iu) (VY _)];simp only[zp,beq_self_eq_true,Bool.and_true,cond_true,xh];refine ⟨_,_,rfl,VY _,by omega,?_⟩;rcases X9 hp0 with ⟨i1,b1⟩ | ⟨i1,b1⟩
 ·rw[(wt i1).1,(wt i1).2,xh]
  rcases X9 hs0 with ⟨i2,b2⟩ | ⟨i2,b2⟩
  ·rw[(wt i2).1,(wt i2).2,xh]
   rcases X9 (v:=u*(p+ws)) (by omega) with ⟨i3,b3⟩ | ⟨i3,b3⟩
   ·rw[(wt i3).1,(wt i3).2]
    exact .inr ⟨rfl,rfl,b3⟩
   ·rw[Xy i3]
    exact .inl ⟨by simp,by omega⟩
  ·rw[Xy i2]
   exact .inl ⟨by simp,by omega⟩
 ·rw[Xy i1]
  exact .inl ⟨by simp,by omega⟩
def wx (l:List Int):Int:=l.sum
def yQ (u:Int) (D:List yy.T) (n:zb.T) (vs:List Int):Int :=
 bif nK n==1 then nN n else bif nK n==2 then nN n*u else bif nK n==3 then 1099511627776
 else bif nK n==4 then uq 1099511627776 (dS (D.getD (nN n).toNat (ByteArray.empty,0)))
 else bif nK n==8 then vs.getD 0 0*vs.getD 1 0
 else bif nK n==13||nK n==14 then qF u (vs.getD 0 0) (nT n)
 else bif nK n==15 then vs.getD 0 0
 else bif nK n==11||(nK n==12||nK n==16) then wx vs+nN n
 else wx vs
def vj (n:zb.T) (v:Int):Int:=bif nK n==15 then v*10000 else v
def mag (u:Int) (D:List yy.T):Tree->Int:=Tree.fold (yQ u D)
theorem uI (u:Int) (D:List yy.T) (n:zb.T) (ks:List Tree):mag u D (.nd n ks)=yQ u D n (ks.map (mag u D)):=Tree.fold_nd _ n ks
def ZO (u:Int) (D:List yy.T) (t:Tree):Int:=bif decide (vj t.root (mag u D t)>BND) then 90 else 0
theorem U7:∀(l pre:List yy.T),dE pre l=0->∀d∈l,1<=dS d/\dS d<=1000000000000
 | [],pre,h,d,hd=>by simp at hd
 | x::r,pre,h,d,hd=>by
  simp only[dE] at h;cases h1:X4 x.1.data.toList with
  | false=>rw[h1] at h; exact absurd (show (61:Int)=0 from h) (by decide)
  | true =>
  rw[h1] at h;cases h2:pre.any (fun e=>ZT e.1 x.1) with
  | true=>rw[h2] at h; exact absurd (show (61:Int)=0 from h) (by decide)
  | false =>
  rw[h2] at h;cases h3:decide (dS x<1) with
  | true=>rw[h3] at h; exact absurd (show (50:Int)=0 from h) (by decide)
  | false =>
  rw[h3] at h;cases h4:decide (dS x>1000000000000) with
  | true=>rw[h4] at h; exact absurd (show (50:Int)=0 from h) (by decide)
  | false =>
  rw[h4] at h;have h3:=of_decide_eq_false h3;have h4:=of_decide_eq_false h4;rcases List.mem_cons.1 hd with rfl | hd
  ·exact ⟨by omega,by omega⟩
  ·exact U7 r _ h d hd
theorem zaB:∀(l:List Int),QM (l.map mk)=wx l
 | []=>rfl
 | x::r=>by
  have:=zaB r;simp only[QM,wx,List.map_cons,List.sum_cons,xh] at*;rw[this]
theorem SF {b:Int}:∀(l:List Int),(∀v∈l,0<=v/\v<=b)->0<=wx l/\wx l<=l.length*b
 | [],h=>by simp[wx]
 | x::r,h=>by
  have ih:=SF r (fun v hv=>h v (by simp[hv]));have hx:=h x (by simp);simp only[wx,List.sum_cons,List.length_cons] at*;push_cast;rw[Int.add_mul];omega
theorem Yu {b:Int} {l:List Int} (h:∀v∈l,0<=v/\v<=b) {i:Nat} (hi:i<l.length):0<=l.getD i 0/\l.getD i 0<=b:=by
 rw[List.getD_eq_getElem?_getD,List.getElem?_eq_getElem hi];exact h _ (List.getElem_mem _)
theorem Wb {l:List Int} {i:Nat} (hi:i<l.length):get zd (l.map mk) i=mk (l.getD i 0):=by
 unfold get;rw[List.getD_eq_getElem?_getD,List.getD_eq_getElem?_getD,List.getElem?_map,List.getElem?_eq_getElem hi];rfl
theorem Qy {s:Int} (h1:1<=s):0<=uq 1099511627776 s/\uq 1099511627776 s<=1099511627777:=by
 have hq1:0<=1099511627776/s:=Int.ediv_nonneg (by omega) (by omega);have hq2:1099511627776/s<=1099511627776:=Int.ediv_le_self _ (by omega);unfold uq;split<;>omega
def NodeR (u:Int) (D:List yy.T) (n:zb.T) (vs:List Int) (r:Option zy.sg.R):Prop :=
 ∃w o,r=some ((w,()),((mk u,o),()))/\wfW w/\0<=yQ u D n vs/\((o=true/\BND<vj n (yQ u D n vs))\/(o=false/\w=mk (yQ u D n vs)/\vj n (yQ u D n vs)<170141183460469231731687303715884105728))
theorem NodeR.of {u:Int} {D:List yy.T} {n:zb.T} {vs:List Int} {v:Int} (hm:yQ u D n vs=v) (hf:(nK n==15)=false) (h0:0<=v) {r:Option zy.sg.R} (o:Bool)
  (hr:r=some ((v7 v,()),((mk u,o||vQ v != 0),()))) (ho:o=false):NodeR u D n vs r:=by
 subst ho;refine ⟨_,_,hr,VY _,by rw[hm]; exact h0,?_⟩;have hBND:BND=1329227995784915872903807060280344576:=rfl;unfold vj;rw[hm,hf];simp only[cond_false,Bool.false_or];rcases X9 h0 with ⟨i,b⟩ | ⟨i,b⟩
 ·rw[(wt i).1,(wt i).2]; exact .inr ⟨rfl,rfl,b⟩
 ·rw[Xy i]; exact .inl ⟨rfl,by omega⟩
theorem Ym:BND=1329227995784915872903807060280344576:=rfl
theorem j18_eq (F:Nat) (hF:64<F) {u:Int} {n:zb.T} {vs:List Int} (hv:∀v∈vs,0<=v/\v<=BND) (hl:vs.length<=16) (hN:0<=nN n) (hN2:nN n<=1000000000000) :
  zy.j18 F (fun m r=>(some ((r,()),(m,())):Option zy.sg.R)) (vs.map mk) (mk u,false) n (0,0) =
   some ((mk (bif nK n==11||(nK n==12||nK n==16) then wx vs+nN n else wx vs),()),((mk u,false),())):=by
 have hs:=SF vs hv;have hsb:wx vs<=21267647932558653966460912964485513216:=by
  have:(vs.length:Int)*BND<=16*BND:=Int.mul_le_mul_of_nonneg_right (by omega) (by rw[Ym]; omega);rw[Ym] at this hs;omega
 have i1:inR (wx vs)=true:=by rw[zP]; omega
 have i2:inR (wx vs+nN n)=true:=by rw[zP]; omega
 unfold zy.j18;rw[wsum_eq F (by
  intro x hx;obtain ⟨v,hv',rfl⟩:=List.mem_map.1 hx;have:=hv v hv';rw[Ym] at this;exact xq (by rw[zP]; omega)) (by simp; omega) (by simp; omega)]
 simp only[zp,zaB];rw[V4,(wt i1).1,(wt i1).2];simp only[zp];rw[vr F (v:=nN n) (by omega) (by omega)];simp only[zp,Bool.or_false];rw[V2 F _ _ (xq i1) (xq (by rw[zP]; omega))];simp only[zp,xh];rw[(wt i2).1,(wt i2).2];cases (nK n==11)<;>cases (nK n==12)<;>cases (nK n==16)<;>rfl
theorem V0 {n:zb.T} {dims:Nat} (hd:dims<=4) (h:nN n<=YO n dims) (hg:tI n=true):nN n<=1000000000000:=by
 rcases v8 hg with h' | h' | h' | h' | h' | h' | h' | h' | h' | h' | h' | h' | h' | h' | h' | h'<;>rw[uR h'] at h
 ·exact h
 ·exact h
 ·have h:nN n<=(dims:Int)-1:=h; omega
 ·have h:nN n<=(dims:Int)-1:=h; omega
 ·have h:nN n<=0:=h; omega
 ·have h:nN n<=0:=h; omega
 ·have h:nN n<=0:=h; omega
 ·have h:nN n<=0:=h; omega
 ·have h:nN n<=0:=h; omega
 ·have h:nN n<=0:=h; omega
 ·exact h
 ·exact h
 ·have h:nN n<=0:=h; omega
 ·have h:nN n<=0:=h; omega
 ·have h:nN n<=10000:=h; omega
 ·exact h
theorem tk (F:Nat) (hF:64<F) {u:Int} (p:zL.T) {n:zb.T} {vs:List Int} {D:List yy.T} (hv:∀v∈vs,0<=v/\v<=BND) (hl:vs.length<=16) (hN:0<=nN n) (hN2:nN n<=1000000000000) {k:Int} (h:nK n=k)
  (hk:k=5\/k=6\/k=7\/k=9\/k=10\/k=11\/k=12\/k=16):NodeR u D n vs (zy.sh F (mk u,false) p n (vs.map mk)):=by
 have hj:=j18_eq F hF (u:=u) (n:=n) hv hl hN hN2;have hs:=SF vs hv;have hsb:wx vs<=21267647932558653966460912964485513216:=by
  have:(vs.length:Int)*BND<=16*BND:=Int.mul_le_mul_of_nonneg_right (by omega) (by rw[Ym]; omega);rw[Ym] at this hs;omega
 have hm:yQ u D n vs=bif nK n==11||(nK n==12||nK n==16) then wx vs+nN n else wx vs:=by
  unfold yQ;rw[h];rcases hk with rfl | rfl | rfl | rfl | rfl | rfl | rfl | rfl<;>rfl
 have he:zy.sh F (mk u,false) p n (vs.map mk)=zy.j18 F (fun m r=>(some ((r,()),(m,())):Option zy.sg.R)) (vs.map mk) (mk u,false) n (0,0):=by
  unfold zy.sh;have h':n.1=k:=h;rw[h'];rcases hk with rfl | rfl | rfl | rfl | rfl | rfl | rfl | rfl<;>rfl
 have hf:(nK n==15)=false:=by rw[h]; rcases hk with rfl | rfl | rfl | rfl | rfl | rfl | rfl | rfl<;>rfl
 rw[he,hj];have hb:0<=yQ u D n vs/\yQ u D n vs<170141183460469231731687303715884105728:=by
  rw[hm];cases (nK n==11||(nK n==12||nK n==16))<;>simp only[cond_true,cond_false]<;>omega
 rw[<-hm];refine ⟨_,_,rfl,xq (by rw[zP]; omega),hb.1,.inr ⟨rfl,rfl,?_⟩⟩;unfold vj;rw[hf];exact hb.2
theorem zcS (F:Nat) (hF:64<F) {u:Int} (hu:1<=u) (hu2:u<=1000000000000000000000000) {p:zL.T} (hD:dE [] p.2.1=0) (hd4:p.2.1.length<=4) {n:zb.T} {pile:Nat} (hn:wD p.2.1.length n pile=0)
  {vs:List Int} (hl:vs.length=ar n) (hv:∀v∈vs,0<=v/\v<=BND):NodeR u p.2.1 n vs (zy.sh F (mk u,false) p n (vs.map mk)):=by
 obtain ⟨g1,g2,g3,g4,g5,g6,g7,g8⟩:=xF hn;have ha:=zbi g1 g4;have hN2:=V0 hd4 g3 g1;have iu:inR u=true:=by rw[zP]; omega
 have iN:inR (nN n)=true:=by rw[zP]; omega
 rcases v8 g1 with h | h | h | h | h | h | h | h | h | h | h | h | h | h | h | h
 ·refine NodeR.of (v:=nN n) (by unfold yQ; rw[h]; rfl) (by rw[h]; rfl) g2 false ?_ rfl
  unfold zy.sh;have h':n.1=1:=h;rw[h',vr F (v:=nN n) (by omega) (by omega),(wt iN).1,(wt iN).2];rfl
 ·refine NodeR.of (v:=nN n*u) (by unfold yQ; rw[h]; rfl) (by rw[h]; rfl) (Int.mul_nonneg g2 (by omega)) false ?_ rfl
  unfold zy.sh;have h':n.1=2:=h;rw[h',vr F (v:=nN n) (by omega) (by omega)];have e:=Yq F (mk u) false (xq iN) (xq iu);rw[xh,xh] at e;exact (congrArg (fun x=>oB x fun c_3=>(some ((c_3.1.1,()),(c_3.2.1,())):Option zy.sg.R)) e).trans rfl
 ·refine NodeR.of (v:=1099511627776) (by unfold yQ; rw[h]; rfl) (by rw[h]; rfl) (by decide) false ?_ rfl
  unfold zy.sh;have h':n.1=3:=h;rw[h',vr F (v:=1099511627776) (by omega) (by omega)];rfl
 ·have hNd:nN n<=(p.2.1.length:Int)-1:=by have:=g3; rw[uR h] at this; exact this
  have hi:(nN n).toNat<p.2.1.length:=by omega
  have hsz:1<=dS (p.2.1.getD (nN n).toNat (ByteArray.empty,0))/\dS (p.2.1.getD (nN n).toNat (ByteArray.empty,0))<=1000000000000:=by
   rw[List.getD_eq_getElem?_getD,List.getElem?_eq_getElem hi];exact U7 p.2.1 [] hD _ (List.getElem_mem _)
  have hc:=Qy hsz.1;have ic:inR (uq 1099511627776 (dS (p.2.1.getD (nN n).toNat (ByteArray.empty,0))))=true:=by rw[zP]; omega
  refine NodeR.of (v:=uq 1099511627776 (dS (p.2.1.getD (nN n).toNat (ByteArray.empty,0)))) (by unfold yQ; rw[h]; rfl) (by rw[h]; rfl) hc.1 false ?_ rfl;unfold zy.sh;have h':n.1=4:=h;have hid:idx (nN n) p.2.1.length=true:=Xa (by omega) (by omega);have hof:=vr F (v:=dS (p.2.1.getD (nN n).toNat (ByteArray.empty,0))) (by omega) (by omega);have e:=zdt F hsz.1 hsz.2;have e2:=V4 F (mk u) false (mk (uq 1099511627776 (dS (p.2.1.getD (nN n).toNat (ByteArray.empty,0))))) 0;rw[h',vr F (v:=1099511627776) (by omega) (by omega),show idx n.2.1 p.2.1.length=true from hid,show zR.sh F (get yy p.2.1 n.2.1.toNat).2=_ from hof];rw[(wt ic).1,(wt ic).2];show (oB (y9.sh F (mk 1099511627776) (mk _) 1) fun c_7=>oB (yd.sh F (mk u,false) c_7.1.1 c_7.1.2.1) fun c_8=>some ((c_8.1.1,()),(c_8.2.1,())))=_;rw[e];simp only[zp];rw[e2];rfl
 ·exact tk F hF p hv (by omega) g2 hN2 h (by decide)
 ·exact tk F hF p hv (by omega) g2 hN2 h (by decide)
 ·exact tk F hF p hv (by omega) g2 hN2 h (by decide)
 ·have ea:ar n=2:=by rw[z8 h]; rfl
  have b0:=Yu hv (i:=0) (by omega);have b1:=Yu hv (i:=1) (by omega);rw[Ym] at b0 b1;refine NodeR.of (v:=vs.getD 0 0*vs.getD 1 0) (by unfold yQ; rw[h]; rfl) (by rw[h]; rfl) (Int.mul_nonneg b0.1 b1.1) false ?_ rfl;unfold zy.sh;have h':n.1=8:=h;have e:=Yq F (mk u) false (xq (v:=vs.getD 0 0) (by rw[zP]; omega)) (xq (v:=vs.getD 1 0) (by rw[zP]; omega));rw[xh,xh] at e;rw[h',W8 (n:=(vs.map mk).length) (by simp; omega),idx1 (n:=(vs.map mk).length) (by simp; omega),Wb (i:=0) (by omega),Wb (i:=1) (by omega)];exact (congrArg (fun x=>oB x fun c_3=>(some ((c_3.1.1,()),(c_3.2.1,())):Option zy.sg.R)) e).trans rfl
 ·exact tk F hF p hv (by omega) g2 hN2 h (by decide)
 ·exact tk F hF p hv (by omega) g2 hN2 h (by decide)
 ·exact tk F hF p hv (by omega) g2 hN2 h (by decide)
 ·exact tk F hF p hv (by omega) g2 hN2 h (by decide)
 ·have ea:ar n=1:=by rw[z8 h]; rfl
  have b0:=Yu hv (i:=0) (by omega);have ht:ut n=true:=by unfold ut uB; rw[h]; rfl
  obtain ⟨w,o,q1,q2,q3,q4⟩:=RJ F hF hu hu2 b0.1 b0.2 (g8 ht);have hm:yQ u p.2.1 n vs=qF u (vs.getD 0 0) (nT n):=by unfold yQ; rw[h]; rfl
  have hf:vj n (yQ u p.2.1 n vs)=qF u (vs.getD 0 0) (nT n):=by unfold vj; rw[h,hm]; rfl
  refine ⟨w,o,?_,q2,by rw[hm]; exact q3,by rw[hf,hm]; exact q4⟩;unfold zy.sh;have h':n.1=13:=h;rw[h',W8 (n:=(vs.map mk).length) (by simp; omega),Wb (i:=0) (by omega)];exact (congrArg (fun x=>oB x fun c_3=>(some ((c_3.1.1,()),(c_3.2.1,())):Option zy.sg.R)) q1).trans rfl
 ·have ea:ar n=1:=by rw[z8 h]; rfl
  have b0:=Yu hv (i:=0) (by omega);have ht:ut n=true:=by unfold ut uB; rw[h]; rfl
  obtain ⟨w,o,q1,q2,q3,q4⟩:=RJ F hF hu hu2 b0.1 b0.2 (g8 ht);have hm:yQ u p.2.1 n vs=qF u (vs.getD 0 0) (nT n):=by unfold yQ; rw[h]; rfl
  have hf:vj n (yQ u p.2.1 n vs)=qF u (vs.getD 0 0) (nT n):=by unfold vj; rw[h,hm]; rfl
  refine ⟨w,o,?_,q2,by rw[hm]; exact q3,by rw[hf,hm]; exact q4⟩;unfold zy.sh;have h':n.1=14:=h;rw[h',W8 (n:=(vs.map mk).length) (by simp; omega),Wb (i:=0) (by omega)];exact (congrArg (fun x=>oB x fun c_3=>(some ((c_3.1.1,()),(c_3.2.1,())):Option zy.sg.R)) q1).trans rfl
 ·have ea:ar n=1:=by rw[z8 h]; rfl
  have b0:=Yu hv (i:=0) (by omega);rw[Ym] at b0;have hm:yQ u p.2.1 n vs=vs.getD 0 0:=by unfold yQ; rw[h]; rfl
  have hf:vj n (yQ u p.2.1 n vs)=vs.getD 0 0*10000:=by unfold vj; rw[h,hm]; rfl
  have h':n.1=15:=h;have e:=Yq F (mk u) false (xq (v:=vs.getD 0 0) (by rw[zP]; omega)) (xq (v:=10000) (by rw[zP]; omega));rw[xh,xh] at e;refine ⟨mk (vs.getD 0 0),vQ (vs.getD 0 0*10000) != 0,?_,xq (by rw[zP]; omega),by rw[hm]; exact b0.1,?_⟩
  ·unfold zy.sh
   rw[h',W8 (n:=(vs.map mk).length) (by simp; omega),Wb (i:=0) (by omega),vr F (v:=10000) (by omega) (by omega)];exact (congrArg (fun x=>oB x fun c_3=>(some ((mk (vs.getD 0 0),()),(c_3.2.1,())):Option zy.sg.R)) e).trans rfl
  ·rw[hf,hm]
   rcases X9 (v:=vs.getD 0 0*10000) (by omega) with ⟨i,b⟩ | ⟨i,b⟩
   ·rw[(wt i).2]; exact .inr ⟨rfl,rfl,b⟩
   ·rw[Xy i]; exact .inl ⟨rfl,by rw[Ym]; omega⟩
 ·exact tk F hF p hv (by omega) g2 hN2 h (by decide)
theorem zdQ (F:Nat) {n:zb.T} {v:Int} (h0:0<=v) (h:vj n v<170141183460469231731687303715884105728):xn.sh F n (mk v)=some ((decide (vj n v>BND),()),()):=by
 have hB:val (72057594037927936,0)=BND:=rfl;have wB:wfW (72057594037927936,0):=by simp[wfW]
 have hc:∀x:Int,decide (tD x BND>0)=decide (x>BND):=by
  intro x;unfold tD;rcases Int.lt_trichotomy x BND with h | h | h
  ·rw[if_pos h,decide_eq_false (by omega),decide_eq_false (by omega)]
  ·rw[if_neg (by omega),if_pos h,decide_eq_false (by omega),decide_eq_false (by omega)]
  ·rw[if_neg (by omega),if_neg (by omega),decide_eq_true (by omega),decide_eq_true (by omega)]
 unfold xn.sh vj at*;cases h15:(nK n==15) with
 | true =>
  rw[h15] at h;simp only[cond_true] at h ⊢;have iv:inR v=true:=by rw[zP]; omega
  have i2:inR (v*10000)=true:=by rw[zP]; omega
  rw[vr F (v:=10000) (by omega) (by omega)];simp only[zp];rw[qv F (xq iv) (xq (v:=10000) (by rw[zP]; omega))];simp only[zp,xh];rw[(wt i2).1,Vi F (xq i2) wB];simp only[zp,xh,hB,hc]
 | false =>
  rw[h15] at h;simp only[cond_false] at h ⊢;have iv:inR v=true:=by rw[zP]; omega
  rw[Vi F (xq iv) wB];simp only[zp,xh,hB,hc]
theorem zc2 (F:Nat) {n:zb.T} (hg:tI n=true) (hk:uy n=true):zV.sh F n=some (((ar n:Int),()),()):=by
 have h9:∀k:Int,(nK n=k)->(k=9\/k=10)->(ar n:Int)=nC n:=by
  intro k h hkk;rw[uc h] at hk;have hk:(decide (nC n>=2)&&decide (nC n<=16))=true:=by rcases hkk with rfl | rfl<;>exact hk
  simp at hk;have:ar n=(nC n).toNat:=by rw[z8 h]; rcases hkk with rfl | rfl<;>rfl
  omega
 unfold zV.sh;rcases v8 hg with h | h | h | h | h | h | h | h | h | h | h | h | h | h | h | h<;>rw[show n.1=_ from h]
 ·rw[z8 h]; rfl
 ·rw[z8 h]; rfl
 ·rw[z8 h]; rfl
 ·rw[z8 h]; rfl
 ·rw[z8 h]; rfl
 ·rw[z8 h]; rfl
 ·rw[z8 h]; rfl
 ·rw[z8 h]; rfl
 ·rw[h9 9 h (.inl rfl)]; rfl
 ·rw[h9 10 h (.inr rfl)]; rfl
 ·rw[z8 h]; rfl
 ·rw[z8 h]; rfl
 ·rw[z8 h]; rfl
 ·rw[z8 h]; rfl
 ·rw[z8 h]; rfl
 ·rw[z8 h]; rfl
theorem R3 (F:Nat) (hF:64<F) {R:Type} {u:Int} (hu:1<=u) (hu2:u<=1000000000000000000000000) {p:zL.T} (hD:dE [] p.2.1=0) (hd4:p.2.1.length<=4) (kE:List zd.T->Int->Option R) (kO:List zd.T->Option R) (L:List zb.T) (N:Int):∀(xs:List zb.T) (st:List Tree) (i:Nat) (mags:List zd.T),
  okS p.2.1.length st xs->(yH st).length+xs.length<=2048->mags.length<=(yH st).length->(∀t∈st,0<=mag u p.2.1 t/\mag u p.2.1 t<=BND)->
  zt.l4.rg F kE (fun _ _ _ _ _ _ mags _=>kO mags) L N xs (i:Int) p (mk u,false) mags (st.map fun t=>mk (mag u p.2.1 t)) =
   match wu (ZO u p.2.1) (news st xs) i with
   | some (j,e)=>kE [] (j:Int)
   | none=>kO (mags++(news st xs).map fun t=>mk (mag u p.2.1 t)):=by
 intro xs;induction xs with
 | nil=>intro st i mags h h2 h3 h4; simp[zt.l4.rg,news,wu]
 | cons n xs ih =>
  intro st i mags h h2 h3 h4;obtain ⟨g1,g2,g3,g4,g5,g6,g7,g8⟩:=xF h.1;have hst:=wP st;have hfs:=congrArg List.length (vC st n);simp only[List.length_cons,List.length_append,List.length_nil] at h2 hfs;have hdr:∀t∈st.drop (st.length-ar n),0<=mag u p.2.1 t/\mag u p.2.1 t<=BND:=fun t ht=>h4 t (List.mem_of_mem_drop ht)
  have hmm:mag u p.2.1 (wh st n)=yQ u p.2.1 n ((st.drop (st.length-ar n)).map (mag u p.2.1)):=by unfold wh; rw[uI]
  have hnode:=zcS F hF hu hu2 hD hd4 h.1 (vs:=(st.drop (st.length-ar n)).map (mag u p.2.1)) (by simp; omega) (by
   intro v hv;obtain ⟨t,ht,rfl⟩:=List.mem_map.1 hv;exact hdr t ht)
  obtain ⟨w,o,q1,q2,q3,q4⟩:=hnode;rw[<-hmm] at q3 q4;have hl:(st.map fun t=>mk (mag u p.2.1 t)).length=st.length:=by simp
  have hE:ZO u p.2.1 (wh st n)=bif decide (vj n (mag u p.2.1 (wh st n))>BND) then 90 else 0:=rfl
  have hdm:(st.map fun t=>mk (mag u p.2.1 t)).drop (st.length-ar n)=((st.drop (st.length-ar n)).map (mag u p.2.1)).map mk:=by
   rw[<-List.map_drop,List.map_map]; rfl
  have ew:=qP g7 (by omega);have hb1:=Zd (show st.length-ar n<=st.length by omega);have hb2:=tX (show st.length-ar n<=st.length by omega);have htk:(st.map fun t=>mk (mag u p.2.1 t)).take st.length=st.map fun t=>mk (mag u p.2.1 t):=List.take_of_length_le (by omega)
  have hbl1:∀y,Nat.ble (mags.length+([y]:List zd.T).length) xu=true:=fun y=>vW (by simp; omega)
  have hbl2:∀y,Nat.ble (st.length-ar n+([y]:List zd.T).length) xu=true:=fun y=>vW (by simp; omega)
  simp only[zt.l4.rg];rw[zc2 F g1 g4];simp only[zp,hl,ew,hb1,hb2,htk,cond_true,hdm];rw[q1];simp only[zp,news,wu,hE];rcases q4 with ⟨rfl,hbig⟩ | ⟨rfl,rfl,hsm⟩
  ·rw[decide_eq_true hbig]
   rfl
  ·rw[zdQ F q3 hsm]
   simp only[zp,cond_false];cases hfar:decide (vj n (mag u p.2.1 (wh st n))>BND) with
   | true=>rfl
   | false =>
    have hfar:=of_decide_eq_false hfar;have hle:mag u p.2.1 (wh st n)<=BND:=by
     unfold vj at hfar;cases h15:(nK n==15) with
     | true=>rw[h15] at hfar; simp only[cond_true] at hfar; omega
     | false=>rw[h15] at hfar; simp only[cond_false] at hfar; omega
    have hstep:(wo st n).map (fun t=>mk (mag u p.2.1 t))=(st.map fun t=>mk (mag u p.2.1 t)).take (st.length-ar n)++[mk (mag u p.2.1 (wh st n))]:=by
     unfold wo; simp[List.map_take]
    have IH:=ih (wo st n) (i+1) (mags++[mk (mag u p.2.1 (wh st n))]) h.2 (by omega) (by simp; omega) (by
     intro t ht;rcases List.mem_append.1 ht with ht | ht
     ·exact h4 t (List.mem_of_mem_take ht)
     ·rw[List.mem_singleton.1 ht]; exact ⟨q3,hle⟩)
    rw[hstep,xI] at IH;simp only[hbl1,hbl2,cond_true,cond_false];refine IH.trans ?_;simp only[List.append_assoc,List.singleton_append,List.map_cons];rfl
def qy (u:Int) (D:List yy.T) (t:Tree):List zd.T×Int :=
 match wu (ZO u D) t.subs 0 with
 | some (j,e)=>([],(j:Int))
 | none=>(t.subs.map fun t=>mk (mag u D t),-1)
theorem R4 (F:Nat) (hF:4096<F) {u:Int} (hu:1<=u) (hu2:u<=1000000000000000000000000) {p:zL.T} {t:Tree} (h:Good p t):zt.sh F p (mk u)=some (((qy u p.2.1 t).1,(qy u p.2.1 t).2,()),()):=by
 unfold zt.sh;have hl:=h.len;have hh:=uj h.head;refine Eq.trans (zt.l4.rg_eq F _ _ p.2.2.2 _ rfl (by omega) p.2.2.2 0 F _ _ _ _ (by simp) (by omega)) ?_;refine (R3 F (by omega) hu hu2 hh.2.2.1 hh.2.1 (fun r44 r54=>(some ((r44,r54,()),()):Option zt.sg.R)) (fun mags=>zt.j13 F (fun r46 r56=>some ((r46,r56,()),())) mags) p.2.2.2 _ p.2.2.2 [] 0 [] h.ok (by simp[yH]; omega) (by simp) (by simp)).trans ?_;rw[h.subs];unfold qy;cases wu (ZO u p.2.1) t.subs 0 with
 | some x=>rfl
 | none=>rfl
def xH (t:Tree):Int:=10000^(deep t).toNat
theorem tZ {t:Tree} (h:deep t<=6):1<=xH t/\xH t<=1000000000000000000000000:=by
 have:=(ud t).1;unfold xH;have:(deep t).toNat=0\/(deep t).toNat=1\/(deep t).toNat=2\/(deep t).toNat=3\/(deep t).toNat=4\/(deep t).toNat=5\/(deep t).toNat=6:=by omega
 rcases this with h | h | h | h | h | h | h<;>rw[h]<;>decide
def wi (D:List yy.T) (t:Tree):zd.T×Int×Int :=
 bif (uG t).2.2 != 0 then ((0,0),(uG t).2.1,(uG t).2.2)
 else bif decide (deep t>6) then ((0,0),(t.size:Int)-1,90)
 else bif decide ((qy (xH t) D t).2>=0) then ((0,0),(qy (xH t) D t).2,90)
 else (mk (xH t),0,0)
theorem vZ:4096<FU:=by decide
theorem Ry {p:zL.T} {t:Tree} (h:Good p t):yX.sh FU p=some (((wi p.2.1 t).1,(wi p.2.1 t).2.1,(wi p.2.1 t).2.2,()),()):=by
 have hl:=h.len;have hs:t.size=p.2.2.2.length:=by rw[Tree.size,h.flat]
 have hp:=Xs t;unfold yX.sh wi;rw[zdU FU vZ h];simp only[zp];cases h1:((uG t).2.2 != 0) with
 | true=>rfl
 | false =>
  simp only[cond_false];rw[Wl FU vZ h];simp only[zp];rw[<-hs,yV (n:=(t.size:Int)-1) (by omega) (by omega)];cases h2:decide (deep t>6) with
  | true=>rfl
  | false =>
   have h2:=of_decide_eq_false h2;have hd:=(ud t).1;have hu:=tZ (t:=t) (by omega);simp only[cond_false];rw[RO hd (by omega)];simp only[zp];have:=R4 FU vZ hu.1 hu.2 h;unfold xH at*;rw[this];simp only[zp];cases decide ((qy (10000^(deep t).toNat) p.2.1 t).2>=0)<;>rfl
theorem zdT {p:zL.T} (h:(vd p).2≠0):yX.sh FU p=some (((0,0),(vd p).1,(vd p).2,()),()):=by
 unfold yX.sh;rw[zc6 FU vZ h];simp only[zp];rw[show ((vd p).2 != 0)=true by simpa using h];rfl
theorem zch {D:List yy.T} {t:Tree} (h:(wi D t).2.2=0):(uG t).2.2=0/\deep t<=6/\(qy (xH t) D t).2<0/\wi D t=(mk (xH t),0,0):=by
 unfold wi at*;cases h1:((uG t).2.2 != 0) with
 | true =>
  rw[h1] at h;have h:(uG t).2.2=0:=h;rw[h] at h1;exact absurd h1 (by decide)
 | false =>
  rw[h1] at h;cases h2:decide (deep t>6) with
  | true=>rw[h2] at h; exact absurd (show (90:Int)=0 from h) (by decide)
  | false =>
   rw[h2] at h;cases h3:decide ((qy (xH t) D t).2>=0) with
   | true=>rw[h3] at h; exact absurd (show (90:Int)=0 from h) (by decide)
   | false =>
    have h2:=of_decide_eq_false h2;have h3:=of_decide_eq_false h3;exact ⟨by simpa using h1,by omega,by omega,rfl⟩
theorem zdO:yx.sh FU=some ((true,()),()):=by kernel_rfl
theorem Z9 {E:Tree->Int}:∀{l:List Tree} {i:Nat} (j:Nat),wu E l i=none->wu E l j=none
 | [],i,j,h=>rfl
 | t::r,i,j,h=>by
  simp only[wu] at*;cases ht:(E t != 0) with
  | true=>rw[ht] at h; cases h
  | false =>
   rw[ht] at h;exact Z9 (i:=i+1) (j+1) h
theorem Xd {E:Tree->Int}:∀{l:List Tree} (i:Nat),(∀t∈l,E t=0)->wu E l i=none
 | [],i,h=>rfl
 | t::r,i,h=>by
  simp only[wu,h t (by simp)];exact Xd (i+1) (fun x hx=>h x (by simp[hx]))
theorem qi {E:Tree->Int}:∀{l:List Tree} {i:Nat},wu E l i=none->∀t∈l,E t=0
 | [],i,h,t,ht=>by simp at ht
 | x::r,i,h,t,ht=>by
  simp only[wu] at h;cases hx:(E x != 0) with
  | true=>rw[hx] at h; cases h
  | false =>
   rw[hx] at h;rcases List.mem_cons.1 ht with rfl | ht
   ·simpa using hx
   ·exact qi (i:=i+1) h t ht
theorem zcW {u:Int} {D:List yy.T} {t:Tree} (h:(qy u D t).2<0):wu (ZO u D) t.subs 0=none/\qy u D t=(t.subs.map fun t=>mk (mag u D t),-1):=by
 unfold qy at*;cases hf:wu (ZO u D) t.subs 0 with
 | some x=>rw[hf] at h; obtain ⟨j,e⟩:=x; exact absurd h (by simp only; omega)
 | none=>exact ⟨rfl,rfl⟩
theorem Tw {t:Tree} (h:(uG t).2.2=0):wu tyE t.subs 0=none/\ty t=1:=by
 unfold uG at h;cases hf:wu tyE t.subs 0 with
 | some x =>
  rw[hf] at h;have hne:∀(l:List Tree) (i:Nat),wu tyE l i=some x->x.2≠0:=by
   intro l;induction l with
   | nil=>intro i h; cases h
   | cons t r ih =>
    intro i h;simp only[wu] at h;cases he:(tyE t != 0) with
    | true =>
     rw[he] at h;simp only[cond_true,Option.some.injEq] at h;rw[<-h];simpa using he
    | false=>rw[he] at h; exact ih _ h
  exact absurd h (hne _ _ hf)
 | none =>
  rw[hf] at h;refine ⟨rfl,?_⟩;cases ht:(ty t != 1) with
  | true=>rw[ht] at h; exact absurd (show (80:Int)=0 from h) (by decide)
  | false=>simpa using ht
theorem zbm {t:Tree} (h1:wu tyE t.subs 0=none) (h2:ty t=1):uG t=(t.subs.map ty,0,0):=by
 unfold uG;rw[h1,h2];rfl
theorem zci {D:List yy.T} {t:Tree} (h1:wu tyE t.subs 0=none) (h2:ty t=1) (h3:deep t<=6):wi D t=bif decide ((qy (xH t) D t).2>=0) then ((0,0),(qy (xH t) D t).2,90) else (mk (xH t),0,0):=by
 unfold wi;rw[zbm h1 h2,decide_eq_false (show ¬deep t>6 by omega)];rfl
theorem TG (t:Tree):∃l,t.subs=l++[t]:=by
 cases t with
 | nd n ks=>exact ⟨_,Xq n ks⟩
theorem zdc {l:List zd.T} {x:zd.T} {n:Nat} (h:n=l.length):get zd (l++[x]) n=x:=by
 subst h;unfold get;rw[List.getD_eq_getElem?_getD,List.getElem?_append_right (by omega),Nat.sub_self];rfl
theorem zdE {x s:Int} (h0:0<=x) (h:x<=1099511627776) (h1:1<=s):0<=uq x s/\uq x s<=uq 1099511627776 s:=by
 have hq1:0<=x/s:=Int.ediv_nonneg (by omega) (by omega);have e1:=Int.mul_ediv_add_emod x s;have e2:=Int.mul_ediv_add_emod 1099511627776 s;have r1:=Int.emod_nonneg x (show s≠0 by omega);have r2:=Int.emod_nonneg 1099511627776 (show s≠0 by omega);have hm:x/s<=1099511627776/s:=Int.ediv_le_ediv (by omega) h;unfold uq;refine ⟨by split<;>omega,?_⟩;split
 ·split<;>omega
 ·split
  ·rename_i a b
   rcases Int.lt_or_eq_of_le hm with hlt | heq
   ·omega
   ·rw[heq] at e1; omega
  ·omega
def T5 (x:Int) (L:Nat):Prop:=1<=L/\(2:Int)^(L-1)<=x/\x<2^L
theorem UH {x:Int} {L:Nat} (m:Nat) (h:T5 (x/2^m) L):T5 x (L+m):=by
 obtain ⟨h1,h2,h3⟩:=h;have hp:(0:Int)<2^m:=Int.pow_pos (by decide);refine ⟨by omega,?_,?_⟩
 ·rw[show L+m-1=(L-1)+m by omega,Int.pow_add]
  have:=Int.mul_le_of_le_ediv hp h2;exact this
 ·rw[Int.pow_add]
  exact Int.lt_mul_of_ediv_lt hp h3
theorem len_tab:∃tab:ByteArray,(∀(R:Type) (F:Nat) (k:Int->Option R) (x n:Int),zK.j7 F k x n=bif decide (x>=256) then bif idx (IntKind.u8.wrap (x.fdiv (2^(min (8:Int).toNat IntKind.u64.bits)))) tab.size then k (i64.wrap ((i64.wrap (n+8))+(i64.wrap (bt tab (IntKind.u8.wrap (x.fdiv (2^(min (8:Int).toNat IntKind.u64.bits)))))))) else none
  else bif idx (IntKind.u8.wrap x) tab.size then k (i64.wrap (n+(i64.wrap (bt tab (IntKind.u8.wrap x))))) else none)/\tab.size=256 /\
  (List.range 256).all (fun v=>Nat.beq v 0||(decide (1<=(bt tab (v:Int)).toNat)&&(decide (bt tab (v:Int)<=8)&&(decide ((2:Int)^((bt tab (v:Int)).toNat-1)<=(v:Int))&&decide ((v:Int)<2^(bt tab (v:Int)).toNat)))))=true :=
 ⟨_,fun _ _ _ _ _=>rfl,rfl,by kernel_rfl⟩
theorem zaY {n:Int} {len:Nat} (h1:0<=n) (h2:n<(len:Int)):idx n len=true:=by
 unfold idx; rw[decide_eq_true h1,decide_eq_true h2]; rfl
theorem zaz {n:Int} (h1:0<=n) (h2:n<256):IntKind.u8.wrap n=n:=by
 show (if (false&&decide (n%256>=128))=true then n%256-256 else n%256)=_;simp; omega
theorem zd0 {R:Type} (F:Nat) (k:Int->Option R) {x n:Int} (h1:1<=x) (h2:x<65536) (n1:0<=n) (n2:n<=1000):∃L:Nat,zK.j7 F k x n=k (n+(L:Int))/\L<=16/\T5 x L:=by
 obtain ⟨tab,t1,t2,t3⟩:=len_tab;have small:∀v:Int,1<=v->v<256->∃L:Nat,bt tab v=(L:Int)/\L<=8/\T5 v L:=by
  intro v v1 v2;have:=List.all_eq_true.1 t3 v.toNat (by simp; omega);rw[show ((v.toNat:Nat):Int)=v by omega] at this;have hb:Nat.beq v.toNat 0=false:=by
   cases hv:v.toNat with
   | zero=>omega
   | succ m=>rfl
  rw[hb] at this;simp only[Bool.false_or,Bool.and_eq_true,decide_eq_true_eq] at this;obtain ⟨a,b,c,d⟩:=this;exact ⟨(bt tab v).toNat,by omega,by omega,a,c,d⟩
 rw[t1,t2];have e8:(2^(min (8:Int).toNat IntKind.u64.bits):Int)=256:=by decide
 rw[e8,Int.fdiv_eq_ediv_of_nonneg _ (by omega)];by_cases h:x>=256
 ·obtain ⟨L,q1,q2,q3⟩:=small (x/256) (by omega) (by omega)
  have q4:=UH 8 (x:=x) (L:=L) q3;rw[decide_eq_true h,zaz (n:=x/256) (by omega) (by omega),zaY (n:=x/256) (by omega) (by omega),q1];simp only[cond_true];rw[yV (n:=n+8) (by omega) (by omega),yV (n:=(L:Int)) (by omega) (by omega),yV (by omega) (by omega)];exact ⟨L+8,by congr 1; omega,by omega,q4⟩
 ·obtain ⟨L,q1,q2,q3⟩:=small x (by omega) (by omega)
  rw[decide_eq_false h,zaz (n:=x) (by omega) (by omega),zaY (n:=x) (by omega) (by omega),q1];simp only[cond_true,cond_false];rw[yV (n:=(L:Int)) (by omega) (by omega),yV (by omega) (by omega)];exact ⟨L,rfl,by omega,q3⟩
theorem zd1 {R:Type} (F:Nat) (k:Int->Option R) {x n:Int} (h1:1<=x) (h2:x<4294967296) (n1:0<=n) (n2:n<=100):∃L:Nat,zK.j4 F k x n=k (n+(L:Int))/\L<=32/\T5 x L:=by
 unfold zK.j4;have e:(2^(min (16:Int).toNat IntKind.u64.bits):Int)=65536:=by decide
 rw[e,Int.fdiv_eq_ediv_of_nonneg _ (by omega)];by_cases h:x>=65536
 ·rw[decide_eq_true h,yV (n:=n+16) (by omega) (by omega)]
  obtain ⟨L,q1,q2,q3⟩:=zd0 F (fun n1=>k n1) (x:=x/65536) (n:=n+16) (by omega) (by omega) (by omega) (by omega);exact ⟨L+16,by simp only[cond_true]; rw[q1]; congr 1; omega,by omega,UH 16 q3⟩
 ·rw[decide_eq_false h]
  obtain ⟨L,q1,q2,q3⟩:=zd0 F (fun n1=>k n1) (x:=x) (n:=n) (by omega) (by omega) (by omega) (by omega);exact ⟨L,by simp only[cond_false]; rw[q1],by omega,q3⟩
theorem zd2 (F:Nat) {x:Int} (h1:1<=x) (h2:x<18446744073709551616):∃L:Nat,zK.sh F x=some (((L:Int),()),())/\L<=64/\T5 x L:=by
 unfold zK.sh;have e:(2^(min (32:Int).toNat IntKind.u64.bits):Int)=4294967296:=by decide
 rw[e,Int.fdiv_eq_ediv_of_nonneg _ (by omega)];by_cases h:x>=4294967296
 ·rw[decide_eq_true h]
  obtain ⟨L,q1,q2,q3⟩:=zd1 F (fun n3=>(some ((n3,()),()):Option zK.sg.R)) (x:=x/4294967296) (n:=32) (by omega) (by omega) (by omega) (by omega);exact ⟨L+32,by simp only[cond_true]; rw[q1,show (32:Int)+(L:Int)=((L+32:Nat):Int) by omega],by omega,UH 32 q3⟩
 ·rw[decide_eq_false h]
  obtain ⟨L,q1,q2,q3⟩:=zd1 F (fun n3=>(some ((n3,()),()):Option zK.sg.R)) (x:=x) (n:=0) (by omega) (by omega) (by omega) (by omega);exact ⟨L,by simp only[cond_false]; rw[q1,Int.zero_add],by omega,q3⟩
theorem lz_eq (F:Nat) {y:Int} (h1:1<=y) (h2:y<18446744073709551616):∃s:Nat,zW.sh F y=some (((s:Int),()),())/\s<=63/\9223372036854775808<=y*2^s/\y*2^s<18446744073709551616:=by
 obtain ⟨L,q1,q2,q3,q4,q5⟩:=zd2 F h1 h2;unfold zW.sh;rw[q1];simp only[zp];rw[yV (n:=64-(L:Int)) (by omega) (by omega)];have hp:(0:Int)<=2^(64-L):=Int.le_of_lt (Int.pow_pos (by decide));have hp':(0:Int)<2^(64-L):=Int.pow_pos (by decide);refine ⟨64-L,by rw[show (64:Int)-(L:Int)=((64-L:Nat):Int) by omega],by omega,?_,?_⟩
 ·have:=Int.mul_le_mul_of_nonneg_right q4 hp
  rw[<-Int.pow_add,show L-1+(64-L)=63 by omega] at this;exact this
 ·have:=Int.mul_lt_mul_of_pos_right q5 hp'
  rw[<-Int.pow_add,show L+(64-L)=64 by omega] at this;exact this
structure Guess (y1 y0 u un q qh rh:Int):Prop where
 y1a:2147483648<=y1
 y1b:y1<4294967296
 y0a:0<=y0
 y0b:y0<4294967296
 una:0<=un
 unb:un<4294967296
 ua:0<=u
 ub:u<y1*4294967296+y0
 q0:0<=q
 qle:q*(y1*4294967296+y0)<=u*4294967296+un
 qlt:u*4294967296+un<(q+1)*(y1*4294967296+y0)
 rh0:0<=rh
 rhb:rh<4294967296
 eq:qh*y1+rh=u
 le:q<=qh
 hi:qh<=4294967297
theorem Guess.qh_y {y1 y0 u un q qh rh:Int} (g:Guess y1 y0 u un q qh rh):qh*(y1*4294967296+y0)=(u-rh)*4294967296+qh*y0:=by
 rw[Int.mul_add,<-Int.mul_assoc,<-g.eq];congr 2
 omega
theorem Guess.qsm {y1 y0 u un q qh rh:Int} (g:Guess y1 y0 u un q qh rh):q<4294967296:=by
 have h:=g.qle;have h1:=g.ub;have hy:0<y1*4294967296+y0:=by have:=g.y1a; have:=g.y0a; omega
 rcases Int.lt_or_le q 4294967296 with h' | h'
 ·exact h'
 ·have:=Int.mul_le_mul_of_nonneg_right h' (Int.le_of_lt hy)
  have:=g.unb;omega
theorem Guess.good {y1 y0 u un q qh rh:Int} (g:Guess y1 y0 u un q qh rh) (h:qh*y0<=4294967296*rh+un):qh=q:=by
 have h1:=g.qh_y;have h2:=g.qlt;have hy:0<y1*4294967296+y0:=by have:=g.y1a; have:=g.y0a; omega
 have h3:qh*(y1*4294967296+y0)<(q+1)*(y1*4294967296+y0):=by omega
 have:=Int.lt_of_mul_lt_mul_right h3 (Int.le_of_lt hy);have:=g.le;omega
theorem Guess.big {y1 y0 u un q qh rh:Int} (g:Guess y1 y0 u un q qh rh) (h:4294967296<=qh\/4294967296*rh+un<qh*y0):q+1<=qh:=by
 rcases h with h | h
 ·have:=g.qsm; omega
 ·have h1:=g.qh_y
  have h2:=g.qle;have hy:0<y1*4294967296+y0:=by have:=g.y1a; have:=g.y0a; omega
  have h3:q*(y1*4294967296+y0)<qh*(y1*4294967296+y0):=by omega
  have:=Int.lt_of_mul_lt_mul_right h3 (Int.le_of_lt hy);omega
theorem Guess.next {y1 y0 u un q qh rh:Int} (g:Guess y1 y0 u un q qh rh) (h:q+1<=qh):(rh+y1<4294967296->Guess y1 y0 u un q (qh-1) (rh+y1))/\(4294967296<=rh+y1->qh-1=q):=by
 have e:(qh-1)*y1+(rh+y1)=u:=by rw[Int.sub_mul,Int.one_mul]; have:=g.eq; omega
 constructor
 ·intro hr
  exact {g with rh0:=by have:=g.rh0; have:=g.y1a; omega,rhb:=hr,eq:=e,le:=by omega,hi:=by have:=g.hi; omega}
 ·intro hr
  have hy0:=g.y0a;have hm:(qh-1)*y0<=4294967296*y0:=Int.mul_le_mul_of_nonneg_right (by have:=g.hi; omega) hy0;have hy:0<y1*4294967296+y0:=by have:=g.y1a; omega
  have h1:(qh-1)*(y1*4294967296+y0)=(u-(rh+y1))*4294967296+(qh-1)*y0:=by
   rw[Int.mul_add,<-Int.mul_assoc,<-e];congr 2
   omega
  have h2:=g.qlt;have:=g.y0b;have:=g.una;have h3:(qh-1)*(y1*4294967296+y0)<(q+1)*(y1*4294967296+y0):=by omega
  have:=Int.lt_of_mul_lt_mul_right h3 (Int.le_of_lt hy);omega
theorem zaV (F:Nat) {R:Type} (k:Int->Int->Int->Int->Int->Int->Int->Int->Option R) (y s u0:Int) {y1 y0 u un q:Int}:∀(m fu:Nat) (qh rh:Int),m<fu->4294967296<=rh+m*2147483648->Guess y1 y0 u un q qh rh->
  zl.l17 F (fun y s a b c d e q _ _=>k y s a b c d e q) (fun y s a b c d e q _ _=>k y s a b c d e q) fu y s y1 y0 u un u0 qh rh=k y s y1 y0 u un u0 q
 | 0,fu,qh,rh,hf,hm,g=>by have:=g.rhb; omega
 | m+1,fu,qh,rh,hf,hm,g=>by
  obtain ⟨fu,rfl⟩:∃j,fu=j+1:=⟨fu-1,by omega⟩;have r0:=g.rh0;have rb:=g.rhb;have q0:=g.q0;have ql:=g.le;have qhi:=g.hi;have a1:=g.y1a;have a2:=g.y1b;have b1:=g.y0a;have b2:=g.y0b;have un1:=g.una;have un2:=g.unb;have step:q+1<=qh->(bif decide ((u64.wrap (rh+y1))>=4294967296) then k y s y1 y0 u un u0 (u64.wrap (qh-1)) else zl.l17 F (fun y s a b c d e q _ _=>k y s a b c d e q) (fun y s a b c d e q _ _=>k y s a b c d e q) fu y s y1 y0 u un u0 (u64.wrap (qh-1)) (u64.wrap (rh+y1)))=k y s y1 y0 u un u0 q:=by
   intro h;have hn:=g.next h;rw[xf (n:=rh+y1) (by omega) (by omega),xf (n:=qh-1) (by omega) (by omega)];by_cases hr:rh+y1>=4294967296
   ·rw[decide_eq_true hr,hn.2 hr]; rfl
   ·rw[decide_eq_false hr]
    exact zaV F k y s u0 m fu (qh-1) (rh+y1) (by omega) (by push_cast at hm; omega) (hn.1 (by omega))
  simp only[zl.l17,zl.l17.body];by_cases hq:qh>=4294967296
  ·rw[decide_eq_true hq]
   exact step (g.big (.inl hq))
  ·rw[decide_eq_false hq]
   have hz:=qM (show 0<=qh by omega) (show qh<=4294967295 by omega) b1 (show y0<=4294967295 by omega);simp only[cond_false];rw[xf (n:=qh*y0) (by omega) (by omega),xf (n:=4294967296*rh) (by omega) (by omega),xf (n:=4294967296*rh+un) (by omega) (by omega)];by_cases hc:qh*y0>4294967296*rh+un
   ·rw[decide_eq_true hc]
    exact step (g.big (.inr hc))
   ·rw[decide_eq_false hc,g.good (by omega)]
    rfl
theorem zaU (F:Nat) {R:Type} (k:Int->Int->Int->Int->Int->Int->Int->Int->Option R) (y s Q1:Int) {y1 y0 u un q:Int}:∀(m fu:Nat) (qh rh:Int),m<fu->4294967296<=rh+m*2147483648->Guess y1 y0 u un q qh rh->
  zl.l24 F (fun y s a b c d _ e q _=>k y s a b c d e q) (fun y s a b c d _ e q _=>k y s a b c d e q) fu y s y1 y0 un Q1 rh u qh=k y s y1 y0 un Q1 u q
 | 0,fu,qh,rh,hf,hm,g=>by have:=g.rhb; omega
 | m+1,fu,qh,rh,hf,hm,g=>by
  obtain ⟨fu,rfl⟩:∃j,fu=j+1:=⟨fu-1,by omega⟩;have r0:=g.rh0;have rb:=g.rhb;have q0:=g.q0;have ql:=g.le;have qhi:=g.hi;have a1:=g.y1a;have a2:=g.y1b;have b1:=g.y0a;have b2:=g.y0b;have un1:=g.una;have un2:=g.unb;have step:q+1<=qh->(bif decide ((u64.wrap (rh+y1))>=4294967296) then k y s y1 y0 un Q1 u (u64.wrap (qh-1)) else zl.l24 F (fun y s a b c d _ e q _=>k y s a b c d e q) (fun y s a b c d _ e q _=>k y s a b c d e q) fu y s y1 y0 un Q1 (u64.wrap (rh+y1)) u (u64.wrap (qh-1)))=k y s y1 y0 un Q1 u q:=by
   intro h;have hn:=g.next h;rw[xf (n:=rh+y1) (by omega) (by omega),xf (n:=qh-1) (by omega) (by omega)];by_cases hr:rh+y1>=4294967296
   ·rw[decide_eq_true hr,hn.2 hr]; rfl
   ·rw[decide_eq_false hr]
    exact zaU F k y s Q1 m fu (qh-1) (rh+y1) (by omega) (by push_cast at hm; omega) (hn.1 (by omega))
  simp only[zl.l24,zl.l24.body];by_cases hq:qh>=4294967296
  ·rw[decide_eq_true hq]
   exact step (g.big (.inl hq))
  ·rw[decide_eq_false hq]
   have hz:=qM (show 0<=qh by omega) (show qh<=4294967295 by omega) b1 (show y0<=4294967295 by omega);simp only[cond_false];rw[xf (n:=qh*y0) (by omega) (by omega),xf (n:=4294967296*rh) (by omega) (by omega),xf (n:=4294967296*rh+un) (by omega) (by omega)];by_cases hc:qh*y0>4294967296*rh+un
   ·rw[decide_eq_true hc]
    exact step (g.big (.inr hc))
   ·rw[decide_eq_false hc,g.good (by omega)]
    rfl
theorem Guess.first {y1 y0 u un:Int} (y1a:2147483648<=y1) (y1b:y1<4294967296) (y0a:0<=y0) (y0b:y0<4294967296) (una:0<=un) (unb:un<4294967296) (ua:0<=u) (ub:u<y1*4294967296+y0) :
  Guess y1 y0 u un ((u*4294967296+un)/(y1*4294967296+y0)) (u/y1) (u%y1):=by
 have hy:0<y1*4294967296+y0:=by omega
 have e:=Int.emod_add_mul_ediv u y1;have e2:u/y1*y1+u%y1=u:=by rw[Int.mul_comm]; omega
 have r1:=Int.emod_nonneg u (show y1≠0 by omega);have r2:=Int.emod_lt_of_pos u (show 0<y1 by omega);have hq0:0<=u/y1:=Int.ediv_nonneg ua (by omega);have hqy:0<=u/y1*y0:=Int.mul_nonneg hq0 y0a;refine ⟨y1a,y1b,y0a,y0b,una,unb,ua,ub,Int.ediv_nonneg (by omega) (by omega),Int.ediv_mul_le _ (by omega),Int.lt_ediv_add_one_mul_self _ hy,r1,by omega,e2,?_,?_⟩
 ·have h1:(u*4294967296+un)/(y1*4294967296+y0)<u/y1+1:=by
   refine Int.ediv_lt_of_lt_mul hy ?_;rw[Int.add_mul,Int.one_mul,Int.mul_add,<-Int.mul_assoc];have:(u-u%y1)*4294967296=u/y1*y1*4294967296:=by congr 1; omega
   omega
  omega
 ·have h1:u/y1<4294967298:=by
   refine Int.ediv_lt_of_lt_mul (by omega) ?_;omega
  omega
theorem SU {s:Nat} {a b:Int} (h0:0<=a) (h1:a*2^s<18446744073709551616) (h2:0<=b) (h3:b<2^s) (h4:b<18446744073709551616) (h5:a*2^s+b<18446744073709551616) :
  u64.wrap ((BitVec.ofInt IntKind.u64.bits (a*2^s) ||| BitVec.ofInt IntKind.u64.bits b).toNat:Int)=a*2^s+b:=by
 obtain ⟨A,rfl⟩:=Int.eq_ofNat_of_zero_le h0;obtain ⟨B,rfl⟩:=Int.eq_ofNat_of_zero_le h2;have e:((A:Int)*2^s)=((A*2^s:Nat):Int):=by push_cast; rfl
 have e2:((2:Int)^s)=((2^s:Nat):Int):=by push_cast; rfl
 rw[e] at h1 h5 ⊢;rw[e2] at h3;show u64.wrap ((BitVec.ofInt 64 ((A*2^s:Nat):Int) ||| BitVec.ofInt 64 (B:Int)).toNat:Int)=_
 rw[BitVec.ofInt_natCast,BitVec.ofInt_natCast,BitVec.toNat_or,BitVec.toNat_ofNat,BitVec.toNat_ofNat,Nat.mod_eq_of_lt (by omega:A*2^s<2^64),Nat.mod_eq_of_lt (by omega)];have:=Nat.two_pow_add_eq_or_of_lt (i:=s) (b:=B) (by omega) A;rw[Nat.mul_comm] at this;rw[<-this,xf (by omega) (by omega)];push_cast;rfl
theorem YV {M y Q R':Int} (hy:0<y) (h:M=Q*y+R') (h0:0<=R') (h1:R'<y):M/y=Q/\M%y=R':=by
 have e:M=R'+y*Q:=by rw[Int.mul_comm] at h; omega
 rw[e,Int.add_mul_ediv_left _ _ (by omega),Int.add_mul_emod_self_left,Int.ediv_eq_zero_of_lt h0 h1,Int.emod_eq_of_lt h0 h1];omega
theorem div_j28 (F:Nat) {R:Type} (k:Int->Int->Option R) {Y un0 q1 r1 q0:Int} {s:Nat} (hs:s<=63) (hY:Y<18446744073709551616) (a1:0<=q1) (a2:q1<4294967296) (b1:0<=q0) (b2:q0<4294967296)
  (c1:0<=un0) (c2:un0<4294967296) (d1:0<=r1) (e1:q0*Y<=r1*4294967296+un0) (e2:r1*4294967296+un0<(q0+1)*Y) :
  zl.j28 F k Y (s:Int) un0 q1 r1 q0=k (q1*4294967296+q0) ((r1*4294967296+un0-q0*Y)/2^s):=by
 unfold zl.j28;rw[Int.add_mul,Int.one_mul] at e2;rw[decide_eq_true (show (0:Int)<=(s:Int) by omega),Int.toNat_natCast,show min s IntKind.u64.bits=s from Nat.min_eq_left (by show s<=64; omega)];simp only[cond_true];rw[xf (n:=q1*4294967296) (by omega) (by omega),xf (n:=q1*4294967296+q0) (by omega) (by omega)];rw[Int.fdiv_eq_ediv_of_nonneg _ (Int.le_of_lt (Int.pow_pos (by decide)))];congr 2
 simp only[wE];generalize q0*Y=t at*;omega
theorem div_j21 (F:Nat) (hF:4<F) {R:Type} (k:Int->Int->Option R) {y1 y0 u un1 un0:Int} {s:Nat} (hs:s<=63) (y1a:2147483648<=y1) (y1b:y1<4294967296) (y0a:0<=y0) (y0b:y0<4294967296)
  (ua:0<=u) (ub:u<y1*4294967296+y0) (una:0<=un1) (unb:un1<4294967296) (c1:0<=un0) (c2:un0<4294967296) :
  ∃Q r,zl.j21 F k (y1*4294967296+y0) (s:Int) y1 y0 u un1 un0 ((u*4294967296+un1)/(y1*4294967296+y0))=k Q (r/2^s)/\0<=r/\r<y1*4294967296+y0 /\
   (u*4294967296+un1)*4294967296+un0=Q*(y1*4294967296+y0)+r:=by
 have hy:0<y1*4294967296+y0:=by omega
 have g:=Guess.first y1a y1b y0a y0b una unb ua ub;have q1:=g.qsm;have q1':=g.q0;have em:=Int.mul_ediv_add_emod (u*4294967296+un1) (y1*4294967296+y0);have r0:=Int.emod_nonneg (u*4294967296+un1) (show y1*4294967296+y0≠0 by omega);have r1:=Int.emod_lt_of_pos (u*4294967296+un1) hy;rw[Int.mul_comm] at em;generalize hq:(u*4294967296+un1)/(y1*4294967296+y0)=Q1 at*;generalize hr:(u*4294967296+un1)%(y1*4294967296+y0)=R1 at*;have hw:u64.wrap ((u64.wrap ((u64.wrap (u*4294967296))+un1))-(u64.wrap (Q1*(y1*4294967296+y0))))=R1:=by
  simp only[wE];generalize Q1*(y1*4294967296+y0)=t at*;omega
 have g2:=Guess.first (u:=R1) (un:=un0) y1a y1b y0a y0b c1 c2 r0 r1;have em2:=Int.mul_ediv_add_emod R1 y1;have rr0:=Int.emod_nonneg R1 (show y1≠0 by omega);have rr1:=Int.emod_lt_of_pos R1 (show 0<y1 by omega);rw[Int.mul_comm] at em2;have gh:=g2.hi;have gl:=Int.ediv_nonneg r0 (show 0<=y1 by omega);have gm:=Int.mul_nonneg gl (show 0<=y1 by omega);unfold zl.j21;rw[hw,show (y1 != 0)=true from bne_iff_ne.2 (by omega),Int.tdiv_eq_ediv_of_nonneg r0];rw[xf (n:=R1/y1) (by omega) (by omega),xf (n:=R1/y1*y1) (by omega) (by omega),xf (n:=R1-R1/y1*y1) (by omega) (by omega),show R1-R1/y1*y1=R1%y1 by omega];simp only[cond_true];have hk:=zaU F (fun y s a b c d e q=>zl.j28 F (fun quo4 rem4=>k quo4 rem4) y s c d e q) (y1*4294967296+y0) (s:Int) Q1 2 F (R1/y1) (R1%y1) (by omega) (by omega) g2;rw[hk];have q2:=g2.qsm;have q2':=g2.q0;have q2l:=g2.qle;have q2u:=g2.qlt;generalize (R1*4294967296+un0)/(y1*4294967296+y0)=Q0 at*;refine ⟨Q1*4294967296+Q0,R1*4294967296+un0-Q0*(y1*4294967296+y0),?_,by omega,by rw[Int.add_mul,Int.one_mul] at q2u; omega,?_⟩
 ·exact div_j28 F _ hs (by omega) q1' q1 q2' q2 c1 c2 r0 q2l q2u
 ·rw[Int.add_mul (Q1*4294967296),Int.mul_right_comm Q1]
  omega
theorem zdv (F:Nat) (hF:4<F) {hi lo y:Int} (h1:0<=hi) (h2:hi<y) (h3:0<=lo) (h4:lo<18446744073709551616) (h5:y<18446744073709551616) :
  zl.sh F hi lo y=some (((hi*18446744073709551616+lo)/y,(hi*18446744073709551616+lo)%y,()),()):=by
 unfold zl.sh;rw[show (y==0)=false by rw[beq_eq_false_iff_ne]; omega,show (y != 0)=true from bne_iff_ne.2 (by omega),decide_eq_false (show ¬y<=hi by omega)];simp only[cond_false,cond_true];by_cases h0:hi=0
 ·subst h0
  have hq:lo/y<=lo:=Int.ediv_le_self _ h3;have hq0:0<=lo/y:=Int.ediv_nonneg h3 (by omega);rw[beq_self_eq_true,Int.tdiv_eq_ediv_of_nonneg h3,Int.tmod_eq_emod_of_nonneg h3,xf hq0 (by omega)];simp
 ·rw[show (hi==0)=false by rw[beq_eq_false_iff_ne]; exact h0]
  obtain ⟨s,z1,z2,z3,z4⟩:=lz_eq F (y:=y) (by omega) h5;rw[z1];simp only[zp,cond_false];rw[xf (n:=(s:Int)) (by omega) (by omega),xf (n:=64-(s:Int)) (by omega) (by omega),show (64:Int)-(s:Int)=((64-s:Nat):Int) by omega,decide_eq_true (show (0:Int)<=(s:Int) by omega),
   decide_eq_true (show (0:Int)<=((64-s:Nat):Int) by omega),Int.toNat_natCast,Int.toNat_natCast,show min s IntKind.u64.bits=s from Nat.min_eq_left (by show s<=64; omega),show min (64-s) IntKind.u64.bits=64-s from Nat.min_eq_left (by show 64-s<=64; omega)]
  simp only[cond_true];have hP:(0:Int)<2^s:=Int.pow_pos (by decide);have hQ:(0:Int)<2^(64-s):=Int.pow_pos (by decide);have hPQ:(2:Int)^s*2^(64-s)=18446744073709551616:=by rw[<-Int.pow_add,show s+(64-s)=64 by omega]; rfl
  have hYw:u64.wrap (y*2^s)=y*2^s:=xf (by omega) (by omega);have hhi:hi*2^s<y*2^s:=Int.mul_lt_mul_of_pos_right h2 hP;have hhi0:0<=hi*2^s:=Int.mul_nonneg h1 (Int.le_of_lt hP);have hHw:u64.wrap (hi*2^s)=hi*2^s:=xf hhi0 (by omega);have hlo1:0<=lo/2^(64-s):=Int.ediv_nonneg h3 (Int.le_of_lt hQ);have hlo2:lo/2^(64-s)<2^s:=Int.ediv_lt_of_lt_mul hQ (by rw[hPQ]; exact h4);have hlo3:lo/2^(64-s)=lo*2^s/18446744073709551616:=by
   rw[<-hPQ,Int.mul_comm lo,Int.mul_ediv_mul_of_pos _ _ hP]
  have hM:(hi*2^s+lo/2^(64-s))*18446744073709551616+lo*2^s%18446744073709551616=(hi*18446744073709551616+lo)*2^s:=by
   rw[hlo3,Int.add_mul (hi*18446744073709551616),Int.mul_right_comm hi];omega
  have hMl:(hi*18446744073709551616+lo)*2^s<y*2^s*18446744073709551616:=by
   rw[Int.mul_right_comm y];exact Int.mul_lt_mul_of_pos_right (by omega) hP
  have hu:hi*2^s+lo/2^(64-s)<y*2^s:=by omega
  have hu0:0<=hi*2^s+lo/2^(64-s):=by omega
  have hor:=SU (s:=s) (a:=hi) (b:=lo/2^(64-s)) h1 (by omega) hlo1 hlo2 (by omega) (by omega);rw[hYw,hHw,Int.fdiv_eq_ediv_of_nonneg lo (Int.le_of_lt hQ),hor,UC (by omega) (by omega),Ul (by omega),wE,UC (by omega) (by omega),Ul (by omega)];generalize hi*2^s+lo/2^(64-s)=u at*;generalize hL:lo*2^s%18446744073709551616=L at*;generalize hYY:y*2^s=Y at*;have hL0:0<=L:=by omega
  have hL1:L<18446744073709551616:=by omega
  have g:=Guess.first (y1:=Y/4294967296) (y0:=Y%4294967296) (u:=u) (un:=L/4294967296) (by omega) (by omega) (by omega) (by omega) (by omega) (by omega) hu0 (by omega);have em2:=Int.mul_ediv_add_emod u (Y/4294967296);have rr0:=Int.emod_nonneg u (show Y/4294967296≠0 by omega);have rr1:=Int.emod_lt_of_pos u (show 0<Y/4294967296 by omega);rw[Int.mul_comm] at em2;have gh:=g.hi;have gl:=Int.ediv_nonneg hu0 (show 0<=Y/4294967296 by omega);have gm:=Int.mul_nonneg gl (show 0<=Y/4294967296 by omega);rw[show (Y/4294967296 != 0)=true from bne_iff_ne.2 (by omega),Int.tdiv_eq_ediv_of_nonneg hu0];rw[xf (n:=u/(Y/4294967296)) gl (by omega),xf (n:=u/(Y/4294967296)*(Y/4294967296)) (by omega) (by omega),xf (n:=u-u/(Y/4294967296)*(Y/4294967296)) (by omega) (by omega),show u-u/(Y/4294967296)*(Y/4294967296)=u%(Y/4294967296) by omega];simp only[cond_true];have hk:=zaV F (fun y s a b c d e q=>zl.j21 F (fun quo7 rem7=>(some ((quo7,rem7,()),()):Option zl.sg.R)) y s a b c d e q) Y (s:Int) (L%4294967296) 2 F (u/(Y/4294967296)) (u%(Y/4294967296)) (by omega) (by omega) g;rw[hk];have hj:=div_j21 F hF (fun quo7 rem7=>(some ((quo7,rem7,()),()):Option zl.sg.R)) (y1:=Y/4294967296) (y0:=Y%4294967296) (u:=u) (un1:=L/4294967296) (un0:=L%4294967296) z2 (by omega) (by omega) (by omega) (by omega) hu0 (by omega) (by omega) (by omega) (by omega) (by omega);rw[show Y/4294967296*4294967296+Y%4294967296=Y by omega] at hj ⊢;obtain ⟨Q,r,e1,e2,e3,e4⟩:=hj;rw[e1];have e5:(hi*18446744073709551616+lo)*2^s=Q*Y+r:=by rw[<-hM,<-e4]; omega
  have e6:r=(hi*18446744073709551616+lo-Q*y)*2^s:=by
   rw[Int.sub_mul,Int.mul_assoc Q,hYY]; omega
  have e7:r/2^s=hi*18446744073709551616+lo-Q*y:=by rw[e6,Int.mul_ediv_cancel _ (Int.ne_of_gt hP)]
  rw[e7];have e8:0<=hi*18446744073709551616+lo-Q*y:=by rw[<-e7]; exact Int.ediv_nonneg e2 (Int.le_of_lt hP)
  have e9:hi*18446744073709551616+lo-Q*y<y:=by rw[<-e7]; exact Int.ediv_lt_of_lt_mul hP (by rw[hYY]; exact e3)
  obtain ⟨f1,f2⟩:=YV (M:=hi*18446744073709551616+lo) (y:=y) (Q:=Q) (R':=hi*18446744073709551616+lo-Q*y) (by omega) (by omega) e8 e9;rw[f1,f2]
theorem mask1 {x:Int} (h1:0<=x) (h2:x<18446744073709551616):u64.wrap ((BitVec.ofInt IntKind.u64.bits x &&& BitVec.ofInt IntKind.u64.bits 1).toNat:Int)=x%2:=by
 obtain ⟨X,rfl⟩:=Int.eq_ofNat_of_zero_le h1;show u64.wrap ((BitVec.ofInt 64 (X:Int) &&& BitVec.ofInt 64 ((1:Nat):Int)).toNat:Int)=_;rw[BitVec.ofInt_natCast,BitVec.ofInt_natCast,BitVec.toNat_and,BitVec.toNat_ofNat,BitVec.toNat_ofNat,Nat.mod_eq_of_lt (by omega:X<2^64),Nat.mod_eq_of_lt (by decide)];have:X &&& 1=X%2:=Nat.and_two_pow_sub_one_eq_mod X 1;rw[this,xf (by omega) (by omega)];omega
theorem shl1 {x:Int}:x*2^(min (1:Int).toNat IntKind.u64.bits)=x*2:=by
 have e:(2^(min (1:Int).toNat IntKind.u64.bits):Int)=2:=by decide
 rw[e]
theorem shr63u {x:Int} (h:0<=x):x.fdiv (2^(min (63:Int).toNat IntKind.u64.bits))=x/9223372036854775808:=by
 have e:(2^(min (63:Int).toNat IntKind.u64.bits):Int)=9223372036854775808:=by decide
 rw[e,Int.fdiv_eq_ediv_of_nonneg _ (by omega)]
theorem qr_body (F:Nat) {R:Type} (k0:Int->Int->Int->Int->Int->Int->Int->Bool->Option R) (rec:Int->Int->Int->Int->Int->Int->Int->Option R) {al bh bl q r B:Int} {i:Nat} (hi:i<64)
  (ha1:0<=al) (ha2:al<18446744073709551616) (hb1:0<=bh) (hb2:bh<=9223372036854775808) (hl1:0<=bl) (hl2:bl<18446744073709551616) (hB:B=bh*18446744073709551616+bl) (hB2:B<=170141183460469231731687303715884105728)
  (hq1:0<=q) (hq2:q*2^(i+1)+2^(i+1)<=18446744073709551616) (hr1:0<=r) (hr2:r<B) :
  zS.l7.body F k0 rec al bh bl (q*2^(i+1)) (r/18446744073709551616) (r%18446744073709551616) (i:Int) =
   if B<=2*r+al/2^i%2 then rec al bh bl ((2*q+1)*2^i) ((2*r+al/2^i%2-B)/18446744073709551616) ((2*r+al/2^i%2-B)%18446744073709551616) (i64.wrap ((i:Int)-1))
   else rec al bh bl ((2*q)*2^i) ((2*r+al/2^i%2)/18446744073709551616) ((2*r+al/2^i%2)%18446744073709551616) (i64.wrap ((i:Int)-1)):=by
 have hP:(0:Int)<2^i:=Int.pow_pos (by decide);have hP2:(2:Int)^(i+1)=2*2^i:=by rw[Int.pow_succ,Int.mul_comm]
 have hb0:0<=al/2^i:=Int.ediv_nonneg ha1 (Int.le_of_lt hP);have hbl:al/2^i<=al:=Int.ediv_le_self _ ha1;have hsh:al.fdiv (2^(min (i:Int).toNat IntKind.u64.bits))=al/2^i:=by
  rw[Int.toNat_natCast,show min i IntKind.u64.bits=i from Nat.min_eq_left (by show i<=64; omega),Int.fdiv_eq_ediv_of_nonneg _ (Int.le_of_lt hP)]
 have hbit:al/2^i%2=0\/al/2^i%2=1:=by omega
 have hq3:q*2^(i+1)=2*q*2^i:=by rw[hP2,<-Int.mul_assoc,Int.mul_comm q]
 have w1:u64.wrap (r/18446744073709551616*2)=r/18446744073709551616*2^1:=by rw[xf (by omega) (by omega)]; rfl
 have w2:u64.wrap (r%18446744073709551616*2)=(r%18446744073709551616%9223372036854775808)*2^1:=by rw[wE]; omega
 have o1:=SU (s:=1) (a:=r/18446744073709551616) (b:=r%18446744073709551616/9223372036854775808) (by omega) (by omega) (by omega) (by omega) (by omega) (by omega);have o2:=SU (s:=1) (a:=r%18446744073709551616%9223372036854775808) (b:=al/2^i%2) (by omega) (by omega) (by omega) (by omega) (by omega) (by omega);have o3:u64.wrap ((BitVec.ofInt IntKind.u64.bits (q*2^(i+1)) ||| BitVec.ofInt IntKind.u64.bits (u64.wrap (1*2^(min (i:Int).toNat IntKind.u64.bits)))).toNat:Int)=(2*q+1)*2^i:=by
  have hm:=Int.mul_nonneg hq1 (Int.le_of_lt hP);rw[Int.toNat_natCast,show min i IntKind.u64.bits=i from Nat.min_eq_left (by show i<=64; omega),Int.one_mul,xf (n:=2^i) (by omega) (by rw[hq3,hP2,Int.mul_assoc] at hq2; omega)];rw[SU (s:=i+1) (a:=q) (b:=2^i) hq1 (by omega) (by omega) (by omega) (by rw[hq3,hP2,Int.mul_assoc] at hq2; omega) (by omega),hq3,Int.add_mul,Int.one_mul]
 unfold zS.l7.body;rw[decide_eq_true (show (i:Int)>=0 by omega),shl1,shl1,w1,w2,shr63u (by omega),o1,hsh,mask1 (x:=al/2^i) (by omega) (by omega),o2,o3];simp only[cond_true];rw[hq3];generalize al/2^i%2=c at*;have e1:r/18446744073709551616*2^1+r%18446744073709551616/9223372036854775808=(2*r+c)/18446744073709551616:=by omega
 have e2:r%18446744073709551616%9223372036854775808*2^1+c=(2*r+c)%18446744073709551616:=by omega
 rw[e1,e2];have hn1:0<=2*r+c:=by omega
 have hn2:2*r+c<2*B:=by omega
 generalize 2*r+c=N at*;clear e1 e2 o1 o2 o3 w1 w2;have sub:∀bo:Int,(N%18446744073709551616<bl/\bo=1)\/(bl<=N%18446744073709551616/\bo=0)->B<=N->(N/18446744073709551616-bh-bo)%18446744073709551616=(N-B)/18446744073709551616:=by
  intro bo h h';omega
 have s1:=th F (x:=N%18446744073709551616) (y:=bl) (c:=0) (by omega) hl1 hl2 (by omega) (by omega);have hbo:(N%18446744073709551616<bl/\(if N%18446744073709551616<bl+0 then (1:Int) else 0)=1)\/(bl<=N%18446744073709551616/\(if N%18446744073709551616<bl+0 then (1:Int) else 0)=0):=by split<;>omega
 rw[s1];generalize (if N%18446744073709551616<bl+0 then (1:Int) else 0)=bo at*;have s2:=th F (x:=N/18446744073709551616) (y:=bh) (c:=bo) (by omega) hb1 (by omega) (by omega) (by omega);simp only[zp];rw[s2];simp only[zp];by_cases hle:B<=N
 ·rw[if_pos hle,sub bo hbo hle,show (N%18446744073709551616-bl-0)%18446744073709551616=(N-B)%18446744073709551616 by omega]
  by_cases hg:N/18446744073709551616>bh
  ·rw[decide_eq_true hg]; rfl
  ·rw[decide_eq_false hg,show (N/18446744073709551616==bh)=true by rw[beq_iff_eq]; omega,decide_eq_true (show N%18446744073709551616>=bl by omega)]; rfl
 ·rw[if_neg hle,decide_eq_false (show ¬N/18446744073709551616>bh by omega)]
  by_cases he:N/18446744073709551616=bh
  ·rw[show (N/18446744073709551616==bh)=true by rw[beq_iff_eq]; exact he,decide_eq_false (show ¬N%18446744073709551616>=bl by omega)]; rfl
  ·rw[show (N/18446744073709551616==bh)=false by rw[beq_eq_false_iff_ne]; exact he]; rfl
theorem bit_of {ah al:Int} (ha:0<=al) {n:Nat} (hn:n<64):(ah*18446744073709551616+al)/2^n=2*((ah*18446744073709551616+al)/2^(n+1))+al/2^n%2:=by
 have hP:(0:Int)<2^n:=Int.pow_pos (by decide);have e:ah*18446744073709551616+al=al+2^n*(2*(2^(63-n)*ah)):=by
  have:(2:Int)^n*(2*(2^(63-n)*ah))=(2^n*2^(63-n))*(2*ah):=by rw[Int.mul_left_comm 2,Int.mul_assoc]
  rw[this,<-Int.pow_add,show n+(63-n)=63 by omega];omega
 have e2:(ah*18446744073709551616+al)/2^(n+1)=(ah*18446744073709551616+al)/2^n/2:=by
  rw[Int.pow_succ,Int.ediv_ediv_of_nonneg (Int.le_of_lt hP)]
 have e3:(ah*18446744073709551616+al)/2^n=al/2^n+2*(2^(63-n)*ah):=by
  rw[e,Int.add_mul_ediv_left _ _ (by omega)]
 rw[e2,e3];generalize al/2^n=x at*;generalize (2:Int)^(63-n)*ah=z at*;omega
theorem SO (F:Nat) {R:Type} (k:Int->Int->Int->Option R) {ah al bh bl B:Int} (ha1:0<=al) (ha2:al<18446744073709551616) (hb1:0<=bh) (hb2:bh<=9223372036854775808) (hl1:0<=bl) (hl2:bl<18446744073709551616)
  (hB:B=bh*18446744073709551616+bl) (hB2:B<=170141183460469231731687303715884105728):∀(n fu:Nat) (q r:Int),n<fu->n<=64->0<=q->q*2^n+2^n<=18446744073709551616->0<=r->r<B->
  (ah*18446744073709551616+al)/2^n=q*B+r->
  zS.l7 F (fun _ _ _ ql rh rl _ _=>k ql rh rl) fu al bh bl (q*2^n) (r/18446744073709551616) (r%18446744073709551616) ((n:Int)-1) =
   k ((ah*18446744073709551616+al)/B) ((ah*18446744073709551616+al)%B/18446744073709551616) ((ah*18446744073709551616+al)%B%18446744073709551616)
 | 0,fu,q,r,hf,hn,hq1,hq2,hr1,hr2,he=>by
  obtain ⟨fu,rfl⟩:∃j,fu=j+1:=⟨fu-1,by omega⟩;simp only[Int.pow_zero,Int.ediv_one] at he;obtain ⟨f1,f2⟩:=YV (M:=ah*18446744073709551616+al) (y:=B) (Q:=q) (R':=r) (by omega) he hr1 hr2;rw[f1,f2];simp only[zS.l7,zS.l7.body];rw[decide_eq_false (show ¬(((0:Nat):Int)-1)>=0 by omega)];simp
 | n+1,fu,q,r,hf,hn,hq1,hq2,hr1,hr2,he=>by
  obtain ⟨fu,rfl⟩:∃j,fu=j+1:=⟨fu-1,by omega⟩;have hP:(0:Int)<2^n:=Int.pow_pos (by decide);have hP2:(2:Int)^(n+1)=2*2^n:=by rw[Int.pow_succ,Int.mul_comm]
  have hq3:q*2^(n+1)=2*(q*2^n):=by rw[hP2,Int.mul_left_comm]
  simp only[zS.l7];rw[show ((n+1:Nat):Int)-1=((n:Nat):Int) by omega];rw[qr_body F _ _ (by omega) ha1 ha2 hb1 hb2 hl1 hl2 hB hB2 hq1 hq2 hr1 hr2,yV (n:=(n:Int)-1) (by omega) (by omega)];have hbit:=bit_of (ah:=ah) ha1 (n:=n) (by omega);have hbb:al/2^n%2=0\/al/2^n%2=1:=by omega
  rw[he] at hbit;have hq4:2*q*2^n=2*(q*2^n):=by rw[Int.mul_assoc]
  split
  ·refine SO F k ha1 ha2 hb1 hb2 hl1 hl2 hB hB2 n fu _ _ (by omega) (by omega) (by omega) ?_ (by omega) (by omega) ?_
   ·rw[Int.add_mul,Int.one_mul,hq4]; omega
   ·rw[hbit,Int.add_mul,Int.one_mul,Int.mul_assoc]; omega
  ·refine SO F k ha1 ha2 hb1 hb2 hl1 hl2 hB hB2 n fu _ _ (by omega) (by omega) (by omega) ?_ (by omega) (by omega) ?_
   ·rw[hq4]; omega
   ·rw[hbit,Int.mul_assoc]; omega
theorem Q7 (F:Nat) (hF:70<F) {ah al bh bl:Int} (h1:0<=ah) (h1':ah<18446744073709551616) (ha1:0<=al) (ha2:al<18446744073709551616) (hb1:0<=bh) (hb2:bh<=9223372036854775808) (hl1:0<=bl) (hl2:bl<18446744073709551616)
  (hB0:0<bh*18446744073709551616+bl) (hB2:bh*18446744073709551616+bl<=170141183460469231731687303715884105728) :
  zS.sh F ah al bh bl=some (((ah*18446744073709551616+al)/(bh*18446744073709551616+bl)/18446744073709551616,(ah*18446744073709551616+al)/(bh*18446744073709551616+bl)%18446744073709551616,
   (ah*18446744073709551616+al)%(bh*18446744073709551616+bl)/18446744073709551616,(ah*18446744073709551616+al)%(bh*18446744073709551616+bl)%18446744073709551616,()),()):=by
 unfold zS.sh;by_cases hb:bh=0
 ·subst hb
  rw[beq_self_eq_true,show (bl != 0)=true from bne_iff_ne.2 (by omega),Int.tmod_eq_emod_of_nonneg h1,Int.tdiv_eq_ediv_of_nonneg h1];have m0:=Int.emod_nonneg ah (show bl≠0 by omega);have m1:=Int.emod_lt_of_pos ah (show 0<bl by omega);have d0:=Int.ediv_nonneg h1 hl1;have d1:ah/bl<=ah:=Int.ediv_le_self _ h1;simp only[cond_true];rw[zdv F (by omega) m0 m1 ha1 ha2 hl2,xf (n:=ah/bl) d0 (by omega)];simp only[zp];have hM0:0<=ah%bl*18446744073709551616+al:=by omega
  have q0:0<=(ah%bl*18446744073709551616+al)/bl:=Int.ediv_nonneg hM0 hl1;have q1:(ah%bl*18446744073709551616+al)/bl<18446744073709551616:=Int.ediv_lt_of_lt_mul (by omega) (by omega);have r0:=Int.emod_nonneg (ah%bl*18446744073709551616+al) (show bl≠0 by omega);have r1:=Int.emod_lt_of_pos (ah%bl*18446744073709551616+al) (show 0<bl by omega);have e1:=Int.mul_ediv_add_emod ah bl;have e2:=Int.mul_ediv_add_emod (ah%bl*18446744073709551616+al) bl;rw[show (0:Int)*18446744073709551616+bl=bl by omega];obtain ⟨f1,f2⟩:=YV (M:=ah*18446744073709551616+al) (y:=bl) (Q:=ah/bl*18446744073709551616+(ah%bl*18446744073709551616+al)/bl) (R':=(ah%bl*18446744073709551616+al)%bl) (by omega) (by
   rw[Int.add_mul,Int.mul_right_comm,Int.mul_comm _ bl,Int.mul_comm _ bl]; omega) r0 r1
  rw[f1,f2];generalize (ah%bl*18446744073709551616+al)/bl=x at*;generalize (ah%bl*18446744073709551616+al)%bl=z at*;generalize ah/bl=w at*;rw[show (w*18446744073709551616+x)/18446744073709551616=w by omega,show (w*18446744073709551616+x)%18446744073709551616=x by omega,show z/18446744073709551616=0 by omega,show z%18446744073709551616=z by omega]
 ·rw[show (bh==0)=false by rw[beq_eq_false_iff_ne]; exact hb]
  simp only[cond_false];have hl:=SO F (fun ql rh rl=>(some ((0,ql,rh,rl,()),()):Option zS.sg.R)) (ah:=ah) (al:=al) (bh:=bh) (bl:=bl) ha1 ha2 hb1 hb2 hl1 hl2 rfl hB2 64 F 0 ah (by omega) (by omega) (by omega) (by decide) h1 (by omega) (by
   rw[show (2:Int)^64=18446744073709551616 from rfl]; omega)
  rw[show (0:Int)*2^64=0 by decide,show ah/18446744073709551616=0 by omega,show ah%18446744073709551616=ah by omega,show ((64:Nat):Int)-1=63 from rfl] at hl;rw[hl];have q0:0<=(ah*18446744073709551616+al)/(bh*18446744073709551616+bl):=Int.ediv_nonneg (by omega) (by omega);have q1:(ah*18446744073709551616+al)/(bh*18446744073709551616+bl)<18446744073709551616:=Int.ediv_lt_of_lt_mul (by omega) (by omega);generalize (ah*18446744073709551616+al)/(bh*18446744073709551616+bl)=x at*;rw[show x/18446744073709551616=0 by omega,show x%18446744073709551616=x by omega]
def dsg (a b:Int):Bool:=!(decide (a<0)==decide (b<0))
def aQ (a b:Int):Int:=(a.natAbs:Int)/(b.natAbs:Int)
def aR (a b:Int):Int:=(a.natAbs:Int)%(b.natAbs:Int)
def tq (a b:Int):Int:=bif dsg a b then -aQ a b else aQ a b
def tr (a b:Int):Int:=bif decide (a<0) then -aR a b else aR a b
theorem aQR {a b:Int} (hb:b≠0):0<=aQ a b/\0<=aR a b/\aR a b<b.natAbs/\(b.natAbs:Int)*aQ a b+aR a b=a.natAbs/\aQ a b<=a.natAbs:=by
 unfold aQ aR;exact ⟨Int.ediv_nonneg (by omega) (by omega),Int.emod_nonneg _ (by omega),Int.emod_lt_of_pos _ (by omega),Int.mul_ediv_add_emod _ _,Int.ediv_le_self _ (by omega)⟩
theorem S0 {v:Int}:(((mk v).1==0)&&(((mk v).2==0)&&true))=decide (v=0):=by
 by_cases h:v=0
 ·subst h; rfl
 ·rw[decide_eq_false h]
  simp only[mk,Bool.and_true,Bool.and_eq_false_iff,beq_eq_false_iff_ne];omega
theorem zcf {b:Int×Int} (hb:wfW b):((b.1==0)&&((b.2==0)&&true))=decide (val b=0):=by
 rw[<-zcT hb,S0,xh]
theorem TQ (F:Nat) (hF:70<F) {a b:Int×Int} (ha:wfW a) (hb:wfW b) (h0:val b≠0) :
  yO.sh F a b=some ((bif inR (tq (val a) (val b)) then mk (tq (val a) (val b)) else (0,0),bif inR (tq (val a) (val b)) then mk (tr (val a) (val b)) else (0,0),vQ (tq (val a) (val b)),()),()):=by
 have ba:=Vl ha;have bb:=Vl hb;have hq:=aQR (a:=val a) h0;have hneg:(!(decide (a.1<0)==decide (b.1<0)))=dsg (val a) (val b):=by rw[tL ha,tL hb]; rfl
 unfold yO.sh;rw[zcf hb,decide_eq_false h0];simp only[cond_false];rw[Yk F ha,Yk F hb];simp only[zp];have e1:((val a).natAbs:Int)/18446744073709551616*18446744073709551616+((val a).natAbs:Int)%18446744073709551616=(val a).natAbs:=by omega
 have e2:((val b).natAbs:Int)/18446744073709551616*18446744073709551616+((val b).natAbs:Int)%18446744073709551616=(val b).natAbs:=by omega
 have hl:=Q7 F hF (ah:=((val a).natAbs:Int)/18446744073709551616) (al:=((val a).natAbs:Int)%18446744073709551616) (bh:=((val b).natAbs:Int)/18446744073709551616) (bl:=((val b).natAbs:Int)%18446744073709551616)
  (by omega) (by omega) (by omega) (by omega) (by omega) (by omega) (by omega) (by omega) (by omega) (by omega)
 rw[e1,e2] at hl;rw[hl,hneg];simp only[zp];rw[show ((val a).natAbs:Int)/((val b).natAbs:Int)=aQ (val a) (val b) from rfl,show ((val a).natAbs:Int)%((val b).natAbs:Int)=aR (val a) (val b) from rfl];rw[X7 F (v:=tq (val a) (val b)) (by omega) (by omega) (by omega) (by omega) (by
  unfold tq;rw[show aQ (val a) (val b)/18446744073709551616*18446744073709551616+aQ (val a) (val b)%18446744073709551616=aQ (val a) (val b) by omega])]
 simp only[zp];cases hi:inR (tq (val a) (val b)) with
 | false=>simp only[v7,vQ,hi,cond_false]; rfl
 | true =>
  simp only[v7,vQ,hi,cond_true,bne_self_eq_false,cond_false];rw[tL ha];rw[X7 F (v:=tr (val a) (val b)) (by omega) (by omega) (by omega) (by omega) (by
   unfold tr;rw[show aR (val a) (val b)/18446744073709551616*18446744073709551616+aR (val a) (val b)%18446744073709551616=aR (val a) (val b) by omega])]
  have hi2:inR (tr (val a) (val b))=true:=by
   rw[zP]; unfold tr;cases decide (val a<0)<;>simp only[cond_true,cond_false]<;>omega
  simp only[zp,v7,vQ,hi2,cond_true]
theorem aw1 {x y bo:Int} (h1:0<=x) (h2:x<y) (h3:y<=170141183460469231731687303715884105728)
  (hbo:(y%18446744073709551616<x%18446744073709551616/\bo=1)\/(x%18446744073709551616<=y%18446744073709551616/\bo=0)) :
  (y/18446744073709551616-x/18446744073709551616-bo)%18446744073709551616=(y-x)/18446744073709551616:=by omega
theorem aw2 {x y:Int}:(y%18446744073709551616-x%18446744073709551616-0)%18446744073709551616=(y-x)%18446744073709551616:=by omega
theorem aw3 {x y:Int} (h1:0<=x) (h2:x<y) (h:x/18446744073709551616>(y-x)/18446744073709551616):y<2*x:=by omega
theorem aw4 {x y:Int} (h1:0<=x) (h2:x<y) (h:x/18446744073709551616=(y-x)/18446744073709551616) (h':x%18446744073709551616>(y-x)%18446744073709551616):y<2*x:=by omega
theorem aw5 {x y:Int} (h1:0<=x) (h2:x<y) (h:x/18446744073709551616=(y-x)/18446744073709551616) (h':¬x%18446744073709551616>(y-x)%18446744073709551616):¬y<2*x:=by omega
theorem aw6 {x y:Int} (h:x/18446744073709551616=(y-x)/18446744073709551616) (h':x%18446744073709551616=(y-x)%18446744073709551616):2*x=y:=by omega
theorem aw7 {x y:Int} (h:¬x%18446744073709551616=(y-x)%18446744073709551616):¬2*x=y:=by omega
theorem aw8 {x y:Int} (h:¬x/18446744073709551616>(y-x)/18446744073709551616) (h':¬x/18446744073709551616=(y-x)/18446744073709551616):¬y<2*x:=by omega
theorem aw9 {x y:Int} (h':¬x/18446744073709551616=(y-x)/18446744073709551616):¬2*x=y:=by omega
def awB (m q r b:Int):Bool :=
 bif m==0 then dsg r b else bif m==1 then !dsg r b else bif m==2 then false else
  decide ((b.natAbs:Int)<2*r.natAbs)||(decide (2*(r.natAbs:Int)=b.natAbs)&&(m==3||decide (q%2=1)))
theorem away_eq (F:Nat) {q r b:Int×Int} (hq:wfW q) (hr:wfW r) (hb:wfW b) (m:Int) (hlt:((val r).natAbs:Int)<(val b).natAbs) :
  xw.sh F q r b m=some ((awB m (val q) (val r) (val b),()),()):=by
 have br:=Vl hr;have bb:=Vl hb;have hq2:u64.wrap ((BitVec.ofInt IntKind.u64.bits q.2 &&& BitVec.ofInt IntKind.u64.bits 1).toNat:Int)=val q%2:=by
  rw[mask1 hq.2.2.1 hq.2.2.2];simp only[val];omega
 unfold xw.sh awB;rw[hq2];rw[tL hr,tL hb];rw[show (!(decide (val r<0)==decide (val b<0)))=dsg (val r) (val b) from rfl];cases h0:(m==0) with
 | true=>simp only[cond_true,cond_false,Bool.true_or,Bool.false_or,Bool.and_true,Bool.true_and]
 | false =>
 cases h1:(m==1) with
 | true=>simp only[cond_true,cond_false,Bool.true_or,Bool.false_or,Bool.and_true,Bool.true_and]
 | false =>
 cases h2:(m==2) with
 | true=>simp only[cond_true,cond_false,Bool.true_or,Bool.false_or,Bool.and_true,Bool.true_and]
 | false =>
 simp only[cond_false];have A:=Yk F hr;have B:=Yk F hb;generalize ((val r).natAbs:Int)=x at*;generalize ((val b).natAbs:Int)=y at*;rw[A,zp,B,zp];have s1:=th F (x:=y%18446744073709551616) (y:=x%18446744073709551616) (c:=0) (by omega) (by omega) (by omega) (by omega) (by omega);have hbo:(y%18446744073709551616<x%18446744073709551616/\(if y%18446744073709551616<x%18446744073709551616+0 then (1:Int) else 0)=1)\/(x%18446744073709551616<=y%18446744073709551616/\(if y%18446744073709551616<x%18446744073709551616+0 then (1:Int) else 0)=0):=by split<;>omega
 rw[s1];generalize (if y%18446744073709551616<x%18446744073709551616+0 then (1:Int) else 0)=bo at*;have s2:=th F (x:=y/18446744073709551616) (y:=x/18446744073709551616) (c:=bo) (by omega) (by omega) (by omega) (by omega) (by omega);rw[zp,s2,zp];rw[aw1 br.1 hlt bb.2 hbo,aw2];clear s1 s2 hbo hq2;by_cases g1:x/18446744073709551616>(y-x)/18446744073709551616
 ·rw[decide_eq_true g1,decide_eq_true (aw3 br.1 hlt g1)]; simp only[cond_true,cond_false,Bool.true_or,Bool.or_true,Bool.false_or,Bool.or_false,Bool.and_true,Bool.true_and,Bool.false_and,decide_true,beq_self_eq_true]
 ·rw[decide_eq_false g1]
  by_cases g2:x/18446744073709551616=(y-x)/18446744073709551616
  ·rw[show (x/18446744073709551616==(y-x)/18446744073709551616)=true by rw[beq_iff_eq]; exact g2]
   simp only[cond_true,cond_false];by_cases g3:x%18446744073709551616>(y-x)%18446744073709551616
   ·rw[decide_eq_true g3,decide_eq_true (aw4 br.1 hlt g2 g3)]; simp only[cond_true,cond_false,Bool.true_or,Bool.or_true,Bool.false_or,Bool.or_false,Bool.and_true,Bool.true_and,Bool.false_and,decide_true,beq_self_eq_true]
   ·rw[decide_eq_false g3,decide_eq_false (aw5 br.1 hlt g2 g3)]
    by_cases g4:x%18446744073709551616=(y-x)%18446744073709551616
    ·rw[show (x%18446744073709551616==(y-x)%18446744073709551616)=true by rw[beq_iff_eq]; exact g4,decide_eq_true (aw6 g2 g4)]
     cases (m==3) with
     | true=>simp only[cond_true,cond_false,Bool.true_or,Bool.false_or,Bool.and_true,Bool.true_and]
     | false =>
      simp only[cond_true,cond_false,Bool.false_or,Bool.true_and];by_cases g5:val q%2=1
      ·rw[g5]; simp only[cond_true,cond_false,Bool.true_or,Bool.or_true,Bool.false_or,Bool.or_false,Bool.and_true,Bool.true_and,Bool.false_and,decide_true,beq_self_eq_true]
      ·rw[decide_eq_false g5,show (val q%2==1)=false by rw[beq_eq_false_iff_ne]; exact g5]
    ·rw[show (x%18446744073709551616==(y-x)%18446744073709551616)=false by rw[beq_eq_false_iff_ne]; exact g4,decide_eq_false (aw7 g4)]; simp only[cond_true,cond_false,Bool.true_or,Bool.or_true,Bool.false_or,Bool.or_false,Bool.and_true,Bool.true_and,Bool.false_and,decide_true,beq_self_eq_true]
  ·rw[show (x/18446744073709551616==(y-x)/18446744073709551616)=false by rw[beq_eq_false_iff_ne]; exact g2,decide_eq_false (aw8 g1 g2),decide_eq_false (aw9 g2)]; simp only[cond_true,cond_false,Bool.true_or,Bool.or_true,Bool.false_or,Bool.or_false,Bool.and_true,Bool.true_and,Bool.false_and,decide_true,beq_self_eq_true]
def tw (m a b:Int):Int :=
 bif decide (tr a b=0) then tq a b else bif !awB m (tq a b) (tr a b) b then tq a b else bif dsg a b then tq a b-1 else tq a b+1
theorem zcm (a b:Int) (hb:b≠0):((tr a b).natAbs:Int)=aR a b:=by
 have:=aQR (a:=a) hb;unfold tr;cases decide (a<0)<;>simp only[cond_true,cond_false]<;>omega
theorem zaj (F:Nat) (hF:70<F) {a b m:Int} (ha:inR a=true) (hb:inR b=true) (h0:b≠0) (hq:inR (tq a b)=true) (m0:0<=m) (m4:m<=4):y9.sh F (mk a) (mk b) m=some ((mk (tw m a b),0,()),()):=by
 have qr:=aQR (a:=a) h0;have ha':=zP.1 ha;have hb':=zP.1 hb;have hr:inR (tr a b)=true:=by
  rw[zP]; unfold tr;cases decide (a<0)<;>simp only[cond_true,cond_false]<;>omega
 unfold y9.sh tw;rw[decide_eq_false (show ¬m<0 by omega),decide_eq_false (show ¬m>4 by omega),TQ F hF (xq ha) (xq hb) (by rw[xh]; exact h0)];simp only[xh,hq,cond_true,cond_false,zp,vQ,bne_self_eq_false];rw[S0];by_cases hz:tr a b=0
 ·rw[decide_eq_true hz]; rfl
 ·rw[decide_eq_false hz]
  simp only[cond_false];rw[away_eq F (xq hq) (xq hr) (xq hb) m (by rw[xh,xh,zcm a b h0]; omega)];simp only[zp,xh];cases awB m (tq a b) (tr a b) b with
  | false=>rfl
  | true =>
   have hr0:aR a b≠0:=fun h=>hz (by unfold tr; rw[h]; cases decide (a<0)<;>rfl)
   have hb2:(2:Int)<=b.natAbs:=by omega
   have hq2:2*aQ a b<=a.natAbs:=by
    have:=Int.mul_le_mul_of_nonneg_right hb2 qr.1;omega
   have hw:(!(decide ((mk a).1<0)==decide ((mk b).1<0)))=dsg a b:=by rw[tL (xq ha),tL (xq hb),xh,xh]; rfl
   rw[hw,vr F (by omega) (by omega)];simp only[zp,Bool.not_true,cond_false];cases hd:dsg a b with
   | true =>
    have i:inR (tq a b-1)=true:=by rw[zP]; unfold tq; rw[hd]; simp only[cond_true]; omega
    rw[SG F (xq hq) (xq (by rw[zP]; omega))];simp only[cond_true,zp,xh,v7,vQ,i]
   | false =>
    have i:inR (tq a b+1)=true:=by rw[zP]; unfold tq; rw[hd]; simp only[cond_false]; omega
    rw[Th F (xq hq) (xq (by rw[zP]; omega))];simp only[cond_false,cond_true,zp,xh,v7,vQ,i]
theorem Zx {m c b:Int} (hb:0<b):tw m (c*b) b=c:=by
 have hn:(((c*b).natAbs:Nat):Int)=c.natAbs*b:=by
  rw[Int.natAbs_mul]; push_cast; rw[show ((b.natAbs:Nat):Int)=b by omega]
 have hR:aR (c*b) b=0:=by
  unfold aR;rw[hn,show ((b.natAbs:Nat):Int)=b by omega,Int.mul_emod_left]
 have hQ:aQ (c*b) b=c.natAbs:=by
  unfold aQ;rw[hn,show ((b.natAbs:Nat):Int)=b by omega,Int.mul_ediv_cancel _ (by omega)]
 have h1:tr (c*b) b=0:=by unfold tr; rw[hR]; cases decide (c*b<0)<;>rfl
 unfold tw tq dsg;rw[h1,hQ,decide_eq_false (show ¬b<0 by omega)];by_cases hc:c<0
 ·rw[decide_eq_true (show c*b<0 from Int.mul_neg_of_neg_of_pos hc hb)]
  simp; omega
 ·rw[decide_eq_false (show ¬c*b<0 by have:=Int.mul_nonneg (show 0<=c by omega) (Int.le_of_lt hb); omega)]
  simp; omega
theorem Ri (F:Nat) {a b:Int} (ha:inR a=true) (hb:inR b=true) (h:inR (a+b)=true):xN.sh F (mk a) (mk b)=some ((mk (a+b),()),()):=by
 unfold xN.sh;rw[Th F (xq ha) (xq hb),zp,xh,xh,(wt h).1]
theorem V6 (F:Nat) {a b:Int} (ha:inR a=true) (hb:inR b=true) (h:inR (a-b)=true):xM.sh F (mk a) (mk b)=some ((mk (a-b),()),()):=by
 unfold xM.sh;rw[SG F (xq ha) (xq hb),zp,xh,xh,(wt h).1]
theorem qA (F:Nat) {a b:Int} (ha:inR a=true) (hb:inR b=true) (h:inR (a*b)=true):xi.sh F (mk a) (mk b)=some ((mk (a*b),()),()):=by
 unfold xi.sh;rw[qv F (xq ha) (xq hb),zp,xh,xh,(wt h).1]
def YI (m:Int) (l:List Int):Int:=l.foldl (fun m x=>if x<m then x else m) m
def qN:List Int->Int
 | []=>0
 | a::r=>YI a r
theorem R2:∀(l:List Int) (m:Int),YI m l=m\/YI m l∈l
 | [],m=>.inl rfl
 | x::r,m=>by
  show YI (if x<m then x else m) r=m\/YI (if x<m then x else m) r∈x::r;rcases R2 r (if x<m then x else m) with h | h
  ·rw[h]; split
   ·exact .inr (by simp)
   ·exact .inl rfl
  ·exact .inr (by simp[h])
theorem R6:∀(l:List Int) (m:Int),tN m l=m\/tN m l∈l
 | [],m=>.inl rfl
 | x::r,m=>by
  show tN (if x>m then x else m) r=m\/tN (if x>m then x else m) r∈x::r;rcases R6 r (if x>m then x else m) with h | h
  ·rw[h]; split
   ·exact .inr (by simp)
   ·exact .inl rfl
  ·exact .inr (by simp[h])
theorem Z0 {l:List Int} (h:1<=l.length):qN l∈l:=by
 cases l with
 | nil=>simp at h
 | cons a r =>
  rcases R2 r a with h | h
  ·rw[qN,h]; simp
  ·rw[qN]; simp[h]
theorem Z1 {l:List Int} (h:1<=l.length):vT l∈l:=by
 cases l with
 | nil=>simp at h
 | cons a r =>
  rcases R6 r a with h | h
  ·rw[vT,h]; simp
  ·rw[vT]; simp[h]
theorem mind_eq (F:Nat) {a b:Int} (ha:inR a=true) (hb:inR b=true):zi.d26 F xS (mk a,mk b,())=some ((tD a b,()),()):=by
 refine Eq.trans (show zi.d26 F xS (mk a,mk b,())=xp.sh F (mk a) (mk b) from rfl) ?_;rw[Vi F (xq ha) (xq hb),xh,xh]
theorem maxd_eq (F:Nat) {a b:Int} (ha:inR a=true) (hb:inR b=true):zj.d26 F xS (mk a,mk b,())=some ((tD a b,()),()):=by
 refine Eq.trans (show zj.d26 F xS (mk a,mk b,())=xp.sh F (mk a) (mk b) from rfl) ?_;rw[Vi F (xq ha) (xq hb),xh,xh]
theorem Ta {a b:Int}:decide (tD a b<0)=decide (a<b):=by
 unfold tD;by_cases h:a<b
 ·rw[if_pos h,decide_eq_true h]; rfl
 ·rw[if_neg h,decide_eq_false h]; split<;>rfl
theorem Qw {a b:Int}:decide (tD a b>0)=decide (a>b):=by
 unfold tD;by_cases h:a<b
 ·rw[if_pos h,decide_eq_false (show ¬a>b by omega)]; rfl
 ·rw[if_neg h]
  by_cases h':a=b
  ·rw[if_pos h',decide_eq_false (show ¬a>b by omega)]; rfl
  ·rw[if_neg h',decide_eq_true (show a>b by omega)]; rfl
theorem S1 (F:Nat) {R:Type} (k:zd.T->Option R) (X:List zd.T):∀(xs:List Int) (i:Int) (r4:zd.T) (m:Int),(∀v∈xs,inR v=true)->inR m=true->
  zi.l5.rg F (fun _ _ _ _ _ m=>k m) X (xs.map mk) i xS r4 (mk m)=k (mk (YI m xs))
 | [],i,r4,m,_,_=>rfl
 | x::r,i,r4,m,h,hm=>by
  have hx:=h x (by simp);rw[List.map_cons,zi.l5.rg,mind_eq F hx hm,zp];have e:YI m (x::r)=YI (if x<m then x else m) r:=rfl;rw[e];simp only[Ta];by_cases hlt:x<m
  ·rw[decide_eq_true hlt,if_pos hlt]
   exact S1 F k X r (i+1) r4 x (fun v hv=>h v (by simp[hv])) hx
  ·rw[decide_eq_false hlt,if_neg hlt]
   exact S1 F k X r (i+1) r4 m (fun v hv=>h v (by simp[hv])) hm
theorem S3 (F:Nat) {R:Type} (k:zd.T->Option R) (X:List zd.T):∀(xs:List Int) (i:Int) (r4:zd.T) (m:Int),(∀v∈xs,inR v=true)->inR m=true->
  zj.l5.rg F (fun _ _ _ _ _ m=>k m) X (xs.map mk) i xS r4 (mk m)=k (mk (tN m xs))
 | [],i,r4,m,_,_=>rfl
 | x::r,i,r4,m,h,hm=>by
  have hx:=h x (by simp);rw[List.map_cons,zj.l5.rg,maxd_eq F hx hm,zp];have e:tN m (x::r)=tN (if x>m then x else m) r:=rfl;rw[e];simp only[Qw];by_cases hlt:x>m
  ·rw[decide_eq_true hlt,if_pos hlt]
   exact S3 F k X r (i+1) r4 x (fun v hv=>h v (by simp[hv])) hx
  ·rw[decide_eq_false hlt,if_neg hlt]
   exact S3 F k X r (i+1) r4 m (fun v hv=>h v (by simp[hv])) hm
theorem S2 (F:Nat) {l:List Int} (h:∀v∈l,inR v=true) (h1:1<=l.length) (hF:l.length<F) (hL:l.length<4611686018427387904):zi.sh F (l.map mk) xS=some ((mk (qN l),()),()):=by
 unfold zi.sh;rw[decide_eq_false (show ¬(((l.map mk).length:Nat):Int)<1 by simp; omega),show idx 0 (l.map mk).length=true from W8 (by simp; omega)];simp only[cond_false,cond_true];cases l with
 | nil=>simp at h1
 | cons a r =>
  refine Eq.trans (zi.l5.rg_eq F _ ((a::r).map mk) (by simp at hL ⊢; omega) (r.map mk) 1 F xS (0,0) _ (by simp) (by simp at hF ⊢; omega)) ?_;exact S1 F (fun m=>(some ((m,()),()):Option zi.sg.R)) _ r _ _ a (fun v hv=>h v (by simp[hv])) (h a (by simp))
theorem S4 (F:Nat) {l:List Int} (h:∀v∈l,inR v=true) (h1:1<=l.length) (hF:l.length<F) (hL:l.length<4611686018427387904):zj.sh F (l.map mk) xS=some ((mk (vT l),()),()):=by
 unfold zj.sh;rw[decide_eq_false (show ¬(((l.map mk).length:Nat):Int)<1 by simp; omega),show idx 0 (l.map mk).length=true from W8 (by simp; omega)];simp only[cond_false,cond_true];cases l with
 | nil=>simp at h1
 | cons a r =>
  refine Eq.trans (zj.l5.rg_eq F _ ((a::r).map mk) (by simp at hL ⊢; omega) (r.map mk) 1 F xS (0,0) _ (by simp) (by simp at hF ⊢; omega)) ?_;exact S3 F (fun m=>(some ((m,()),()):Option zj.sg.R)) _ r _ _ a (fun v hv=>h v (by simp[hv])) (h a (by simp))
def vc (x:Int):List zN.T->Nat
 | []=>0
 | a::r=>if tF a<x then vc x r+1 else 0
theorem Rt (x:Int):∀l:List zN.T,vc x l<=l.length
 | []=>by simp[vc]
 | a::r=>by
  have:=Rt x r;simp only[vc,List.length_cons];split<;>omega
theorem Tz (F:Nat) {R:Type} (k:Int->Option R) (L:List zN.T) (hL:L.length<=16) {x:Int} (hx:inR x=true):∀(xs:List zN.T) (i fu:Nat) (lo:Int),L.drop i=xs->xs.length<fu->i<=16->-1<=lo->UN lo xs->
  yu.l2 F (fun _ k1 _ _=>k k1) fu L ((i:Int)-1) (mk x)=k ((i:Int)+(vc x xs:Int)-1)
 | xs,i,0,lo,h,hf,hi,hlo,hinc=>by simp at hf
 | [],i,fu+1,lo,h,hf,hi,hlo,hinc=>by
  have hl:L.length<=i:=by
   have:=congrArg List.length h;simp at this; omega
  simp only[yu.l2,yu.l2.body];rw[yV (n:=(i:Int)-1+1) (by omega) (by omega),decide_eq_false (show ¬(i:Int)-1+1<(L.length:Int) by omega)];simp only[cond_false,vc];exact congrArg k (by omega)
 | a::r,i,fu+1,lo,h,hf,hi,hlo,hinc=>by
  obtain ⟨a1,a2,a3,a4,a5⟩:=hinc;have h0:=wq h;have hg:get zN L ((i:Int)).toNat=a:=by rw[Int.toNat_natCast]; exact wC h
  have IH:=Tz F k L hL hx r (i+1) fu (tF a) (xL h) (by simp at hf; omega) (by omega) (by omega) a5;simp only[yu.l2,yu.l2.body];rw[yV (n:=(i:Int)-1+1) (by omega) (by omega),show (i:Int)-1+1=(i:Int) by omega,decide_eq_true (show (i:Int)<(L.length:Int) by omega),xm h0,hg];simp only[cond_true];rw[vr F (v:=a.1) (show -9223372036854775808<=tF a by omega) (show tF a<9223372036854775808 by omega),zp];rw[Vi F (xq (Zr (show -9223372036854775808<=tF a by omega) (show tF a<9223372036854775808 by omega))) (xq hx),zp,xh,xh];simp only[Ta,vc];rw[show ((i+1:Nat):Int)-1=(i:Int) by omega] at IH;by_cases hlt:tF a<x
  ·rw[decide_eq_true hlt,if_pos hlt]
   simp only[cond_true];rw[IH];exact congrArg k (by omega)
  ·rw[decide_eq_false hlt,if_neg hlt]
   simp only[cond_false];exact congrArg k (by omega)
theorem zaA (F:Nat) (hF:64<F) {l:List zN.T} (hl:qJ l=true) {x:Int} (hx:inR x=true):yu.sh F (mk x) l=some (((vc x l:Int)-1,()),()):=by
 obtain ⟨l1,l2,l3⟩:=uw hl;unfold yu.sh;have:=Tz F (fun k=>(some ((k,()),()):Option yu.sg.R)) l l2 hx l 0 F (-1) (by simp) (by omega) (by omega) (by omega) l3;rw[show (((0:Nat):Int)-1)=-1 from rfl] at this;rw[this,show ((0:Nat):Int)+(vc x l:Int)-1=(vc x l:Int)-1 by omega]
def Tm:List zN.T->Nat->Int
 | a::b::r,k+1=>tR a*(tF b-tF a)+Tm (b::r) k
 | _,_=>0
theorem Qk (v:Int):-ur v<=v/\v<=ur v:=by unfold ur; split<;>omega
theorem um {a b m n:Int} (h1:-m<=a) (h2:a<=m) (h3:-n<=b) (h4:b<=n):-(m*n)<=a*b/\a*b<=m*n:=by
 have hm:0<=m:=by omega
 have hn:0<=n:=by omega
 have e1:(a.natAbs:Int)*(b.natAbs:Int)<=m*n:=Int.mul_le_mul (by omega) (by omega) (by omega) hm;have e2:((a*b).natAbs:Int)=(a.natAbs:Int)*(b.natAbs:Int):=by rw[Int.natAbs_mul]; push_cast; rfl
 omega
theorem SC:∀(l:List zN.T) (lo:Int) (k:Nat),-1<=lo->UN lo l->-vp l<=Tm l k/\Tm l k<=vp l
 | [],lo,k,_,h=>by simp[vp,Tm]
 | [a],lo,k,_,h=>by simp[vp,Tm]
 | a::b::r,lo,0,hlo,h=>by
  have:=(tg (a::b::r) lo hlo h).1;simp only[Tm]; omega
 | a::b::r,lo,k+1,hlo,h=>by
  obtain ⟨a1,a2,a3,a4,a5⟩:=h;have ih:=SC (b::r) (tF a) k (by omega) a5;obtain ⟨b1,b2,b3,b4,b5⟩:=a5;have hf:=Qk (tR a);have:=um hf.1 hf.2 (show -(tF b-tF a)<=tF b-tF a by omega) (show tF b-tF a<=tF b-tF a by omega);simp only[Tm,vp];omega
theorem ZU:∀(l:List zN.T) (r0:Int),r0<=wN r0 l/\∀t∈l,ur (tR t)<=wN r0 l
 | [],r0=>⟨by simp[wN],by simp⟩
 | a::r,r0=>by
  have ih:=ZU r (if ur (tR a)>r0 then ur (tR a) else r0);have e:wN r0 (a::r)=wN (if ur (tR a)>r0 then ur (tR a) else r0) r:=rfl;have h0:r0<=(if ur (tR a)>r0 then ur (tR a) else r0)/\ur (tR a)<=(if ur (tR a)>r0 then ur (tR a) else r0):=by split<;>omega
  rw[e];refine ⟨by omega,fun t ht=>?_⟩;rcases List.mem_cons.1 ht with rfl | ht
  ·omega
  ·exact ih.2 t ht
def vg (x:Int) (l:List zN.T):zN.T:=l.getD (vc x l-1) (0,0)
theorem SE {x:Int}:∀(l:List zN.T) (lo:Int),-1<=lo->UN lo l->1<=vc x l->vg x l∈l/\0<=tF (vg x l)/\tF (vg x l)<x/\tF (vg x l)<=1000000000000/\-1000000000000<=tR (vg x l)/\tR (vg x l)<=1000000000000
 | [],lo,hlo,h,hc=>by simp[vc] at hc
 | a::r,lo,hlo,h,hc=>by
  obtain ⟨a1,a2,a3,a4,a5⟩:=h;have hax:tF a<x:=by
   simp only[vc] at hc;by_cases h:tF a<x
   ·exact h
   ·rw[if_neg h] at hc; omega
  have e:vc x (a::r)=vc x r+1:=by simp only[vc]; rw[if_pos hax]
  by_cases h0:vc x r=0
  ·have e2:vg x (a::r)=a:=by unfold vg; rw[e,h0]; rfl
   rw[e2];exact ⟨by simp,by omega,hax,by omega,by omega,by omega⟩
  ·have e2:vg x (a::r)=vg x r:=by
    unfold vg; rw[e,Nat.add_sub_cancel];obtain ⟨m,hm⟩:∃m,vc x r=m+1:=⟨vc x r-1,by omega⟩;rw[hm]; rfl
   have ih:=SE (x:=x) r (tF a) (by omega) a5 (by omega);rw[e2];exact ⟨by simp[ih.1],ih.2⟩
def UQ (x:Int) (l:List zN.T):Int:=if vc x l=0 then 0 else Tm l (vc x l-1)+tR (vg x l)*(x-tF (vg x l))
def vol (x:Int) (l:List zN.T):Int:=if vc x l=0 then 0 else x*tR (vg x l)
theorem Xt {x X:Int} {l:List zN.T} (hl:qJ l=true) (hX:x<=X) (hX0:0<=X) (hc:1<=vc x l):(-(wN 0 l*(X+wK l))<=tR (vg x l)*(x-tF (vg x l))/\tR (vg x l)*(x-tF (vg x l))<=wN 0 l*(X+wK l)) /\
  -(wN 0 l*(X+wK l))<=x*tR (vg x l)/\x*tR (vg x l)<=wN 0 l*(X+wK l):=by
 obtain ⟨l1,l2,l3⟩:=uw hl;have ht:=SE l (-1) (by omega) l3 hc;have hr:=(ZU l 0).2 _ ht.1;have hf:=Qk (tR (vg x l));have hlf:=qd l (-1) (by omega) l3;have h1:=um (show -wN 0 l<=tR (vg x l) by omega) (show tR (vg x l)<=wN 0 l by omega) (show -(X+wK l)<=x-tF (vg x l) by omega) (show x-tF (vg x l)<=X+wK l by omega);have h2:=um (show -wN 0 l<=tR (vg x l) by omega) (show tR (vg x l)<=wN 0 l by omega) (show -(X+wK l)<=x by omega) (show x<=X+wK l by omega);rw[Int.mul_comm x];exact ⟨h1,h2⟩
theorem zb0 {x X:Int} {l:List zN.T} (hl:qJ l=true) (hX:x<=X) (hX0:0<=X):-(wN 0 l*(X+wK l)+vp l)<=UQ x l/\UQ x l<=wN 0 l*(X+wK l)+vp l:=by
 obtain ⟨l1,l2,l3⟩:=uw hl;have hlf:=qd l (-1) (by omega) l3;have hr0:=(ZU l 0).1;have hm:=Int.mul_nonneg hr0 (show 0<=X+wK l by omega);have hw0:=(tg l (-1) (by omega) l3).1;unfold UQ;split
 ·omega
 ·have hw:=SC l (-1) (vc x l-1) (by omega) l3
  have hs:=(Xt hl hX hX0 (by omega)).1;omega
theorem vol_bd {x X:Int} {l:List zN.T} (hl:qJ l=true) (hX:x<=X) (hX0:0<=X):-(wN 0 l*(X+wK l)+vp l)<=vol x l/\vol x l<=wN 0 l*(X+wK l)+vp l:=by
 obtain ⟨l1,l2,l3⟩:=uw hl;have hlf:=qd l (-1) (by omega) l3;have hr0:=(ZU l 0).1;have hm:=Int.mul_nonneg hr0 (show 0<=X+wK l by omega);have hw0:=(tg l (-1) (by omega) l3).1;unfold vol;split
 ·omega
 ·have hs:=(Xt hl hX hX0 (by omega)).2
  omega
theorem Sd (F:Nat) {R:Type} (kk:List zN.T->Int->zd.T->zd.T->Option R) (L:List zN.T) (hL:L.length<=16) (X:zd.T) (r4:zd.T) (K:Nat):∀(n i fu:Nat) (xs:List zN.T) (s lo:Int),L.drop i=xs->n<xs.length->n<fu->K=i+n->-1<=lo->UN lo xs->
  -20000000000000000000000000<=s-n*1000000000000000000000000->s+n*1000000000000000000000000<=20000000000000000000000000->
  zG.l3 F (fun tiers k _ _ x _ sum=>kk tiers k x sum) fu L (K:Int) (i:Int) X r4 (mk s)=kk L (K:Int) X (mk (s+Tm xs n))
 | n,i,0,xs,s,lo,h,hn,hf,hK,hlo,hi,b1,b2=>by omega
 | 0,i,fu+1,xs,s,lo,h,hn,hf,hK,hlo,hi,b1,b2=>by
  simp only[zG.l3,zG.l3.body];rw[decide_eq_false (show ¬(i:Int)<(K:Int) by omega)];have:Tm xs 0=0:=by cases xs with
   | nil=>rfl
   | cons a r=>cases r<;>rfl
  rw[this,Int.add_zero];rfl
 | n+1,i,fu+1,[],s,lo,h,hn,hf,hK,hlo,hi,b1,b2=>by simp at hn
 | n+1,i,fu+1,[a],s,lo,h,hn,hf,hK,hlo,hi,b1,b2=>by simp at hn
 | n+1,i,fu+1,a::b::r,s,lo,h,hn,hf,hK,hlo,hi,b1,b2=>by
  obtain ⟨a1,a2,a3,a4,a5⟩:=hi;have ⟨c1,c2,c3,c4,c5⟩:=a5;have h0:=wq h;have h1:=wq (xL h);have hg:get zN L ((i:Int)).toNat=a:=by rw[Int.toNat_natCast]; exact wC h
  have hg1:get zN L (((i+1:Nat):Int)).toNat=b:=by rw[Int.toNat_natCast]; exact wC (xL h)
  push_cast at b1 b2;have hp:=um (show -1000000000000<=tR a by omega) (show tR a<=1000000000000 by omega) (show -1000000000000<=tF b-tF a by omega) (show tF b-tF a<=1000000000000 by omega);have IH:=Sd F kk L hL X r4 K n (i+1) fu (b::r) (s+tR a*(tF b-tF a)) (tF a) (xL h) (by simp at hn ⊢; omega) (by omega) (by omega) (by omega) a5 (by omega) (by omega);simp only[zG.l3,zG.l3.body];rw[decide_eq_true (show (i:Int)<(K:Int) by omega),xm h0,hg,yV (n:=(i:Int)+1) (by omega) (by omega),show (i:Int)+1=((i+1:Nat):Int) by omega,xm h1,hg1];simp only[cond_true];rw[vr F (v:=tR a) (by omega) (by omega),zp,yV (n:=tF b-tF a) (by omega) (by omega),vr F (v:=tF b-tF a) (by omega) (by omega),zp];rw[qA F (Zr (by omega) (by omega)) (Zr (by omega) (by omega)) (by rw[zP]; omega),zp,Ri F (by rw[zP]; omega) (by rw[zP]; omega) (by rw[zP]; omega),zp];rw[IH,Int.add_assoc];rfl
theorem S9 (F:Nat) (hF:64<F) {l:List zN.T} (hl:qJ l=true) {x X:Int} (hx:inR x=true) (hX:x<=X) (hX0:0<=X) (hb:wN 0 l*(X+wK l)+vp l<=BND) :
  zG.sh F (mk x) l=some ((mk (UQ x l),()),()):=by
 obtain ⟨l1,l2,l3⟩:=uw hl;have hgb:=zb0 hl hX hX0;have hBND:BND=1329227995784915872903807060280344576:=rfl;have hlf:=qd l (-1) (by omega) l3;have hm:=Int.mul_nonneg (ZU l 0).1 (show 0<=X+wK l by omega);have hw0:=tg l (-1) (by omega) l3;have hcl:=Rt x l;unfold zG.sh;rw[zaA F hF hl hx,zp];by_cases hc:vc x l=0
 ·have hL:∀(fu:Nat) (k:List zN.T->Int->zd.T->zd.T->Option zG.sg.R),zG.l3 F (fun tiers k1 _ _ x _ sum=>k tiers k1 x sum) (fu+1) l (((vc x l:Nat):Int)-1) 0 (mk x) (0,0) (0,0)=k l (((vc x l:Nat):Int)-1) (mk x) (0,0):=by
   intro fu k;simp only[zG.l3,zG.l3.body];rw[decide_eq_false (show ¬(0:Int)<((vc x l:Nat):Int)-1 by omega)];rfl
  obtain ⟨fu,hfu⟩:∃j,F=j+1:=⟨F-1,by omega⟩;have:=hL (F-1) (fun tiers6 k6 x6 sum6=>bif decide (k6>=0) then bif idx k6 tiers6.length then oB (zR.sh F (get zN tiers6 k6.toNat).2) fun c_7 =>
   bif idx k6 tiers6.length then oB (zR.sh F (get zN tiers6 k6.toNat).1) fun c_8 =>
    oB (xM.sh F x6 c_8.1.1) fun c_9 =>
    oB (xi.sh F c_7.1.1 c_9.1.1) fun c_10 =>
    oB (xN.sh F sum6 c_10.1.1) fun c_11 =>
    some ((c_11.1.1,()),())
   else none
  else none
 else some ((sum6,()),()))
  rw[show F-1+1=F by omega] at this;rw[this,decide_eq_false (show ¬((vc x l:Nat):Int)-1>=0 by omega)];unfold UQ;rw[if_pos hc];rfl
 ·have ht:=SE l (-1) (by omega) l3 (x:=x) (by omega)
  have hs:=(Xt hl hX hX0 (show 1<=vc x l by omega)).1;have hw:=SC l (-1) (vc x l-1) (by omega) l3;have hlp:=Sd F (fun tiers6 k6 x6 sum6=>bif decide (k6>=0) then bif idx k6 tiers6.length then oB (zR.sh F (get zN tiers6 k6.toNat).2) fun c_7 =>
   bif idx k6 tiers6.length then oB (zR.sh F (get zN tiers6 k6.toNat).1) fun c_8 =>
    oB (xM.sh F x6 c_8.1.1) fun c_9 =>
    oB (xi.sh F c_7.1.1 c_9.1.1) fun c_10 =>
    oB (xN.sh F sum6 c_10.1.1) fun c_11 =>
    (some ((c_11.1.1,()),()):Option zG.sg.R)
   else none
  else none
 else some ((sum6,()),())) l l2 (mk x) (0,0) (vc x l-1) (vc x l-1) 0 F l 0 (-1) (by simp) (by omega) (by omega) (by omega) (by omega) l3 (by omega) (by omega)
  rw[show ((vc x l-1:Nat):Int)=((vc x l:Nat):Int)-1 by omega] at hlp;refine Eq.trans hlp ?_;rw[show ((vc x l:Nat):Int)-1=((vc x l-1:Nat):Int) by omega,decide_eq_true (show ((vc x l-1:Nat):Int)>=0 by omega),xm (show vc x l-1<l.length by omega),Int.toNat_natCast,show get zN l (vc x l-1)=vg x l from rfl];simp only[cond_true];have hxx:=zP.1 hx;rw[vr F (v:=tR (vg x l)) (by omega) (by omega),zp,vr F (v:=tF (vg x l)) (by omega) (by omega),zp];rw[V6 F hx (Zr (by omega) (by omega)) (by rw[zP]; omega),zp,qA F (Zr (by omega) (by omega)) (by rw[zP]; omega) (by rw[zP]; omega),zp];rw[Ri F (by rw[zP]; omega) (by rw[zP]; omega) (by rw[zP]; omega),zp];unfold UQ;rw[if_neg hc,Int.zero_add]
theorem zbk (F:Nat) (hF:64<F) {l:List zN.T} (hl:qJ l=true) {x X:Int} (hx:inR x=true) (hX:x<=X) (hX0:0<=X) (hb:wN 0 l*(X+wK l)+vp l<=BND) :
  xv.sh F (mk x) l=some ((mk (vol x l),()),()):=by
 obtain ⟨l1,l2,l3⟩:=uw hl;have hBND:BND=1329227995784915872903807060280344576:=rfl;have hw0:=tg l (-1) (by omega) l3;have hcl:=Rt x l;unfold xv.sh vol;rw[zaA F hF hl hx,zp];by_cases hc:vc x l=0
 ·rw[if_pos hc,decide_eq_false (show ¬((vc x l:Nat):Int)-1>=0 by omega)]
  rfl
 ·have ht:=SE l (-1) (by omega) l3 (x:=x) (by omega)
  have hs:=(Xt hl hX hX0 (show 1<=vc x l by omega)).2;rw[if_neg hc,show ((vc x l:Nat):Int)-1=((vc x l-1:Nat):Int) by omega,decide_eq_true (show ((vc x l-1:Nat):Int)>=0 by omega),xm (show vc x l-1<l.length by omega),Int.toNat_natCast,show get zN l (vc x l-1)=vg x l from rfl];simp only[cond_true];rw[vr F (v:=tR (vg x l)) (by omega) (by omega),zp,qA F hx (Zr (by omega) (by omega)) (by rw[zP]; omega),zp]
def qY (op x n:Int):Bool :=
 bif op==1 then decide (x<n) else bif op==2 then decide (x<=n) else bif op==3 then decide (x>n) else bif op==4 then decide (x>=n) else bif op==5 then decide (x=n) else !decide (x=n)
theorem zd8 (F:Nat) {x n:Int} (hx:inR x=true) (hn:inR n=true) (op:Int):xK.sh F (mk x) (mk n) op=some ((qY op x n,()),()):=by
 unfold xK.sh qY;rw[Vi F (xq hx) (xq hn),zp,xh,xh];have h3:(tD x n=-1/\x<n)\/(tD x n=0/\x=n)\/(tD x n=1/\x>n):=by
  unfold tD;split
  ·exact .inl ⟨rfl,by assumption⟩
  ·split
   ·exact .inr (.inl ⟨rfl,by assumption⟩)
   ·exact .inr (.inr ⟨rfl,by omega⟩)
 have e1:decide (tD x n<0)=decide (x<n):=Ta;have e3:decide (tD x n>0)=decide (x>n):=Qw;have e2:decide (tD x n<=0)=decide (x<=n):=decide_eq_decide.2 (by omega);have e4:decide (tD x n>=0)=decide (x>=n):=decide_eq_decide.2 (by omega);have e5:(tD x n==0)=decide (x=n):=by
  by_cases h:x=n
  ·rw[decide_eq_true h]; have:tD x n=0:=by omega
   rw[this]; rfl
  ·rw[decide_eq_false h,beq_eq_false_iff_ne]; omega
 simp only[e1,e2,e3,e4,e5,bne];cases (op==1)<;>cases (op==2)<;>cases (op==3)<;>cases (op==4)<;>cases (op==5)<;>rfl
def evN (u:Int) (D:List yy.T) (q:List Int) (n:zb.T) (vs:List Int):Int :=
 bif nK n==1 then nN n else bif nK n==2 then nN n*u else bif nK n==3 then q.getD (nN n).toNat 0
 else bif nK n==4 then uq (q.getD (nN n).toNat 0) (dS (D.getD (nN n).toNat (ByteArray.empty,0)))
 else bif nK n==5 then 0-vs.getD 0 0 else bif nK n==6 then vs.getD 0 0+vs.getD 1 0 else bif nK n==7 then vs.getD 0 0-vs.getD 1 0
 else bif nK n==8 then vs.getD 0 0*vs.getD 1 0 else bif nK n==9 then qN vs else bif nK n==10 then vT vs
 else bif nK n==11 then vT [0,vs.getD 0 0-nN n] else bif nK n==12 then qN [nN n,vs.getD 0 0]
 else bif nK n==13 then u*UQ (vs.getD 0 0) (nT n) else bif nK n==14 then u*vol (vs.getD 0 0) (nT n)
 else bif nK n==15 then tw 2 (vs.getD 0 0*(10000-nN n)) 10000
 else bif qY (nO n) (vs.getD 0 0) (nN n) then vs.getD 1 0 else vs.getD 2 0
def ev (u:Int) (D:List yy.T) (q:List Int):Tree->Int:=Tree.fold (evN u D q)
theorem uk (u:Int) (D:List yy.T) (q:List Int) (n:zb.T) (ks:List Tree):ev u D q (.nd n ks)=evN u D q n (ks.map (ev u D q)):=Tree.fold_nd _ n ks
theorem zaC:∀(l:List Int),(∀v∈l,0<=v)->∀v∈l,v<=wx l
 | [],h,v,hv=>by simp at hv
 | x::r,h,v,hv=>by
  have hx:=h x (by simp);have h0:0<=wx r:=by
   have:∀(l:List Int),(∀v∈l,0<=v)->0<=wx l:=by
    intro l;induction l with
    | nil=>intro _; simp[wx]
    | cons y s ih=>intro hh; have:=ih (fun v hv=>hh v (by simp[hv])); have:=hh y (by simp); simp only[wx,List.sum_cons] at*; omega
   exact this r (fun v hv=>h v (by simp[hv]))
  have ih:=zaC r (fun v hv=>h v (by simp[hv]));simp only[wx,List.sum_cons] at*;rcases List.mem_cons.1 hv with rfl | hv
  ·omega
  ·have:=ih v hv; omega
structure Kids (ks:List Tree) (V M:Tree->Int):Prop where
 lo:∀k∈ks,-M k<=V k
 hi:∀k∈ks,V k<=M k
 bd:∀k∈ks,M k<=BND
theorem Kids.nn {ks:List Tree} {V M:Tree->Int} (h:Kids ks V M):∀k∈ks,0<=M k:=fun k hk=>by
 have:=h.lo k hk; have:=h.hi k hk; omega
theorem Kids.sum {ks:List Tree} {V M:Tree->Int} (h:Kids ks V M):∀k∈ks,M k<=wx (ks.map M):=fun k hk =>
 zaC _ (by simp only[List.mem_map]; rintro v ⟨k,hk,rfl⟩; exact h.nn k hk) _ (List.mem_map_of_mem hk)
theorem Kids.inr {ks:List Tree} {V M:Tree->Int} (h:Kids ks V M):∀v∈ks.map V,inR v=true:=by
 simp only[List.mem_map];rintro v ⟨k,hk,rfl⟩
 have hBND:BND=1329227995784915872903807060280344576:=rfl;have:=h.lo k hk; have:=h.hi k hk; have:=h.bd k hk;rw[zP]; omega
end Go.VS
