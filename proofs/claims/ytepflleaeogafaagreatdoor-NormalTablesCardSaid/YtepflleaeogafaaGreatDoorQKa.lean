/- Plain laws, joined from smaller texts. -/
import Derived.Test.YtepflleaeogafaaGreatDoorQR1
set_option linter.unusedVariables false
set_option linter.unusedSimpArgs false
set_option linter.unusedSectionVars false
set_option maxRecDepth 100000
namespace Go.VS
open Go IntKind
def wfW (w:Int×Int):Prop:=-9223372036854775808<=w.1/\w.1<9223372036854775808/\0<=w.2/\w.2<18446744073709551616
def val (w:Int×Int):Int:=w.1*18446744073709551616+w.2
def mk (v:Int):Int×Int:=(v/18446744073709551616,v%18446744073709551616)
def inR (v:Int):Bool:=decide (-170141183460469231731687303715884105728<=v)&&decide (v<170141183460469231731687303715884105728)
def ue (v:Int):Int×Int:=bif inR v then mk v else (0,0)
def vN (v:Int):Int:=bif inR v then 0 else 10
theorem yR {v:Int}:inR v=true↔-170141183460469231731687303715884105728<=v/\v<170141183460469231731687303715884105728:=by simp[inR]
theorem ZK {v:Int}:inR v=false↔(v < -170141183460469231731687303715884105728\/170141183460469231731687303715884105728<=v):=by
 cases h:inR v with
 | true=>simp; have:=yR.1 h; omega
 | false =>
  simp;rcases Int.lt_or_le v (-170141183460469231731687303715884105728) with h' | h'
  ·exact .inl h'
  ·rcases Int.lt_or_le v 170141183460469231731687303715884105728 with h'' | h''
   ·rw[yR.2 ⟨h',h''⟩] at h; cases h
   ·exact .inr h''
theorem zfs {w:Int×Int} (h:wfW w):mk (val w)=w:=by
 obtain ⟨a,b⟩:=w;obtain ⟨h1,h2,h3,h4⟩:=h;simp only[mk,val] at*;ext<;>simp only<;>omega
theorem xv {v:Int}:val (mk v)=v:=by simp only[val,mk]; omega
theorem wj {v:Int} (h:inR v=true):wfW (mk v):=by
 have:=yR.1 h;simp only[wfW,mk];omega
theorem Q5 {w:Int×Int} (h:wfW w):inR (val w)=true:=by
 rw[yR];obtain ⟨h1,h2,h3,h4⟩:=h;simp only[val];omega
theorem YL (v:Int):wfW (ue v):=by
 unfold ue;cases h:inR v with
 | true=>exact wj h
 | false=>simp[wfW]
theorem Tv (n:Int):∃k,i64.wrap n=n+18446744073709551616*k/\-9223372036854775808<=i64.wrap n/\i64.wrap n<9223372036854775808:=by
 rw[Yk];split
 ·exact ⟨-(n/18446744073709551616)-1,by omega,by omega,by omega⟩
 ·exact ⟨-(n/18446744073709551616),by omega,by omega,by omega⟩
theorem tK (F:Nat) {v:Int} (h1:-9223372036854775808<=v) (h2:v<9223372036854775808):yQ.sh F v=some ((mk v,()),()):=by
 unfold yQ.sh;have e:(2^(min (63:Int).toNat IntKind.i64.bits):Int)=9223372036854775808:=by decide
 have e2:v.fdiv 9223372036854775808=v/18446744073709551616:=by rw[Int.fdiv_eq_ediv_of_nonneg _ (by omega)]; omega
 rw[e,e2,vM];rfl
theorem qn {v:Int} (h1:-9223372036854775808<=v) (h2:v<9223372036854775808):inR v=true:=by rw[yR]; omega
theorem Wz (F:Nat) {x y c:Int} (h1:0<=x) (h2:0<=y) (h3:0<=c) (h4:c<=1):xy.sh F x y c=some (((x+y+c)%18446744073709551616,(x+y+c)/18446744073709551616,()),()):=by
 simp[xy.sh,h1,h2,h3,h4]
theorem Z4 (F:Nat) {x y c:Int} (h1:0<=x) (h2:0<=y) (h2':y<18446744073709551616) (h3:0<=c) (h4:c<=1):y9.sh F x y c=some (((x-y-c)%18446744073709551616,(if x<y+c then 1 else 0),()),()):=by
 simp[y9.sh,h1,h2,h2',h3,h4]
theorem YG (F:Nat) {a b:Int×Int} (ha:wfW a) (hb:wfW b):wU.sh F a b=some ((ue (val a+val b),vN (val a+val b),()),()):=by
 obtain ⟨a1,a2⟩:=a;obtain ⟨b1,b2⟩:=b;obtain ⟨h1,h2,h3,h4⟩:=ha;obtain ⟨g1,g2,g3,g4⟩:=hb;simp only at*;unfold wU.sh;simp only[vM];rw[Wz F (by omega) (by omega) (by omega) (by omega)];simp only[zg];rw[Wz F (by omega) (by omega) (by omega) (by omega)];simp only[zg,ue,vN,val,mk];obtain ⟨k,e1,e2,e3⟩:=Tv ((a1%18446744073709551616+b1%18446744073709551616+(a2+b2+0)/18446744073709551616)%18446744073709551616);generalize i64.wrap ((a1%18446744073709551616+b1%18446744073709551616+(a2+b2+0)/18446744073709551616)%18446744073709551616)=r at*;cases hr:inR (a1*18446744073709551616+a2+(b1*18446744073709551616+b2)) with
 | true =>
  rw[yR] at hr;have q1:r=(a1*18446744073709551616+a2+(b1*18446744073709551616+b2))/18446744073709551616:=by omega
  have q2:(a2+b2+0)%18446744073709551616=(a1*18446744073709551616+a2+(b1*18446744073709551616+b2))%18446744073709551616:=by omega
  have hs:(decide (a1<0)==decide (b1<0)&&!(decide (r<0)==decide (a1<0)))=false:=by
   by_cases x1:a1<0<;>by_cases x2:b1<0<;>by_cases x3:r<0<;>simp[x1,x2,x3]<;>omega
  simp only[cond_true];rw[<-q1,<-q2];cases hx:(decide (a1<0)==decide (b1<0)) with
  | true =>
   rw[hx] at hs;simp only[Bool.true_and] at hs;simp only[hs,cond_true,cond_false]
  | false=>rfl
 | false =>
  rw[ZK] at hr;have hs:(decide (a1<0)==decide (b1<0))=true/\(!(decide (r<0)==decide (a1<0)))=true:=by
   by_cases x1:a1<0<;>by_cases x2:b1<0<;>by_cases x3:r<0<;>simp[x1,x2,x3]<;>omega
  simp only[hs.1,hs.2,cond_true,cond_false]
theorem Sa (F:Nat) {a b:Int×Int} (ha:wfW a) (hb:wfW b):vK.sh F a b=some ((ue (val a-val b),vN (val a-val b),()),()):=by
 obtain ⟨a1,a2⟩:=a;obtain ⟨b1,b2⟩:=b;obtain ⟨h1,h2,h3,h4⟩:=ha;obtain ⟨g1,g2,g3,g4⟩:=hb;simp only at*;unfold vK.sh;simp only[vM];rw[Z4 F (by omega) (by omega) (by omega) (by omega) (by omega)];simp only[zg];have hbo:(a2<b2/\(if a2<b2+0 then (1:Int) else 0)=1)\/(b2<=a2/\(if a2<b2+0 then (1:Int) else 0)=0):=by split<;>omega
 generalize (if a2<b2+0 then (1:Int) else 0)=bo at*;rw[Z4 F (by omega) (by omega) (by omega) (by omega) (by omega)];simp only[zg,ue,vN,val,mk];obtain ⟨k,e1,e2,e3⟩:=Tv ((a1%18446744073709551616-b1%18446744073709551616-bo)%18446744073709551616);generalize i64.wrap ((a1%18446744073709551616-b1%18446744073709551616-bo)%18446744073709551616)=r at*;cases hr:inR (a1*18446744073709551616+a2-(b1*18446744073709551616+b2)) with
 | true =>
  rw[yR] at hr;have q1:r=(a1*18446744073709551616+a2-(b1*18446744073709551616+b2))/18446744073709551616:=by omega
  have q2:(a2-b2-0)%18446744073709551616=(a1*18446744073709551616+a2-(b1*18446744073709551616+b2))%18446744073709551616:=by omega
  have hs:(!(decide (a1<0)==decide (b1<0))&&!(decide (r<0)==decide (a1<0)))=false:=by
   by_cases x1:a1<0<;>by_cases x2:b1<0<;>by_cases x3:r<0<;>simp[x1,x2,x3]<;>omega
  simp only[cond_true];rw[<-q1,<-q2];cases hx:(!(decide (a1<0)==decide (b1<0))) with
  | true =>
   rw[hx] at hs;simp only[Bool.true_and] at hs;simp only[hs,cond_true,cond_false]
  | false=>rfl
 | false =>
  rw[ZK] at hr;have hs:(!(decide (a1<0)==decide (b1<0)))=true/\(!(decide (r<0)==decide (a1<0)))=true:=by
   by_cases x1:a1<0<;>by_cases x2:b1<0<;>by_cases x3:r<0<;>simp[x1,x2,x3]<;>omega
  simp only[hs.1,hs.2,cond_true,cond_false]
theorem wf_zero:wfW (0,0):=by simp[wfW]
theorem QW (F:Nat) {a:Int×Int} (ha:wfW a):vT.sh F a=some ((ue (-val a),vN (-val a),()),()):=by
 unfold vT.sh;rw[Sa F wf_zero ha];have:val (0,0)-val a=-val a:=by simp[val]
 rw[this];rfl
def Ye (x y:Int):Int:=if x<y then -1 else if x=y then 0 else 1
theorem zaa {x y:Int} (h:x<y):Ye x y=-1:=by unfold Ye; rw[if_pos h]
theorem zdr {x y:Int} (h:x=y):Ye x y=0:=by unfold Ye; rw[if_neg (by omega),if_pos h]
theorem zab {x y:Int} (h:y<x):Ye x y=1:=by unfold Ye; rw[if_neg (by omega),if_neg (by omega)]
theorem zcw (F:Nat) {a b:Int×Int} (ha:wfW a) (hb:wfW b):v8.sh F a b=some ((Ye (val a) (val b),()),()):=by
 obtain ⟨a1,a2⟩:=a;obtain ⟨b1,b2⟩:=b;obtain ⟨h1,h2,h3,h4⟩:=ha;obtain ⟨g1,g2,g3,g4⟩:=hb;simp only at*;unfold v8.sh;simp only[Bool.and_true];by_cases x1:a1<b1
 ·have y1:(a1==b1)=false:=by rw[beq_eq_false_iff_ne]; omega
  rw[zaa (by simp only[val]; omega)];simp[y1,x1]
 ·by_cases x2:a1=b1
  ·subst x2
   by_cases x3:a2=b2
   ·subst x3
    rw[zdr rfl];simp
   ·have y3:(a2==b2)=false:=by rw[beq_eq_false_iff_ne]; exact x3
    by_cases x4:a2<b2
    ·rw[zaa (by simp only[val]; omega)]
     simp[y3,x4]
    ·rw[zab (by simp only[val]; omega)]
     simp[y3,x4]
  ·have y1:(a1==b1)=false:=by rw[beq_eq_false_iff_ne]; omega
   rw[zab (by simp only[val]; omega)];simp[y1,x1]
theorem RJ {a b a' b':Int} (h1:a=a') (h2:b=b'):(some ((a,b,()),()):Option ((Int×Int×Unit)×Unit))=some ((a',b',()),()):=by rw[h1,h2]
theorem WA (F:Nat) {a:Int×Int} (ha:wfW a):vG.sh F a=some ((((val a).natAbs:Int)/18446744073709551616,((val a).natAbs:Int)%18446744073709551616,()),()):=by
 obtain ⟨a1,a2⟩:=a;obtain ⟨h1,h2,h3,h4⟩:=ha;simp only at*;unfold vG.sh;simp only[vM];by_cases x:a1>=0
 ·have e:((val (a1,a2)).natAbs:Int)=a1*18446744073709551616+a2:=by simp only[val]; omega
  rw[e];simp only[x,decide_true,cond_true];exact RJ (by omega) (by omega)
 ·have e:((val (a1,a2)).natAbs:Int)=-(a1*18446744073709551616+a2):=by simp only[val]; omega
  rw[e];simp only[x,decide_false,cond_false];rw[Z4 F (by omega) (by omega) (by omega) (by omega) (by omega)];simp only[zg];have hbo:(0<a2/\(if 0<a2+0 then (1:Int) else 0)=1)\/(a2=0/\(if 0<a2+0 then (1:Int) else 0)=0):=by split<;>omega
  generalize (if 0<a2+0 then (1:Int) else 0)=bo at*;rw[Z4 F (by omega) (by omega) (by omega) (by omega) (by omega)];simp only[zg];exact RJ (by omega) (by omega)
theorem V7 (F:Nat) {b:Bool} {hi lo:Int} (h1:0<=hi) (h2:hi<18446744073709551616) (h3:0<=lo) (h4:lo<18446744073709551616) {v:Int} (hv:v=bif b then -(hi*18446744073709551616+lo) else hi*18446744073709551616+lo) :
  vI.sh F b hi lo=some ((ue v,vN v,()),()):=by
 unfold vI.sh;have e:(2^(min (63:Int).toNat IntKind.u64.bits):Int)=9223372036854775808:=by decide
 rw[e,Int.fdiv_eq_ediv_of_nonneg _ (by omega)];by_cases x:hi<9223372036854775808
 ·have e1:(hi/9223372036854775808==0)=true:=by rw[beq_iff_eq]; omega
  rw[e1,zY (by omega) (by omega)];have hw:wfW (hi,lo):=⟨by simp only; omega,x,h3,h4⟩;cases b with
  | true =>
   simp only[cond_true] at hv ⊢;rw[QW F hw];simp only[zg];have:v=-val (hi,lo):=by rw[hv]; rfl
   rw[this]
  | false =>
   simp only[cond_true,cond_false] at hv ⊢;have:v=val (hi,lo):=by rw[hv]; rfl
   rw[this];simp only[ue,vN,Q5 hw,cond_true,zfs hw]
 ·have e1:(hi/9223372036854775808==0)=false:=by rw[beq_eq_false_iff_ne]; omega
  rw[e1];cases b with
  | true =>
   simp only[cond_true,cond_false] at hv ⊢;by_cases y:hi=9223372036854775808
   ·subst y
    by_cases z:lo=0
    ·subst z
     subst hv;rfl
    ·have e2:(lo==0)=false:=by rw[beq_eq_false_iff_ne]; exact z
     have hr:inR v=false:=by rw[ZK]; omega
     simp only[ue,vN,hr,cond_false,e2,beq_self_eq_true,cond_true]
   ·have e2:(hi==9223372036854775808)=false:=by rw[beq_eq_false_iff_ne]; exact y
    have hr:inR v=false:=by rw[ZK]; omega
    simp only[ue,vN,hr,cond_false,e2]
  | false =>
   simp only[cond_false] at hv ⊢;have hr:inR v=false:=by rw[ZK]; omega
   simp only[ue,vN,hr,cond_false]
theorem Sy {x:Int} (h1:0<=x) (h2:x<18446744073709551616):u64.wrap ((BitVec.ofInt IntKind.u64.bits x &&& BitVec.ofInt IntKind.u64.bits 4294967295).toNat:Int)=x%4294967296:=by
 obtain ⟨X,rfl⟩:=Int.eq_ofNat_of_zero_le h1;show u64.wrap ((BitVec.ofInt 64 (X:Int) &&& BitVec.ofInt 64 ((4294967295:Nat):Int)).toNat:Int)=_;rw[BitVec.ofInt_natCast,BitVec.ofInt_natCast,BitVec.toNat_and,BitVec.toNat_ofNat,BitVec.toNat_ofNat,Nat.mod_eq_of_lt (by omega:X<2^64),Nat.mod_eq_of_lt (by decide)];have:X &&& 4294967295=X%4294967296:=Nat.and_two_pow_sub_one_eq_mod X 32;rw[this,x8 (by omega) (by omega)];omega
theorem zcW {x:Int} (h1:0<=x) (h2:x<18446744073709551616):u64.wrap ((BitVec.ofInt IntKind.u64.bits x ||| BitVec.ofInt IntKind.u64.bits 0).toNat:Int)=x:=by
 obtain ⟨X,rfl⟩:=Int.eq_ofNat_of_zero_le h1;show u64.wrap ((BitVec.ofInt 64 (X:Int) ||| BitVec.ofInt 64 ((0:Nat):Int)).toNat:Int)=_
 rw[BitVec.ofInt_natCast,BitVec.ofInt_natCast,BitVec.toNat_or,BitVec.toNat_ofNat,BitVec.toNat_ofNat,Nat.mod_eq_of_lt (by omega:X<2^64)];simp;rw[x8 (by omega) (by omega)]
theorem zero_or {x:Int} (h1:0<=x) (h2:x<18446744073709551616):u64.wrap ((BitVec.ofInt IntKind.u64.bits 0 ||| BitVec.ofInt IntKind.u64.bits x).toNat:Int)=x:=by
 rw[BitVec.or_comm]; exact zcW h1 h2
theorem Sd {x:Int} (h:0<=x):x.fdiv (2^(min (32:Int).toNat IntKind.u64.bits))=x/4294967296:=by
 have e:(2^(min (32:Int).toNat IntKind.u64.bits):Int)=4294967296:=by decide
 rw[e,Int.fdiv_eq_ediv_of_nonneg _ (by omega)]
theorem ZR {a b m n:Int} (ha:0<=a) (ha':a<=m) (hb:0<=b) (hb':b<=n):0<=a*b/\a*b<=m*n :=
 ⟨Int.mul_nonneg ha hb,Int.mul_le_mul ha' hb' hb (by omega)⟩
theorem VY (F:Nat) {x y:Int} (h1:0<=x) (h2:x<18446744073709551616) (h3:0<=y) (h4:y<18446744073709551616) :
  wF.sh F x y=some ((x*y/18446744073709551616,x*y%18446744073709551616,()),()):=by
 unfold wF.sh;rw[Sy h1 h2,Sy h3 h4,Sd h1,Sd h3];have hx:x=x/4294967296*4294967296+x%4294967296:=by omega
 have hy:y=y/4294967296*4294967296+y%4294967296:=by omega
 have bx1:0<=x/4294967296/\x/4294967296<=4294967295:=by omega
 have bx0:0<=x%4294967296/\x%4294967296<=4294967295:=by omega
 have by1:0<=y/4294967296/\y/4294967296<=4294967295:=by omega
 have by0:0<=y%4294967296/\y%4294967296<=4294967295:=by omega
 have hxy:x*y=(x/4294967296)*(y/4294967296)*18446744073709551616+((x/4294967296)*(y%4294967296)+(x%4294967296)*(y/4294967296))*4294967296+(x%4294967296)*(y%4294967296):=by
  generalize x/4294967296=x1 at*;generalize x%4294967296=x0 at*;generalize y/4294967296=y1 at*;generalize y%4294967296=y0 at*;rw[hx,hy];simp only[Int.add_mul,Int.mul_add];have r1:x1*4294967296*(y1*4294967296)=x1*y1*18446744073709551616:=by
   rw[Int.mul_assoc,Int.mul_left_comm 4294967296,<-Int.mul_assoc]; rfl
  have r2:x1*4294967296*y0=x1*y0*4294967296:=by rw[Int.mul_right_comm]
  have r3:x0*(y1*4294967296)=x0*y1*4294967296:=by rw[Int.mul_assoc]
  rw[r1,r2,r3];omega
 have A:=ZR bx1.1 bx1.2 by1.1 by1.2;have B:=ZR bx1.1 bx1.2 by0.1 by0.2;have C:=ZR bx0.1 bx0.2 by1.1 by1.2;have D:=ZR bx0.1 bx0.2 by0.1 by0.2;rw[hxy];generalize (x/4294967296)*(y/4294967296)=a at*;generalize (x/4294967296)*(y%4294967296)=b at*;generalize (x%4294967296)*(y/4294967296)=c at*;generalize (x%4294967296)*(y%4294967296)=d at*;clear hxy hx hy bx1 bx0 by1 by0;have w1:u64.wrap a=a:=x8 (by omega) (by omega);have w2:u64.wrap b=b:=x8 (by omega) (by omega);have w3:u64.wrap c=c:=x8 (by omega) (by omega);have w4:u64.wrap d=d:=x8 (by omega) (by omega);rw[w1,w2,w3,w4,Sd D.1];have w5:u64.wrap (b+d/4294967296)=b+d/4294967296:=x8 (by omega) (by omega);rw[w5,Sy (by omega) (by omega),Sd (by omega)];have w6:u64.wrap ((b+d/4294967296)%4294967296+c)=(b+d/4294967296)%4294967296+c:=x8 (by omega) (by omega);rw[w6,Sd (by omega)];have w7:u64.wrap (a+(b+d/4294967296)/4294967296)=a+(b+d/4294967296)/4294967296:=x8 (by omega) (by omega);rw[w7];have w8:u64.wrap (a+(b+d/4294967296)/4294967296+((b+d/4294967296)%4294967296+c)/4294967296)=a+(b+d/4294967296)/4294967296+((b+d/4294967296)%4294967296+c)/4294967296:=x8 (by omega) (by omega);rw[w8,vM];exact RJ (by omega) (by omega)
theorem qm {a:Int×Int} (ha:wfW a):decide (a.1<0)=decide (val a<0):=by
 obtain ⟨a1,a2⟩:=a;obtain ⟨h1,h2,h3,h4⟩:=ha;have:a1<0↔val (a1,a2)<0:=by simp only[val] at*; omega
 simp[this]
theorem Yf {a:Int×Int} (ha:wfW a):0<=((val a).natAbs:Int)/\((val a).natAbs:Int)<=170141183460469231731687303715884105728:=by
 have:=yR.1 (Q5 ha);omega
theorem UC {x y m n:Int} (hm:m=x.natAbs) (hn:n=y.natAbs):x*y=bif !(decide (x<0)==decide (y<0)) then -(m*n) else m*n:=by
 subst hm hn;by_cases h1:x<0
 ·have e1:(x.natAbs:Int)=-x:=by omega
  by_cases h2:y<0
  ·have e2:(y.natAbs:Int)=-y:=by omega
   simp[h1,h2,e1,e2,Int.neg_mul_neg]
  ·have e2:(y.natAbs:Int)=y:=by omega
   simp[h1,h2,e1,e2,Int.neg_mul]
 ·have e1:(x.natAbs:Int)=x:=by omega
  by_cases h2:y<0
  ·have e2:(y.natAbs:Int)=-y:=by omega
   simp[h1,h2,e1,e2,Int.mul_neg]
  ·have e2:(y.natAbs:Int)=y:=by omega
   simp[h1,h2,e1,e2]
theorem wmul_j (F:Nat) {R:Type} (k:(Int×Int)->Int->Option R) {a b:Int×Int} (ha:wfW a) (hb:wfW b) (r:Int×Int) {ah al bh bl:Int}
  (h1:0<=ah/\ah<=9223372036854775808) (h2:0<=al/\al<18446744073709551616) (h3:0<=bh/\bh<=9223372036854775808) (h4:0<=bl/\bl<18446744073709551616)
  (hA:((val a).natAbs:Int)=ah*18446744073709551616+al) (hB:((val b).natAbs:Int)=bh*18446744073709551616+bl) (h0:ah=0\/bh=0) :
  xc.j5 F (fun e w=>k w e) (fun e w=>k w e) ah al bh bl a b r=k (ue (val a*val b)) (vN (val a*val b)):=by
 unfold xc.j5;rw[VY F h2.1 h2.2 h4.1 h4.2];simp only[zg];have hp:vW.sh F (ah != 0) bl al=some ((if ah≠0 then bl else al,()),()):=by
  unfold vW.sh;by_cases h:ah=0
  ·simp[h]
  ·have:(ah != 0)=true:=by simp[h]
   simp[this,h]
 rw[hp];simp only[zg];obtain ⟨c,hc1,hc2,hc3⟩:∃c,c=ah*bl+bh*al/\wF.sh F (u64.wrap ((BitVec.ofInt IntKind.u64.bits ah ||| BitVec.ofInt IntKind.u64.bits bh).toNat:Int)) (if ah≠0 then bl else al) =
   some ((c/18446744073709551616,c%18446744073709551616,()),())/\0<=c:=by
  rcases h0 with rfl | rfl
  ·refine ⟨bh*al,by simp,?_,Int.mul_nonneg h3.1 h2.1⟩
   rw[zero_or h3.1 (by omega),if_neg (by simp),VY F h3.1 (by omega) h2.1 h2.2]
  ·refine ⟨ah*bl,by simp,?_,Int.mul_nonneg h1.1 h4.1⟩
   rw[zcW h1.1 (by omega)];by_cases h:ah=0
   ·subst h
    rw[if_neg (by simp),VY F (by omega) (by omega) h2.1 h2.2];simp
   ·rw[if_pos h,VY F h1.1 (by omega) h4.1 h4.2]
 rw[hc2];simp only[zg];have hd:0<=al*bl:=Int.mul_nonneg h2.1 h4.1;have hd':al*bl<=340282366920938463426481119284349108225:=(ZR h2.1 (by omega:al<=18446744073709551615) h4.1 (by omega:bl<=18446744073709551615)).2;have hm:((val a).natAbs:Int)*((val b).natAbs:Int)=c*18446744073709551616+al*bl:=by
  rw[hA,hB,hc1];rcases h0 with rfl | rfl
  ·simp only[Int.zero_mul,Int.zero_add,Int.mul_add]
   have:al*(bh*18446744073709551616)=bh*al*18446744073709551616:=by rw[Int.mul_left_comm,<-Int.mul_assoc]
   omega
  ·simp only[Int.zero_mul,Int.zero_add,Int.add_zero,Int.add_mul]
   have:ah*18446744073709551616*bl=ah*bl*18446744073709551616:=by rw[Int.mul_right_comm]
   omega
 have hs:=UC (x:=val a) (y:=val b) rfl rfl;rw[hm,<-qm ha,<-qm hb] at hs;generalize al*bl=d at*;generalize hsg:(!(decide (a.1<0)==decide (b.1<0)))=sg at*;rw[Wz F (by omega) (by omega) (by omega) (by omega)];simp only[zg];by_cases q1:c/18446744073709551616=0
 ·have e1:(c/18446744073709551616 != 0)=false:=by simp[q1]
  rw[e1];simp only[cond_false];by_cases q2:(d/18446744073709551616+c%18446744073709551616+0)/18446744073709551616=0
  ·have e2:((d/18446744073709551616+c%18446744073709551616+0)/18446744073709551616 != 0)=false:=by rw[q2]; rfl
   rw[e2];simp only[cond_false];rw[V7 F (v:=val a*val b) (by omega) (by omega) (by omega) (by omega) (by rw[hs]; cases sg<;>simp only[cond_true,cond_false]<;>omega)];simp only[zg]
  ·have e2:((d/18446744073709551616+c%18446744073709551616+0)/18446744073709551616 != 0)=true:=bne_iff_ne.2 q2
   rw[e2];simp only[cond_true];have hr:inR (val a*val b)=false:=by rw[ZK,hs]; cases sg<;>simp only[cond_true,cond_false]<;>omega
   simp only[ue,vN,hr,cond_false]
 ·have e1:(c/18446744073709551616 != 0)=true:=by simp[q1]
  rw[e1];simp only[cond_true];have hr:inR (val a*val b)=false:=by rw[ZK,hs]; cases sg<;>simp only[cond_true,cond_false]<;>omega
  simp only[ue,vN,hr,cond_false]
theorem ZG (F:Nat) {a b:Int×Int} (ha:wfW a) (hb:wfW b):xc.sh F a b=some ((ue (val a*val b),vN (val a*val b),()),()):=by
 have ba:=Yf ha;have bb:=Yf hb;unfold xc.sh;rw[WA F ha,WA F hb];simp only[zg];have key:∀(h0:((val a).natAbs:Int)/18446744073709551616=0\/((val b).natAbs:Int)/18446744073709551616=0),xc.j5 F (fun e w=>some ((w,e,()),())) (fun e w=>some ((w,e,()),()))
   (((val a).natAbs:Int)/18446744073709551616) (((val a).natAbs:Int)%18446744073709551616) (((val b).natAbs:Int)/18446744073709551616) (((val b).natAbs:Int)%18446744073709551616) a b (0,0) =
   (some ((ue (val a*val b),vN (val a*val b),()),()):Option xc.sg.R):=fun h0 =>
  wmul_j F (fun w e=>some ((w,e,()),())) ha hb (0,0) (by omega) (by omega) (by omega) (by omega) (by omega) (by omega) h0
 by_cases q1:((val a).natAbs:Int)/18446744073709551616=0
 ·have e1:(((val a).natAbs:Int)/18446744073709551616 != 0)=false:=by simp[q1]
  rw[e1];simp only[cond_false];exact key (.inl q1)
 ·have e1:(((val a).natAbs:Int)/18446744073709551616 != 0)=true:=by simp[q1]
  rw[e1];simp only[cond_true];by_cases q2:((val b).natAbs:Int)/18446744073709551616=0
  ·have e2:(((val b).natAbs:Int)/18446744073709551616 != 0)=false:=by simp[q2]
   rw[e2];simp only[cond_false];exact key (.inr q2)
  ·have e2:(((val b).natAbs:Int)/18446744073709551616 != 0)=true:=by simp[q2]
   rw[e2];simp only[cond_true];have hs:=UC (x:=val a) (y:=val b) rfl rfl;have hp:(18446744073709551616:Int)*18446744073709551616<=((val a).natAbs:Int)*((val b).natAbs:Int):=Int.mul_le_mul (by omega) (by omega) (by omega) (by omega);have hr:inR (val a*val b)=false:=by
    rw[ZK,hs];generalize ((val a).natAbs:Int)*((val b).natAbs:Int)=m at*;cases (!(decide (val a<0)==decide (val b<0)))<;>simp only[cond_true,cond_false]<;>omega
   simp only[ue,vN,hr,cond_false]
def FU:Nat:=4194304
def zbw (l:List (Int×Int)):Int:=(l.map val).sum
theorem zeM {x:Int} (h1:-9223372036854775808<=x) (h2:x<9223372036854775808):x.fdiv (2^(min (63:Int).toNat IntKind.i64.bits))=if x<0 then -1 else 0:=by
 have e:(2^(min (63:Int).toNat IntKind.i64.bits):Int)=9223372036854775808:=by decide
 rw[e,Int.fdiv_eq_ediv_of_nonneg _ (by omega)];split<;>omega
theorem zcU {a b c d:Int} (h1:a=c) (h2:b=d):(a,b)=(c,d):=by rw[h1,h2]
theorem sum_rg (F:Nat) {R:Type} (k:Int->Int->Int->Option R) (l:List (Int×Int)) (N:Int) (xs:List (Int×Int)):∀(i lo hi top:Int) (r:Int×Int),(∀x∈xs,wfW x)->0<=lo->lo<18446744073709551616->0<=hi->hi<18446744073709551616->
  -4611686018427387904+xs.length<=top->top<=4611686018427387904-xs.length->
  ∃lo' hi' top',xJ.l4.rg F (fun lo hi top _ _ _ _ _=>k lo hi top) l N xs i lo hi top r=k lo' hi' top'/\0<=lo'/\lo'<18446744073709551616/\0<=hi'/\hi'<18446744073709551616 /\
   -4611686018427387904<=top'/\top'<=4611686018427387904/\top'*340282366920938463463374607431768211456+hi'*18446744073709551616+lo'=top*340282366920938463463374607431768211456+hi*18446744073709551616+lo+zbw xs:=by
 induction xs with
 | nil =>
  intro i lo hi top r _ h1 h2 h3 h4 h5 h6;exact ⟨lo,hi,top,by simp only[xJ.l4.rg],h1,h2,h3,h4,by simp at h5; omega,by simp at h6; omega,by simp[zbw]⟩
 | cons x xs ih =>
  intro i lo hi top r hw h1 h2 h3 h4 h5 h6;obtain ⟨x1,x2⟩:=x;obtain ⟨g1,g2,g3,g4⟩:=hw (x1,x2) (by simp);simp only at g1 g2 g3 g4;simp only[xJ.l4.rg,vM];rw[Wz F h1 g3 (by omega) (by omega)];simp only[zg];rw[Wz F h3 (by omega) (by omega) (by omega)];simp only[zg];rw[zeM g1 g2];obtain ⟨s,hs⟩:∃s:Int,s=(if x1<0 then -1 else 0)/\(x1<0/\s=-1\/0<=x1/\s=0):=⟨_,rfl,by split<;>omega⟩;rw[<-hs.1];simp only[List.length_cons] at h5 h6;rw[zY (n:=(hi+x1%18446744073709551616+(lo+x2+0)/18446744073709551616)/18446744073709551616) (by omega) (by omega)];rw[zY (n:=s+_) (by omega) (by omega),zY (n:=top+_) (by omega) (by omega)];obtain ⟨lo',hi',top',e1,e2,e3,e4,e5,e6,e7,e8⟩:=ih (i+1) ((lo+x2+0)%18446744073709551616) ((hi+x1%18446744073709551616+(lo+x2+0)/18446744073709551616)%18446744073709551616)
   (top+(s+(hi+x1%18446744073709551616+(lo+x2+0)/18446744073709551616)/18446744073709551616)) r (fun y hy=>hw y (by simp[hy])) (by omega) (by omega) (by omega) (by omega) (by omega) (by omega)
  refine ⟨lo',hi',top',e1,e2,e3,e4,e5,e6,e7,?_⟩;rw[e8];simp only[zbw,List.map_cons,List.sum_cons,val];omega
theorem wsum_eq (F:Nat) {l:List (Int×Int)} (hw:∀x∈l,wfW x) (hl:l.length<F) (hL:l.length<4611686018427387904):xJ.sh F l=some ((ue (zbw l),vN (zbw l),()),()):=by
 unfold xJ.sh;rw[show (0:Int)=((0:Nat):Int) from rfl,xJ.l4.rg_eq F _ l _ rfl (by omega) l 0 F _ _ _ _ (by simp) hl];obtain ⟨lo,hi,top,e1,e2,e3,e4,e5,e6,e7,e8⟩:=sum_rg F (fun lo hi top=>bif (top != ((i64.wrap hi).fdiv (2^(min (63:Int).toNat IntKind.i64.bits)))) then (some (((0,0),10,()),()):Option xJ.sg.R) else some (((i64.wrap hi,lo),0,()),()))
  l (l.length:Int) l 0 0 0 0 (0,0) hw (by omega) (by omega) (by omega) (by omega) (by omega) (by omega)
 refine e1.trans ?_;obtain ⟨k,f1,f2,f3⟩:=Tv hi;rw[zeM f2 f3];simp only[Int.zero_mul,Int.zero_add] at e8;rw[<-e8];generalize i64.wrap hi=r at*;by_cases hr:r<0
 ·rw[if_pos hr]
  by_cases ht:top=-1
  ·have hb:(top != -1)=false:=by rw[ht]; rfl
   have hin:inR (top*340282366920938463463374607431768211456+hi*18446744073709551616+lo)=true:=by rw[yR]; omega
   simp only[hb,cond_false,ue,vN,hin,cond_true,mk];rw[zcU (a:=r) (b:=lo) (c:=(top*340282366920938463463374607431768211456+hi*18446744073709551616+lo)/18446744073709551616) (d:=(top*340282366920938463463374607431768211456+hi*18446744073709551616+lo)%18446744073709551616) (by omega) (by omega)]
  ·have hb:(top != -1)=true:=bne_iff_ne.2 ht
   have hin:inR (top*340282366920938463463374607431768211456+hi*18446744073709551616+lo)=false:=by rw[ZK]; omega
   simp only[hb,cond_true,ue,vN,hin,cond_false]
 ·rw[if_neg hr]
  by_cases ht:top=0
  ·have hb:(top != 0)=false:=by rw[ht]; rfl
   have hin:inR (top*340282366920938463463374607431768211456+hi*18446744073709551616+lo)=true:=by rw[yR]; omega
   simp only[hb,cond_false,ue,vN,hin,cond_true,mk];rw[zcU (a:=r) (b:=lo) (c:=(top*340282366920938463463374607431768211456+hi*18446744073709551616+lo)/18446744073709551616) (d:=(top*340282366920938463463374607431768211456+hi*18446744073709551616+lo)%18446744073709551616) (by omega) (by omega)]
  ·have hb:(top != 0)=true:=bne_iff_ne.2 ht
   have hin:inR (top*340282366920938463463374607431768211456+hi*18446744073709551616+lo)=false:=by rw[ZK]; omega
   simp only[hb,cond_true,ue,vN,hin,cond_false]
theorem power_0:yV.sh FU 0=some ((mk (10000^(0:Int).toNat),0,()),()):=by kernel_rfl
theorem power_1:yV.sh FU 1=some ((mk (10000^(1:Int).toNat),0,()),()):=by kernel_rfl
theorem power_2:yV.sh FU 2=some ((mk (10000^(2:Int).toNat),0,()),()):=by kernel_rfl
theorem power_3:yV.sh FU 3=some ((mk (10000^(3:Int).toNat),0,()),()):=by kernel_rfl
theorem power_4:yV.sh FU 4=some ((mk (10000^(4:Int).toNat),0,()),()):=by kernel_rfl
theorem power_5:yV.sh FU 5=some ((mk (10000^(5:Int).toNat),0,()),()):=by kernel_rfl
theorem power_6:yV.sh FU 6=some ((mk (10000^(6:Int).toNat),0,()),()):=by kernel_rfl
theorem power_7:yV.sh FU 7=some ((mk (10000^(7:Int).toNat),0,()),()):=by kernel_rfl
theorem power_8:yV.sh FU 8=some ((mk (10000^(8:Int).toNat),0,()),()):=by kernel_rfl
theorem power_9:yV.sh FU 9=some ((mk (10000^(9:Int).toNat),0,()),()):=by kernel_rfl
theorem zf9 {k:Int} (h1:0<=k) (h2:k<=9):yV.sh FU k=some ((mk (10000^k.toNat),0,()),()):=by
 have:k=0\/k=1\/k=2\/k=3\/k=4\/k=5\/k=6\/k=7\/k=8\/k=9:=by omega
 rcases this with rfl | rfl | rfl | rfl | rfl | rfl | rfl | rfl | rfl | rfl
 ·exact power_0
 ·exact power_1
 ·exact power_2
 ·exact power_3
 ·exact power_4
 ·exact power_5
 ·exact power_6
 ·exact power_7
 ·exact power_8
 ·exact power_9
def xw (a b:Int):Int:=a/b+if a%b=0 then 0 else 1
theorem zga (F:Nat) {s:Int} (h1:1<=s) (h2:s<=1000000000000):vn.sh F (mk 1099511627776) (mk s) 1=some ((mk (xw 1099511627776 s),0,()),()):=by
 have hq1:0<=1099511627776/s:=Int.ediv_nonneg (by omega) (by omega);have hq2:1099511627776/s<=1099511627776:=Int.ediv_le_self _ (by omega);have hr1:0<=1099511627776%s:=Int.emod_nonneg _ (by omega);have hr2:1099511627776%s<s:=Int.emod_lt_of_pos _ (by omega);have ms:mk s=(0,s):=by simp only[mk]; ext<;>simp only<;>omega
 have ma:mk 1099511627776=(0,1099511627776):=by rfl
 have mks:∀{v:Int},0<=v->v<18446744073709551616->mk v=(0,v):=fun h h'=>by simp only[mk]; ext<;>simp only<;>omega
 have hQ:vd.sh F (mk 1099511627776) (mk s)=some ((mk (1099511627776/s),mk (1099511627776%s),0,()),()):=by
  unfold vd.sh;have hb:(((mk s).1==0)&&(((mk s).2==0)&&true))=false:=by
   rw[ms]; simp; omega
  rw[hb];simp only[cond_false];rw[WA F (wj (by rw[yR]; omega)),WA F (wj (by rw[yR]; omega))];simp only[zg,xv];have n1:((1099511627776:Int).natAbs:Int)=1099511627776:=rfl;have n2:(s.natAbs:Int)=s:=by omega
  rw[n1,n2];have d1:(1099511627776:Int)/18446744073709551616=0:=by decide
  have d2:(1099511627776:Int)%18446744073709551616=1099511627776:=by decide
  have d3:s/18446744073709551616=0:=by omega
  have d4:s%18446744073709551616=s:=by omega
  rw[d1,d2,d3,d4];have hsne:(s != 0)=true:=bne_iff_ne.2 (by omega);have hs0:(s==0)=false:=by rw[beq_eq_false_iff_ne]; omega
  have hq:yM.sh F 0 1099511627776 0 s=some ((0,1099511627776/s,0,1099511627776%s,()),()):=by
   unfold yM.sh zu.sh;have e0:(0:Int).tmod s=0:=by simp
   have e1:(0:Int).tdiv s=0:=by simp
   have e2:(1099511627776:Int).tdiv s=1099511627776/s:=Int.tdiv_eq_ediv_of_nonneg (by omega);have e3:(1099511627776:Int).tmod s=1099511627776%s:=Int.tmod_eq_emod_of_nonneg (by omega);have e4:decide (s<=0)=false:=by simp; omega
   simp only[beq_self_eq_true,cond_true,hsne,e0,e1,hs0,cond_false,e4,zg,e2,e3];rw[x8 (by omega) (by omega),x8 (n:=1099511627776/s) (by omega) (by omega)]
  rw[hq];simp only[zg];have hng:(!(decide ((mk 1099511627776).1<0)==decide ((mk s).1<0)))=false:=by rw[ma,ms]; rfl
  rw[hng,V7 F (v:=1099511627776/s) (by omega) (by omega) (by omega) (by omega) (by simp)];simp only[zg];have i1:inR (1099511627776/s)=true:=by rw[yR]; omega
  have i2:inR (1099511627776%s)=true:=by rw[yR]; omega
  have hz:decide ((mk 1099511627776).1<0)=false:=by rw[ma]; rfl
  simp only[vN,ue,i1,cond_true,bne_self_eq_false,cond_false];rw[hz,V7 F (v:=1099511627776%s) (by omega) (by omega) (by omega) (by omega) (by simp)];simp only[zg,vN,ue,i2,cond_true]
 unfold vn.sh;rw[hQ];have c1:decide ((1:Int)<0)=false:=by decide
 have c2:decide ((1:Int)>4)=false:=by decide
 simp only[c1,c2,cond_false,zg,bne_self_eq_false];by_cases hz:1099511627776%s=0
 ·have e:(((mk (1099511627776%s)).1==0)&&(((mk (1099511627776%s)).2==0)&&true))=true:=by rw[hz]; rfl
  rw[e];simp only[cond_true,xw,hz,if_true,Int.add_zero]
 ·have e:(((mk (1099511627776%s)).1==0)&&(((mk (1099511627776%s)).2==0)&&true))=false:=by
   rw[mks hr1 (by omega)]; simp; exact hz
  rw[e];simp only[cond_false];have ha:vD.sh F (mk (1099511627776/s)) (mk (1099511627776%s)) (mk s) 1=some ((true,()),()):=by
   unfold vD.sh;rw[mks hr1 (by omega),ms];rfl
  rw[ha];simp only[zg,Bool.not_true,cond_false];have hng:(!(decide ((mk 1099511627776).1<0)==decide ((mk s).1<0)))=false:=by rw[ma,ms]; rfl
  rw[hng];simp only[cond_false];rw[tK F (by omega) (by omega)];simp only[zg];rw[YG F (wj (by rw[yR]; omega)) (wj (by rw[yR]; omega))];simp only[zg,xv];have i1:inR (1099511627776/s+1)=true:=by rw[yR]; omega
  simp only[vN,ue,i1,cond_true,xw,hz,if_false]
def X6 (c:Int):Bool:=decide (c>=97)&&decide (c<=122)
def zcq (c:Int):Bool:=decide (c>=48)&&decide (c<=57)
def Tr (c:Int):Bool:=X6 c||(zcq c||c==95)
theorem UN (F:Nat) (c:Int):wW.sh F c=some ((X6 c,()),()):=by
 unfold wW.sh X6;cases decide (c>=97)<;>rfl
theorem zgc (F:Nat) (c:Int):vZ.sh F c=some ((zcq c,()),()):=by
 unfold vZ.sh zcq;cases decide (c>=48)<;>rfl
theorem zfK (F:Nat) (c:Int):vL.sh F c=some ((Tr c,()),()):=by
 unfold vL.sh Tr;rw[UN,zgc];simp only[zg];cases X6 c<;>cases zcq c<;>rfl
def cI (c:UInt8):Int:=(c.toNat:Int)
theorem zdt {s:ByteArray} {n:Nat} {c:UInt8} {r:List UInt8} (h:s.data.toList.drop n=c::r):bt s (n:Int)=cI c:=by
 have:s.data.toList[n]?=some c:=by
  have:=congrArg (·[0]?) h
  simpa using this
 simp only[bt,Int.toNat_natCast,List.getD_eq_getElem?_getD,this,Option.getD_some,cI]
theorem tw (s:ByteArray):s.size=s.data.toList.length:=by rw[Array.length_toList]; rfl
theorem run_l2 (F:Nat) {R:Type} (k:Int->Option R) (s:ByteArray) (of:Nat) (p:Int->Bool) (hp:∀c,xA.d15 F of (c,())=some ((p c,()),())) (hs:s.size<4611686018427387904) :
  ∀(xs:List UInt8) (n fu:Nat),s.data.toList.drop n=xs->xs.length<fu->xA.l2 F (fun _ _ n _=>k n) fu s of (n:Int)=k ((n+(xs.takeWhile fun c=>p (cI c)).length:Nat):Int):=by
 intro xs;induction xs with
 | nil =>
  intro n fu h hf;obtain ⟨fu,rfl⟩:∃j,fu=j+1:=⟨fu-1,by simp at hf; omega⟩;have hn:s.size<=n:=by rw[tw]; simpa using h
  have e1:decide ((n:Int)<(s.size:Int))=false:=by simp; exact hn
  simp only[xA.l2,xA.l2.body,e1,cond_false,List.takeWhile_nil,List.length_nil,Nat.add_zero]
 | cons c xs ih =>
  intro n fu h hf;obtain ⟨fu,rfl⟩:∃j,fu=j+1:=⟨fu-1,by simp at hf; omega⟩;have hn:n<s.size:=by rw[tw]; exact ug h
  have e1:decide ((n:Int)<(s.size:Int))=true:=by simp; exact hn
  have e2:idx (n:Int) s.size=true:=xX hn;simp only[xA.l2,xA.l2.body,e1,e2,cond_true,zdt h,hp,zg];cases hc:p (cI c) with
  | true =>
   simp only[cond_true];rw[zY (by omega) (by omega),<-vj,ih (n+1) fu (wX h) (by simp at hf; omega)];simp only[List.takeWhile_cons,hc,if_true,List.length_cons];congr 2
   omega
  | false =>
   simp only[cond_false,List.takeWhile_cons,hc];simp
theorem zeR (F:Nat) {s:ByteArray} {of:Nat} {p:Int->Bool} (hp:∀c,xA.d15 F of (c,())=some ((p c,()),())) (hs:s.size<4611686018427387904) (hF:s.size<F) :
  xA.sh F s of=some ((((s.data.toList.takeWhile fun c=>p (cI c)).length:Int),()),()):=by
 unfold xA.sh;have:=run_l2 F (fun n=>(some ((n,()),()):Option xA.sg.R)) s of p hp hs s.data.toList 0 F (by simp) (by rw[<-tw]; exact hF);simpa using this
theorem zcv (F:Nat) (c:Int):xA.d15 F qx (c,())=some ((X6 c,()),()):=by
 unfold xA.d15;rw[show mkT xA.ds15 [(qM,vL.sp F),(qx,wW.sp F)] qx (c,())=wW.sh F c from rfl,UN]
theorem zes (F:Nat) (c:Int):xA.d15 F qM (c,())=some ((Tr c,()),()):=by
 unfold xA.d15;rw[show mkT xA.ds15 [(qM,vL.sp F),(qx,wW.sp F)] qM (c,())=vL.sh F c from rfl,zfK]
theorem Zc {α:Type} {p:α->Bool}:∀{l:List α},((l.takeWhile p).length=l.length)↔l.all p=true
 | []=>by simp
 | a::l=>by
  simp only[List.takeWhile_cons,List.all_cons];cases h:p a with
  | true=>simp only[if_true,List.length_cons,Bool.true_and]; rw[<-Zc (l:=l)]; omega
  | false=>simp
def zeE:List UInt8:=[32,112,108,97,110,32,114,111,117,110,100,32,98,121,32,98,108,111,99,107,115,32,109,105,110,32,109,97,120,32,111,118,101,114,32,117,112,116,111,32,103,114,97,100,117,97,116,101,100,32,118,111,108,117,109,101,32,111,102,102,32,105,102,32,102,108,111,111,114,32,99,101,105,108,32,122,101,114,111,32,104,97,108,102,32,101,118,101,110,32]
def TZ (l:List UInt8):Bool:=!l.isEmpty&&(l.all (fun c=>X6 (cI c))&&Lib.contains zeE ([32]++l++[32]))
def Xi (l:List UInt8):Bool:=!l.isEmpty&&(decide (l.length<=32)&&(X6 (cI (l.headD 0))&&(l.all (fun c=>Tr (cI c))&&!TZ l)))
theorem zaP (s:ByteArray):(!(s.toList==(⟨#[]⟩:ByteArray).toList))=!s.data.toList.isEmpty:=by
 rw[ByteArray.toList_eq,ByteArray.toList_eq];cases s.data.toList<;>rfl
theorem word_eq (F:Nat) {s:ByteArray} (hs:s.size<=1048576) (hF:s.size<F):ux.sh F s=some ((TZ s.data.toList,()),()):=by
 unfold ux.sh;rw[zaP,zeR F (zcv F) (by omega) hF];unfold TZ;cases hE:s.data.toList.isEmpty with
 | true=>rfl
 | false =>
  simp only[Bool.not_false,cond_true,zg,Bool.true_and];by_cases ha:s.data.toList.all (fun c=>X6 (cI c))=true
  ·have e1:(((s.data.toList.takeWhile fun c=>X6 (cI c)).length:Int)==(s.size:Int))=true:=by
    rw[Zc.2 ha,<-tw]; simp
   have s1:(⟨#[32]⟩:ByteArray).size=1:=rfl;have s2:((⟨#[32]⟩:ByteArray)++s).size=1+s.size:=by rw[ByteArray.size_append]; rfl
   have e2:Nat.ble ((⟨#[32]⟩:ByteArray).size+s.size) vc=true:=by rw[s1,Nat.ble_eq]; unfold vc; omega
   have e3:Nat.ble (((⟨#[32]⟩:ByteArray)++s).size+(⟨#[32]⟩:ByteArray).size) vc=true:=by rw[s1,s2,Nat.ble_eq]; unfold vc; omega
   rw[e1,e2,e3,ha];simp only[cond_true,Bool.true_and];have hd:((⟨#[32]⟩:ByteArray)++s++(⟨#[32]⟩:ByteArray)).data.toList=[32]++s.data.toList++[32]:=by simp[ByteArray.data_append]
   unfold wM.sh;rw[hd];rfl
  ·have e1:(((s.data.toList.takeWhile fun c=>X6 (cI c)).length:Int)==(s.size:Int))=false:=by
    rw[beq_eq_false_iff_ne];intro h;apply ha;rw[<-Zc];rw[tw] at h;exact_mod_cast h
   rw[e1];simp only[cond_false];rw[Bool.not_eq_true] at ha;rw[ha];rfl
theorem zcY (F:Nat) {s:ByteArray} (hF:64<F):uf.sh F s=some ((Xi s.data.toList,()),()):=by
 unfold uf.sh Xi;rw[zaP];cases hE:s.data.toList.isEmpty with
 | true=>rfl
 | false =>
  simp only[Bool.not_false,cond_true,Bool.true_and];by_cases hl:s.data.toList.length<=32
  ·have e1:decide ((s.size:Int)<=32)=true:=decide_eq_true (by have:=tw s; omega)
   have hpos:0<s.size:=by rw[tw]; cases h:s.data.toList with | nil=>rw[h] at hE; cases hE | cons=>simp
   have e2:idx 0 s.size=true:=xX (i:=0) hpos;have e3:bt s 0=cI (s.data.toList.headD 0):=by
    cases h:s.data.toList with
    | nil=>rw[h] at hE; cases hE
    | cons c r=>exact zdt (n:=0) (r:=r) (by simpa using h)
   have hsz:s.size<=32:=by rw[tw]; exact hl
   rw[e1,e2,e3,UN,zeR F (zes F) (by omega) (by omega),word_eq F (by omega) (by omega)];simp only[cond_true,zg,hl,decide_true,Bool.true_and];cases X6 (cI (s.data.toList.headD 0)) with
   | false=>rfl
   | true =>
    simp only[cond_true,Bool.true_and];by_cases ha:s.data.toList.all (fun c=>Tr (cI c))=true
    ·have e4:(((s.data.toList.takeWhile fun c=>Tr (cI c)).length:Int)==(s.size:Int))=true:=by
      rw[Zc.2 ha,<-tw]; simp
     rw[e4,ha];rfl
    ·have e4:(((s.data.toList.takeWhile fun c=>Tr (cI c)).length:Int)==(s.size:Int))=false:=by
      rw[beq_eq_false_iff_ne];intro h;apply ha;rw[<-Zc];rw[tw] at h;exact_mod_cast h
     rw[e4];rw[Bool.not_eq_true] at ha;rw[ha];rfl
  ·have e1:decide ((s.size:Int)<=32)=false:=decide_eq_false (by have:=tw s; omega)
   have e2:decide (s.data.toList.length<=32)=false:=decide_eq_false hl;rw[e1,e2];rfl
theorem UR {n:Int} {len:Nat} (h1:0<=n) (h2:n<(len:Int)):idx n len=true:=by
 unfold idx; rw[decide_eq_true h1,decide_eq_true h2]; rfl
def Yv (a b:ByteArray):Bool:=a.toList==b.toList
theorem d16_eq (F:Nat) (e d:wV.T):zt.d16 F (tD+1) (e,d,())=some ((Yv e.1 d.1,()),()):=by
 unfold zt.d16;rw[show mkT zt.ds16 [(X3,vr.sp F)] (tD+1) (e,d,())=vr.sh F e d from rfl];rfl
theorem zec (F:Nat) {R:Type} (k:Int->Option R) (k':Option R) (L:List wV.T) (N:Int) (d:wV.T):∀(xs:List wV.T) (i:Nat),
  zt.l2.rg F k (fun _ _ _ _ _=>k') L N xs (i:Int) (tD,d)=match xs.findIdx? (fun e=>Yv e.1 d.1) with | some j=>k ((i+j:Nat):Int) | none=>k':=by
 intro xs;induction xs with
 | nil=>intro i; rfl
 | cons x xs ih =>
  intro i;simp only[zt.l2.rg];rw[d16_eq];simp only[zg];cases h:Yv x.1 d.1 with
  | true=>simp[List.findIdx?_cons,h]
  | false =>
   simp only[cond_false];rw[<-vj,ih (i+1)];simp only[List.findIdx?_cons,h];cases hj:xs.findIdx? (fun e=>Yv e.1 d.1) with
   | none=>simp
   | some j=>simp; congr 1; omega
theorem za9 (F:Nat) {l:List wV.T} {d:wV.T} (hl:l.length<F) (hL:l.length<4611686018427387904):y4.sh F l (tD,d)=some ((l.any (fun e=>Yv e.1 d.1),()),()):=by
 unfold y4.sh zt.sh;have h1:=zt.l2.rg_eq F (fun r42=>(some ((r42,()),()):Option zt.sg.R)) (fun s3 f3 t73 t83 t93=>some (((-1),()),())) l (l.length:Int) rfl (by omega) l 0 F (tD,d) (by simp) hl;have h2:=zec F (fun r=>(some ((r,()),()):Option zt.sg.R)) (some (((-1),()),())) l (l.length:Int) d l 0;have h3:=h1.trans h2;rw[show ((0:Nat):Int)=0 from rfl] at h3;rw[h3];cases h:l.findIdx? (fun e=>Yv e.1 d.1) with
 | none =>
  have:l.any (fun e=>Yv e.1 d.1)=false:=by
   rw[List.findIdx?_eq_none_iff] at h;rw[List.any_eq_false];intro x hx;simpa using h x hx
  simp only[zg,this];rfl
 | some j =>
  have:l.any (fun e=>Yv e.1 d.1)=true:=by
   rw[List.findIdx?_eq_some_iff_getElem] at h;obtain ⟨h1,h2,_⟩:=h;rw[List.any_eq_true];exact ⟨l[j],List.getElem_mem _,h2⟩
  simp only[zg,this];have:decide (((0+j:Nat):Int)>=0)=true:=decide_eq_true (by omega);rw[this]
abbrev dS (d:wV.T):Int:=d.2
def dE (pre:List wV.T):List wV.T->Int
 | []=>0
 | d::r=>bif !Xi d.1.data.toList then 61 else bif pre.any (fun e=>Yv e.1 d.1) then 61 else bif decide (dS d<1) then 50 else bif decide (dS d>1000000000000) then 50 else dE (pre++[d]) r
def YC (name:ByteArray) (dims:List wV.T) (mode:Int):Int :=
 bif !Xi name.data.toList then 61 else bif decide ((dims.length:Int)<1) then 100 else bif decide ((dims.length:Int)>4) then 100 else bif dE [] dims != 0 then dE [] dims else bif decide (mode<0) then 50 else bif decide (mode>4) then 50 else 0
theorem ZD {n i:Nat} (h:i<=n):zI n none (some (i:Int))=(true,0,i):=by
 unfold zI;have e1:decide ((0:Int)<=((i:Nat):Int))=true:=decide_eq_true (by omega);have e2:decide (((i:Nat):Int)<=(n:Int))=true:=decide_eq_true (by omega);simp only[Option.getD_none,Option.getD_some,e1,e2,Int.toNat_natCast];rfl
theorem Za {n i:Nat} (h:i<=n):zI n (some (i:Int)) none=(true,i,n):=by
 unfold zI;have e1:decide ((0:Int)<=((i:Nat):Int))=true:=decide_eq_true (by omega);have e2:decide (((i:Nat):Int)<=(n:Int))=true:=decide_eq_true (by omega);have e3:decide ((n:Int)<=(n:Int))=true:=decide_eq_true (by omega);simp only[Option.getD_none,Option.getD_some,e1,e2,e3,Int.toNat_natCast];rfl
theorem head_rg (F:Nat) (hF:64<F) {R:Type} (k:Int->Option R) (k2:yr.T->Option R) (L:List wV.T) (N:Int) (p:yr.T) (hp:p.2.1=L) (hL:L.length<=32):∀(xs:List wV.T) (i:Nat),L.drop i=xs->
  xg.l6.rg F k k (fun _ _ _ _ p=>k2 p) L N xs (i:Int) p=bif dE (L.take i) xs != 0 then k (dE (L.take i) xs) else k2 p:=by
 intro xs;induction xs with
 | nil=>intro i h; rfl
 | cons d xs ih =>
  intro i h;have hi:=ug h;have hd:L[i]?=some d:=by have:=congrArg (·[0]?) h; simpa using this
  have htake:L.take (i+1)=L.take i++[d]:=by rw[List.take_add_one,hd]; rfl
  simp only[xg.l6.rg];rw[zcY F hF];simp only[zg,dE];rw[<-vj,ih (i+1) (wX h),htake];cases hn:Xi d.1.data.toList with
  | false=>rfl
  | true =>
   simp only[Bool.not_true,cond_false];rw[hp,ZD (by omega)];simp only[cond_true,List.drop_zero];rw[za9 F (by simp; omega) (by simp; omega)];simp only[zg];cases hc:(L.take i).any (fun e=>Yv e.1 d.1) with
   | true=>rfl
   | false =>
    simp only[cond_false];cases decide (dS d<1) with
    | true=>rfl
    | false =>
     cases decide (dS d>1000000000000) with
     | true=>rfl
     | false=>rfl
theorem head_eq (F:Nat) (hF:64<F) (p:yr.T):xg.sh F p=some ((YC p.1 p.2.1 p.2.2.1,()),()):=by
 unfold xg.sh YC;rw[zcY F hF];simp only[zg];cases hn:Xi p.1.data.toList with
 | false=>rfl
 | true =>
  simp only[Bool.not_true,cond_false];cases h1:decide ((p.2.1.length:Int)<1) with
  | true=>rfl
  | false =>
   cases h2:decide ((p.2.1.length:Int)>4) with
   | true=>rfl
   | false =>
    have h2:=of_decide_eq_false h2;simp only[cond_false];refine Eq.trans (xg.l6.rg_eq F _ _ _ p.2.1 _ rfl (by omega) p.2.1 0 F _ (by simp) (by omega)) ?_;refine (head_rg F hF (fun r=>(some ((r,()),()):Option xg.sg.R)) (fun p=>bif decide (p.2.2.1<0) then some ((50,()),()) else bif decide (p.2.2.1>4) then some ((50,()),()) else some ((0,()),())) p.2.1 (p.2.1.length:Int) p rfl (by omega) p.2.1 0 (by simp)).trans ?_;simp only[List.take_zero];cases (dE [] p.2.1 != 0) with
    | true=>rfl
    | false =>
     cases decide (p.2.2.1<0) with
     | true=>rfl
     | false=>cases decide (p.2.2.1>4)<;>rfl
abbrev nK (n:zx.T):Int:=n.1
abbrev nN (n:zx.T):Int:=n.2.1
abbrev nO (n:zx.T):Int:=n.2.2.1
abbrev nC (n:zx.T):Int:=n.2.2.2.1
abbrev nT (n:zx.T):List yp.T:=n.2.2.2.2.1
abbrev ZY (n:zx.T):Int×Int×Bool×Bool:=get vg qu (nK n).toNat
abbrev aK (n:zx.T):Int:=(ZY n).1
def ar (n:zx.T):Nat:=bif decide (aK n>=0) then (aK n).toNat else (nC n).toNat
def qw (n:zx.T):Bool:=decide (1<=nK n)&&decide (nK n<=16)
def qf (n:zx.T):Bool:=bif decide (aK n<0) then decide (nC n>=2)&&decide (nC n<=16) else nC n==0
theorem ZV {n:zx.T}:qw n=true↔1<=nK n/\nK n<=16:=by simp[qw]
theorem VI (F:Nat) {n:zx.T} (h:qw n=true) (hk:qf n=true):wK.sh F n=some (((ar n:Int),()),()):=by
 unfold wK.sh;have hg:=ZV.1 h;have e1:idx (nK n) 17=true:=UR (by omega) (by omega);unfold ar;unfold qf at hk;rw[show idx n.1 17=true from e1];simp only[cond_true];cases ha:decide (aK n>=0) with
 | true =>
  have ha':=of_decide_eq_true ha;simp only[cond_true];have:(((aK n).toNat:Nat):Int)=aK n:=by omega
  rw[this]
 | false =>
  have ha':=of_decide_eq_false ha;simp only[cond_false];rw[decide_eq_true (show aK n<0 by omega)] at hk;simp at hk;have:(((nC n).toNat:Nat):Int)=nC n:=by omega
  rw[this]
abbrev tF (x:yp.T):Int:=x.1
abbrev tR (x:yp.T):Int:=x.2
def QR (l:List yp.T) (i:Nat) (x:yp.T):Bool:=(decide (i=0)||!decide (tF x<=tF (l.getD (i-1) (0,0))))&&(!decide (tF x>1000000000000)&&(!decide (tR x < -1000000000000)&&!decide (tR x>1000000000000)))
def qY (l:List yp.T):List yp.T->Nat->Bool
 | [],_=>true
 | x::r,i=>QR l i x&&qY l r (i+1)
def Zq (l:List yp.T):Bool:=decide (1<=l.length)&&(decide (l.length<=16)&&(decide (tF (l.getD 0 (0,0))=0)&&qY l l 0))
theorem zdP (F:Nat) {R:Type} (k:Bool->Option R) (k1:Option R) (l:List yp.T) (N:Int) (hl:l.length<=32):∀(xs:List yp.T) (i:Nat),l.drop i=xs->
  yA.l4.rg F k (fun _ _ _ _ _=>k1) l N xs (i:Int) l=bif qY l xs i then k1 else k false:=by
 intro xs;induction xs with
 | nil=>intro i h; simp[yA.l4.rg,qY]
 | cons x xs ih =>
  intro i h;have hi:=ug h;have ih:=ih (i+1) (wX h);rw[vj] at ih;simp only[yA.l4.rg,qY,QR];by_cases h0:i=0
  ·subst h0
   have e1:decide (((0:Nat):Int)>0)=false:=rfl;simp only[e1,cond_false,decide_true,Bool.true_or,Bool.true_and];cases decide (tF x>1000000000000)<;>cases decide (tR x < -1000000000000)<;>cases decide (tR x>1000000000000)<;>first | rfl | exact ih
  ·have e1:decide (((i:Nat):Int)>0)=true:=decide_eq_true (by omega)
   have e2:i64.wrap ((i:Int)-1)=((i-1:Nat):Int):=by rw[zY (by omega) (by omega)]; omega
   have e3:idx ((i-1:Nat):Int) l.length=true:=xX (by omega);have e4:get yp l (((i-1:Nat):Int).toNat)=l.getD (i-1) (0,0):=rfl;have e5:decide (i=0)=false:=decide_eq_false h0;simp only[e1,e2,e3,e4,e5,cond_true,Bool.false_or];cases decide (tF x<=tF (l.getD (i-1) (0,0)))<;>cases decide (tF x>1000000000000)<;>cases decide (tR x < -1000000000000)<;>cases decide (tR x>1000000000000)<;>first | rfl | exact ih
theorem zdQ (F:Nat) (hF:64<F) (l:List yp.T):yA.sh F l=some ((Zq l,()),()):=by
 unfold yA.sh Zq;by_cases h1:1<=l.length
 ·have e1:decide ((l.length:Int)<1)=false:=decide_eq_false (by omega)
  by_cases h2:l.length<=16
  ·have e2:decide ((l.length:Int)>16)=false:=decide_eq_false (by omega)
   have e3:idx 0 l.length=true:=xX (i:=0) (by omega);simp only[e1,e2,e3,cond_false,cond_true,h1,h2,decide_true,Bool.true_and];have e4:get yp l 0=l.getD 0 (0,0):=rfl;rw[e4];by_cases h3:tF (l.getD 0 (0,0))=0
   ·have e5:(tF (l.getD 0 (0,0)) != 0)=false:=by rw[h3]; rfl
    rw[e5,h3];simp only[cond_false,decide_true,Bool.true_and];refine Eq.trans (yA.l4.rg_eq F _ _ l _ rfl (by omega) l 0 F _ (by simp) (by omega)) ?_;refine Eq.trans (zdP F (fun r=>(some ((r,()),()):Option yA.sg.R)) (some ((true,()),())) l (l.length:Int) (by omega) l 0 (by simp)) ?_;cases qY l l 0<;>rfl
   ·have e5:(tF (l.getD 0 (0,0)) != 0)=true:=bne_iff_ne.2 h3
    have e6:decide (tF (l.getD 0 (0,0))=0)=false:=decide_eq_false h3;rw[e5,e6];rfl
  ·have e2:decide ((l.length:Int)>16)=true:=decide_eq_true (by omega)
   have e3:decide (l.length<=16)=false:=decide_eq_false h2;rw[e1,e2,e3];simp
 ·have e1:decide ((l.length:Int)<1)=true:=decide_eq_true (by omega)
  have e3:decide (1<=l.length)=false:=decide_eq_false h1;rw[e1,e3];rfl
def Wg (n:zx.T) (dims:Nat):Int:=bif decide ((ZY n).2.1<0) then (dims:Int)-1 else (ZY n).2.1
def opB (n:zx.T):Bool:=bif (ZY n).2.2.2 then decide (nO n>=1)&&decide (nO n<=6) else nO n==0
def th (n:zx.T):Bool:=(ZY n).2.2.1
def tm (dims:Nat) (n:zx.T) (pile:Nat):Int :=
 bif !qw n then 50 else bif decide (nN n<0) then 50 else bif decide (nN n>Wg n dims) then 50 else bif !qf n then 50 else bif !opB n then 50
 else bif !th n&&decide (((nT n).length:Int)>0) then 50 else bif decide ((pile:Int)<(ar n:Int)) then 50 else bif th n&&!Zq (nT n) then 51 else 0
theorem zfl (F:Nat) (hF:64<F) {R:Type} (k:Int->Option R) {n:zx.T} (hg:qw n=true) (pile:Nat) (most:Int) (kids op:Bool) (hk:kids=true->qf n=true) (a:vg.T) :
  yZ.j13 F k k k (pile:Int) most kids op n a=k (bif decide (nN n<0) then 50 else bif decide (nN n>most) then 50 else bif !kids then 50 else bif !op then 50
 else bif !a.2.2.1&&decide (((nT n).length:Int)>0) then 50 else bif decide ((pile:Int)<(ar n:Int)) then 50 else bif a.2.2.1&&!Zq (nT n) then 51 else 0):=by
 unfold yZ.j13;cases h1:decide (nN n<0) with
 | true=>rfl
 | false =>
  cases h2:decide (nN n>most) with
  | true=>rfl
  | false =>
   cases kids with
   | false=>rfl
   | true =>
    cases op with
    | false=>rfl
    | true =>
     simp only[Bool.not_true,cond_false];rw[VI F hg (hk rfl)];simp only[zg];rw[zdQ F hF];simp only[zg];cases h3:a.2.2.1 with
     | false =>
      simp only[Bool.not_false,cond_true,Bool.true_and,cond_false,Bool.false_and];cases decide (((nT n).length:Int)>0) with
      | true=>rfl
      | false=>cases decide ((pile:Int)<(ar n:Int))<;>rfl
     | true =>
      simp only[Bool.not_true,cond_true,Bool.true_and,cond_false,Bool.false_and];cases decide ((pile:Int)<(ar n:Int)) with
      | true=>rfl
      | false=>cases Zq (nT n)<;>rfl
theorem node_eq (F:Nat) (hF:64<F) (n:zx.T) {dims:Nat} (hd:dims<4611686018427387904) (pile:Nat):yZ.sh F n (dims:Int) (pile:Int)=some ((tm dims n pile,()),()):=by
 unfold yZ.sh tm;cases hg:qw n with
 | false =>
  have:decide ((n.1:Int)<1)=true\/decide ((n.1:Int)>16)=true:=by
   rcases Int.lt_or_le (nK n) 1 with h | h
   ·exact .inl (decide_eq_true h)
   ·rcases Int.lt_or_le 16 (nK n) with h' | h'
    ·exact .inr (decide_eq_true h')
    ·rw[ZV.2 ⟨h,h'⟩] at hg; cases hg
  rcases this with h | h
  ·rw[h]; rfl
  ·rw[h]; cases decide ((n.1:Int)<1)<;>rfl
 | true =>
  have hg':=ZV.1 hg;have e1:decide ((nK n:Int)<1)=false:=decide_eq_false (by omega);have e2:decide ((nK n:Int)>16)=false:=decide_eq_false (by omega);have e3:idx (nK n) 17=true:=UR (by omega) (by omega);rw[show decide (n.1<1)=false from e1,show decide (n.1>16)=false from e2,show idx n.1 17=true from e3];simp only[cond_false,cond_true,Bool.not_true];have hw:i64.wrap ((dims:Int)-1)=(dims:Int)-1:=zY (by omega) (by omega);rw[hw];have key:∀most:Int,yZ.j7 F (fun r=>(some ((r,()),()):Option yZ.sg.R)) (fun r=>some ((r,()),())) (fun r=>some ((r,()),())) (pile:Int) most n (ZY n) =
   some ((bif decide (nN n<0) then 50 else bif decide (nN n>most) then 50 else bif !qf n then 50 else bif !opB n then 50
    else bif !th n&&decide (((nT n).length:Int)>0) then 50 else bif decide ((pile:Int)<(ar n:Int)) then 50 else bif th n&&!Zq (nT n) then 51 else 0,()),()):=by
   intro most;have k10:∀kids:Bool,kids=qf n->yZ.j10 F (fun r=>(some ((r,()),()):Option yZ.sg.R)) (fun r=>some ((r,()),())) (fun r=>some ((r,()),())) (pile:Int) most kids n (ZY n) =
    some ((bif decide (nN n<0) then 50 else bif decide (nN n>most) then 50 else bif !qf n then 50 else bif !opB n then 50
     else bif !th n&&decide (((nT n).length:Int)>0) then 50 else bif decide ((pile:Int)<(ar n:Int)) then 50 else bif th n&&!Zq (nT n) then 51 else 0,()),()):=by
    intro kids hkk;have k13:=fun op:Bool=>zfl F hF (fun r=>(some ((r,()),()):Option yZ.sg.R)) hg pile most kids op (fun h=>by rw[<-hkk,h]) (ZY n)
    unfold yZ.j10;rw[show (fun r=>(some ((r,()),()):Option yZ.sg.R))=(fun r=>some ((r,()),())) from rfl] at k13;rw[k13,k13,k13,hkk];unfold opB th;cases (ZY n).2.2.2 with
    | false=>rfl
    | true=>cases decide (nO n>=1)<;>rfl
   unfold yZ.j7;cases ha:decide (aK n<0) with
   | true =>
    cases hc:decide (nC n>=2) with
    | true=>exact k10 _ (by unfold qf; rw[ha,hc]; rfl)
    | false=>exact k10 _ (by unfold qf; rw[ha,hc]; rfl)
   | false=>exact k10 _ (by unfold qf; rw[ha]; rfl)
  unfold Wg;cases hm:decide ((ZY n).2.1<0) with
  | true=>exact key _
  | false=>exact key _
def Vu (dims:Nat):List zx.T->Nat->Nat->Option (Nat×Int)
 | [],_,_=>none
 | n::r,pile,i=>bif tm dims n pile != 0 then some (i,tm dims n pile) else Vu dims r (pile-ar n+1) (i+1)
def UX:List zx.T->Nat->Nat
 | [],pile=>pile
 | n::r,pile=>UX r (pile-ar n+1)
theorem uh {dims:Nat} {n:zx.T} {pile:Nat} (h:tm dims n pile=0) :
  qw n=true/\0<=nN n/\nN n<=Wg n dims/\qf n=true/\opB n=true/\(th n=false->nT n=[])/\ar n<=pile/\(th n=true->Zq (nT n)=true):=by
 unfold tm at h;cases h1:qw n with
 | false=>rw[h1] at h; exact absurd (show (50:Int)=0 from h) (by decide)
 | true =>
 rw[h1] at h;cases h2:decide (nN n<0) with
 | true=>rw[h2] at h; exact absurd (show (50:Int)=0 from h) (by decide)
 | false =>
 rw[h2] at h;cases h3:decide (nN n>Wg n dims) with
 | true=>rw[h3] at h; exact absurd (show (50:Int)=0 from h) (by decide)
 | false =>
 rw[h3] at h;cases h4:qf n with
 | false=>rw[h4] at h; exact absurd (show (50:Int)=0 from h) (by decide)
 | true =>
 rw[h4] at h;cases h5:opB n with
 | false=>rw[h5] at h; exact absurd (show (50:Int)=0 from h) (by decide)
 | true =>
 rw[h5] at h;cases h6:(!th n&&decide (((nT n).length:Int)>0)) with
 | true=>rw[h6] at h; exact absurd (show (50:Int)=0 from h) (by decide)
 | false =>
 rw[h6] at h;cases h7:decide ((pile:Int)<(ar n:Int)) with
 | true=>rw[h7] at h; exact absurd (show (50:Int)=0 from h) (by decide)
 | false =>
 rw[h7] at h;cases h8:(th n&&!Zq (nT n)) with
 | true=>rw[h8] at h; exact absurd (show (51:Int)=0 from h) (by decide)
 | false =>
 have h2:=of_decide_eq_false h2;have h3:=of_decide_eq_false h3;have h7:=of_decide_eq_false h7;refine ⟨rfl,by omega,by omega,rfl,rfl,fun ht=>?_,by omega,fun ht=>?_⟩
 ·rw[ht] at h6
  simp only[Bool.not_false,Bool.true_and] at h6;have h6:=of_decide_eq_false h6;exact List.eq_nil_of_length_eq_zero (by omega)
 ·rw[ht] at h8
  simp only[Bool.true_and] at h8;cases hr:Zq (nT n) with
  | true=>rfl
  | false=>rw[hr] at h8; cases h8
theorem W7 {n:zx.T} (hg:qw n=true) (hk:qf n=true):ar n<=16:=by
 unfold ar;unfold qf at hk;cases h:decide (aK n<0) with
 | true =>
  have h':=of_decide_eq_true h;rw[h] at hk;simp at hk;rw[decide_eq_false (show ¬aK n>=0 by omega)];simp only[cond_false];omega
 | false =>
  have h':=of_decide_eq_false h;rw[decide_eq_true (show aK n>=0 by omega)];simp only[cond_true];have hg:=ZV.1 hg;have:∀i:Nat,(get vg qu i).1<=(16:Int):=by
   intro i;rcases Nat.lt_or_ge i 17 with hi | hi
   ·have:∀j:Fin 17,(get vg qu j.1).1<=(16:Int):=by decide
    exact this ⟨i,hi⟩
   ·have:get vg qu i=Ty.dflt vg:=by
     unfold get;rw[List.getD_eq_getElem?_getD,List.getElem?_eq_none (by exact hi)];rfl
    rw[this]; decide
  have:aK n<=(16:Int):=this _;omega
theorem zgk (F:Nat) (hF:64<F) {R:Type} (k0:Int->Int->Option R) (k1:Int->yr.T->Option R) (L:List zx.T) (N:Int) (p:yr.T) (hp:p.2.1.length<=32):∀(xs:List zx.T) (i pile:Nat),pile+xs.length<4611686018427387904->
  yF.l8.rg F k0 (fun pile _ _ _ _ p=>k1 pile p) L N xs (i:Int) (pile:Int) p=match Vu p.2.1.length xs pile i with | some (j,e)=>k0 (j:Int) e | none=>k1 (UX xs pile:Int) p:=by
 intro xs;induction xs with
 | nil=>intro i pile h; rfl
 | cons n xs ih =>
  intro i pile h;simp only[List.length_cons] at h;simp only[yF.l8.rg];rw[node_eq F hF n (by omega)];simp only[zg,Vu,UX];cases he:(tm p.2.1.length n pile != 0) with
  | true=>rfl
  | false =>
   simp only[cond_false];have he:tm p.2.1.length n pile=0:=by simpa using he
   obtain ⟨h1,h2,h3,h4,h5,h6,h7,h8⟩:=uh he;have ha:=W7 h1 h4;rw[VI F h1 h4];simp only[zg];rw[zY (n:=1-(ar n:Int)) (by omega) (by omega),zY (by omega) (by omega)];rw[show (pile:Int)+(1-(ar n:Int))=((pile-ar n+1:Nat):Int) by omega];have:=ih (i+1) (pile-ar n+1) (by omega);rw[vj] at this;exact this
def um (p:yr.T):Int×Int :=
 bif YC p.1 p.2.1 p.2.2.1 != 0 then (-1,YC p.1 p.2.1 p.2.2.1) else bif decide ((p.2.2.2.length:Int)>1024) then (1024,2) else
 match Vu p.2.1.length p.2.2.2 0 0 with
 | some (j,e)=>((j:Int),e)
 | none=>bif ((UX p.2.2.2 0:Int) != 1) then ((p.2.2.2.length:Int),50) else (0,0)
theorem qW {name:ByteArray} {dims:List wV.T} {mode:Int} (h:YC name dims mode=0):1<=dims.length/\dims.length<=4/\dE [] dims=0/\Xi name.data.toList=true/\0<=mode/\mode<=4:=by
 unfold YC at h;cases h0:Xi name.data.toList with
 | false=>rw[h0] at h; exact absurd (show (61:Int)=0 from h) (by decide)
 | true =>
 rw[h0] at h;cases h1:decide ((dims.length:Int)<1) with
 | true=>rw[h1] at h; exact absurd (show (100:Int)=0 from h) (by decide)
 | false =>
 rw[h1] at h;cases h2:decide ((dims.length:Int)>4) with
 | true=>rw[h2] at h; exact absurd (show (100:Int)=0 from h) (by decide)
 | false =>
 rw[h2] at h;cases h3:(dE [] dims != 0) with
 | true=>rw[h3] at h; simp only[Bool.not_true,cond_false,cond_true] at h; rw[h] at h3; exact absurd h3 (by decide)
 | false =>
 rw[h3] at h;cases h4:decide (mode<0) with
 | true=>rw[h4] at h; exact absurd (show (50:Int)=0 from h) (by decide)
 | false =>
 rw[h4] at h;cases h5:decide (mode>4) with
 | true=>rw[h5] at h; exact absurd (show (50:Int)=0 from h) (by decide)
 | false =>
 have h1:=of_decide_eq_false h1;have h2:=of_decide_eq_false h2;have h4:=of_decide_eq_false h4;have h5:=of_decide_eq_false h5;refine ⟨by omega,by omega,by simpa using h3,rfl,by omega,by omega⟩
theorem Uh (F:Nat) (hF:2048<F) (p:yr.T):yF.sh F p=some (((um p).1,(um p).2,()),()):=by
 unfold yF.sh um;rw[head_eq F (by omega)];simp only[zg];cases h:(YC p.1 p.2.1 p.2.2.1 != 0) with
 | true=>rfl
 | false =>
  have hh:=qW (show YC p.1 p.2.1 p.2.2.1=0 by simpa using h);cases h1:decide ((p.2.2.2.length:Int)>1024) with
  | true=>rfl
  | false =>
   have h1:=of_decide_eq_false h1;simp only[cond_false];refine Eq.trans (yF.l8.rg_eq F _ _ p.2.2.2 _ rfl (by omega) p.2.2.2 0 F _ _ (by simp) (by omega)) ?_;refine (zgk F (by omega) (fun r24 r34=>(some ((r24,r34,()),()):Option yF.sg.R)) (fun pile5 p5=>bif (pile5 != 1) then some (((p5.2.2.2.length:Int),50,()),()) else some ((0,0,()),())) p.2.2.2 (p.2.2.2.length:Int) p (by omega) p.2.2.2 0 0 (by omega)).trans ?_;cases Vu p.2.1.length p.2.2.2 0 0 with
   | some x=>rfl
   | none=>cases hc:((UX p.2.2.2 0:Int) != 1)<;>simp only[cond_true,cond_false,hc]
inductive Tree:Type
 | nd:zx.T->List Tree->Tree
mutual
def Tree.fold {α:Type} (f:zx.T->List α->α):Tree->α
 | .nd n ks=>f n (Tree.foldL f ks)
def Tree.foldL {α:Type} (f:zx.T->List α->α):List Tree->List α
 | []=>[]
 | t::r=>Tree.fold f t::Tree.foldL f r
end
theorem Tree.foldL_map {α:Type} (f:zx.T->List α->α):∀l:List Tree,Tree.foldL f l=l.map (Tree.fold f)
 | []=>rfl
 | t::r=>by rw[Tree.foldL,Tree.foldL_map f r]; rfl
theorem Tree.fold_nd {α:Type} (f:zx.T->List α->α) (n:zx.T) (ks:List Tree):Tree.fold f (.nd n ks)=f n (ks.map (Tree.fold f)):=by
 rw[Tree.fold,Tree.foldL_map]
theorem Tree.ind {P:Tree->Prop} (h:∀n ks,(∀k∈ks,P k)->P (.nd n ks)) (t:Tree):P t :=
 Tree.rec (motive_1:=P) (motive_2:=fun l=>∀k∈l,P k) (fun n ks ih=>h n ks ih) (by simp) (fun t r h1 h2 k hk=>by
  rcases List.mem_cons.1 hk with rfl | hk
  ·exact h1
  ·exact h2 k hk) t
def Tree.root:Tree->zx.T | .nd n _=>n
def Tree.kids:Tree->List Tree | .nd _ ks=>ks
def Tree.flat:Tree->List zx.T:=Tree.fold (fun n ks=>ks.flatten++[n])
def yn (l:List Tree):List zx.T:=(l.map Tree.flat).flatten
theorem XL (n:zx.T) (ks:List Tree):Tree.flat (.nd n ks)=yn ks++[n]:=Tree.fold_nd _ n ks
def Tree.size (t:Tree):Nat:=t.flat.length
def VJ:Tree->Tree×List Tree:=Tree.fold (fun n ks=>(.nd n (ks.map (·.1)),(ks.map (·.2)).flatten++[.nd n (ks.map (·.1))]))
theorem zdD (t:Tree):(VJ t).1=t:=by
 refine Tree.ind (P:=fun t=>(VJ t).1=t) (fun n ks ih=>?_) t;unfold VJ at*;rw[Tree.fold_nd];simp only[List.map_map];congr 1
 exact (List.map_congr_left ih).trans (List.map_id' ks)
def Tree.subs (t:Tree):List Tree:=(VJ t).2
def tv (l:List Tree):List Tree:=(l.map Tree.subs).flatten
theorem Xr (n:zx.T) (ks:List Tree):Tree.subs (.nd n ks)=tv ks++[.nd n ks]:=by
 have:(ks.map (fun k=>(VJ k).1))=ks:=(List.map_congr_left (fun k _=>zdD k)).trans (List.map_id' ks);unfold Tree.subs tv;rw[VJ,Tree.fold_nd,<-VJ];simp only[List.map_map];rw[show ((fun x:Tree×List Tree=>x.1) ∘ VJ)=(fun k=>(VJ k).1) from rfl,this];rfl
theorem Wa (t:Tree):t.subs.length=t.flat.length:=by
 refine Tree.ind (P:=fun t=>t.subs.length=t.flat.length) (fun n ks ih=>?_) t;rw[Xr,XL];simp only[List.length_append,List.length_cons,List.length_nil,tv,yn,List.length_flatten,List.map_map];congr 2
 exact List.map_congr_left (fun k hk=>ih k hk)
def ve (st:List Tree) (n:zx.T):Tree:=.nd n (st.drop (st.length-ar n))
def uo (st:List Tree) (n:zx.T):List Tree:=st.take (st.length-ar n)++[ve st n]
def uC:List Tree->List zx.T->List Tree
 | _,[]=>[]
 | st,n::r=>ve st n::uC (uo st n) r
def Zs:List Tree->List zx.T->List Tree
 | st,[]=>st
 | st,n::r=>Zs (uo st n) r
def okS (dims:Nat):List Tree->List zx.T->Prop
 | _,[]=>True
 | st,n::r=>tm dims n st.length=0/\okS dims (uo st n) r
theorem RI {st:List Tree} {n:zx.T} (h:ar n<=st.length):(uo st n).length=st.length-ar n+1:=by
 simp[uo]
theorem zgj (dims:Nat):∀(xs:List zx.T) (st:List Tree) (i:Nat),Vu dims xs st.length i=none->okS dims st xs/\(Zs st xs).length=UX xs st.length
 | [],st,i,h=>⟨trivial,rfl⟩
 | n::r,st,i,h=>by
  simp only[Vu] at h;cases he:(tm dims n st.length != 0) with
  | true=>rw[he] at h; cases h
  | false =>
   rw[he] at h;have he:tm dims n st.length=0:=by simpa using he
   have hl:=RI (uh he).2.2.2.2.2.2.1;simp only[cond_false] at h;rw[<-hl] at h;have:=zgj dims r (uo st n) (i+1) h;refine ⟨⟨he,this.1⟩,?_⟩;rw[Zs,this.2,hl];rfl
theorem zfi (dims:Nat):∀(xs:List zx.T) (st:List Tree) (i:Nat),okS dims st xs->Vu dims xs st.length i=none/\UX xs st.length=(Zs st xs).length
 | [],st,i,h=>⟨rfl,rfl⟩
 | n::r,st,i,h=>by
  have hl:=RI (uh h.1).2.2.2.2.2.2.1;have:=zfi dims r (uo st n) (i+1) h.2;rw[hl] at this;simp only[Vu,h.1,UX,Zs];exact this
theorem tc (a b:List Tree):yn (a++b)=yn a++yn b:=by simp[yn]
theorem qN (t:Tree):yn [t]=t.flat:=by simp[yn]
theorem uR (st:List Tree) (n:zx.T):yn (uo st n)=yn st++[n]:=by
 unfold uo ve;rw[tc,qN,XL,<-List.append_assoc,<-tc,List.take_append_drop]
theorem Qg:∀(xs:List zx.T) (st:List Tree),yn (Zs st xs)=yn st++xs
 | [],st=>by simp[Zs]
 | n::r,st=>by rw[Zs,Qg r,uR]; simp
theorem WE (a b:List Tree):tv (a++b)=tv a++tv b:=by simp[tv]
theorem Xa (t:Tree):tv [t]=t.subs:=by simp[tv]
theorem T9 (st:List Tree) (n:zx.T):tv (uo st n)=tv st++[ve st n]:=by
 unfold uo;rw[WE,Xa,ve,Xr,<-List.append_assoc,<-WE,List.take_append_drop]
theorem Ry:∀(xs:List zx.T) (st:List Tree),tv (Zs st xs)=tv st++uC st xs
 | [],st=>by simp[Zs,uC]
 | n::r,st=>by rw[Zs,Ry r,T9,uC]; simp
theorem zbx {b st:List Tree} {n:zx.T} (h:ar n<=st.length):ve (b++st) n=ve st n/\uo (b++st) n=b++uo st n:=by
 have e:(b++st).length-ar n=b.length+(st.length-ar n):=by simp; omega
 have e1:ve (b++st) n=ve st n:=by
  unfold ve;rw[e,List.drop_append];simp
 refine ⟨e1,?_⟩;unfold uo;rw[e1,e,List.take_append,List.take_of_length_le (by omega)];simp
theorem zbQ {dims:Nat} {n:zx.T} {p q:Nat} (h:tm dims n p=0) (hq:p<=q):tm dims n q=0:=by
 have hh:=uh h;have h7:decide ((p:Int)<(ar n:Int))=false:=decide_eq_false (by have:=hh.2.2.2.2.2.2.1; omega);have h7':decide ((q:Int)<(ar n:Int))=false:=decide_eq_false (by have:=hh.2.2.2.2.2.2.1; omega);unfold tm at*;rw[h7] at h;rw[h7'];exact h
theorem frame (dims:Nat) (b:List Tree):∀(xs:List zx.T) (st:List Tree),okS dims st xs->okS dims (b++st) xs/\uC (b++st) xs=uC st xs/\Zs (b++st) xs=b++Zs st xs
 | [],st,h=>⟨trivial,rfl,rfl⟩
 | n::r,st,h=>by
  have hf:=zbx (b:=b) (uh h.1).2.2.2.2.2.2.1;have:=frame dims b r (uo st n) h.2;simp only[okS,uC,Zs,hf.1,hf.2];refine ⟨⟨zbQ h.1 (by simp),this.1⟩,?_,this.2.2⟩;rw[this.2.1]
theorem Xv (n:zx.T) (ks:List Tree):Tree.size (.nd n ks)=(yn ks).length+1:=by simp[Tree.size,XL]
theorem ZI (t:Tree):1<=t.size:=by
 cases t with
 | nd n ks=>rw[Xv]; omega
theorem ZW (t:Tree) (l:List Tree):yn (t::l)=t.flat++yn l:=by simp[yn]
theorem qL:∀st:List Tree,st.length<=(yn st).length
 | []=>by simp
 | t::r=>by
  have:=qL r;have:=ZI t;rw[ZW];simp only[List.length_append,List.length_cons];unfold Tree.size at this;omega
theorem uV {a:Nat} (h:a<=4194304):Nat.ble a vc=true:=by rw[Nat.ble_eq]; exact Nat.le_trans h (by decide)
theorem Yt {a b:Nat} (h:b<=a) (ha:a<4611686018427387904):i64.wrap ((a:Int)-(b:Int))=((a-b:Nat):Int):=by
 rw[zY (by omega) (by omega)]; omega
theorem Y9 {st:List Tree} {n:zx.T}:(ve st n).size+(yn (st.take (st.length-ar n))).length=(yn st).length+1:=by
 unfold ve;rw[Xv];have:yn st=yn (st.take (st.length-ar n))++yn (st.drop (st.length-ar n)):=by rw[<-tc,List.take_append_drop]
 have:=congrArg List.length this;simp only[List.length_append] at this;omega
def tH:Nat->List Tree->List Int
 | _,[]=>[]
 | b,t::r=>(b:Int)::tH (b+t.size) r
def Wn:Nat->List Tree->List Int
 | _,[]=>[]
 | i,t::r=>((i+1-t.size:Nat):Int)::Wn (i+1) r
theorem qS:∀(l:List Tree) (b:Nat),(tH b l).length=l.length
 | [],b=>rfl
 | t::r,b=>by simp[tH,qS r]
theorem SN:∀(l:List Tree) (b:Nat),(Wn b l).length=l.length
 | [],b=>rfl
 | t::r,b=>by simp[Wn,SN r]
theorem Xs:∀(a c:List Tree) (b:Nat),tH b (a++c)=tH b a++tH (b+(yn a).length) c
 | [],c,b=>by simp[tH,yn]
 | t::r,c,b=>by
  simp only[List.cons_append,tH,Xs r c,ZW,List.length_append];rw[show b+t.size+(yn r).length=b+(t.flat.length+(yn r).length) by unfold Tree.size; omega]
theorem zas (a:List Tree) (b m:Nat):(tH b a).take m=tH b (a.take m):=by
 have:tH b a=tH b (a.take m++a.drop m):=by rw[List.take_append_drop]
 rw[this,Xs,List.take_append];simp only[qS,List.length_take];rcases Nat.le_total m a.length with h | h
 ·rw[Nat.min_eq_left h,Nat.sub_self,List.take_zero,List.append_nil,List.take_of_length_le (by rw[qS,List.length_take]; omega)]
 ·rw[List.drop_of_length_le h]
  simp only[tH,List.take_nil,List.append_nil];rw[List.take_of_length_le (by rw[qS,List.length_take]; omega)]
theorem zat (st:List Tree) (n:zx.T):tH 0 (uo st n)=(tH 0 st).take (st.length-ar n)++[(((yn (st.take (st.length-ar n))).length:Nat):Int)]:=by
 unfold uo;rw[Xs,zas];simp only[tH,Nat.zero_add]
theorem zby {st:List Tree} {m:Nat} (h:m<st.length):(tH 0 st).getD m 0=(((yn (st.take m)).length:Nat):Int):=by
 have e:st=st.take m++st.drop m:=by rw[List.take_append_drop]
 have:tH 0 st=tH 0 (st.take m)++tH (0+(yn (st.take m)).length) (st.drop m):=by rw[<-Xs,List.take_append_drop]
 have hl:(tH 0 (st.take m)).length=m:=by rw[qS,List.length_take]; omega
 rw[List.getD_eq_getElem?_getD,this,List.getElem?_append_right (by omega),hl,Nat.sub_self];cases hd:st.drop m with
 | nil =>
  have:=congrArg List.length hd;simp at this;omega
 | cons t r=>simp[tH]
theorem zei (F:Nat) {R:Type} (dims:Nat) (k:List Int->Option R) (L:List zx.T) (N:Int):∀(xs:List zx.T) (st:List Tree) (list:List Int),okS dims st xs->(yn st).length+xs.length<=2048->list.length<=(yn st).length->
  yf.l3.rg F (fun _ _ _ _ list _=>k list) L N xs ((yn st).length:Int) list (tH 0 st)=k (list++Wn (yn st).length (uC st xs)):=by
 intro xs;induction xs with
 | nil=>intro st list h h2 h3; simp[yf.l3.rg,uC,Wn]
 | cons n xs ih =>
  intro st list h h2 h3;obtain ⟨g1,g2,g3,g4,g5,g6,g7,g8⟩:=uh h.1;have hst:=qL st;have hfs:=congrArg List.length (uR st n);have hts:=Y9 (st:=st) (n:=n);have htp:=ZI (ve st n);simp only[List.length_cons,List.length_append,List.length_nil] at h2 hfs;have IH:=ih (uo st n) (list++[(((yn st).length+1-(ve st n).size:Nat):Int)]) h.2 (by omega) (by simp; omega);have e1:(yn st).length+1-(ve st n).size=(yn (st.take (st.length-ar n))).length:=by omega
  rw[hfs,zat,<-e1] at IH;simp only[yf.l3.rg];rw[VI F g1 g4];simp only[zg,qS];rw[Yt g7 (by omega)];rw[ZD (by omega)];simp only[uC,Wn,Int.toNat_natCast];simp only[Nat.zero_add,List.append_assoc,List.singleton_append] at IH;rw[vj] at IH;cases hk:decide ((ar n:Int)>0) with
  | true =>
   have hk:=of_decide_eq_true hk;have hm:st.length-ar n<st.length:=by omega
   have e2:get (.int .i64) (tH 0 st) (st.length-ar n)=(((yn st).length+1-(ve st n).size:Nat):Int):=by rw[e1]; exact zby hm
   rw[xX hm,e2];simp only[cond_true];rw[uV (by simp[qS]; omega),uV (by simp; omega)];simp only[cond_true];exact IH
  | false =>
   have hk:=of_decide_eq_false hk;have hk0:ar n=0:=by omega
   have e2:(yn st).length+1-(ve st n).size=(yn st).length:=by
    rw[e1,hk0,Nat.sub_zero,List.take_length]
   simp only[cond_false];rw[uV (by simp; omega),uV (by simp; omega)];simp only[cond_true];rw[hk0,Nat.sub_zero,List.take_of_length_le (by rw[qS]; omega),e2] at IH;rw[e2];exact IH
def isQ (n:zx.T):Bool:=nK n==3||nK n==4
def noQ (t:Tree):Bool:=t.flat.all fun n=>!isQ n
def Yz:List zx.T->Int×Int->Int×Int
 | [],s=>s
 | n::r,s=>Yz r (s.1+1,bif isQ n then s.1 else s.2)
theorem WO:∀(a b:List zx.T) (s:Int×Int),Yz (a++b) s=Yz b (Yz a s)
 | [],b,s=>rfl
 | n::r,b,s=>WO r b _
theorem UP:∀(a:List zx.T) (s:Int×Int),(Yz a s).1=s.1+a.length
 | [],s=>by simp[Yz]
 | n::r,s=>by rw[Yz,UP r]; simp; omega
theorem zaZ:∀(c:List zx.T) (s:Int×Int) (b:Int),b<=s.1->(decide ((Yz c s).2<b)=((c.all fun n=>!isQ n)&&decide (s.2<b)))
 | [],s,b,h=>by rw[List.all_nil,Bool.true_and]; rfl
 | n::r,s,b,h=>by
  rw[Yz,zaZ r _ b (by simp; omega)];simp only[List.all_cons];cases hq:isQ n with
  | true =>
   have:decide (s.1<b)=false:=decide_eq_false (by omega);simp[this]
  | false=>simp
theorem zb0:∀(a:List zx.T) (s:Int×Int),s.2<s.1->(Yz a s).2<(Yz a s).1
 | [],s,h=>h
 | n::r,s,h=>by
  rw[Yz];refine zb0 r _ ?_;cases isQ n with
  | true=>simp only[cond_true]; omega
  | false=>simp only[cond_false]; omega
theorem noQ_top (st:List Tree) (n:zx.T):decide ((Yz (yn st++[n]) (0,-1)).2<(((yn st).length+1-(ve st n).size:Nat):Int))=noQ (ve st n):=by
 have hts:=Y9 (st:=st) (n:=n);have e1:(yn st).length+1-(ve st n).size=(yn (st.take (st.length-ar n))).length:=by omega
 have e2:yn st++[n]=yn (st.take (st.length-ar n))++(ve st n).flat:=by
  rw[<-uR]; unfold uo; rw[tc,qN]
 rw[e1,e2,WO];have h1:=UP (yn (st.take (st.length-ar n))) (0,-1);rw[zaZ _ _ _ (by rw[h1]; simp)];have h2:=zb0 (yn (st.take (st.length-ar n))) (0,-1) (by decide);rw[h1] at h2;simp only[Int.zero_add] at h2;rw[decide_eq_true h2,Bool.and_true];rfl
theorem zbf (F:Nat) {R:Type} (dims:Nat) (k:List Bool->Option R) (L:List zx.T) (N:Int) (list:List Int):∀(xs:List zx.T) (st:List Tree) (pre:List Int) (out:List Bool),okS dims st xs->(yn st).length+xs.length<=2048->
  list=pre++Wn (yn st).length (uC st xs)->pre.length=(yn st).length->out.length=(yn st).length->
  zV.l7.rg F (fun _ _ _ _ _ _ out=>k out) L N xs ((yn st).length:Int) list (Yz (yn st) (0,-1)).2 (out++List.replicate xs.length false)=k (out++(uC st xs).map noQ):=by
 intro xs;induction xs with
 | nil=>intro st pre out h h2 h3 h4 h5; simp[zV.l7.rg,uC]
 | cons n xs ih =>
  intro st pre out h h2 h3 h4 h5;have hfs:=congrArg List.length (uR st n);simp only[List.length_cons,List.length_append,List.length_nil] at h2 hfs;simp only[uC,Wn] at h3;have IH:=ih (uo st n) (pre++[(((yn st).length+1-(ve st n).size:Nat):Int)]) (out++[noQ (ve st n)]) h.2 (by omega) (by rw[h3,hfs]; simp) (by simp; omega) (by simp; omega);have hq:=noQ_top st n;rw[WO] at hq;have hl:=UP (yn st) (0,-1);simp only[Int.zero_add] at hl;rw[hfs,vj,uR,WO] at IH;simp only[Yz,hl] at IH hq;have hg:get (.int .i64) list (Int.toNat ((yn st).length:Int))=(((yn st).length+1-(ve st n).size:Nat):Int):=by
   rw[Int.toNat_natCast,get,h3,List.getD_eq_getElem?_getD,List.getElem?_append_right (by omega),h4,Nat.sub_self];rfl
  have hi1:idx ((yn st).length:Int) list.length=true:=xX (by rw[h3]; simp; omega);have hi2:idx ((yn st).length:Int) (out++List.replicate (n::xs).length false).length=true:=xX (by simp; omega);have hset:∀b:Bool,(out++List.replicate (n::xs).length false).set (Int.toNat ((yn st).length:Int)) b=(out++[b])++List.replicate xs.length false:=by
   intro b;rw[Int.toNat_natCast,List.set_append_right _ _ (by omega),h5,Nat.sub_self];simp[List.replicate_succ]
  simp only[zV.l7.rg,hi1,hi2,hset,cond_true,hg];simp only[uC,List.map_cons];simp only[List.append_assoc,List.singleton_append] at IH ⊢;cases h3':(nK n==3) with
  | true =>
   have hqq:isQ n=true:=by unfold isQ; rw[h3']; rfl
   rw[hqq] at IH hq;simp only[cond_true] at IH hq;rw[hq];exact IH
  | false =>
   cases h4':(nK n==4) with
   | true =>
    have hqq:isQ n=true:=by unfold isQ; rw[h3',h4']; rfl
    rw[hqq] at IH hq;simp only[cond_true] at IH hq;rw[hq];exact IH
   | false =>
    have hqq:isQ n=false:=by unfold isQ; rw[h3',h4']; rfl
    rw[hqq] at IH hq;simp only[cond_false] at IH hq;rw[hq];exact IH
def ZE (m:Int) (l:List Int):Int:=l.foldl (fun m x=>if x>m then x else m) m
def X5:List Int->Int
 | []=>0
 | a::r=>ZE a r
def wT:Tree->Int:=Tree.fold (fun n ks=>X5 ks+bif nK n==15 then 1 else 0)
theorem WT (n:zx.T) (ks:List Tree):wT (.nd n ks)=X5 (ks.map wT)+bif nK n==15 then 1 else 0:=Tree.fold_nd _ n ks
theorem QZ {b:Int}:∀(l:List Int) (m:Int),m<=b->(∀x∈l,x<=b)->ZE m l<=b
 | [],m,h,_=>h
 | x::r,m,h,hl=>by
  show ZE (if x>m then x else m) r<=b;refine QZ r _ ?_ (fun y hy=>hl y (by simp[hy]));have:=hl x (by simp);split<;>omega
theorem V3:∀(l:List Int) (m:Int),m<=ZE m l/\∀x∈l,x<=ZE m l
 | [],m=>⟨by simp[ZE],by simp⟩
 | x::r,m=>by
  have h:=V3 r (if x>m then x else m);have e:ZE m (x::r)=ZE (if x>m then x else m) r:=rfl;rw[e];have h0:m<=(if x>m then x else m)/\x<=(if x>m then x else m):=by split<;>omega
  refine ⟨by omega,fun y hy=>?_⟩;rcases List.mem_cons.1 hy with rfl | hy
  ·omega
  ·exact h.2 y hy
theorem zd2 {b:Int} {l:List Int} (hb:0<=b) (h:∀x∈l,x<=b):X5 l<=b:=by
 cases l with
 | nil=>exact hb
 | cons a r=>exact QZ r a (h a (by simp)) (fun x hx=>h x (by simp[hx]))
theorem TJ {l:List Int} (h0:∀x∈l,0<=x):0<=X5 l/\∀x∈l,x<=X5 l:=by
 cases l with
 | nil=>simp[X5]
 | cons a r =>
  have:=V3 r a;refine ⟨by have:=h0 a (by simp); simp only[X5]; omega,fun x hx=>?_⟩;rcases List.mem_cons.1 hx with rfl | hx
  ·exact this.1
  ·exact this.2 x hx
theorem SR {ks:List Tree} {k:Tree} (h:k∈ks):k.size<=(yn ks).length:=by
 obtain ⟨a,b,rfl⟩:=List.append_of_mem h;rw[tc,ZW];simp only[List.length_append,Tree.size];omega
theorem qZ (t:Tree):0<=wT t/\wT t<=t.size:=by
 refine Tree.ind (P:=fun t=>0<=wT t/\wT t<=t.size) (fun n ks ih=>?_) t;rw[WT,Xv];have h1:0<=X5 (ks.map wT):=(TJ (by simp only[List.mem_map]; rintro x ⟨k,hk,rfl⟩; exact (ih k hk).1)).1;have h2:X5 (ks.map wT)<=(yn ks).length:=zd2 (by omega) (by
  simp only[List.mem_map];rintro x ⟨k,hk,rfl⟩
  have:=(ih k hk).2;have:=SR hk;omega)
 cases nK n==15<;>simp only[cond_true,cond_false]<;>omega
theorem zfz (F:Nat) {R:Type} (k:Int->Option R) (X:List Int):∀(xs:List Int) (i m:Int),yi.l5.rg F (fun _ m _ _=>k m) X xs i m=k (ZE m xs)
 | [],i,m=>rfl
 | x::r,i,m=>by
  rw[yi.l5.rg,zfz F k X r];rfl
theorem max_eq (F:Nat) {l:List Int} (h:1<=l.length) (hF:l.length<F) (hL:l.length<4611686018427387904):yi.sh F l=some ((X5 l,()),()):=by
 unfold yi.sh;rw[decide_eq_false (show ¬(l.length:Int)<1 by omega),show idx 0 l.length=true from xX (i:=0) (by omega)];simp only[cond_false,cond_true];cases l with
 | nil=>simp at h
 | cons a r =>
  refine Eq.trans (yi.l5.rg_eq F _ (a::r) (by omega) r 1 F _ (by simp) (by simp at hF; omega)) ?_;exact zfz F (fun m=>(some ((m,()),()):Option yi.sg.R)) (a::r) r _ _
theorem zeN (F:Nat) (hF:4096<F) {R:Type} (dims:Nat) (k:List Int->Option R) (L:List zx.T) (N:Int):∀(xs:List zx.T) (st:List Tree) (i:Int),okS dims st xs->(yn st).length+xs.length<=2048->
  yq.l6.rg F (fun _ _ _ _ pile=>k pile) L N xs i (st.map wT)=k ((Zs st xs).map wT):=by
 intro xs;induction xs with
 | nil=>intro st i h h2; rfl
 | cons n xs ih =>
  intro st i h h2;obtain ⟨g1,g2,g3,g4,g5,g6,g7,g8⟩:=uh h.1;have hst:=qL st;have hfs:=congrArg List.length (uR st n);simp only[List.length_cons,List.length_append,List.length_nil] at h2 hfs;have IH:=ih (uo st n) (i+1) h.2 (by omega);have hbd:=qZ (ve st n);have hts:=Y9 (st:=st) (n:=n);have hstep:(uo st n).map wT=(st.map wT).take (st.length-ar n)++[wT (ve st n)]:=by
   unfold uo; simp[List.map_take]
  have hd:wT (ve st n)=X5 ((st.map wT).drop (st.length-ar n))+bif nK n==15 then 1 else 0:=by
   unfold ve; rw[WT,List.map_drop]
  rw[hstep] at IH;simp only[yq.l6.rg];rw[VI F g1 g4];simp only[zg];have hlen:(st.map wT).length=st.length:=by simp
  rw[hlen,Yt g7 (by omega),ZD (by omega),Za (by omega)];simp only[cond_true];rw[List.take_of_length_le (by rw[hlen]; omega:(st.map wT).length<=st.length)];cases hk:decide ((ar n:Int)>0) with
  | true =>
   have hk:=of_decide_eq_true hk;simp only[cond_true];rw[max_eq F (by rw[List.length_drop,hlen]; omega) (by rw[List.length_drop,hlen]; omega) (by rw[List.length_drop,hlen]; omega)];simp only[zg];cases h15:(nK n==15) with
   | true =>
    rw[h15] at hd;simp only[cond_true] at hd;simp only[cond_true];rw[zY (by omega) (by omega),<-hd,uV (by simp; omega)];exact IH
   | false =>
    rw[h15] at hd;simp only[cond_false,Int.add_zero] at hd;simp only[cond_false];rw[<-hd,uV (by simp; omega)];exact IH
  | false =>
   have hk:=of_decide_eq_false hk;have hk0:ar n=0:=by omega
   simp only[cond_false];rw[hk0,Nat.sub_zero,List.drop_of_length_le (by rw[hlen]; omega)] at hd;rw[hk0,Nat.sub_zero,List.take_of_length_le (by rw[hlen]; omega)] at IH;cases h15:(nK n==15) with
   | true =>
    rw[h15] at hd;simp only[cond_true];rw[uV (by simp; omega)];simp only[cond_true];rw[show i64.wrap (0+1)=wT (ve st n) by rw[hd]; rfl];exact IH
   | false =>
    rw[h15] at hd;simp only[cond_false];rw[uV (by simp; omega)];simp only[cond_true];rw[hd] at IH;exact IH
structure Good (p:yr.T) (t:Tree):Prop where
 head:YC p.1 p.2.1 p.2.2.1=0
 len:p.2.2.2.length<=1024
 ok:okS p.2.1.length [] p.2.2.2
 eq:Zs [] p.2.2.2=[t]
theorem Good.flat {p:yr.T} {t:Tree} (h:Good p t):t.flat=p.2.2.2:=by
 have:=Qg p.2.2.2 [];rw[h.eq,qN] at this;simpa [yn] using this
theorem Good.subs {p:yr.T} {t:Tree} (h:Good p t):uC [] p.2.2.2=t.subs:=by
 have:=Ry p.2.2.2 [];rw[h.eq,Xa] at this;simpa [tv] using this.symm
theorem zgl {p:yr.T} (h:(um p).2=0):∃t,Good p t:=by
 unfold um at h;cases h1:(YC p.1 p.2.1 p.2.2.1 != 0) with
 | true =>
  rw[h1] at h;simp only[cond_true] at h;rw[h] at h1;cases h1
 | false =>
  rw[h1] at h;have h1:YC p.1 p.2.1 p.2.2.1=0:=by simpa using h1
  cases h2:decide ((p.2.2.2.length:Int)>1024) with
  | true=>rw[h2] at h; exact absurd (show (2:Int)=0 from h) (by decide)
  | false =>
   rw[h2] at h;have h2:=of_decide_eq_false h2;simp only[cond_false] at h;cases h3:Vu p.2.1.length p.2.2.2 0 0 with
   | some x =>
    rw[h3] at h;have hne:∀(xs:List zx.T) (pile i:Nat),Vu p.2.1.length xs pile i=some x->x.2≠0:=by
     intro xs;induction xs with
     | nil=>intro pile i h; cases h
     | cons n r ih =>
      intro pile i h;simp only[Vu] at h;cases he:(tm p.2.1.length n pile != 0) with
      | true =>
       rw[he] at h;simp only[cond_true,Option.some.injEq] at h;rw[<-h];simpa using he
      | false=>rw[he] at h; exact ih _ _ h
    exact absurd h (hne _ _ _ h3)
   | none =>
    rw[h3] at h;have:=zgj p.2.1.length p.2.2.2 [] 0 h3;cases h4:((UX p.2.2.2 0:Int) != 1) with
    | true=>rw[h4] at h; exact absurd (show (50:Int)=0 from h) (by decide)
    | false =>
     have h4:(UX p.2.2.2 0:Int)=1:=by simpa using h4
     have hl:(Zs [] p.2.2.2).length=1:=by rw[this.2]; simp only[List.length_nil]; omega
     obtain ⟨t,ht⟩:=List.length_eq_one_iff.1 hl;exact ⟨t,h1,by omega,this.1,ht⟩
theorem Good.check {p:yr.T} {t:Tree} (h:Good p t):um p=(0,0):=by
 unfold um;have:=zfi p.2.1.length p.2.2.2 [] 0 h.ok;rw[h.eq] at this;simp only[List.length_nil,List.length_cons] at this;rw[h.head,this.1,this.2,decide_eq_false (by have:=h.len; omega)];rfl
theorem zeC (F:Nat) (hF:4096<F) {p:yr.T} {t:Tree} (h:Good p t):vA.sh F p=some ((Wn 0 t.subs,0,()),()):=by
 unfold vA.sh yf.sh;rw[Uh F (by omega),h.check];have hl:=h.len;have e:=Eq.trans (yf.l3.rg_eq F (fun _ _ _ _ list2 _=>yf.j13 F (fun r23=>(some ((r23,()),()):Option yf.sg.R)) list2) p.2.2.2 _ rfl (by omega) p.2.2.2 0 F [] [] (by simp) (by omega))
  (zei F p.2.1.length (fun list=>some ((list,()),())) p.2.2.2 (p.2.2.2.length:Int) p.2.2.2 [] [] h.ok (by simp[yn]; omega) (by simp))
 rw[h.subs] at e;have e:yf.l3 F (fun _ _ _ _ list2 _=>yf.j13 F (fun r23=>(some ((r23,()),()):Option yf.sg.R)) list2) F p.2.2.2 (p.2.2.2.length:Int) 0 [] []=some ((Wn 0 t.subs,()),()):=e;rw[e];rfl
theorem zbp (F:Nat) (hF:4096<F) {p:yr.T} {t:Tree} (h:Good p t):zV.sh F p=some ((t.subs.map noQ,0,()),()):=by
 unfold zV.sh;rw[zeC F hF h];simp only[zg,bne_self_eq_false,cond_false];have hl:=h.len;have hn:t.subs.length=p.2.2.2.length:=by rw[Wa,h.flat]
 have hz:(decide (0<=((Wn 0 t.subs).length:Int))&&decide (((Wn 0 t.subs).length:Int)<=((Wn 0 t.subs).length:Int))&&decide (((Wn 0 t.subs).length:Int)<=(vc:Int)))=true:=by
  have:vc=1099511627776:=rfl;rw[SN,this];simp;omega
 rw[hz];simp only[cond_true];have e:=Eq.trans (zV.l7.rg_eq F (fun _ _ _ _ _ _ out2=>zV.j13 F (fun r23 r33=>(some ((r23,r33,()),()):Option zV.sg.R)) out2) p.2.2.2 _ rfl (by omega) p.2.2.2 0 F (Wn 0 t.subs) (-1) (Z3 .bool p.2.2.2.length) (by simp) (by omega))
  (zbf F p.2.1.length (fun out=>some ((out,0,()),())) p.2.2.2 (p.2.2.2.length:Int) (Wn 0 t.subs) p.2.2.2 [] [] [] h.ok (by simp[yn]; omega) (by rw[h.subs]; rfl) rfl rfl)
 rw[h.subs] at e;rw[show ((Wn 0 t.subs).length:Int).toNat=p.2.2.2.length by rw[SN,hn]; rfl];exact e
theorem zbn (F:Nat) (hF:4096<F) {p:yr.T} {t:Tree} (h:Good p t):yq.sh F p=some ((wT t,0,()),()):=by
 unfold yq.sh;rw[Uh F (by omega),h.check];have hl:=h.len;have e:=Eq.trans (yq.l6.rg_eq F (fun _ _ _ _ pile4=>yq.j17 F (fun r25 r35=>(some ((r25,r35,()),()):Option yq.sg.R)) pile4) p.2.2.2 _ rfl (by omega) p.2.2.2 0 F [] (by simp) (by omega))
  (zeN F hF p.2.1.length (fun pile=>yq.j17 F (fun r25 r35=>(some ((r25,r35,()),()):Option yq.sg.R)) pile) p.2.2.2 (p.2.2.2.length:Int) p.2.2.2 [] 0 h.ok (by simp[yn]; omega))
 rw[h.eq] at e;exact e
def qH (t:Int):Bool:=decide (t>=2)
def Y2:List Int->Int
 | []=>-1
 | a::r=>bif r.all (fun x=>x==a) then a else -1
def U9 (a b:Int):Int :=
 bif a==0 then b else bif b==0 then a else bif qH a&&b==1 then 1 else bif qH b&&a==1 then 1 else -1
def tyN (n:zx.T) (ks:List Int):Int :=
 bif nK n==1 then 0 else bif nK n==2 then 1 else bif nK n==3 then 2+2*nN n else bif nK n==4 then 3+2*nN n
 else bif nK n==8 then U9 (ks.getD 0 0) (ks.getD 1 0)
 else bif nK n==11||nK n==12 then (bif qH (ks.getD 0 0) then ks.getD 0 0 else -1)
 else bif nK n==13||nK n==14 then (bif qH (ks.getD 0 0) then 1 else -1)
 else bif nK n==15 then (bif ks.getD 0 0==1 then 1 else -1)
 else bif nK n==16 then (bif qH (ks.getD 0 0) then Y2 (ks.drop 1) else -1)
 else Y2 ks
def ty:Tree->Int:=Tree.fold tyN
theorem Y6 (n:zx.T) (ks:List Tree):ty (.nd n ks)=tyN n (ks.map ty):=Tree.fold_nd _ n ks
def zaX (n:zx.T) (fs:List Bool):Bool:=nK n==8&&(!fs.getD 0 false&&!fs.getD 1 false)
def tyE (t:Tree):Int:=bif ty t == -1 then 80 else bif zaX t.root (t.kids.map noQ) then 81 else 0
def ud (E:Tree->Int):List Tree->Nat->Option (Nat×Int)
 | [],_=>none
 | t::r,i=>bif E t != 0 then some (i,E t) else ud E r (i+1)
theorem zfh {a:Int}:∀(r:List Int),(a::r).all (fun x=>x==a)=r.all (fun x=>x==a):=by intro r; simp
theorem zff (F:Nat) {R:Type} (k:Int->Option R) (k1:Int->xM.T->Option R) (L:List Int) (N:Int) (n:xM.T) (fr:Nat) (a:Int) (hfr:fr<n.2.1.length) (ha:get (.int .i64) n.2.1 fr=a):∀(xs:List Int) (i:Int),
  ya.l2.rg F k (fun fr _ _ _ _ n=>k1 fr n) L N xs i (fr:Int) n=bif xs.all (fun x=>x==a) then k1 fr n else k (-1)
 | [],i=>rfl
 | x::r,i=>by
  rw[ya.l2.rg,zff F k k1 L N n fr a hfr ha r,xX hfr,Int.toNat_natCast,ha];simp only[cond_true,List.all_cons];cases hx:(x==a) with
  | true=>simp only[bne,hx,Bool.not_true,cond_false,Bool.true_and]
  | false=>simp only[bne,hx,Bool.not_false,cond_true,Bool.false_and,cond_false]
theorem zfg (F:Nat) (hF:64<F) (n:zx.T) (ks:List Int) (fx:List Bool) {fr:Nat} (h:fr<ks.length) (hl:ks.length<=32):ya.sh F (n,ks,fx) (fr:Int)=some ((Y2 (ks.drop fr),()),()):=by
 unfold ya.sh;simp only[];rw[Za (by omega)];simp only[cond_true];rw[List.take_length];refine Eq.trans (ya.l2.rg_eq F _ _ (ks.drop fr) _ rfl (by simp; omega) (ks.drop fr) 0 F _ _ (by simp) (by simp; omega)) ?_;refine (zff F (fun r41=>(some ((r41,()),()):Option ya.sg.R)) (fun fr n2=>bif idx fr n2.2.1.length then some ((get (.int .i64) n2.2.1 fr.toNat,()),()) else none) (ks.drop fr) _ (n,ks,fx) fr (get (.int .i64) ks fr) h rfl (ks.drop fr) _).trans ?_;simp only[];rw[xX h,Int.toNat_natCast];have hd:ks.drop fr=get (.int .i64) ks fr::ks.drop (fr+1):=by
  rw[List.drop_eq_getElem_cons h];congr 1
  unfold get;rw[List.getD_eq_getElem?_getD,List.getElem?_eq_getElem h];rfl
 rw[hd,zfh];simp only[Y2];cases (ks.drop (fr+1)).all (fun x=>x==get (.int .i64) ks fr)<;>rfl
theorem YK {n:Nat} (h:1<=n):idx 0 n=true:=xX (i:=0) (by omega)
theorem idx1 {n:Nat} (h:2<=n):idx 1 n=true:=xX (i:=1) (by omega)
theorem Wv (F:Nat) (hF:64<F) (n:zx.T) (ks:List Int) (fx:List Bool) (h:1<=ks.length) (hl:ks.length<=32):xE.sh F (n,ks,fx)=some ((Y2 ks,()),()):=by
 unfold xE.sh;rw[show (0:Int)=((0:Nat):Int) from rfl,zfg F hF n ks fx (by omega) hl];rfl
theorem zbM (F:Nat) (n:zx.T) (ks:List Int) (fx:List Bool) (h:2<=ks.length):xL.sh F (n,ks,fx)=some ((U9 (ks.getD 0 0) (ks.getD 1 0),()),()):=by
 unfold xL.sh wA.sh U9 qH;simp only[zg];rw[YK (by omega),idx1 (by omega)];simp only[cond_true];rw[show get (.int .i64) ks 0=ks.getD 0 0 from rfl,show get (.int .i64) ks 1=ks.getD 1 0 from rfl];cases (ks.getD 0 0==0) with
 | true=>rfl
 | false =>
  cases (ks.getD 1 0==0) with
  | true=>rfl
  | false=>cases decide (ks.getD 0 0>=2)<;>cases decide (ks.getD 1 0>=2)<;>cases (ks.getD 0 0==1)<;>cases (ks.getD 1 0==1)<;>rfl
theorem S5 (F:Nat) (n:zx.T) (ks:List Int) (fx:List Bool) (h:1<=ks.length):xB.sh F (n,ks,fx)=some ((bif qH (ks.getD 0 0) then ks.getD 0 0 else -1,()),()):=by
 unfold xB.sh wA.sh qH;simp only[zg];rw[YK (by omega)];simp only[cond_true];rw[show get (.int .i64) ks 0=ks.getD 0 0 from rfl];cases decide (ks.getD 0 0>=2)<;>rfl
theorem RR (F:Nat) (n:zx.T) (ks:List Int) (fx:List Bool) (h:1<=ks.length):xQ.sh F (n,ks,fx)=some ((bif qH (ks.getD 0 0) then 1 else -1,()),()):=by
 unfold xQ.sh wA.sh qH;simp only[zg];rw[YK (by omega)];simp only[cond_true];rw[show get (.int .i64) ks 0=ks.getD 0 0 from rfl];cases decide (ks.getD 0 0>=2)<;>rfl
theorem off_eq (F:Nat) (n:zx.T) (ks:List Int) (fx:List Bool) (h:1<=ks.length):wN.sh F (n,ks,fx)=some ((bif ks.getD 0 0==1 then 1 else -1,()),()):=by
 unfold wN.sh;rw[YK (by omega)];simp only[cond_true];rw[show get (.int .i64) ks 0=ks.getD 0 0 from rfl];cases (ks.getD 0 0==1)<;>rfl
theorem test_eq (F:Nat) (hF:64<F) (n:zx.T) (ks:List Int) (fx:List Bool) (h:2<=ks.length) (hl:ks.length<=32):wD.sh F (n,ks,fx)=some ((bif qH (ks.getD 0 0) then Y2 (ks.drop 1) else -1,()),()):=by
 unfold wD.sh wA.sh qH;simp only[zg];rw[YK (by omega)];simp only[cond_true];rw[show get (.int .i64) ks 0=ks.getD 0 0 from rfl];have:=zfg F hF n ks fx (fr:=1) (by omega) hl;rw[show (((1:Nat):Int))=1 from rfl] at this;rw[this];cases decide (ks.getD 0 0>=2)<;>rfl
theorem qP {n:zx.T} (h:qw n=true):nK n=1\/nK n=2\/nK n=3\/nK n=4\/nK n=5\/nK n=6\/nK n=7\/nK n=8\/nK n=9\/nK n=10\/nK n=11\/nK n=12\/nK n=13\/nK n=14\/nK n=15\/nK n=16:=by
 have:=ZV.1 h;omega
theorem vq {n:zx.T} {k:Int} (h:nK n=k):ar n=bif decide ((get vg qu k.toNat).1>=0) then (get vg qu k.toNat).1.toNat else (nC n).toNat:=by
 unfold ar aK ZY;rw[h]
theorem XG {n:zx.T} {k:Int} (h:nK n=k):qf n=bif decide ((get vg qu k.toNat).1<0) then decide (nC n>=2)&&decide (nC n<=16) else nC n==0:=by
 unfold qf aK ZY;rw[h]
theorem Zm {n:zx.T} {k:Int} (h:nK n=k) (dims:Nat):Wg n dims=bif decide ((get vg qu k.toNat).2.1<0) then (dims:Int)-1 else (get vg qu k.toNat).2.1:=by
 unfold Wg ZY;rw[h]
theorem rule_eq (F:Nat) (hF:64<F) {dims:Nat} (hd:dims<=4) {n:zx.T} {pile:Nat} (h:tm dims n pile=0) :
  ∃r c,vH.sh F (nK n)=some ((r,c,()),())/\(bif decide (c<0) then nC n else c)=(ar n:Int) /\
   ∀(ks:List Int) (fx:List Bool),ks.length=ar n->zE.d63 F r ((n,ks,fx),())=some ((tyN n ks,()),()):=by
 obtain ⟨g1,g2,g3,g4,g5,g6,g7,g8⟩:=uh h;have ha:=W7 g1 g4;rcases qP g1 with h | h | h | h | h | h | h | h | h | h | h | h | h | h | h | h
 ·exact ⟨uW,0,by rw[h]; rfl,by rw[vq h]; rfl,fun ks fx hk=>by unfold tyN; rw[h]; rfl⟩
 ·exact ⟨ta,0,by rw[h]; rfl,by rw[vq h]; rfl,fun ks fx hk=>by unfold tyN; rw[h]; rfl⟩
 ·rw[Zm h] at g3
  have g3:nN n<=(dims:Int)-1:=g3;refine ⟨ur,0,by rw[h]; rfl,by rw[vq h]; rfl,fun ks fx hk=>?_⟩;refine Eq.trans (show zE.d63 F ur ((n,ks,fx),())=xH.sh F (n,ks,fx) from rfl) ?_;unfold xH.sh tyN;rw[h,zY (n:=2*nN n) (by omega) (by omega),zY (n:=2+2*nN n) (by omega) (by omega)];rfl
 ·rw[Zm h] at g3
  have g3:nN n<=(dims:Int)-1:=g3;refine ⟨uD,0,by rw[h]; rfl,by rw[vq h]; rfl,fun ks fx hk=>?_⟩;refine Eq.trans (show zE.d63 F uD ((n,ks,fx),())=x9.sh F (n,ks,fx) from rfl) ?_;unfold x9.sh tyN;rw[h,zY (n:=2*nN n) (by omega) (by omega),zY (n:=3+2*nN n) (by omega) (by omega)];rfl
 ·have e:ar n=1:=by rw[vq h]; rfl
  refine ⟨yI,1,by rw[h]; rfl,by rw[e]; rfl,fun ks fx hk=>?_⟩;refine Eq.trans (show zE.d63 F yI ((n,ks,fx),())=xE.sh F (n,ks,fx) from rfl) ?_;rw[Wv F hF n ks fx (by omega) (by omega)];unfold tyN; rw[h]; rfl
 ·have e:ar n=2:=by rw[vq h]; rfl
  refine ⟨yI,2,by rw[h]; rfl,by rw[e]; rfl,fun ks fx hk=>?_⟩;refine Eq.trans (show zE.d63 F yI ((n,ks,fx),())=xE.sh F (n,ks,fx) from rfl) ?_;rw[Wv F hF n ks fx (by omega) (by omega)];unfold tyN; rw[h]; rfl
 ·have e:ar n=2:=by rw[vq h]; rfl
  refine ⟨yI,2,by rw[h]; rfl,by rw[e]; rfl,fun ks fx hk=>?_⟩;refine Eq.trans (show zE.d63 F yI ((n,ks,fx),())=xE.sh F (n,ks,fx) from rfl) ?_;rw[Wv F hF n ks fx (by omega) (by omega)];unfold tyN; rw[h]; rfl
 ·have e:ar n=2:=by rw[vq h]; rfl
  refine ⟨uy,2,by rw[h]; rfl,by rw[e]; rfl,fun ks fx hk=>?_⟩;refine Eq.trans (show zE.d63 F uy ((n,ks,fx),())=xL.sh F (n,ks,fx) from rfl) ?_;rw[zbM F n ks fx (by omega)];unfold tyN; rw[h]; rfl
 ·rw[XG h] at g4
  have g4:(decide (nC n>=2)&&decide (nC n<=16))=true:=g4;simp at g4;have e:ar n=(nC n).toNat:=by rw[vq h]; rfl
  refine ⟨yI,-1,by rw[h]; rfl,?_,fun ks fx hk=>?_⟩
  ·rw[e]; rw[decide_eq_true (show (-1:Int)<0 by omega)]; simp only[cond_true]; omega
  refine Eq.trans (show zE.d63 F yI ((n,ks,fx),())=xE.sh F (n,ks,fx) from rfl) ?_;rw[Wv F hF n ks fx (by omega) (by omega)];unfold tyN; rw[h]; rfl
 ·rw[XG h] at g4
  have g4:(decide (nC n>=2)&&decide (nC n<=16))=true:=g4;simp at g4;have e:ar n=(nC n).toNat:=by rw[vq h]; rfl
  refine ⟨yI,-1,by rw[h]; rfl,?_,fun ks fx hk=>?_⟩
  ·rw[e]; rw[decide_eq_true (show (-1:Int)<0 by omega)]; simp only[cond_true]; omega
  refine Eq.trans (show zE.d63 F yI ((n,ks,fx),())=xE.sh F (n,ks,fx) from rfl) ?_;rw[Wv F hF n ks fx (by omega) (by omega)];unfold tyN; rw[h]; rfl
 ·have e:ar n=1:=by rw[vq h]; rfl
  refine ⟨w9,1,by rw[h]; rfl,by rw[e]; rfl,fun ks fx hk=>?_⟩;refine Eq.trans (show zE.d63 F w9 ((n,ks,fx),())=xB.sh F (n,ks,fx) from rfl) ?_;rw[S5 F n ks fx (by omega)];unfold tyN; rw[h]; rfl
 ·have e:ar n=1:=by rw[vq h]; rfl
  refine ⟨w9,1,by rw[h]; rfl,by rw[e]; rfl,fun ks fx hk=>?_⟩;refine Eq.trans (show zE.d63 F w9 ((n,ks,fx),())=xB.sh F (n,ks,fx) from rfl) ?_;rw[S5 F n ks fx (by omega)];unfold tyN; rw[h]; rfl
 ·have e:ar n=1:=by rw[vq h]; rfl
  refine ⟨vf,1,by rw[h]; rfl,by rw[e]; rfl,fun ks fx hk=>?_⟩;refine Eq.trans (show zE.d63 F vf ((n,ks,fx),())=xQ.sh F (n,ks,fx) from rfl) ?_;rw[RR F n ks fx (by omega)];unfold tyN; rw[h]; rfl
 ·have e:ar n=1:=by rw[vq h]; rfl
  refine ⟨vf,1,by rw[h]; rfl,by rw[e]; rfl,fun ks fx hk=>?_⟩;refine Eq.trans (show zE.d63 F vf ((n,ks,fx),())=xQ.sh F (n,ks,fx) from rfl) ?_;rw[RR F n ks fx (by omega)];unfold tyN; rw[h]; rfl
 ·have e:ar n=1:=by rw[vq h]; rfl
  refine ⟨uZ,1,by rw[h]; rfl,by rw[e]; rfl,fun ks fx hk=>?_⟩;refine Eq.trans (show zE.d63 F uZ ((n,ks,fx),())=wN.sh F (n,ks,fx) from rfl) ?_;rw[off_eq F n ks fx (by omega)];unfold tyN; rw[h]; rfl
 ·have e:ar n=3:=by rw[vq h]; rfl
  refine ⟨uU,3,by rw[h]; rfl,by rw[e]; rfl,fun ks fx hk=>?_⟩;refine Eq.trans (show zE.d63 F uU ((n,ks,fx),())=wD.sh F (n,ks,fx) from rfl) ?_;rw[test_eq F hF n ks fx (by omega) (by omega)];unfold tyN; rw[h]; rfl
theorem TL {α β:Type} {f:α->β} {d:β} {l:List α} {m j:Nat}:(l.map f).getD (m+j) d=((l.drop m).map f).getD j d:=by
 rw[List.map_drop,List.getD_eq_getElem?_getD,List.getD_eq_getElem?_getD,List.getElem?_drop]
theorem zeI (F:Nat) (hF:64<F) {R:Type} {dims:Nat} (hd:dims<=4) (kE:List Int->Int->Int->Option R) (kO:List Int->List Int->Option R) (L:List zx.T) (N:Int) (fixed:List Bool):∀(xs:List zx.T) (st:List Tree) (pre:List Bool) (types:List Int),
  okS dims st xs->(yn st).length+xs.length<=2048->fixed=pre++(uC st xs).map noQ->pre.length=(yn st).length->types.length=(yn st).length->
  zE.l8.rg F kE kE (fun _ _ _ _ _ types pile _=>kO types pile) L N xs ((yn st).length:Int) fixed types (st.map ty) (st.map noQ) =
   match ud tyE (uC st xs) (yn st).length with
   | some (j,e)=>kE [] (j:Int) e
   | none=>kO (types++(uC st xs).map ty) ((Zs st xs).map ty):=by
 intro xs;induction xs with
 | nil=>intro st pre types h h2 h3 h4 h5; simp[zE.l8.rg,uC,ud,Zs]
 | cons n xs ih =>
  intro st pre types h h2 h3 h4 h5;obtain ⟨g1,g2,g3,g4,g5,g6,g7,g8⟩:=uh h.1;have hst:=qL st;have hfs:=congrArg List.length (uR st n);simp only[List.length_cons,List.length_append,List.length_nil] at h2 hfs;simp only[uC,List.map_cons] at h3;have IH:=ih (uo st n) (pre++[noQ (ve st n)]) (types++[ty (ve st n)]) h.2 (by omega) (by rw[h3]; simp) (by simp; omega) (by simp; omega);have hst1:(uo st n).map ty=(st.map ty).take (st.length-ar n)++[ty (ve st n)]:=by unfold uo; simp[List.map_take]
  have hst2:(uo st n).map noQ=(st.map noQ).take (st.length-ar n)++[noQ (ve st n)]:=by unfold uo; simp[List.map_take]
  rw[hst1,hst2,hfs] at IH;obtain ⟨r,c,q1,q2,q3⟩:=rule_eq F hF hd h.1;have hl1:(st.map ty).length=st.length:=by simp
  have hl2:(st.map noQ).length=st.length:=by simp
  have hgf:get .bool fixed (Int.toNat ((yn st).length:Int))=noQ (ve st n):=by
   rw[Int.toNat_natCast,get,h3,List.getD_eq_getElem?_getD,List.getElem?_append_right (by omega),h4,Nat.sub_self];rfl
  have hif:idx ((yn st).length:Int) fixed.length=true:=xX (by rw[h3]; simp; omega);have ht:=q3 ((st.map ty).drop (st.length-ar n)) ((st.map noQ).drop (st.length-ar n)) (by simp; omega);have hty:tyN n ((st.map ty).drop (st.length-ar n))=ty (ve st n):=by unfold ve; rw[Y6,List.map_drop]
  rw[hty] at ht;have hE:tyE (ve st n)=bif ty (ve st n) == -1 then 80 else bif zaX n ((st.map noQ).drop (st.length-ar n)) then 81 else 0:=by
   rw[<-List.map_drop]; rfl
  have hm:st.length-ar n<=st.length:=by omega
  have hb1:=Za hm;have hb2:=ZD hm;have ew:=Yt g7 (by omega);have htk1:(st.map ty).take st.length=st.map ty:=List.take_of_length_le (by omega);have htk2:(st.map noQ).take st.length=st.map noQ:=List.take_of_length_le (by omega);have hbl1:∀y,Nat.ble (types.length+([y]:List Int).length) vc=true:=fun y=>uV (by simp; omega)
  have hbl2:∀y,Nat.ble (st.length-ar n+([y]:List Int).length) vc=true:=fun y=>uV (by simp; omega)
  have hbl3:∀y,Nat.ble (st.length-ar n+([y]:List Bool).length) vc=true:=fun y=>uV (by simp; omega)
  simp only[List.append_assoc,List.singleton_append] at IH;rw[vj] at IH;have h8a:(nK n==8)=true->ar n=2:=fun h=>by rw[vq (by simpa using h)]; rfl
  simp only[zE.l8.rg];rw[q1];simp only[zg];simp only[uC,ud,hE];generalize ar n=a at*;cases hc:decide (c<0) with
  | true =>
   rw[hc] at q2;have q2:n.2.2.2.1=(a:Int):=q2;simp only[cond_true,q2,hl1,hl2,ew,hb1,hb2,htk1,htk2];rw[ht];simp only[zg];cases hn:(ty (ve st n) == -1) with
   | true=>rfl
   | false =>
    simp only[cond_false,hbl1,hbl2,hbl3,hif,hgf,cond_true,zaX];cases h8:(nK n==8) with
    | true =>
     have h8:=h8a h8;have hi1:idx ((st.length-a:Nat):Int) st.length=true:=xX (by omega);have hi2:idx ((st.length-a+1:Nat):Int) st.length=true:=xX (by omega);have ew2:i64.wrap (((st.length-a:Nat):Int)+1)=((st.length-a+1:Nat):Int):=by rw[zY (by omega) (by omega)]; omega
     have hg0:get .bool (st.map noQ) (st.length-a)=((st.map noQ).drop (st.length-a)).getD 0 false:=by rw[<-List.map_drop]; exact TL (j:=0)
     have hg1:get .bool (st.map noQ) (st.length-a+1)=((st.map noQ).drop (st.length-a)).getD 1 false:=by rw[<-List.map_drop]; exact TL (j:=1)
     simp only[hi1,hi2,ew2,cond_true,Int.toNat_natCast,hg0,hg1,Bool.true_and];cases ((st.map noQ).drop (st.length-a)).getD 0 false with
     | true=>exact IH
     | false =>
      cases ((st.map noQ).drop (st.length-a)).getD 1 false with
      | true=>exact IH
      | false=>rfl
    | false=>exact IH
  | false =>
   rw[hc] at q2;have q2:c=(a:Int):=q2;simp only[cond_false,cond_true,q2,hl1,hl2,ew,hb1,hb2,htk1,htk2];rw[ht];simp only[zg];cases hn:(ty (ve st n) == -1) with
   | true=>rfl
   | false =>
    simp only[cond_false,hbl1,hbl2,hbl3,hif,hgf,cond_true,zaX];cases h8:(nK n==8) with
    | true =>
     have h8:=h8a h8;have hi1:idx ((st.length-a:Nat):Int) st.length=true:=xX (by omega);have hi2:idx ((st.length-a+1:Nat):Int) st.length=true:=xX (by omega);have ew2:i64.wrap (((st.length-a:Nat):Int)+1)=((st.length-a+1:Nat):Int):=by rw[zY (by omega) (by omega)]; omega
     have hg0:get .bool (st.map noQ) (st.length-a)=((st.map noQ).drop (st.length-a)).getD 0 false:=by rw[<-List.map_drop]; exact TL (j:=0)
     have hg1:get .bool (st.map noQ) (st.length-a+1)=((st.map noQ).drop (st.length-a)).getD 1 false:=by rw[<-List.map_drop]; exact TL (j:=1)
     simp only[hi1,hi2,ew2,cond_true,Int.toNat_natCast,hg0,hg1,Bool.true_and];cases ((st.map noQ).drop (st.length-a)).getD 0 false with
     | true=>exact IH
     | false =>
      cases ((st.map noQ).drop (st.length-a)).getD 1 false with
      | true=>exact IH
      | false=>rfl
    | false=>exact IH
def qB (t:Tree):List Int×Int×Int :=
 match ud tyE t.subs 0 with
 | some (j,e)=>([],(j:Int),e)
 | none=>bif ty t != 1 then ([],(t.size:Int)-1,80) else (t.subs.map ty,0,0)
theorem zgE (F:Nat) (hF:4096<F) {p:yr.T} {t:Tree} (h:Good p t):zE.sh F p=some (((qB t).1,(qB t).2.1,(qB t).2.2,()),()):=by
 unfold zE.sh;rw[Uh F (by omega),h.check,zbp F hF h];simp only[zg,bne_self_eq_false,cond_false];have hl:=h.len;have hn:t.subs.length=p.2.2.2.length:=by rw[Wa,h.flat]
 have hs:t.size=p.2.2.2.length:=by rw[Tree.size,h.flat]
 have hp:=ZI t;refine Eq.trans (zE.l8.rg_eq F _ _ _ p.2.2.2 _ rfl (by omega) p.2.2.2 0 F _ [] [] [] (by simp) (by omega)) ?_;refine (zeI F (by omega) (qW h.head).2.1 (fun r26 r36 r46=>(some ((r26,r36,r46,()),()):Option zE.sg.R)) (fun types8 pile8=>zE.j23 F (fun r29 r39 r49=>some ((r29,r39,r49,()),())) (fun r210 r310 r410=>some ((r210,r310,r410,()),())) types8 pile8) p.2.2.2 _ (t.subs.map noQ) p.2.2.2 [] [] [] h.ok (by simp[yn]; omega) (by rw[h.subs]; rfl) rfl rfl).trans ?_;rw[h.subs,h.eq];unfold qB;rw[show (yn []).length=0 from rfl];cases ud tyE t.subs 0 with
 | some x=>rfl
 | none =>
  simp only[List.nil_append,List.map_cons,List.map_nil];unfold zE.j23;rw[show idx 0 [ty t].length=true from rfl,show get (.int .i64) [ty t] 0=ty t from rfl,List.length_map,hn,hs,zY (by omega) (by omega)];cases (ty t != 1)<;>rfl
theorem zex (F:Nat) (hF:4096<F) {p:yr.T} (h:(um p).2≠0):zE.sh F p=some (([],(um p).1,(um p).2,()),()):=by
 unfold zE.sh;rw[Uh F (by omega)];simp only[zg];rw[show ((um p).2 != 0)=true by simpa using h];rfl
theorem TR (F:Nat) (u:zh.T) (o:Bool) (w:zh.T) (e:Int):xn.sh F (u,o) w e=some ((w,()),((u,o||e != 0),())):=by
 unfold xn.sh;cases o<;>rfl
theorem WN (F:Nat) (u:zh.T) (o:Bool) {a b:zh.T} (ha:wfW a) (hb:wfW b):xk.sh F (u,o) a b=some ((ue (val a*val b),()),((u,o||vN (val a*val b) != 0),())):=by
 unfold xk.sh;rw[ZG F ha hb];simp only[zg];rw[TR];rfl
theorem TP (F:Nat) (u:zh.T) (o:Bool) {a b:zh.T} (ha:wfW a) (hb:wfW b):xp.sh F (u,o) a b=some ((ue (val a+val b),()),((u,o||vN (val a+val b) != 0),())):=by
 unfold xp.sh;rw[YG F ha hb];simp only[zg];rw[TR];rfl
theorem uB {v:Int} (h:inR v=true):ue v=mk v/\(vN v != 0)=false:=by
 unfold ue vN;rw[h];exact ⟨rfl,rfl⟩
theorem WJ {v:Int} (h:inR v=false):(vN v != 0)=true:=by
 unfold vN;rw[h];rfl
def W0:Int->List yp.T->Prop
 | _,[]=>True
 | lo,x::r=>lo<tF x/\tF x<=1000000000000/\-1000000000000<=tR x/\tR x<=1000000000000/\W0 (tF x) r
theorem Tb (L:List yp.T):∀(xs:List yp.T) (i:Nat) (lo:Int),L.drop i=xs->qY L xs i=true->(i=0->∀x,xs.head?=some x->lo<tF x)->(i≠0->tF (L.getD (i-1) (0,0))=lo)->W0 lo xs
 | [],i,lo,h,ho,h0,h1=>trivial
 | x::r,i,lo,h,ho,h0,h1=>by
  simp only[qY,QR,Bool.and_eq_true,Bool.or_eq_true,Bool.not_eq_true',decide_eq_true_eq,decide_eq_false_iff_not] at ho;obtain ⟨⟨a1,a2,a3,a4⟩,a5⟩:=ho;have hx:L.getD i (0,0)=x:=by
   have:=congrArg (·[0]?) h
   rw[List.getD_eq_getElem?_getD];simp at this;rw[this]; rfl
  refine ⟨?_,by omega,by omega,by omega,Tb L r (i+1) (tF x) (wX h) a5 (by omega) (fun _=>by simp only[Nat.add_sub_cancel]; rw[hx])⟩;by_cases hi:i=0
  ·exact h0 hi x rfl
  ·rcases a1 with a1 | a1
   ·exact absurd a1 hi
   ·rw[h1 hi] at a1
    omega
theorem tN {l:List yp.T} (h:Zq l=true):1<=l.length/\l.length<=16/\W0 (-1) l:=by
 simp only[Zq,Bool.and_eq_true,decide_eq_true_eq] at h;obtain ⟨a1,a2,a3,a4⟩:=h;refine ⟨a1,a2,Tb l l 0 (-1) (by simp) a4 (fun _ x hx=>?_) (fun h=>absurd rfl h)⟩;cases l with
 | nil=>cases hx
 | cons y r =>
  simp only[List.head?_cons,Option.some.injEq] at hx;subst hx;have a3:tF y=0:=a3;omega
def tW (v:Int):Int:=if 0-v>v then 0-v else v
theorem TU {v:Int} (h1:-1000000000000<=v) (h2:v<=1000000000000):0<=tW v/\tW v<=1000000000000:=by unfold tW; split<;>omega
theorem far_eq (F:Nat) {v:Int} (h1:-1000000000000<=v) (h2:v<=1000000000000):v7.sh F v=some ((tW v,()),()):=by
 unfold v7.sh tW;rw[zY (n:=0-v) (by omega) (by omega)]
def tT:List yp.T->Int
 | a::b::r=>tW (tR a)*(tF b-tF a)+tT (b::r)
 | _=>0
def qp (r0:Int) (l:List yp.T):Int:=l.foldl (fun r t=>if tW (tR t)>r then tW (tR t) else r) r0
theorem ZH:∀(l:List yp.T) (lo:Int),-1<=lo->W0 lo l->0<=tT l/\tT l<=l.length*1000000000000000000000000
 | [],lo,_,h=>by simp[tT]
 | [a],lo,_,h=>by simp[tT]
 | a::b::r,lo,hlo,h=>by
  obtain ⟨a1,a2,a3,a4,a5⟩:=h;have ih:=ZH (b::r) (tF a) (by omega) a5;obtain ⟨b1,b2,b3,b4,b5⟩:=a5;have hf:=TU (v:=tR a) (by omega) (by omega);have:=ZR hf.1 hf.2 (show 0<=tF b-tF a by omega) (show tF b-tF a<=1000000000000 by omega);have e:(1000000000000:Int)*1000000000000=1000000000000000000000000:=by decide
  rw[e] at this;simp only[tT,List.length_cons] at ih ⊢;push_cast at ih ⊢;omega
theorem Sn:∀(l:List yp.T) (r0 lo:Int),0<=r0->r0<=1000000000000->W0 lo l->0<=qp r0 l/\qp r0 l<=1000000000000
 | [],r0,lo,h1,h2,h=>⟨h1,h2⟩
 | a::r,r0,lo,h1,h2,h=>by
  obtain ⟨a1,a2,a3,a4,a5⟩:=h;have hf:=TU (v:=tR a) (by omega) (by omega);exact Sn r _ (tF a) (show 0<=(if tW (tR a)>r0 then tW (tR a) else r0) by split<;>omega) (show (if tW (tR a)>r0 then tW (tR a) else r0)<=1000000000000 by split<;>omega) a5
theorem Ur (F:Nat) {R:Type} (k:List yp.T->Int->zj.T->zh.T->zh.T->Option R) (L:List yp.T) (N:Int) (u x:zh.T) (r6:zh.T) (hL:L.length<=16):∀(xs:List yp.T) (i:Nat) (rate w lo:Int),L.drop i=xs->-1<=lo->W0 lo xs->0<=w->w+xs.length*1000000000000000000000000<=20000000000000000000000000->
  zN.l3.rg F (fun tiers rate _ _ _ _ m x _ ways=>k tiers rate m x ways) L N xs (i:Int) L rate (u,false) x r6 (mk w)=k L (qp rate xs) (u,false) x (mk (w+tT xs))
 | [],i,rate,w,lo,h,hlo,hi,hw,hw2=>by simp only[zN.l3.rg,qp,tT,List.foldl_nil,Int.add_zero]
 | a::r,i,rate,w,lo,h,hlo,hi,hw,hw2=>by
  have ⟨a1,a2,a3,a4,a5⟩:=hi;have h0:=ug h;simp only[List.length_cons] at hw2;push_cast at hw2;have hf:=TU (v:=tR a) (by omega) (by omega);have hlen:=congrArg List.length h;simp only[List.length_drop,List.length_cons] at hlen;simp only[zN.l3.rg];rw[far_eq F (by omega) (by omega),zY (n:=(i:Int)+1) (by omega) (by omega)];simp only[zg];cases r with
  | nil =>
   simp only[List.length_nil] at hlen;rw[decide_eq_false (show ¬((i:Int)+1<(L.length:Int)) by omega)];simp only[cond_false];have:=Ur F k L N u x r6 hL [] (i+1) (if tW (tR a)>rate then tW (tR a) else rate) w (tF a) (wX h) (by omega) trivial hw (by simp; omega);rw[vj] at this;rw[this];rfl
  | cons b r =>
   simp only[List.length_cons] at hlen;rw[decide_eq_true (show ((i:Int)+1<(L.length:Int)) by omega)];obtain ⟨b1,b2,b3,b4,b5⟩:=a5;have hg:get yp L (Int.toNat ((i:Int)+1))=b:=by
    rw[<-vj]; exact uI (wX h)
   have hid:idx ((i:Int)+1) L.length=true:=UR (by omega) (by omega);have hp:=ZR hf.1 hf.2 (show 0<=tF b-tF a by omega) (show tF b-tF a<=1000000000000 by omega);rw[show (1000000000000:Int)*1000000000000=1000000000000000000000000 by decide] at hp;simp only[cond_true];rw[tK F (v:=tW (tR a)) (by omega) (by omega),hid,hg,zY (n:=tF b-tF a) (by omega) (by omega),tK F (v:=tF b-tF a) (by omega) (by omega)];simp only[zg,cond_true];rw[WN F u false (wj (by rw[yR]; omega)) (wj (by rw[yR]; omega))];simp only[zg,xv];have hin:inR (tW (tR a)*(tF b-tF a))=true:=by rw[yR]; omega
   rw[(uB hin).1,(uB hin).2];rw[TP F u _ (wj (by rw[yR]; omega)) (wj hin)];simp only[zg,xv];have hin2:inR (w+tW (tR a)*(tF b-tF a))=true:=by rw[yR]; omega
   rw[(uB hin2).1,(uB hin2).2];simp only[beq_self_eq_true,Bool.and_true,Bool.or_false,cond_true];have:=Ur F k L N u x r6 hL (b::r) (i+1) (if tW (tR a)>rate then tW (tR a) else rate) (w+tW (tR a)*(tF b-tF a)) (tF a) (wX h) (by omega) ⟨b1,b2,b3,b4,b5⟩ (by omega) (by simp only[List.length_cons]; push_cast; simp only[List.length_cons] at hw2; push_cast at hw2; omega);rw[vj] at this;rw[this,Int.add_assoc];rfl
def tg:List yp.T->Int
 | []=>0
 | [a]=>tF a
 | _::b::r=>tg (b::r)
theorem UQ:∀(l:List yp.T),1<=l.length->tF (l.getD (l.length-1) (0,0))=tg l
 | [],h=>by simp at h
 | [a],h=>rfl
 | a::b::r,h=>by
  have:=UQ (b::r) (by simp);simp only[tg,<-this];rfl
theorem Zg:∀(l:List yp.T) (lo:Int),-1<=lo->W0 lo l->0<=tg l/\tg l<=1000000000000
 | [],lo,h1,h=>by simp[tg]
 | [a],lo,h1,h=>by
  obtain ⟨a1,a2,a3,a4,a5⟩:=h;simp only[tg]; omega
 | a::b::r,lo,h1,h=>by
  obtain ⟨a1,a2,a3,a4,a5⟩:=h;exact Zg (b::r) (tF a) (by omega) a5
def uX (u x:Int) (l:List yp.T):Int:=u*(qp 0 l*(x+tg l)+tT l)
def BND:Int:=1329227995784915872903807060280344576
theorem QY {a b:Int} (ha:1<=a) (hb:0<=b):b<=a*b:=by
 have:=Int.mul_le_mul_of_nonneg_right ha hb;omega
def zbz (F:Nat) (tiers7:List yp.T) (rate7:Int) (m7:zj.T) (x7 ways7:zh.T):Option zN.sg.R :=
 bif idx (i64.wrap ((tiers7.length:Int)-1)) tiers7.length then oB (yQ.sh F (get yp tiers7 ((i64.wrap ((tiers7.length:Int)-1)).toNat)).1) fun c_8 =>
  oB (xp.sh F m7 x7 c_8.1.1) fun c_9 =>
  bif (((m7.1.1==c_9.2.1.1.1)&&((m7.1.2==c_9.2.1.1.2)&&true))&&true) then oB (yQ.sh F rate7) fun c_10 =>
   oB (xk.sh F c_9.2.1 c_10.1.1 c_9.1.1) fun c_11 =>
   bif (((c_9.2.1.1.1==c_11.2.1.1.1)&&((c_9.2.1.1.2==c_11.2.1.1.2)&&true))&&true) then oB (xp.sh F c_11.2.1 c_11.1.1 ways7) fun c_12 =>
    bif (((c_11.2.1.1.1==c_12.2.1.1.1)&&((c_11.2.1.1.2==c_12.2.1.1.2)&&true))&&true) then oB (xk.sh F c_12.2.1 c_9.2.1.1 c_12.1.1) fun c_13 =>
     bif (((c_12.2.1.1.1==c_13.2.1.1.1)&&((c_12.2.1.1.2==c_13.2.1.1.2)&&true))&&true) then some ((c_13.1.1,()),(c_13.2.1,()))
     else none
    else none
   else none
  else none
 else none
theorem WQ {v:Int} (h:0<=v):(inR v=true/\v<170141183460469231731687303715884105728)\/(inR v=false/\170141183460469231731687303715884105728<=v):=by
 rcases Int.lt_or_le v 170141183460469231731687303715884105728 with h' | h'
 ·exact .inl ⟨by rw[yR]; omega,h'⟩
 ·exact .inr ⟨by rw[ZK]; omega,h'⟩
theorem zaw (F:Nat) (hF:64<F) {u x:Int} (hu:1<=u) (hu2:u<=1000000000000000000000000) (hx:0<=x) (hx2:x<=BND) {l:List yp.T} (hl:Zq l=true) :
  ∃w o,zN.sh F (mk u,false) (mk x) l=some ((w,()),((mk u,o),()))/\wfW w/\0<=uX u x l/\((o=true/\BND<uX u x l)\/(o=false/\w=mk (uX u x l)/\uX u x l<170141183460469231731687303715884105728)):=by
 obtain ⟨l1,l2,l3⟩:=tN hl;have hBND:BND=1329227995784915872903807060280344576:=rfl;have hlast:=Zg l (-1) (by omega) l3;have hrate:=Sn l 0 (-1) (by omega) (by omega) l3;have hways:=ZH l (-1) (by omega) l3;have hX:zN.sh F (mk u,false) (mk x) l=zbz F l (qp 0 l) (mk u,false) (mk x) (mk (0+tT l)):=by
  refine Eq.trans (zN.l3.rg_eq F _ l _ rfl (by omega) l 0 F l 0 (mk u,false) (mk x) (0,0) (0,0) (by simp) (by omega)) ?_;exact Ur F (zbz F) l _ (mk u) (mk x) (0,0) l2 l 0 0 0 (-1) (by simp) (by omega) l3 (by omega) (by omega)
 rw[hX];unfold zbz;rw[zY (n:=(l.length:Int)-1) (by omega) (by omega),show ((l.length:Int)-1)=((l.length-1:Nat):Int) by omega,xX (by omega),Int.toNat_natCast,show (get yp l (l.length-1)).1=tg l from UQ l l1];simp only[cond_true,Int.zero_add];unfold uX;generalize tg l=lf at*;generalize qp 0 l=rt at*;generalize tT l=ws at*;have iu:inR u=true:=by rw[yR]; omega
 have iws:inR ws=true:=by rw[yR]; omega
 have iR:inR (x+lf)=true:=by rw[yR]; omega
 rw[tK F (by omega) (by omega)];simp only[zg];rw[TP F _ _ (wj (by rw[yR]; omega)) (wj (by rw[yR]; omega))];simp only[zg,xv];rw[tK F (v:=rt) (by omega) (by omega),(uB iR).1,(uB iR).2];simp only[zg,beq_self_eq_true,Bool.and_true,Bool.or_false,cond_true];rw[WN F _ _ (wj (by rw[yR]; omega)) (wj iR)];simp only[zg,xv,beq_self_eq_true,Bool.and_true,cond_true,Bool.false_or];have hp0:0<=rt*(x+lf):=Int.mul_nonneg hrate.1 (by omega);have hs0:0<=rt*(x+lf)+ws:=by omega
 have hg:=QY hu hs0;generalize rt*(x+lf)=p at*;rw[TP F _ _ (YL p) (wj iws)];simp only[zg,beq_self_eq_true,Bool.and_true,cond_true];rw[WN F _ _ (wj iu) (YL _)];simp only[zg,beq_self_eq_true,Bool.and_true,cond_true,xv];refine ⟨_,_,rfl,YL _,by omega,?_⟩;rcases WQ hp0 with ⟨i1,b1⟩ | ⟨i1,b1⟩
 ·rw[(uB i1).1,(uB i1).2,xv]
  rcases WQ hs0 with ⟨i2,b2⟩ | ⟨i2,b2⟩
  ·rw[(uB i2).1,(uB i2).2,xv]
   rcases WQ (v:=u*(p+ws)) (by omega) with ⟨i3,b3⟩ | ⟨i3,b3⟩
   ·rw[(uB i3).1,(uB i3).2]
    exact .inr ⟨rfl,rfl,b3⟩
   ·rw[WJ i3]
    exact .inl ⟨by simp,by omega⟩
  ·rw[WJ i2]
   exact .inl ⟨by simp,by omega⟩
 ·rw[WJ i1]
  exact .inl ⟨by simp,by omega⟩
def qo (l:List Int):Int:=l.sum
def vz (u:Int) (D:List wV.T) (n:zx.T) (vs:List Int):Int :=
 bif nK n==1 then nN n else bif nK n==2 then nN n*u else bif nK n==3 then 1099511627776
 else bif nK n==4 then xw 1099511627776 (dS (D.getD (nN n).toNat (ByteArray.empty,0)))
 else bif nK n==8 then vs.getD 0 0*vs.getD 1 0
 else bif nK n==13||nK n==14 then uX u (vs.getD 0 0) (nT n)
 else bif nK n==15 then vs.getD 0 0
 else bif nK n==11||(nK n==12||nK n==16) then qo vs+nN n
 else qo vs
def tC (n:zx.T) (v:Int):Int:=bif nK n==15 then v*10000 else v
def mag (u:Int) (D:List wV.T):Tree->Int:=Tree.fold (vz u D)
theorem SB (u:Int) (D:List wV.T) (n:zx.T) (ks:List Tree):mag u D (.nd n ks)=vz u D n (ks.map (mag u D)):=Tree.fold_nd _ n ks
def Wj (u:Int) (D:List wV.T) (t:Tree):Int:=bif decide (tC t.root (mag u D t)>BND) then 90 else 0
theorem Wq:∀(l pre:List wV.T),dE pre l=0->∀d∈l,1<=dS d/\dS d<=1000000000000
 | [],pre,h,d,hd=>by simp at hd
 | x::r,pre,h,d,hd=>by
  simp only[dE] at h;cases h1:Xi x.1.data.toList with
  | false=>rw[h1] at h; exact absurd (show (61:Int)=0 from h) (by decide)
  | true =>
  rw[h1] at h;cases h2:pre.any (fun e=>Yv e.1 x.1) with
  | true=>rw[h2] at h; exact absurd (show (61:Int)=0 from h) (by decide)
  | false =>
  rw[h2] at h;cases h3:decide (dS x<1) with
  | true=>rw[h3] at h; exact absurd (show (50:Int)=0 from h) (by decide)
  | false =>
  rw[h3] at h;cases h4:decide (dS x>1000000000000) with
  | true=>rw[h4] at h; exact absurd (show (50:Int)=0 from h) (by decide)
  | false =>
  rw[h4] at h;have h3:=of_decide_eq_false h3;have h4:=of_decide_eq_false h4;rcases List.mem_cons.1 hd with rfl | hd
  ·exact ⟨by omega,by omega⟩
  ·exact Wq r _ h d hd
theorem zcJ:∀(l:List Int),zbw (l.map mk)=qo l
 | []=>rfl
 | x::r=>by
  have:=zcJ r;simp only[zbw,qo,List.map_cons,List.sum_cons,xv] at*;rw[this]
theorem QE {b:Int}:∀(l:List Int),(∀v∈l,0<=v/\v<=b)->0<=qo l/\qo l<=l.length*b
 | [],h=>by simp[qo]
 | x::r,h=>by
  have ih:=QE r (fun v hv=>h v (by simp[hv]));have hx:=h x (by simp);simp only[qo,List.sum_cons,List.length_cons] at*;push_cast;rw[Int.add_mul];omega
theorem Zo {b:Int} {l:List Int} (h:∀v∈l,0<=v/\v<=b) {i:Nat} (hi:i<l.length):0<=l.getD i 0/\l.getD i 0<=b:=by
 rw[List.getD_eq_getElem?_getD,List.getElem?_eq_getElem hi];exact h _ (List.getElem_mem _)
theorem Ua {l:List Int} {i:Nat} (hi:i<l.length):get zh (l.map mk) i=mk (l.getD i 0):=by
 unfold get;rw[List.getD_eq_getElem?_getD,List.getD_eq_getElem?_getD,List.getElem?_map,List.getElem?_eq_getElem hi];rfl
theorem S9 {s:Int} (h1:1<=s):0<=xw 1099511627776 s/\xw 1099511627776 s<=1099511627777:=by
 have hq1:0<=1099511627776/s:=Int.ediv_nonneg (by omega) (by omega);have hq2:1099511627776/s<=1099511627776:=Int.ediv_le_self _ (by omega);unfold xw;split<;>omega
def NodeR (u:Int) (D:List wV.T) (n:zx.T) (vs:List Int) (r:Option z8.sg.R):Prop :=
 ∃w o,r=some ((w,()),((mk u,o),()))/\wfW w/\0<=vz u D n vs/\((o=true/\BND<tC n (vz u D n vs))\/(o=false/\w=mk (vz u D n vs)/\tC n (vz u D n vs)<170141183460469231731687303715884105728))
theorem NodeR.of {u:Int} {D:List wV.T} {n:zx.T} {vs:List Int} {v:Int} (hm:vz u D n vs=v) (hf:(nK n==15)=false) (h0:0<=v) {r:Option z8.sg.R} (o:Bool)
  (hr:r=some ((ue v,()),((mk u,o||vN v != 0),()))) (ho:o=false):NodeR u D n vs r:=by
 subst ho;refine ⟨_,_,hr,YL _,by rw[hm]; exact h0,?_⟩;have hBND:BND=1329227995784915872903807060280344576:=rfl;unfold tC;rw[hm,hf];simp only[cond_false,Bool.false_or];rcases WQ h0 with ⟨i,b⟩ | ⟨i,b⟩
 ·rw[(uB i).1,(uB i).2]; exact .inr ⟨rfl,rfl,b⟩
 ·rw[WJ i]; exact .inl ⟨rfl,by omega⟩
theorem Zv:BND=1329227995784915872903807060280344576:=rfl
theorem j18_eq (F:Nat) (hF:64<F) {u:Int} {n:zx.T} {vs:List Int} (hv:∀v∈vs,0<=v/\v<=BND) (hl:vs.length<=16) (hN:0<=nN n) (hN2:nN n<=1000000000000) :
  z8.j18 F (fun m r=>(some ((r,()),(m,())):Option z8.sg.R)) (vs.map mk) (mk u,false) n (0,0) =
   some ((mk (bif nK n==11||(nK n==12||nK n==16) then qo vs+nN n else qo vs),()),((mk u,false),())):=by
 have hs:=QE vs hv;have hsb:qo vs<=21267647932558653966460912964485513216:=by
  have:(vs.length:Int)*BND<=16*BND:=Int.mul_le_mul_of_nonneg_right (by omega) (by rw[Zv]; omega);rw[Zv] at this hs;omega
 have i1:inR (qo vs)=true:=by rw[yR]; omega
 have i2:inR (qo vs+nN n)=true:=by rw[yR]; omega
 unfold z8.j18;rw[wsum_eq F (by
  intro x hx;obtain ⟨v,hv',rfl⟩:=List.mem_map.1 hx;have:=hv v hv';rw[Zv] at this;exact wj (by rw[yR]; omega)) (by simp; omega) (by simp; omega)]
 simp only[zg,zcJ];rw[TR,(uB i1).1,(uB i1).2];simp only[zg];rw[tK F (v:=nN n) (by omega) (by omega)];simp only[zg,Bool.or_false];rw[TP F _ _ (wj i1) (wj (by rw[yR]; omega))];simp only[zg,xv];rw[(uB i2).1,(uB i2).2];cases (nK n==11)<;>cases (nK n==12)<;>cases (nK n==16)<;>rfl
theorem YP {n:zx.T} {dims:Nat} (hd:dims<=4) (h:nN n<=Wg n dims) (hg:qw n=true):nN n<=1000000000000:=by
 rcases qP hg with h' | h' | h' | h' | h' | h' | h' | h' | h' | h' | h' | h' | h' | h' | h' | h'<;>rw[Zm h'] at h
 ·exact h
 ·exact h
 ·have h:nN n<=(dims:Int)-1:=h; omega
 ·have h:nN n<=(dims:Int)-1:=h; omega
 ·have h:nN n<=0:=h; omega
 ·have h:nN n<=0:=h; omega
 ·have h:nN n<=0:=h; omega
 ·have h:nN n<=0:=h; omega
 ·have h:nN n<=0:=h; omega
 ·have h:nN n<=0:=h; omega
 ·exact h
 ·exact h
 ·have h:nN n<=0:=h; omega
 ·have h:nN n<=0:=h; omega
 ·have h:nN n<=10000:=h; omega
 ·exact h
theorem Z5 (F:Nat) (hF:64<F) {u:Int} (p:yr.T) {n:zx.T} {vs:List Int} {D:List wV.T} (hv:∀v∈vs,0<=v/\v<=BND) (hl:vs.length<=16) (hN:0<=nN n) (hN2:nN n<=1000000000000) {k:Int} (h:nK n=k)
  (hk:k=5\/k=6\/k=7\/k=9\/k=10\/k=11\/k=12\/k=16):NodeR u D n vs (z8.sh F (mk u,false) p n (vs.map mk)):=by
 have hj:=j18_eq F hF (u:=u) (n:=n) hv hl hN hN2;have hs:=QE vs hv;have hsb:qo vs<=21267647932558653966460912964485513216:=by
  have:(vs.length:Int)*BND<=16*BND:=Int.mul_le_mul_of_nonneg_right (by omega) (by rw[Zv]; omega);rw[Zv] at this hs;omega
 have hm:vz u D n vs=bif nK n==11||(nK n==12||nK n==16) then qo vs+nN n else qo vs:=by
  unfold vz;rw[h];rcases hk with rfl | rfl | rfl | rfl | rfl | rfl | rfl | rfl<;>rfl
 have he:z8.sh F (mk u,false) p n (vs.map mk)=z8.j18 F (fun m r=>(some ((r,()),(m,())):Option z8.sg.R)) (vs.map mk) (mk u,false) n (0,0):=by
  unfold z8.sh;have h':n.1=k:=h;rw[h'];rcases hk with rfl | rfl | rfl | rfl | rfl | rfl | rfl | rfl<;>rfl
 have hf:(nK n==15)=false:=by rw[h]; rcases hk with rfl | rfl | rfl | rfl | rfl | rfl | rfl | rfl<;>rfl
 rw[he,hj];have hb:0<=vz u D n vs/\vz u D n vs<170141183460469231731687303715884105728:=by
  rw[hm];cases (nK n==11||(nK n==12||nK n==16))<;>simp only[cond_true,cond_false]<;>omega
 rw[<-hm];refine ⟨_,_,rfl,wj (by rw[yR]; omega),hb.1,.inr ⟨rfl,rfl,?_⟩⟩;unfold tC;rw[hf];exact hb.2
theorem zfr (F:Nat) (hF:64<F) {u:Int} (hu:1<=u) (hu2:u<=1000000000000000000000000) {p:yr.T} (hD:dE [] p.2.1=0) (hd4:p.2.1.length<=4) {n:zx.T} {pile:Nat} (hn:tm p.2.1.length n pile=0)
  {vs:List Int} (hl:vs.length=ar n) (hv:∀v∈vs,0<=v/\v<=BND):NodeR u p.2.1 n vs (z8.sh F (mk u,false) p n (vs.map mk)):=by
 obtain ⟨g1,g2,g3,g4,g5,g6,g7,g8⟩:=uh hn;have ha:=W7 g1 g4;have hN2:=YP hd4 g3 g1;have iu:inR u=true:=by rw[yR]; omega
 have iN:inR (nN n)=true:=by rw[yR]; omega
 rcases qP g1 with h | h | h | h | h | h | h | h | h | h | h | h | h | h | h | h
 ·refine NodeR.of (v:=nN n) (by unfold vz; rw[h]; rfl) (by rw[h]; rfl) g2 false ?_ rfl
  unfold z8.sh;have h':n.1=1:=h;rw[h',tK F (v:=nN n) (by omega) (by omega),(uB iN).1,(uB iN).2];rfl
 ·refine NodeR.of (v:=nN n*u) (by unfold vz; rw[h]; rfl) (by rw[h]; rfl) (Int.mul_nonneg g2 (by omega)) false ?_ rfl
  unfold z8.sh;have h':n.1=2:=h;rw[h',tK F (v:=nN n) (by omega) (by omega)];have e:=WN F (mk u) false (wj iN) (wj iu);rw[xv,xv] at e;exact (congrArg (fun x=>oB x fun c_3=>(some ((c_3.1.1,()),(c_3.2.1,())):Option z8.sg.R)) e).trans rfl
 ·refine NodeR.of (v:=1099511627776) (by unfold vz; rw[h]; rfl) (by rw[h]; rfl) (by decide) false ?_ rfl
  unfold z8.sh;have h':n.1=3:=h;rw[h',tK F (v:=1099511627776) (by omega) (by omega)];rfl
 ·have hNd:nN n<=(p.2.1.length:Int)-1:=by have:=g3; rw[Zm h] at this; exact this
  have hi:(nN n).toNat<p.2.1.length:=by omega
  have hsz:1<=dS (p.2.1.getD (nN n).toNat (ByteArray.empty,0))/\dS (p.2.1.getD (nN n).toNat (ByteArray.empty,0))<=1000000000000:=by
   rw[List.getD_eq_getElem?_getD,List.getElem?_eq_getElem hi];exact Wq p.2.1 [] hD _ (List.getElem_mem _)
  have hc:=S9 hsz.1;have ic:inR (xw 1099511627776 (dS (p.2.1.getD (nN n).toNat (ByteArray.empty,0))))=true:=by rw[yR]; omega
  refine NodeR.of (v:=xw 1099511627776 (dS (p.2.1.getD (nN n).toNat (ByteArray.empty,0)))) (by unfold vz; rw[h]; rfl) (by rw[h]; rfl) hc.1 false ?_ rfl;unfold z8.sh;have h':n.1=4:=h;have hid:idx (nN n) p.2.1.length=true:=UR (by omega) (by omega);have hof:=tK F (v:=dS (p.2.1.getD (nN n).toNat (ByteArray.empty,0))) (by omega) (by omega);have e:=zga F hsz.1 hsz.2;have e2:=TR F (mk u) false (mk (xw 1099511627776 (dS (p.2.1.getD (nN n).toNat (ByteArray.empty,0))))) 0;rw[h',tK F (v:=1099511627776) (by omega) (by omega),show idx n.2.1 p.2.1.length=true from hid,show yQ.sh F (get wV p.2.1 n.2.1.toNat).2=_ from hof];rw[(uB ic).1,(uB ic).2];show (oB (vn.sh F (mk 1099511627776) (mk _) 1) fun c_7=>oB (xn.sh F (mk u,false) c_7.1.1 c_7.1.2.1) fun c_8=>some ((c_8.1.1,()),(c_8.2.1,())))=_;rw[e];simp only[zg];rw[e2];rfl
 ·exact Z5 F hF p hv (by omega) g2 hN2 h (by decide)
 ·exact Z5 F hF p hv (by omega) g2 hN2 h (by decide)
 ·exact Z5 F hF p hv (by omega) g2 hN2 h (by decide)
 ·have ea:ar n=2:=by rw[vq h]; rfl
  have b0:=Zo hv (i:=0) (by omega);have b1:=Zo hv (i:=1) (by omega);rw[Zv] at b0 b1;refine NodeR.of (v:=vs.getD 0 0*vs.getD 1 0) (by unfold vz; rw[h]; rfl) (by rw[h]; rfl) (Int.mul_nonneg b0.1 b1.1) false ?_ rfl;unfold z8.sh;have h':n.1=8:=h;have e:=WN F (mk u) false (wj (v:=vs.getD 0 0) (by rw[yR]; omega)) (wj (v:=vs.getD 1 0) (by rw[yR]; omega));rw[xv,xv] at e;rw[h',YK (n:=(vs.map mk).length) (by simp; omega),idx1 (n:=(vs.map mk).length) (by simp; omega),Ua (i:=0) (by omega),Ua (i:=1) (by omega)];exact (congrArg (fun x=>oB x fun c_3=>(some ((c_3.1.1,()),(c_3.2.1,())):Option z8.sg.R)) e).trans rfl
 ·exact Z5 F hF p hv (by omega) g2 hN2 h (by decide)
 ·exact Z5 F hF p hv (by omega) g2 hN2 h (by decide)
 ·exact Z5 F hF p hv (by omega) g2 hN2 h (by decide)
 ·exact Z5 F hF p hv (by omega) g2 hN2 h (by decide)
 ·have ea:ar n=1:=by rw[vq h]; rfl
  have b0:=Zo hv (i:=0) (by omega);have ht:th n=true:=by unfold th ZY; rw[h]; rfl
  obtain ⟨w,o,q1,q2,q3,q4⟩:=zaw F hF hu hu2 b0.1 b0.2 (g8 ht);have hm:vz u p.2.1 n vs=uX u (vs.getD 0 0) (nT n):=by unfold vz; rw[h]; rfl
  have hf:tC n (vz u p.2.1 n vs)=uX u (vs.getD 0 0) (nT n):=by unfold tC; rw[h,hm]; rfl
  refine ⟨w,o,?_,q2,by rw[hm]; exact q3,by rw[hf,hm]; exact q4⟩;unfold z8.sh;have h':n.1=13:=h;rw[h',YK (n:=(vs.map mk).length) (by simp; omega),Ua (i:=0) (by omega)];exact (congrArg (fun x=>oB x fun c_3=>(some ((c_3.1.1,()),(c_3.2.1,())):Option z8.sg.R)) q1).trans rfl
 ·have ea:ar n=1:=by rw[vq h]; rfl
  have b0:=Zo hv (i:=0) (by omega);have ht:th n=true:=by unfold th ZY; rw[h]; rfl
  obtain ⟨w,o,q1,q2,q3,q4⟩:=zaw F hF hu hu2 b0.1 b0.2 (g8 ht);have hm:vz u p.2.1 n vs=uX u (vs.getD 0 0) (nT n):=by unfold vz; rw[h]; rfl
  have hf:tC n (vz u p.2.1 n vs)=uX u (vs.getD 0 0) (nT n):=by unfold tC; rw[h,hm]; rfl
  refine ⟨w,o,?_,q2,by rw[hm]; exact q3,by rw[hf,hm]; exact q4⟩;unfold z8.sh;have h':n.1=14:=h;rw[h',YK (n:=(vs.map mk).length) (by simp; omega),Ua (i:=0) (by omega)];exact (congrArg (fun x=>oB x fun c_3=>(some ((c_3.1.1,()),(c_3.2.1,())):Option z8.sg.R)) q1).trans rfl
 ·have ea:ar n=1:=by rw[vq h]; rfl
  have b0:=Zo hv (i:=0) (by omega);rw[Zv] at b0;have hm:vz u p.2.1 n vs=vs.getD 0 0:=by unfold vz; rw[h]; rfl
  have hf:tC n (vz u p.2.1 n vs)=vs.getD 0 0*10000:=by unfold tC; rw[h,hm]; rfl
  have h':n.1=15:=h;have e:=WN F (mk u) false (wj (v:=vs.getD 0 0) (by rw[yR]; omega)) (wj (v:=10000) (by rw[yR]; omega));rw[xv,xv] at e;refine ⟨mk (vs.getD 0 0),vN (vs.getD 0 0*10000) != 0,?_,wj (by rw[yR]; omega),by rw[hm]; exact b0.1,?_⟩
  ·unfold z8.sh
   rw[h',YK (n:=(vs.map mk).length) (by simp; omega),Ua (i:=0) (by omega),tK F (v:=10000) (by omega) (by omega)];exact (congrArg (fun x=>oB x fun c_3=>(some ((mk (vs.getD 0 0),()),(c_3.2.1,())):Option z8.sg.R)) e).trans rfl
  ·rw[hf,hm]
   rcases WQ (v:=vs.getD 0 0*10000) (by omega) with ⟨i,b⟩ | ⟨i,b⟩
   ·rw[(uB i).2]; exact .inr ⟨rfl,rfl,b⟩
   ·rw[WJ i]; exact .inl ⟨rfl,by rw[Zv]; omega⟩
 ·exact Z5 F hF p hv (by omega) g2 hN2 h (by decide)
theorem zgC (F:Nat) {n:zx.T} {v:Int} (h0:0<=v) (h:tC n v<170141183460469231731687303715884105728):vu.sh F n (mk v)=some ((decide (tC n v>BND),()),()):=by
 have hB:val (72057594037927936,0)=BND:=rfl;have wB:wfW (72057594037927936,0):=by simp[wfW]
 have hc:∀x:Int,decide (Ye x BND>0)=decide (x>BND):=by
  intro x;unfold Ye;rcases Int.lt_trichotomy x BND with h | h | h
  ·rw[if_pos h,decide_eq_false (by omega),decide_eq_false (by omega)]
  ·rw[if_neg (by omega),if_pos h,decide_eq_false (by omega),decide_eq_false (by omega)]
  ·rw[if_neg (by omega),if_neg (by omega),decide_eq_true (by omega),decide_eq_true (by omega)]
 unfold vu.sh tC at*;cases h15:(nK n==15) with
 | true =>
  rw[h15] at h;simp only[cond_true] at h ⊢;have iv:inR v=true:=by rw[yR]; omega
  have i2:inR (v*10000)=true:=by rw[yR]; omega
  rw[tK F (v:=10000) (by omega) (by omega)];simp only[zg];rw[ZG F (wj iv) (wj (v:=10000) (by rw[yR]; omega))];simp only[zg,xv];rw[(uB i2).1,zcw F (wj i2) wB];simp only[zg,xv,hB,hc]
 | false =>
  rw[h15] at h;simp only[cond_false] at h ⊢;have iv:inR v=true:=by rw[yR]; omega
  rw[zcw F (wj iv) wB];simp only[zg,xv,hB,hc]
theorem zeu (F:Nat) {n:zx.T} (hg:qw n=true) (hk:qf n=true):yX.sh F n=some (((ar n:Int),()),()):=by
 have h9:∀k:Int,(nK n=k)->(k=9\/k=10)->(ar n:Int)=nC n:=by
  intro k h hkk;rw[XG h] at hk;have hk:(decide (nC n>=2)&&decide (nC n<=16))=true:=by rcases hkk with rfl | rfl<;>exact hk
  simp at hk;have:ar n=(nC n).toNat:=by rw[vq h]; rcases hkk with rfl | rfl<;>rfl
  omega
 unfold yX.sh;rcases qP hg with h | h | h | h | h | h | h | h | h | h | h | h | h | h | h | h<;>rw[show n.1=_ from h]
 ·rw[vq h]; rfl
 ·rw[vq h]; rfl
 ·rw[vq h]; rfl
 ·rw[vq h]; rfl
 ·rw[vq h]; rfl
 ·rw[vq h]; rfl
 ·rw[vq h]; rfl
 ·rw[vq h]; rfl
 ·rw[h9 9 h (.inl rfl)]; rfl
 ·rw[h9 10 h (.inr rfl)]; rfl
 ·rw[vq h]; rfl
 ·rw[vq h]; rfl
 ·rw[vq h]; rfl
 ·rw[vq h]; rfl
 ·rw[vq h]; rfl
 ·rw[vq h]; rfl
theorem zaU (F:Nat) (hF:64<F) {R:Type} {u:Int} (hu:1<=u) (hu2:u<=1000000000000000000000000) {p:yr.T} (hD:dE [] p.2.1=0) (hd4:p.2.1.length<=4) (kE:List zh.T->Int->Option R) (kO:List zh.T->Option R) (L:List zx.T) (N:Int):∀(xs:List zx.T) (st:List Tree) (i:Nat) (mags:List zh.T),
  okS p.2.1.length st xs->(yn st).length+xs.length<=2048->mags.length<=(yn st).length->(∀t∈st,0<=mag u p.2.1 t/\mag u p.2.1 t<=BND)->
  zJ.l4.rg F kE (fun _ _ _ _ _ _ mags _=>kO mags) L N xs (i:Int) p (mk u,false) mags (st.map fun t=>mk (mag u p.2.1 t)) =
   match ud (Wj u p.2.1) (uC st xs) i with
   | some (j,e)=>kE [] (j:Int)
   | none=>kO (mags++(uC st xs).map fun t=>mk (mag u p.2.1 t)):=by
 intro xs;induction xs with
 | nil=>intro st i mags h h2 h3 h4; simp[zJ.l4.rg,uC,ud]
 | cons n xs ih =>
  intro st i mags h h2 h3 h4;obtain ⟨g1,g2,g3,g4,g5,g6,g7,g8⟩:=uh h.1;have hst:=qL st;have hfs:=congrArg List.length (uR st n);simp only[List.length_cons,List.length_append,List.length_nil] at h2 hfs;have hdr:∀t∈st.drop (st.length-ar n),0<=mag u p.2.1 t/\mag u p.2.1 t<=BND:=fun t ht=>h4 t (List.mem_of_mem_drop ht)
  have hmm:mag u p.2.1 (ve st n)=vz u p.2.1 n ((st.drop (st.length-ar n)).map (mag u p.2.1)):=by unfold ve; rw[SB]
  have hnode:=zfr F hF hu hu2 hD hd4 h.1 (vs:=(st.drop (st.length-ar n)).map (mag u p.2.1)) (by simp; omega) (by
   intro v hv;obtain ⟨t,ht,rfl⟩:=List.mem_map.1 hv;exact hdr t ht)
  obtain ⟨w,o,q1,q2,q3,q4⟩:=hnode;rw[<-hmm] at q3 q4;have hl:(st.map fun t=>mk (mag u p.2.1 t)).length=st.length:=by simp
  have hE:Wj u p.2.1 (ve st n)=bif decide (tC n (mag u p.2.1 (ve st n))>BND) then 90 else 0:=rfl
  have hdm:(st.map fun t=>mk (mag u p.2.1 t)).drop (st.length-ar n)=((st.drop (st.length-ar n)).map (mag u p.2.1)).map mk:=by
   rw[<-List.map_drop,List.map_map]; rfl
  have ew:=Yt g7 (by omega);have hb1:=Za (show st.length-ar n<=st.length by omega);have hb2:=ZD (show st.length-ar n<=st.length by omega);have htk:(st.map fun t=>mk (mag u p.2.1 t)).take st.length=st.map fun t=>mk (mag u p.2.1 t):=List.take_of_length_le (by omega)
  have hbl1:∀y,Nat.ble (mags.length+([y]:List zh.T).length) vc=true:=fun y=>uV (by simp; omega)
  have hbl2:∀y,Nat.ble (st.length-ar n+([y]:List zh.T).length) vc=true:=fun y=>uV (by simp; omega)
  simp only[zJ.l4.rg];rw[zeu F g1 g4];simp only[zg,hl,ew,hb1,hb2,htk,cond_true,hdm];rw[q1];simp only[zg,uC,ud,hE];rcases q4 with ⟨rfl,hbig⟩ | ⟨rfl,rfl,hsm⟩
  ·rw[decide_eq_true hbig]
   rfl
  ·rw[zgC F q3 hsm]
   simp only[zg,cond_false];cases hfar:decide (tC n (mag u p.2.1 (ve st n))>BND) with
   | true=>rfl
   | false =>
    have hfar:=of_decide_eq_false hfar;have hle:mag u p.2.1 (ve st n)<=BND:=by
     unfold tC at hfar;cases h15:(nK n==15) with
     | true=>rw[h15] at hfar; simp only[cond_true] at hfar; omega
     | false=>rw[h15] at hfar; simp only[cond_false] at hfar; omega
    have hstep:(uo st n).map (fun t=>mk (mag u p.2.1 t))=(st.map fun t=>mk (mag u p.2.1 t)).take (st.length-ar n)++[mk (mag u p.2.1 (ve st n))]:=by
     unfold uo; simp[List.map_take]
    have IH:=ih (uo st n) (i+1) (mags++[mk (mag u p.2.1 (ve st n))]) h.2 (by omega) (by simp; omega) (by
     intro t ht;rcases List.mem_append.1 ht with ht | ht
     ·exact h4 t (List.mem_of_mem_take ht)
     ·rw[List.mem_singleton.1 ht]; exact ⟨q3,hle⟩)
    rw[hstep,vj] at IH;simp only[hbl1,hbl2,cond_true,cond_false];refine IH.trans ?_;simp only[List.append_assoc,List.singleton_append,List.map_cons];rfl
def YQ (u:Int) (D:List wV.T) (t:Tree):List zh.T×Int :=
 match ud (Wj u D) t.subs 0 with
 | some (j,e)=>([],(j:Int))
 | none=>(t.subs.map fun t=>mk (mag u D t),-1)
theorem zaV (F:Nat) (hF:4096<F) {u:Int} (hu:1<=u) (hu2:u<=1000000000000000000000000) {p:yr.T} {t:Tree} (h:Good p t):zJ.sh F p (mk u)=some (((YQ u p.2.1 t).1,(YQ u p.2.1 t).2,()),()):=by
 unfold zJ.sh;have hl:=h.len;have hh:=qW h.head;refine Eq.trans (zJ.l4.rg_eq F _ _ p.2.2.2 _ rfl (by omega) p.2.2.2 0 F _ _ _ _ (by simp) (by omega)) ?_;refine (zaU F (by omega) hu hu2 hh.2.2.1 hh.2.1 (fun r44 r54=>(some ((r44,r54,()),()):Option zJ.sg.R)) (fun mags=>zJ.j13 F (fun r46 r56=>some ((r46,r56,()),())) mags) p.2.2.2 _ p.2.2.2 [] 0 [] h.ok (by simp[yn]; omega) (by simp) (by simp)).trans ?_;rw[h.subs];unfold YQ;cases ud (Wj u p.2.1) t.subs 0 with
 | some x=>rfl
 | none=>rfl
def tZ (t:Tree):Int:=10000^(wT t).toNat
theorem VF {t:Tree} (h:wT t<=6):1<=tZ t/\tZ t<=1000000000000000000000000:=by
 have:=(qZ t).1;unfold tZ;have:(wT t).toNat=0\/(wT t).toNat=1\/(wT t).toNat=2\/(wT t).toNat=3\/(wT t).toNat=4\/(wT t).toNat=5\/(wT t).toNat=6:=by omega
 rcases this with h | h | h | h | h | h | h<;>rw[h]<;>decide
def uY (D:List wV.T) (t:Tree):zh.T×Int×Int :=
 bif (qB t).2.2 != 0 then ((0,0),(qB t).2.1,(qB t).2.2)
 else bif decide (wT t>6) then ((0,0),(t.size:Int)-1,90)
 else bif decide ((YQ (tZ t) D t).2>=0) then ((0,0),(YQ (tZ t) D t).2,90)
 else (mk (tZ t),0,0)
def Te (D:List wV.T) (t:Tree):List zh.T×Int×Int :=
 bif (uY D t).2.2 != 0 then ([],(uY D t).2.1,(uY D t).2.2)
 else ((YQ (tZ t) D t).1,0,0)
theorem XY:4096<FU:=by decide
theorem zdz {p:yr.T} {t:Tree} (h:Good p t):vC.sh FU p=some (((uY p.2.1 t).1,(uY p.2.1 t).2.1,(uY p.2.1 t).2.2,()),()):=by
 have hl:=h.len;have hs:t.size=p.2.2.2.length:=by rw[Tree.size,h.flat]
 have hp:=ZI t;unfold vC.sh uY;rw[zgE FU XY h];simp only[zg];cases h1:((qB t).2.2 != 0) with
 | true=>rfl
 | false =>
  simp only[cond_false];rw[zbn FU XY h];simp only[zg];rw[<-hs,zY (n:=(t.size:Int)-1) (by omega) (by omega)];cases h2:decide (wT t>6) with
  | true=>rfl
  | false =>
   have h2:=of_decide_eq_false h2;have hd:=(qZ t).1;have hu:=VF (t:=t) (by omega);simp only[cond_false];rw[zf9 hd (by omega)];simp only[zg];have:=zaV FU XY hu.1 hu.2 h;unfold tZ at*;rw[this];simp only[zg];cases decide ((YQ (10000^(wT t).toNat) p.2.1 t).2>=0)<;>rfl
theorem zgD {p:yr.T} (h:(um p).2≠0):vC.sh FU p=some (((0,0),(um p).1,(um p).2,()),()):=by
 unfold vC.sh;rw[zex FU XY h];simp only[zg];rw[show ((um p).2 != 0)=true by simpa using h];rfl
theorem zal {D:List wV.T} {t:Tree} (h:(uY D t).2.2=0):(qB t).2.2=0/\wT t<=6/\(YQ (tZ t) D t).2<0/\uY D t=(mk (tZ t),0,0):=by
 unfold uY at*;cases h1:((qB t).2.2 != 0) with
 | true =>
  rw[h1] at h;have h:(qB t).2.2=0:=h;rw[h] at h1;exact absurd h1 (by decide)
 | false =>
  rw[h1] at h;cases h2:decide (wT t>6) with
  | true=>rw[h2] at h; exact absurd (show (90:Int)=0 from h) (by decide)
  | false =>
   rw[h2] at h;cases h3:decide ((YQ (tZ t) D t).2>=0) with
   | true=>rw[h3] at h; exact absurd (show (90:Int)=0 from h) (by decide)
   | false =>
    have h2:=of_decide_eq_false h2;have h3:=of_decide_eq_false h3;exact ⟨by simpa using h1,by omega,by omega,rfl⟩
theorem zbl:xW.sh FU=some ((true,()),()):=by kernel_rfl
theorem Vq {E:Tree->Int}:∀{l:List Tree} {i:Nat},ud E l i=none->∀t∈l,E t=0
 | [],i,h,t,ht=>by simp at ht
 | x::r,i,h,t,ht=>by
  simp only[ud] at h;cases hx:(E x != 0) with
  | true=>rw[hx] at h; cases h
  | false =>
   rw[hx] at h;rcases List.mem_cons.1 ht with rfl | ht
   ·simpa using hx
   ·exact Vq (i:=i+1) h t ht
theorem zfw {u:Int} {D:List wV.T} {t:Tree} (h:(YQ u D t).2<0):ud (Wj u D) t.subs 0=none/\YQ u D t=(t.subs.map fun t=>mk (mag u D t),-1):=by
 unfold YQ at*;cases hf:ud (Wj u D) t.subs 0 with
 | some x=>rw[hf] at h; obtain ⟨j,e⟩:=x; exact absurd h (by simp only; omega)
 | none=>exact ⟨rfl,rfl⟩
theorem Rw {t:Tree} (h:(qB t).2.2=0):ud tyE t.subs 0=none/\ty t=1:=by
 unfold qB at h;cases hf:ud tyE t.subs 0 with
 | some x =>
  rw[hf] at h;have hne:∀(l:List Tree) (i:Nat),ud tyE l i=some x->x.2≠0:=by
   intro l;induction l with
   | nil=>intro i h; cases h
   | cons t r ih =>
    intro i h;simp only[ud] at h;cases he:(tyE t != 0) with
    | true =>
     rw[he] at h;simp only[cond_true,Option.some.injEq] at h;rw[<-h];simpa using he
    | false=>rw[he] at h; exact ih _ h
  exact absurd h (hne _ _ hf)
 | none =>
  rw[hf] at h;refine ⟨rfl,?_⟩;cases ht:(ty t != 1) with
  | true=>rw[ht] at h; exact absurd (show (80:Int)=0 from h) (by decide)
  | false=>simpa using ht
theorem Rz (t:Tree):∃l,t.subs=l++[t]:=by
 cases t with
 | nd n ks=>exact ⟨_,Xr n ks⟩
def Qb (x:Int) (L:Nat):Prop:=1<=L/\(2:Int)^(L-1)<=x/\x<2^L
theorem SE {x:Int} {L:Nat} (m:Nat) (h:Qb (x/2^m) L):Qb x (L+m):=by
 obtain ⟨h1,h2,h3⟩:=h;have hp:(0:Int)<2^m:=Int.pow_pos (by decide);refine ⟨by omega,?_,?_⟩
 ·rw[show L+m-1=(L-1)+m by omega,Int.pow_add]
  have:=Int.mul_le_of_le_ediv hp h2;exact this
 ·rw[Int.pow_add]
  exact Int.lt_mul_of_ediv_lt hp h3
theorem len_tab:∃tab:ByteArray,(∀(R:Type) (F:Nat) (k:Int->Option R) (x n:Int),yC.j7 F k x n=bif decide (x>=256) then bif idx (IntKind.u8.wrap (x.fdiv (2^(min (8:Int).toNat IntKind.u64.bits)))) tab.size then k (i64.wrap ((i64.wrap (n+8))+(i64.wrap (bt tab (IntKind.u8.wrap (x.fdiv (2^(min (8:Int).toNat IntKind.u64.bits)))))))) else none
  else bif idx (IntKind.u8.wrap x) tab.size then k (i64.wrap (n+(i64.wrap (bt tab (IntKind.u8.wrap x))))) else none)/\tab.size=256 /\
  (List.range 256).all (fun v=>Nat.beq v 0||(decide (1<=(bt tab (v:Int)).toNat)&&(decide (bt tab (v:Int)<=8)&&(decide ((2:Int)^((bt tab (v:Int)).toNat-1)<=(v:Int))&&decide ((v:Int)<2^(bt tab (v:Int)).toNat)))))=true :=
 ⟨_,fun _ _ _ _ _=>rfl,rfl,by kernel_rfl⟩
theorem zdb {n:Int} {len:Nat} (h1:0<=n) (h2:n<(len:Int)):idx n len=true:=by
 unfold idx; rw[decide_eq_true h1,decide_eq_true h2]; rfl
theorem zcF {n:Int} (h1:0<=n) (h2:n<256):IntKind.u8.wrap n=n:=by
 show (if (false&&decide (n%256>=128))=true then n%256-256 else n%256)=_;simp; omega
theorem zfD {R:Type} (F:Nat) (k:Int->Option R) {x n:Int} (h1:1<=x) (h2:x<65536) (n1:0<=n) (n2:n<=1000):∃L:Nat,yC.j7 F k x n=k (n+(L:Int))/\L<=16/\Qb x L:=by
 obtain ⟨tab,t1,t2,t3⟩:=len_tab;have small:∀v:Int,1<=v->v<256->∃L:Nat,bt tab v=(L:Int)/\L<=8/\Qb v L:=by
  intro v v1 v2;have:=List.all_eq_true.1 t3 v.toNat (by simp; omega);rw[show ((v.toNat:Nat):Int)=v by omega] at this;have hb:Nat.beq v.toNat 0=false:=by
   cases hv:v.toNat with
   | zero=>omega
   | succ m=>rfl
  rw[hb] at this;simp only[Bool.false_or,Bool.and_eq_true,decide_eq_true_eq] at this;obtain ⟨a,b,c,d⟩:=this;exact ⟨(bt tab v).toNat,by omega,by omega,a,c,d⟩
 rw[t1,t2];have e8:(2^(min (8:Int).toNat IntKind.u64.bits):Int)=256:=by decide
 rw[e8,Int.fdiv_eq_ediv_of_nonneg _ (by omega)];by_cases h:x>=256
 ·obtain ⟨L,q1,q2,q3⟩:=small (x/256) (by omega) (by omega)
  have q4:=SE 8 (x:=x) (L:=L) q3;rw[decide_eq_true h,zcF (n:=x/256) (by omega) (by omega),zdb (n:=x/256) (by omega) (by omega),q1];simp only[cond_true];rw[zY (n:=n+8) (by omega) (by omega),zY (n:=(L:Int)) (by omega) (by omega),zY (by omega) (by omega)];exact ⟨L+8,by congr 1; omega,by omega,q4⟩
 ·obtain ⟨L,q1,q2,q3⟩:=small x (by omega) (by omega)
  rw[decide_eq_false h,zcF (n:=x) (by omega) (by omega),zdb (n:=x) (by omega) (by omega),q1];simp only[cond_true,cond_false];rw[zY (n:=(L:Int)) (by omega) (by omega),zY (by omega) (by omega)];exact ⟨L,rfl,by omega,q3⟩
theorem zfE {R:Type} (F:Nat) (k:Int->Option R) {x n:Int} (h1:1<=x) (h2:x<4294967296) (n1:0<=n) (n2:n<=100):∃L:Nat,yC.j4 F k x n=k (n+(L:Int))/\L<=32/\Qb x L:=by
 unfold yC.j4;have e:(2^(min (16:Int).toNat IntKind.u64.bits):Int)=65536:=by decide
 rw[e,Int.fdiv_eq_ediv_of_nonneg _ (by omega)];by_cases h:x>=65536
 ·rw[decide_eq_true h,zY (n:=n+16) (by omega) (by omega)]
  obtain ⟨L,q1,q2,q3⟩:=zfD F (fun n1=>k n1) (x:=x/65536) (n:=n+16) (by omega) (by omega) (by omega) (by omega);exact ⟨L+16,by simp only[cond_true]; rw[q1]; congr 1; omega,by omega,SE 16 q3⟩
 ·rw[decide_eq_false h]
  obtain ⟨L,q1,q2,q3⟩:=zfD F (fun n1=>k n1) (x:=x) (n:=n) (by omega) (by omega) (by omega) (by omega);exact ⟨L,by simp only[cond_false]; rw[q1],by omega,q3⟩
theorem zfF (F:Nat) {x:Int} (h1:1<=x) (h2:x<18446744073709551616):∃L:Nat,yC.sh F x=some (((L:Int),()),())/\L<=64/\Qb x L:=by
 unfold yC.sh;have e:(2^(min (32:Int).toNat IntKind.u64.bits):Int)=4294967296:=by decide
 rw[e,Int.fdiv_eq_ediv_of_nonneg _ (by omega)];by_cases h:x>=4294967296
 ·rw[decide_eq_true h]
  obtain ⟨L,q1,q2,q3⟩:=zfE F (fun n3=>(some ((n3,()),()):Option yC.sg.R)) (x:=x/4294967296) (n:=32) (by omega) (by omega) (by omega) (by omega);exact ⟨L+32,by simp only[cond_true]; rw[q1,show (32:Int)+(L:Int)=((L+32:Nat):Int) by omega],by omega,SE 32 q3⟩
 ·rw[decide_eq_false h]
  obtain ⟨L,q1,q2,q3⟩:=zfE F (fun n3=>(some ((n3,()),()):Option yC.sg.R)) (x:=x) (n:=0) (by omega) (by omega) (by omega) (by omega);exact ⟨L,by simp only[cond_false]; rw[q1,Int.zero_add],by omega,q3⟩
theorem lz_eq (F:Nat) {y:Int} (h1:1<=y) (h2:y<18446744073709551616):∃s:Nat,yY.sh F y=some (((s:Int),()),())/\s<=63/\9223372036854775808<=y*2^s/\y*2^s<18446744073709551616:=by
 obtain ⟨L,q1,q2,q3,q4,q5⟩:=zfF F h1 h2;unfold yY.sh;rw[q1];simp only[zg];rw[zY (n:=64-(L:Int)) (by omega) (by omega)];have hp:(0:Int)<=2^(64-L):=Int.le_of_lt (Int.pow_pos (by decide));have hp':(0:Int)<2^(64-L):=Int.pow_pos (by decide);refine ⟨64-L,by rw[show (64:Int)-(L:Int)=((64-L:Nat):Int) by omega],by omega,?_,?_⟩
 ·have:=Int.mul_le_mul_of_nonneg_right q4 hp
  rw[<-Int.pow_add,show L-1+(64-L)=63 by omega] at this;exact this
 ·have:=Int.mul_lt_mul_of_pos_right q5 hp'
  rw[<-Int.pow_add,show L+(64-L)=64 by omega] at this;exact this
structure Guess (y1 y0 u un q qh rh:Int):Prop where
 y1a:2147483648<=y1
 y1b:y1<4294967296
 y0a:0<=y0
 y0b:y0<4294967296
 una:0<=un
 unb:un<4294967296
 ua:0<=u
 ub:u<y1*4294967296+y0
 q0:0<=q
 qle:q*(y1*4294967296+y0)<=u*4294967296+un
 qlt:u*4294967296+un<(q+1)*(y1*4294967296+y0)
 rh0:0<=rh
 rhb:rh<4294967296
 eq:qh*y1+rh=u
 le:q<=qh
 hi:qh<=4294967297
theorem Guess.qh_y {y1 y0 u un q qh rh:Int} (g:Guess y1 y0 u un q qh rh):qh*(y1*4294967296+y0)=(u-rh)*4294967296+qh*y0:=by
 rw[Int.mul_add,<-Int.mul_assoc,<-g.eq];congr 2
 omega
theorem Guess.qsm {y1 y0 u un q qh rh:Int} (g:Guess y1 y0 u un q qh rh):q<4294967296:=by
 have h:=g.qle;have h1:=g.ub;have hy:0<y1*4294967296+y0:=by have:=g.y1a; have:=g.y0a; omega
 rcases Int.lt_or_le q 4294967296 with h' | h'
 ·exact h'
 ·have:=Int.mul_le_mul_of_nonneg_right h' (Int.le_of_lt hy)
  have:=g.unb;omega
theorem Guess.good {y1 y0 u un q qh rh:Int} (g:Guess y1 y0 u un q qh rh) (h:qh*y0<=4294967296*rh+un):qh=q:=by
 have h1:=g.qh_y;have h2:=g.qlt;have hy:0<y1*4294967296+y0:=by have:=g.y1a; have:=g.y0a; omega
 have h3:qh*(y1*4294967296+y0)<(q+1)*(y1*4294967296+y0):=by omega
 have:=Int.lt_of_mul_lt_mul_right h3 (Int.le_of_lt hy);have:=g.le;omega
theorem Guess.big {y1 y0 u un q qh rh:Int} (g:Guess y1 y0 u un q qh rh) (h:4294967296<=qh\/4294967296*rh+un<qh*y0):q+1<=qh:=by
 rcases h with h | h
 ·have:=g.qsm; omega
 ·have h1:=g.qh_y
  have h2:=g.qle;have hy:0<y1*4294967296+y0:=by have:=g.y1a; have:=g.y0a; omega
  have h3:q*(y1*4294967296+y0)<qh*(y1*4294967296+y0):=by omega
  have:=Int.lt_of_mul_lt_mul_right h3 (Int.le_of_lt hy);omega
theorem Guess.next {y1 y0 u un q qh rh:Int} (g:Guess y1 y0 u un q qh rh) (h:q+1<=qh):(rh+y1<4294967296->Guess y1 y0 u un q (qh-1) (rh+y1))/\(4294967296<=rh+y1->qh-1=q):=by
 have e:(qh-1)*y1+(rh+y1)=u:=by rw[Int.sub_mul,Int.one_mul]; have:=g.eq; omega
 constructor
 ·intro hr
  exact {g with rh0:=by have:=g.rh0; have:=g.y1a; omega,rhb:=hr,eq:=e,le:=by omega,hi:=by have:=g.hi; omega}
 ·intro hr
  have hy0:=g.y0a;have hm:(qh-1)*y0<=4294967296*y0:=Int.mul_le_mul_of_nonneg_right (by have:=g.hi; omega) hy0;have hy:0<y1*4294967296+y0:=by have:=g.y1a; omega
  have h1:(qh-1)*(y1*4294967296+y0)=(u-(rh+y1))*4294967296+(qh-1)*y0:=by
   rw[Int.mul_add,<-Int.mul_assoc,<-e];congr 2
   omega
  have h2:=g.qlt;have:=g.y0b;have:=g.una;have h3:(qh-1)*(y1*4294967296+y0)<(q+1)*(y1*4294967296+y0):=by omega
  have:=Int.lt_of_mul_lt_mul_right h3 (Int.le_of_lt hy);omega
theorem zda (F:Nat) {R:Type} (k:Int->Int->Int->Int->Int->Int->Int->Int->Option R) (y s u0:Int) {y1 y0 u un q:Int}:∀(m fu:Nat) (qh rh:Int),m<fu->4294967296<=rh+m*2147483648->Guess y1 y0 u un q qh rh->
  zu.l17 F (fun y s a b c d e q _ _=>k y s a b c d e q) (fun y s a b c d e q _ _=>k y s a b c d e q) fu y s y1 y0 u un u0 qh rh=k y s y1 y0 u un u0 q
 | 0,fu,qh,rh,hf,hm,g=>by have:=g.rhb; omega
 | m+1,fu,qh,rh,hf,hm,g=>by
  obtain ⟨fu,rfl⟩:∃j,fu=j+1:=⟨fu-1,by omega⟩;have r0:=g.rh0;have rb:=g.rhb;have q0:=g.q0;have ql:=g.le;have qhi:=g.hi;have a1:=g.y1a;have a2:=g.y1b;have b1:=g.y0a;have b2:=g.y0b;have un1:=g.una;have un2:=g.unb;have step:q+1<=qh->(bif decide ((u64.wrap (rh+y1))>=4294967296) then k y s y1 y0 u un u0 (u64.wrap (qh-1)) else zu.l17 F (fun y s a b c d e q _ _=>k y s a b c d e q) (fun y s a b c d e q _ _=>k y s a b c d e q) fu y s y1 y0 u un u0 (u64.wrap (qh-1)) (u64.wrap (rh+y1)))=k y s y1 y0 u un u0 q:=by
   intro h;have hn:=g.next h;rw[x8 (n:=rh+y1) (by omega) (by omega),x8 (n:=qh-1) (by omega) (by omega)];by_cases hr:rh+y1>=4294967296
   ·rw[decide_eq_true hr,hn.2 hr]; rfl
   ·rw[decide_eq_false hr]
    exact zda F k y s u0 m fu (qh-1) (rh+y1) (by omega) (by push_cast at hm; omega) (hn.1 (by omega))
  simp only[zu.l17,zu.l17.body];by_cases hq:qh>=4294967296
  ·rw[decide_eq_true hq]
   exact step (g.big (.inl hq))
  ·rw[decide_eq_false hq]
   have hz:=ZR (show 0<=qh by omega) (show qh<=4294967295 by omega) b1 (show y0<=4294967295 by omega);simp only[cond_false];rw[x8 (n:=qh*y0) (by omega) (by omega),x8 (n:=4294967296*rh) (by omega) (by omega),x8 (n:=4294967296*rh+un) (by omega) (by omega)];by_cases hc:qh*y0>4294967296*rh+un
   ·rw[decide_eq_true hc]
    exact step (g.big (.inr hc))
   ·rw[decide_eq_false hc,g.good (by omega)]
    rfl
theorem zd9 (F:Nat) {R:Type} (k:Int->Int->Int->Int->Int->Int->Int->Int->Option R) (y s Q1:Int) {y1 y0 u un q:Int}:∀(m fu:Nat) (qh rh:Int),m<fu->4294967296<=rh+m*2147483648->Guess y1 y0 u un q qh rh->
  zu.l24 F (fun y s a b c d _ e q _=>k y s a b c d e q) (fun y s a b c d _ e q _=>k y s a b c d e q) fu y s y1 y0 un Q1 rh u qh=k y s y1 y0 un Q1 u q
 | 0,fu,qh,rh,hf,hm,g=>by have:=g.rhb; omega
 | m+1,fu,qh,rh,hf,hm,g=>by
  obtain ⟨fu,rfl⟩:∃j,fu=j+1:=⟨fu-1,by omega⟩;have r0:=g.rh0;have rb:=g.rhb;have q0:=g.q0;have ql:=g.le;have qhi:=g.hi;have a1:=g.y1a;have a2:=g.y1b;have b1:=g.y0a;have b2:=g.y0b;have un1:=g.una;have un2:=g.unb;have step:q+1<=qh->(bif decide ((u64.wrap (rh+y1))>=4294967296) then k y s y1 y0 un Q1 u (u64.wrap (qh-1)) else zu.l24 F (fun y s a b c d _ e q _=>k y s a b c d e q) (fun y s a b c d _ e q _=>k y s a b c d e q) fu y s y1 y0 un Q1 (u64.wrap (rh+y1)) u (u64.wrap (qh-1)))=k y s y1 y0 un Q1 u q:=by
   intro h;have hn:=g.next h;rw[x8 (n:=rh+y1) (by omega) (by omega),x8 (n:=qh-1) (by omega) (by omega)];by_cases hr:rh+y1>=4294967296
   ·rw[decide_eq_true hr,hn.2 hr]; rfl
   ·rw[decide_eq_false hr]
    exact zd9 F k y s Q1 m fu (qh-1) (rh+y1) (by omega) (by push_cast at hm; omega) (hn.1 (by omega))
  simp only[zu.l24,zu.l24.body];by_cases hq:qh>=4294967296
  ·rw[decide_eq_true hq]
   exact step (g.big (.inl hq))
  ·rw[decide_eq_false hq]
   have hz:=ZR (show 0<=qh by omega) (show qh<=4294967295 by omega) b1 (show y0<=4294967295 by omega);simp only[cond_false];rw[x8 (n:=qh*y0) (by omega) (by omega),x8 (n:=4294967296*rh) (by omega) (by omega),x8 (n:=4294967296*rh+un) (by omega) (by omega)];by_cases hc:qh*y0>4294967296*rh+un
   ·rw[decide_eq_true hc]
    exact step (g.big (.inr hc))
   ·rw[decide_eq_false hc,g.good (by omega)]
    rfl
theorem Guess.first {y1 y0 u un:Int} (y1a:2147483648<=y1) (y1b:y1<4294967296) (y0a:0<=y0) (y0b:y0<4294967296) (una:0<=un) (unb:un<4294967296) (ua:0<=u) (ub:u<y1*4294967296+y0) :
  Guess y1 y0 u un ((u*4294967296+un)/(y1*4294967296+y0)) (u/y1) (u%y1):=by
 have hy:0<y1*4294967296+y0:=by omega
 have e:=Int.emod_add_mul_ediv u y1;have e2:u/y1*y1+u%y1=u:=by rw[Int.mul_comm]; omega
 have r1:=Int.emod_nonneg u (show y1≠0 by omega);have r2:=Int.emod_lt_of_pos u (show 0<y1 by omega);have hq0:0<=u/y1:=Int.ediv_nonneg ua (by omega);have hqy:0<=u/y1*y0:=Int.mul_nonneg hq0 y0a;refine ⟨y1a,y1b,y0a,y0b,una,unb,ua,ub,Int.ediv_nonneg (by omega) (by omega),Int.ediv_mul_le _ (by omega),Int.lt_ediv_add_one_mul_self _ hy,r1,by omega,e2,?_,?_⟩
 ·have h1:(u*4294967296+un)/(y1*4294967296+y0)<u/y1+1:=by
   refine Int.ediv_lt_of_lt_mul hy ?_;rw[Int.add_mul,Int.one_mul,Int.mul_add,<-Int.mul_assoc];have:(u-u%y1)*4294967296=u/y1*y1*4294967296:=by congr 1; omega
   omega
  omega
 ·have h1:u/y1<4294967298:=by
   refine Int.ediv_lt_of_lt_mul (by omega) ?_;omega
  omega
theorem QP {s:Nat} {a b:Int} (h0:0<=a) (h1:a*2^s<18446744073709551616) (h2:0<=b) (h3:b<2^s) (h4:b<18446744073709551616) (h5:a*2^s+b<18446744073709551616) :
  u64.wrap ((BitVec.ofInt IntKind.u64.bits (a*2^s) ||| BitVec.ofInt IntKind.u64.bits b).toNat:Int)=a*2^s+b:=by
 obtain ⟨A,rfl⟩:=Int.eq_ofNat_of_zero_le h0;obtain ⟨B,rfl⟩:=Int.eq_ofNat_of_zero_le h2;have e:((A:Int)*2^s)=((A*2^s:Nat):Int):=by push_cast; rfl
 have e2:((2:Int)^s)=((2^s:Nat):Int):=by push_cast; rfl
 rw[e] at h1 h5 ⊢;rw[e2] at h3;show u64.wrap ((BitVec.ofInt 64 ((A*2^s:Nat):Int) ||| BitVec.ofInt 64 (B:Int)).toNat:Int)=_
 rw[BitVec.ofInt_natCast,BitVec.ofInt_natCast,BitVec.toNat_or,BitVec.toNat_ofNat,BitVec.toNat_ofNat,Nat.mod_eq_of_lt (by omega:A*2^s<2^64),Nat.mod_eq_of_lt (by omega)];have:=Nat.two_pow_add_eq_or_of_lt (i:=s) (b:=B) (by omega) A;rw[Nat.mul_comm] at this;rw[<-this,x8 (by omega) (by omega)];push_cast;rfl
theorem Xy {M y Q R':Int} (hy:0<y) (h:M=Q*y+R') (h0:0<=R') (h1:R'<y):M/y=Q/\M%y=R':=by
 have e:M=R'+y*Q:=by rw[Int.mul_comm] at h; omega
 rw[e,Int.add_mul_ediv_left _ _ (by omega),Int.add_mul_emod_self_left,Int.ediv_eq_zero_of_lt h0 h1,Int.emod_eq_of_lt h0 h1];omega
theorem div_j28 (F:Nat) {R:Type} (k:Int->Int->Option R) {Y un0 q1 r1 q0:Int} {s:Nat} (hs:s<=63) (hY:Y<18446744073709551616) (a1:0<=q1) (a2:q1<4294967296) (b1:0<=q0) (b2:q0<4294967296)
  (c1:0<=un0) (c2:un0<4294967296) (d1:0<=r1) (e1:q0*Y<=r1*4294967296+un0) (e2:r1*4294967296+un0<(q0+1)*Y) :
  zu.j28 F k Y (s:Int) un0 q1 r1 q0=k (q1*4294967296+q0) ((r1*4294967296+un0-q0*Y)/2^s):=by
 unfold zu.j28;rw[Int.add_mul,Int.one_mul] at e2;rw[decide_eq_true (show (0:Int)<=(s:Int) by omega),Int.toNat_natCast,show min s IntKind.u64.bits=s from Nat.min_eq_left (by show s<=64; omega)];simp only[cond_true];rw[x8 (n:=q1*4294967296) (by omega) (by omega),x8 (n:=q1*4294967296+q0) (by omega) (by omega)];rw[Int.fdiv_eq_ediv_of_nonneg _ (Int.le_of_lt (Int.pow_pos (by decide)))];congr 2
 simp only[vM];generalize q0*Y=t at*;omega
theorem div_j21 (F:Nat) (hF:4<F) {R:Type} (k:Int->Int->Option R) {y1 y0 u un1 un0:Int} {s:Nat} (hs:s<=63) (y1a:2147483648<=y1) (y1b:y1<4294967296) (y0a:0<=y0) (y0b:y0<4294967296)
  (ua:0<=u) (ub:u<y1*4294967296+y0) (una:0<=un1) (unb:un1<4294967296) (c1:0<=un0) (c2:un0<4294967296) :
  ∃Q r,zu.j21 F k (y1*4294967296+y0) (s:Int) y1 y0 u un1 un0 ((u*4294967296+un1)/(y1*4294967296+y0))=k Q (r/2^s)/\0<=r/\r<y1*4294967296+y0 /\
   (u*4294967296+un1)*4294967296+un0=Q*(y1*4294967296+y0)+r:=by
 have hy:0<y1*4294967296+y0:=by omega
 have g:=Guess.first y1a y1b y0a y0b una unb ua ub;have q1:=g.qsm;have q1':=g.q0;have em:=Int.mul_ediv_add_emod (u*4294967296+un1) (y1*4294967296+y0);have r0:=Int.emod_nonneg (u*4294967296+un1) (show y1*4294967296+y0≠0 by omega);have r1:=Int.emod_lt_of_pos (u*4294967296+un1) hy;rw[Int.mul_comm] at em;generalize hq:(u*4294967296+un1)/(y1*4294967296+y0)=Q1 at*;generalize hr:(u*4294967296+un1)%(y1*4294967296+y0)=R1 at*;have hw:u64.wrap ((u64.wrap ((u64.wrap (u*4294967296))+un1))-(u64.wrap (Q1*(y1*4294967296+y0))))=R1:=by
  simp only[vM];generalize Q1*(y1*4294967296+y0)=t at*;omega
 have g2:=Guess.first (u:=R1) (un:=un0) y1a y1b y0a y0b c1 c2 r0 r1;have em2:=Int.mul_ediv_add_emod R1 y1;have rr0:=Int.emod_nonneg R1 (show y1≠0 by omega);have rr1:=Int.emod_lt_of_pos R1 (show 0<y1 by omega);rw[Int.mul_comm] at em2;have gh:=g2.hi;have gl:=Int.ediv_nonneg r0 (show 0<=y1 by omega);have gm:=Int.mul_nonneg gl (show 0<=y1 by omega);unfold zu.j21;rw[hw,show (y1 != 0)=true from bne_iff_ne.2 (by omega),Int.tdiv_eq_ediv_of_nonneg r0];rw[x8 (n:=R1/y1) (by omega) (by omega),x8 (n:=R1/y1*y1) (by omega) (by omega),x8 (n:=R1-R1/y1*y1) (by omega) (by omega),show R1-R1/y1*y1=R1%y1 by omega];simp only[cond_true];have hk:=zd9 F (fun y s a b c d e q=>zu.j28 F (fun quo4 rem4=>k quo4 rem4) y s c d e q) (y1*4294967296+y0) (s:Int) Q1 2 F (R1/y1) (R1%y1) (by omega) (by omega) g2;rw[hk];have q2:=g2.qsm;have q2':=g2.q0;have q2l:=g2.qle;have q2u:=g2.qlt;generalize (R1*4294967296+un0)/(y1*4294967296+y0)=Q0 at*;refine ⟨Q1*4294967296+Q0,R1*4294967296+un0-Q0*(y1*4294967296+y0),?_,by omega,by rw[Int.add_mul,Int.one_mul] at q2u; omega,?_⟩
 ·exact div_j28 F _ hs (by omega) q1' q1 q2' q2 c1 c2 r0 q2l q2u
 ·rw[Int.add_mul (Q1*4294967296),Int.mul_right_comm Q1]
  omega
theorem zgb (F:Nat) (hF:4<F) {hi lo y:Int} (h1:0<=hi) (h2:hi<y) (h3:0<=lo) (h4:lo<18446744073709551616) (h5:y<18446744073709551616) :
  zu.sh F hi lo y=some (((hi*18446744073709551616+lo)/y,(hi*18446744073709551616+lo)%y,()),()):=by
 unfold zu.sh;rw[show (y==0)=false by rw[beq_eq_false_iff_ne]; omega,show (y != 0)=true from bne_iff_ne.2 (by omega),decide_eq_false (show ¬y<=hi by omega)];simp only[cond_false,cond_true];by_cases h0:hi=0
 ·subst h0
  have hq:lo/y<=lo:=Int.ediv_le_self _ h3;have hq0:0<=lo/y:=Int.ediv_nonneg h3 (by omega);rw[beq_self_eq_true,Int.tdiv_eq_ediv_of_nonneg h3,Int.tmod_eq_emod_of_nonneg h3,x8 hq0 (by omega)];simp
 ·rw[show (hi==0)=false by rw[beq_eq_false_iff_ne]; exact h0]
  obtain ⟨s,z1,z2,z3,z4⟩:=lz_eq F (y:=y) (by omega) h5;rw[z1];simp only[zg,cond_false];rw[x8 (n:=(s:Int)) (by omega) (by omega),x8 (n:=64-(s:Int)) (by omega) (by omega),show (64:Int)-(s:Int)=((64-s:Nat):Int) by omega,decide_eq_true (show (0:Int)<=(s:Int) by omega),
   decide_eq_true (show (0:Int)<=((64-s:Nat):Int) by omega),Int.toNat_natCast,Int.toNat_natCast,show min s IntKind.u64.bits=s from Nat.min_eq_left (by show s<=64; omega),show min (64-s) IntKind.u64.bits=64-s from Nat.min_eq_left (by show 64-s<=64; omega)]
  simp only[cond_true];have hP:(0:Int)<2^s:=Int.pow_pos (by decide);have hQ:(0:Int)<2^(64-s):=Int.pow_pos (by decide);have hPQ:(2:Int)^s*2^(64-s)=18446744073709551616:=by rw[<-Int.pow_add,show s+(64-s)=64 by omega]; rfl
  have hYw:u64.wrap (y*2^s)=y*2^s:=x8 (by omega) (by omega);have hhi:hi*2^s<y*2^s:=Int.mul_lt_mul_of_pos_right h2 hP;have hhi0:0<=hi*2^s:=Int.mul_nonneg h1 (Int.le_of_lt hP);have hHw:u64.wrap (hi*2^s)=hi*2^s:=x8 hhi0 (by omega);have hlo1:0<=lo/2^(64-s):=Int.ediv_nonneg h3 (Int.le_of_lt hQ);have hlo2:lo/2^(64-s)<2^s:=Int.ediv_lt_of_lt_mul hQ (by rw[hPQ]; exact h4);have hlo3:lo/2^(64-s)=lo*2^s/18446744073709551616:=by
   rw[<-hPQ,Int.mul_comm lo,Int.mul_ediv_mul_of_pos _ _ hP]
  have hM:(hi*2^s+lo/2^(64-s))*18446744073709551616+lo*2^s%18446744073709551616=(hi*18446744073709551616+lo)*2^s:=by
   rw[hlo3,Int.add_mul (hi*18446744073709551616),Int.mul_right_comm hi];omega
  have hMl:(hi*18446744073709551616+lo)*2^s<y*2^s*18446744073709551616:=by
   rw[Int.mul_right_comm y];exact Int.mul_lt_mul_of_pos_right (by omega) hP
  have hu:hi*2^s+lo/2^(64-s)<y*2^s:=by omega
  have hu0:0<=hi*2^s+lo/2^(64-s):=by omega
  have hor:=QP (s:=s) (a:=hi) (b:=lo/2^(64-s)) h1 (by omega) hlo1 hlo2 (by omega) (by omega);rw[hYw,hHw,Int.fdiv_eq_ediv_of_nonneg lo (Int.le_of_lt hQ),hor,Sy (by omega) (by omega),Sd (by omega),vM,Sy (by omega) (by omega),Sd (by omega)];generalize hi*2^s+lo/2^(64-s)=u at*;generalize hL:lo*2^s%18446744073709551616=L at*;generalize hYY:y*2^s=Y at*;have hL0:0<=L:=by omega
  have hL1:L<18446744073709551616:=by omega
  have g:=Guess.first (y1:=Y/4294967296) (y0:=Y%4294967296) (u:=u) (un:=L/4294967296) (by omega) (by omega) (by omega) (by omega) (by omega) (by omega) hu0 (by omega);have em2:=Int.mul_ediv_add_emod u (Y/4294967296);have rr0:=Int.emod_nonneg u (show Y/4294967296≠0 by omega);have rr1:=Int.emod_lt_of_pos u (show 0<Y/4294967296 by omega);rw[Int.mul_comm] at em2;have gh:=g.hi;have gl:=Int.ediv_nonneg hu0 (show 0<=Y/4294967296 by omega);have gm:=Int.mul_nonneg gl (show 0<=Y/4294967296 by omega);rw[show (Y/4294967296 != 0)=true from bne_iff_ne.2 (by omega),Int.tdiv_eq_ediv_of_nonneg hu0];rw[x8 (n:=u/(Y/4294967296)) gl (by omega),x8 (n:=u/(Y/4294967296)*(Y/4294967296)) (by omega) (by omega),x8 (n:=u-u/(Y/4294967296)*(Y/4294967296)) (by omega) (by omega),show u-u/(Y/4294967296)*(Y/4294967296)=u%(Y/4294967296) by omega];simp only[cond_true];have hk:=zda F (fun y s a b c d e q=>zu.j21 F (fun quo7 rem7=>(some ((quo7,rem7,()),()):Option zu.sg.R)) y s a b c d e q) Y (s:Int) (L%4294967296) 2 F (u/(Y/4294967296)) (u%(Y/4294967296)) (by omega) (by omega) g;rw[hk];have hj:=div_j21 F hF (fun quo7 rem7=>(some ((quo7,rem7,()),()):Option zu.sg.R)) (y1:=Y/4294967296) (y0:=Y%4294967296) (u:=u) (un1:=L/4294967296) (un0:=L%4294967296) z2 (by omega) (by omega) (by omega) (by omega) hu0 (by omega) (by omega) (by omega) (by omega) (by omega);rw[show Y/4294967296*4294967296+Y%4294967296=Y by omega] at hj ⊢;obtain ⟨Q,r,e1,e2,e3,e4⟩:=hj;rw[e1];have e5:(hi*18446744073709551616+lo)*2^s=Q*Y+r:=by rw[<-hM,<-e4]; omega
  have e6:r=(hi*18446744073709551616+lo-Q*y)*2^s:=by
   rw[Int.sub_mul,Int.mul_assoc Q,hYY]; omega
  have e7:r/2^s=hi*18446744073709551616+lo-Q*y:=by rw[e6,Int.mul_ediv_cancel _ (Int.ne_of_gt hP)]
  rw[e7];have e8:0<=hi*18446744073709551616+lo-Q*y:=by rw[<-e7]; exact Int.ediv_nonneg e2 (Int.le_of_lt hP)
  have e9:hi*18446744073709551616+lo-Q*y<y:=by rw[<-e7]; exact Int.ediv_lt_of_lt_mul hP (by rw[hYY]; exact e3)
  obtain ⟨f1,f2⟩:=Xy (M:=hi*18446744073709551616+lo) (y:=y) (Q:=Q) (R':=hi*18446744073709551616+lo-Q*y) (by omega) (by omega) e8 e9;rw[f1,f2]
theorem mask1 {x:Int} (h1:0<=x) (h2:x<18446744073709551616):u64.wrap ((BitVec.ofInt IntKind.u64.bits x &&& BitVec.ofInt IntKind.u64.bits 1).toNat:Int)=x%2:=by
 obtain ⟨X,rfl⟩:=Int.eq_ofNat_of_zero_le h1;show u64.wrap ((BitVec.ofInt 64 (X:Int) &&& BitVec.ofInt 64 ((1:Nat):Int)).toNat:Int)=_;rw[BitVec.ofInt_natCast,BitVec.ofInt_natCast,BitVec.toNat_and,BitVec.toNat_ofNat,BitVec.toNat_ofNat,Nat.mod_eq_of_lt (by omega:X<2^64),Nat.mod_eq_of_lt (by decide)];have:X &&& 1=X%2:=Nat.and_two_pow_sub_one_eq_mod X 1;rw[this,x8 (by omega) (by omega)];omega
theorem shl1 {x:Int}:x*2^(min (1:Int).toNat IntKind.u64.bits)=x*2:=by
 have e:(2^(min (1:Int).toNat IntKind.u64.bits):Int)=2:=by decide
 rw[e]
theorem zeL {x:Int} (h:0<=x):x.fdiv (2^(min (63:Int).toNat IntKind.u64.bits))=x/9223372036854775808:=by
 have e:(2^(min (63:Int).toNat IntKind.u64.bits):Int)=9223372036854775808:=by decide
 rw[e,Int.fdiv_eq_ediv_of_nonneg _ (by omega)]
theorem qr_body (F:Nat) {R:Type} (k0:Int->Int->Int->Int->Int->Int->Int->Bool->Option R) (rec:Int->Int->Int->Int->Int->Int->Int->Option R) {al bh bl q r B:Int} {i:Nat} (hi:i<64)
  (ha1:0<=al) (ha2:al<18446744073709551616) (hb1:0<=bh) (hb2:bh<=9223372036854775808) (hl1:0<=bl) (hl2:bl<18446744073709551616) (hB:B=bh*18446744073709551616+bl) (hB2:B<=170141183460469231731687303715884105728)
  (hq1:0<=q) (hq2:q*2^(i+1)+2^(i+1)<=18446744073709551616) (hr1:0<=r) (hr2:r<B) :
  yM.l7.body F k0 rec al bh bl (q*2^(i+1)) (r/18446744073709551616) (r%18446744073709551616) (i:Int) =
   if B<=2*r+al/2^i%2 then rec al bh bl ((2*q+1)*2^i) ((2*r+al/2^i%2-B)/18446744073709551616) ((2*r+al/2^i%2-B)%18446744073709551616) (i64.wrap ((i:Int)-1))
   else rec al bh bl ((2*q)*2^i) ((2*r+al/2^i%2)/18446744073709551616) ((2*r+al/2^i%2)%18446744073709551616) (i64.wrap ((i:Int)-1)):=by
 have hP:(0:Int)<2^i:=Int.pow_pos (by decide);have hP2:(2:Int)^(i+1)=2*2^i:=by rw[Int.pow_succ,Int.mul_comm]
 have hb0:0<=al/2^i:=Int.ediv_nonneg ha1 (Int.le_of_lt hP);have hbl:al/2^i<=al:=Int.ediv_le_self _ ha1;have hsh:al.fdiv (2^(min (i:Int).toNat IntKind.u64.bits))=al/2^i:=by
  rw[Int.toNat_natCast,show min i IntKind.u64.bits=i from Nat.min_eq_left (by show i<=64; omega),Int.fdiv_eq_ediv_of_nonneg _ (Int.le_of_lt hP)]
 have hbit:al/2^i%2=0\/al/2^i%2=1:=by omega
 have hq3:q*2^(i+1)=2*q*2^i:=by rw[hP2,<-Int.mul_assoc,Int.mul_comm q]
 have w1:u64.wrap (r/18446744073709551616*2)=r/18446744073709551616*2^1:=by rw[x8 (by omega) (by omega)]; rfl
 have w2:u64.wrap (r%18446744073709551616*2)=(r%18446744073709551616%9223372036854775808)*2^1:=by rw[vM]; omega
 have o1:=QP (s:=1) (a:=r/18446744073709551616) (b:=r%18446744073709551616/9223372036854775808) (by omega) (by omega) (by omega) (by omega) (by omega) (by omega);have o2:=QP (s:=1) (a:=r%18446744073709551616%9223372036854775808) (b:=al/2^i%2) (by omega) (by omega) (by omega) (by omega) (by omega) (by omega);have o3:u64.wrap ((BitVec.ofInt IntKind.u64.bits (q*2^(i+1)) ||| BitVec.ofInt IntKind.u64.bits (u64.wrap (1*2^(min (i:Int).toNat IntKind.u64.bits)))).toNat:Int)=(2*q+1)*2^i:=by
  have hm:=Int.mul_nonneg hq1 (Int.le_of_lt hP);rw[Int.toNat_natCast,show min i IntKind.u64.bits=i from Nat.min_eq_left (by show i<=64; omega),Int.one_mul,x8 (n:=2^i) (by omega) (by rw[hq3,hP2,Int.mul_assoc] at hq2; omega)];rw[QP (s:=i+1) (a:=q) (b:=2^i) hq1 (by omega) (by omega) (by omega) (by rw[hq3,hP2,Int.mul_assoc] at hq2; omega) (by omega),hq3,Int.add_mul,Int.one_mul]
 unfold yM.l7.body;rw[decide_eq_true (show (i:Int)>=0 by omega),shl1,shl1,w1,w2,zeL (by omega),o1,hsh,mask1 (x:=al/2^i) (by omega) (by omega),o2,o3];simp only[cond_true];rw[hq3];generalize al/2^i%2=c at*;have e1:r/18446744073709551616*2^1+r%18446744073709551616/9223372036854775808=(2*r+c)/18446744073709551616:=by omega
 have e2:r%18446744073709551616%9223372036854775808*2^1+c=(2*r+c)%18446744073709551616:=by omega
 rw[e1,e2];have hn1:0<=2*r+c:=by omega
 have hn2:2*r+c<2*B:=by omega
 generalize 2*r+c=N at*;clear e1 e2 o1 o2 o3 w1 w2;have sub:∀bo:Int,(N%18446744073709551616<bl/\bo=1)\/(bl<=N%18446744073709551616/\bo=0)->B<=N->(N/18446744073709551616-bh-bo)%18446744073709551616=(N-B)/18446744073709551616:=by
  intro bo h h';omega
 have s1:=Z4 F (x:=N%18446744073709551616) (y:=bl) (c:=0) (by omega) hl1 hl2 (by omega) (by omega);have hbo:(N%18446744073709551616<bl/\(if N%18446744073709551616<bl+0 then (1:Int) else 0)=1)\/(bl<=N%18446744073709551616/\(if N%18446744073709551616<bl+0 then (1:Int) else 0)=0):=by split<;>omega
 rw[s1];generalize (if N%18446744073709551616<bl+0 then (1:Int) else 0)=bo at*;have s2:=Z4 F (x:=N/18446744073709551616) (y:=bh) (c:=bo) (by omega) hb1 (by omega) (by omega) (by omega);simp only[zg];rw[s2];simp only[zg];by_cases hle:B<=N
 ·rw[if_pos hle,sub bo hbo hle,show (N%18446744073709551616-bl-0)%18446744073709551616=(N-B)%18446744073709551616 by omega]
  by_cases hg:N/18446744073709551616>bh
  ·rw[decide_eq_true hg]; rfl
  ·rw[decide_eq_false hg,show (N/18446744073709551616==bh)=true by rw[beq_iff_eq]; omega,decide_eq_true (show N%18446744073709551616>=bl by omega)]; rfl
 ·rw[if_neg hle,decide_eq_false (show ¬N/18446744073709551616>bh by omega)]
  by_cases he:N/18446744073709551616=bh
  ·rw[show (N/18446744073709551616==bh)=true by rw[beq_iff_eq]; exact he,decide_eq_false (show ¬N%18446744073709551616>=bl by omega)]; rfl
  ·rw[show (N/18446744073709551616==bh)=false by rw[beq_eq_false_iff_ne]; exact he]; rfl
theorem zgv {ah al:Int} (ha:0<=al) {n:Nat} (hn:n<64):(ah*18446744073709551616+al)/2^n=2*((ah*18446744073709551616+al)/2^(n+1))+al/2^n%2:=by
 have hP:(0:Int)<2^n:=Int.pow_pos (by decide);have e:ah*18446744073709551616+al=al+2^n*(2*(2^(63-n)*ah)):=by
  have:(2:Int)^n*(2*(2^(63-n)*ah))=(2^n*2^(63-n))*(2*ah):=by rw[Int.mul_left_comm 2,Int.mul_assoc]
  rw[this,<-Int.pow_add,show n+(63-n)=63 by omega];omega
 have e2:(ah*18446744073709551616+al)/2^(n+1)=(ah*18446744073709551616+al)/2^n/2:=by
  rw[Int.pow_succ,Int.ediv_ediv_of_nonneg (Int.le_of_lt hP)]
 have e3:(ah*18446744073709551616+al)/2^n=al/2^n+2*(2^(63-n)*ah):=by
  rw[e,Int.add_mul_ediv_left _ _ (by omega)]
 rw[e2,e3];generalize al/2^n=x at*;generalize (2:Int)^(63-n)*ah=z at*;omega
theorem QM (F:Nat) {R:Type} (k:Int->Int->Int->Option R) {ah al bh bl B:Int} (ha1:0<=al) (ha2:al<18446744073709551616) (hb1:0<=bh) (hb2:bh<=9223372036854775808) (hl1:0<=bl) (hl2:bl<18446744073709551616)
  (hB:B=bh*18446744073709551616+bl) (hB2:B<=170141183460469231731687303715884105728):∀(n fu:Nat) (q r:Int),n<fu->n<=64->0<=q->q*2^n+2^n<=18446744073709551616->0<=r->r<B->
  (ah*18446744073709551616+al)/2^n=q*B+r->
  yM.l7 F (fun _ _ _ ql rh rl _ _=>k ql rh rl) fu al bh bl (q*2^n) (r/18446744073709551616) (r%18446744073709551616) ((n:Int)-1) =
   k ((ah*18446744073709551616+al)/B) ((ah*18446744073709551616+al)%B/18446744073709551616) ((ah*18446744073709551616+al)%B%18446744073709551616)
 | 0,fu,q,r,hf,hn,hq1,hq2,hr1,hr2,he=>by
  obtain ⟨fu,rfl⟩:∃j,fu=j+1:=⟨fu-1,by omega⟩;simp only[Int.pow_zero,Int.ediv_one] at he;obtain ⟨f1,f2⟩:=Xy (M:=ah*18446744073709551616+al) (y:=B) (Q:=q) (R':=r) (by omega) he hr1 hr2;rw[f1,f2];simp only[yM.l7,yM.l7.body];rw[decide_eq_false (show ¬(((0:Nat):Int)-1)>=0 by omega)];simp
 | n+1,fu,q,r,hf,hn,hq1,hq2,hr1,hr2,he=>by
  obtain ⟨fu,rfl⟩:∃j,fu=j+1:=⟨fu-1,by omega⟩;have hP:(0:Int)<2^n:=Int.pow_pos (by decide);have hP2:(2:Int)^(n+1)=2*2^n:=by rw[Int.pow_succ,Int.mul_comm]
  have hq3:q*2^(n+1)=2*(q*2^n):=by rw[hP2,Int.mul_left_comm]
  simp only[yM.l7];rw[show ((n+1:Nat):Int)-1=((n:Nat):Int) by omega];rw[qr_body F _ _ (by omega) ha1 ha2 hb1 hb2 hl1 hl2 hB hB2 hq1 hq2 hr1 hr2,zY (n:=(n:Int)-1) (by omega) (by omega)];have hbit:=zgv (ah:=ah) ha1 (n:=n) (by omega);have hbb:al/2^n%2=0\/al/2^n%2=1:=by omega
  rw[he] at hbit;have hq4:2*q*2^n=2*(q*2^n):=by rw[Int.mul_assoc]
  split
  ·refine QM F k ha1 ha2 hb1 hb2 hl1 hl2 hB hB2 n fu _ _ (by omega) (by omega) (by omega) ?_ (by omega) (by omega) ?_
   ·rw[Int.add_mul,Int.one_mul,hq4]; omega
   ·rw[hbit,Int.add_mul,Int.one_mul,Int.mul_assoc]; omega
  ·refine QM F k ha1 ha2 hb1 hb2 hl1 hl2 hB hB2 n fu _ _ (by omega) (by omega) (by omega) ?_ (by omega) (by omega) ?_
   ·rw[hq4]; omega
   ·rw[hbit,Int.mul_assoc]; omega
theorem zbY (F:Nat) (hF:70<F) {ah al bh bl:Int} (h1:0<=ah) (h1':ah<18446744073709551616) (ha1:0<=al) (ha2:al<18446744073709551616) (hb1:0<=bh) (hb2:bh<=9223372036854775808) (hl1:0<=bl) (hl2:bl<18446744073709551616)
  (hB0:0<bh*18446744073709551616+bl) (hB2:bh*18446744073709551616+bl<=170141183460469231731687303715884105728) :
  yM.sh F ah al bh bl=some (((ah*18446744073709551616+al)/(bh*18446744073709551616+bl)/18446744073709551616,(ah*18446744073709551616+al)/(bh*18446744073709551616+bl)%18446744073709551616,
   (ah*18446744073709551616+al)%(bh*18446744073709551616+bl)/18446744073709551616,(ah*18446744073709551616+al)%(bh*18446744073709551616+bl)%18446744073709551616,()),()):=by
 unfold yM.sh;by_cases hb:bh=0
 ·subst hb
  rw[beq_self_eq_true,show (bl != 0)=true from bne_iff_ne.2 (by omega),Int.tmod_eq_emod_of_nonneg h1,Int.tdiv_eq_ediv_of_nonneg h1];have m0:=Int.emod_nonneg ah (show bl≠0 by omega);have m1:=Int.emod_lt_of_pos ah (show 0<bl by omega);have d0:=Int.ediv_nonneg h1 hl1;have d1:ah/bl<=ah:=Int.ediv_le_self _ h1;simp only[cond_true];rw[zgb F (by omega) m0 m1 ha1 ha2 hl2,x8 (n:=ah/bl) d0 (by omega)];simp only[zg];have hM0:0<=ah%bl*18446744073709551616+al:=by omega
  have q0:0<=(ah%bl*18446744073709551616+al)/bl:=Int.ediv_nonneg hM0 hl1;have q1:(ah%bl*18446744073709551616+al)/bl<18446744073709551616:=Int.ediv_lt_of_lt_mul (by omega) (by omega);have r0:=Int.emod_nonneg (ah%bl*18446744073709551616+al) (show bl≠0 by omega);have r1:=Int.emod_lt_of_pos (ah%bl*18446744073709551616+al) (show 0<bl by omega);have e1:=Int.mul_ediv_add_emod ah bl;have e2:=Int.mul_ediv_add_emod (ah%bl*18446744073709551616+al) bl;rw[show (0:Int)*18446744073709551616+bl=bl by omega];obtain ⟨f1,f2⟩:=Xy (M:=ah*18446744073709551616+al) (y:=bl) (Q:=ah/bl*18446744073709551616+(ah%bl*18446744073709551616+al)/bl) (R':=(ah%bl*18446744073709551616+al)%bl) (by omega) (by
   rw[Int.add_mul,Int.mul_right_comm,Int.mul_comm _ bl,Int.mul_comm _ bl]; omega) r0 r1
  rw[f1,f2];generalize (ah%bl*18446744073709551616+al)/bl=x at*;generalize (ah%bl*18446744073709551616+al)%bl=z at*;generalize ah/bl=w at*;rw[show (w*18446744073709551616+x)/18446744073709551616=w by omega,show (w*18446744073709551616+x)%18446744073709551616=x by omega,show z/18446744073709551616=0 by omega,show z%18446744073709551616=z by omega]
 ·rw[show (bh==0)=false by rw[beq_eq_false_iff_ne]; exact hb]
  simp only[cond_false];have hl:=QM F (fun ql rh rl=>(some ((0,ql,rh,rl,()),()):Option yM.sg.R)) (ah:=ah) (al:=al) (bh:=bh) (bl:=bl) ha1 ha2 hb1 hb2 hl1 hl2 rfl hB2 64 F 0 ah (by omega) (by omega) (by omega) (by decide) h1 (by omega) (by
   rw[show (2:Int)^64=18446744073709551616 from rfl]; omega)
  rw[show (0:Int)*2^64=0 by decide,show ah/18446744073709551616=0 by omega,show ah%18446744073709551616=ah by omega,show ((64:Nat):Int)-1=63 from rfl] at hl;rw[hl];have q0:0<=(ah*18446744073709551616+al)/(bh*18446744073709551616+bl):=Int.ediv_nonneg (by omega) (by omega);have q1:(ah*18446744073709551616+al)/(bh*18446744073709551616+bl)<18446744073709551616:=Int.ediv_lt_of_lt_mul (by omega) (by omega);generalize (ah*18446744073709551616+al)/(bh*18446744073709551616+bl)=x at*;rw[show x/18446744073709551616=0 by omega,show x%18446744073709551616=x by omega]
def dsg (a b:Int):Bool:=!(decide (a<0)==decide (b<0))
def aQ (a b:Int):Int:=(a.natAbs:Int)/(b.natAbs:Int)
def aR (a b:Int):Int:=(a.natAbs:Int)%(b.natAbs:Int)
def tq (a b:Int):Int:=bif dsg a b then -aQ a b else aQ a b
def tr (a b:Int):Int:=bif decide (a<0) then -aR a b else aR a b
theorem aQR {a b:Int} (hb:b≠0):0<=aQ a b/\0<=aR a b/\aR a b<b.natAbs/\(b.natAbs:Int)*aQ a b+aR a b=a.natAbs/\aQ a b<=a.natAbs:=by
 unfold aQ aR;exact ⟨Int.ediv_nonneg (by omega) (by omega),Int.emod_nonneg _ (by omega),Int.emod_lt_of_pos _ (by omega),Int.mul_ediv_add_emod _ _,Int.ediv_le_self _ (by omega)⟩
theorem VZ {v:Int}:(((mk v).1==0)&&(((mk v).2==0)&&true))=decide (v=0):=by
 by_cases h:v=0
 ·subst h; rfl
 ·rw[decide_eq_false h]
  simp only[mk,Bool.and_true,Bool.and_eq_false_iff,beq_eq_false_iff_ne];omega
theorem zak {b:Int×Int} (hb:wfW b):((b.1==0)&&((b.2==0)&&true))=decide (val b=0):=by
 rw[<-zfs hb,VZ,xv]
theorem ze0 (F:Nat) (hF:70<F) {a b:Int×Int} (ha:wfW a) (hb:wfW b) (h0:val b≠0) :
  vd.sh F a b=some ((bif inR (tq (val a) (val b)) then mk (tq (val a) (val b)) else (0,0),bif inR (tq (val a) (val b)) then mk (tr (val a) (val b)) else (0,0),vN (tq (val a) (val b)),()),()):=by
 have ba:=Yf ha;have bb:=Yf hb;have hq:=aQR (a:=val a) h0;have hneg:(!(decide (a.1<0)==decide (b.1<0)))=dsg (val a) (val b):=by rw[qm ha,qm hb]; rfl
 unfold vd.sh;rw[zak hb,decide_eq_false h0];simp only[cond_false];rw[WA F ha,WA F hb];simp only[zg];have e1:((val a).natAbs:Int)/18446744073709551616*18446744073709551616+((val a).natAbs:Int)%18446744073709551616=(val a).natAbs:=by omega
 have e2:((val b).natAbs:Int)/18446744073709551616*18446744073709551616+((val b).natAbs:Int)%18446744073709551616=(val b).natAbs:=by omega
 have hl:=zbY F hF (ah:=((val a).natAbs:Int)/18446744073709551616) (al:=((val a).natAbs:Int)%18446744073709551616) (bh:=((val b).natAbs:Int)/18446744073709551616) (bl:=((val b).natAbs:Int)%18446744073709551616)
  (by omega) (by omega) (by omega) (by omega) (by omega) (by omega) (by omega) (by omega) (by omega) (by omega)
 rw[e1,e2] at hl;rw[hl,hneg];simp only[zg];rw[show ((val a).natAbs:Int)/((val b).natAbs:Int)=aQ (val a) (val b) from rfl,show ((val a).natAbs:Int)%((val b).natAbs:Int)=aR (val a) (val b) from rfl];rw[V7 F (v:=tq (val a) (val b)) (by omega) (by omega) (by omega) (by omega) (by
  unfold tq;rw[show aQ (val a) (val b)/18446744073709551616*18446744073709551616+aQ (val a) (val b)%18446744073709551616=aQ (val a) (val b) by omega])]
 simp only[zg];cases hi:inR (tq (val a) (val b)) with
 | false=>simp only[ue,vN,hi,cond_false]; rfl
 | true =>
  simp only[ue,vN,hi,cond_true,bne_self_eq_false,cond_false];rw[qm ha];rw[V7 F (v:=tr (val a) (val b)) (by omega) (by omega) (by omega) (by omega) (by
   unfold tr;rw[show aR (val a) (val b)/18446744073709551616*18446744073709551616+aR (val a) (val b)%18446744073709551616=aR (val a) (val b) by omega])]
  have hi2:inR (tr (val a) (val b))=true:=by
   rw[yR]; unfold tr;cases decide (val a<0)<;>simp only[cond_true,cond_false]<;>omega
  simp only[zg,ue,vN,hi2,cond_true]
theorem aw1 {x y bo:Int} (h1:0<=x) (h2:x<y) (h3:y<=170141183460469231731687303715884105728)
  (hbo:(y%18446744073709551616<x%18446744073709551616/\bo=1)\/(x%18446744073709551616<=y%18446744073709551616/\bo=0)) :
  (y/18446744073709551616-x/18446744073709551616-bo)%18446744073709551616=(y-x)/18446744073709551616:=by omega
theorem aw2 {x y:Int}:(y%18446744073709551616-x%18446744073709551616-0)%18446744073709551616=(y-x)%18446744073709551616:=by omega
theorem aw3 {x y:Int} (h1:0<=x) (h2:x<y) (h:x/18446744073709551616>(y-x)/18446744073709551616):y<2*x:=by omega
theorem aw4 {x y:Int} (h1:0<=x) (h2:x<y) (h:x/18446744073709551616=(y-x)/18446744073709551616) (h':x%18446744073709551616>(y-x)%18446744073709551616):y<2*x:=by omega
theorem aw5 {x y:Int} (h1:0<=x) (h2:x<y) (h:x/18446744073709551616=(y-x)/18446744073709551616) (h':¬x%18446744073709551616>(y-x)%18446744073709551616):¬y<2*x:=by omega
theorem aw6 {x y:Int} (h:x/18446744073709551616=(y-x)/18446744073709551616) (h':x%18446744073709551616=(y-x)%18446744073709551616):2*x=y:=by omega
theorem aw7 {x y:Int} (h:¬x%18446744073709551616=(y-x)%18446744073709551616):¬2*x=y:=by omega
theorem aw8 {x y:Int} (h:¬x/18446744073709551616>(y-x)/18446744073709551616) (h':¬x/18446744073709551616=(y-x)/18446744073709551616):¬y<2*x:=by omega
theorem aw9 {x y:Int} (h':¬x/18446744073709551616=(y-x)/18446744073709551616):¬2*x=y:=by omega
def awB (m q r b:Int):Bool :=
 bif m==0 then dsg r b else bif m==1 then !dsg r b else bif m==2 then false else
  decide ((b.natAbs:Int)<2*r.natAbs)||(decide (2*(r.natAbs:Int)=b.natAbs)&&(m==3||decide (q%2=1)))
theorem away_eq (F:Nat) {q r b:Int×Int} (hq:wfW q) (hr:wfW r) (hb:wfW b) (m:Int) (hlt:((val r).natAbs:Int)<(val b).natAbs) :
  vD.sh F q r b m=some ((awB m (val q) (val r) (val b),()),()):=by
 have br:=Yf hr;have bb:=Yf hb;have hq2:u64.wrap ((BitVec.ofInt IntKind.u64.bits q.2 &&& BitVec.ofInt IntKind.u64.bits 1).toNat:Int)=val q%2:=by
  rw[mask1 hq.2.2.1 hq.2.2.2];simp only[val];omega
 unfold vD.sh awB;rw[hq2];rw[qm hr,qm hb];rw[show (!(decide (val r<0)==decide (val b<0)))=dsg (val r) (val b) from rfl];cases h0:(m==0) with
 | true=>simp only[cond_true,cond_false,Bool.true_or,Bool.false_or,Bool.and_true,Bool.true_and]
 | false =>
 cases h1:(m==1) with
 | true=>simp only[cond_true,cond_false,Bool.true_or,Bool.false_or,Bool.and_true,Bool.true_and]
 | false =>
 cases h2:(m==2) with
 | true=>simp only[cond_true,cond_false,Bool.true_or,Bool.false_or,Bool.and_true,Bool.true_and]
 | false =>
 simp only[cond_false];have A:=WA F hr;have B:=WA F hb;generalize ((val r).natAbs:Int)=x at*;generalize ((val b).natAbs:Int)=y at*;rw[A,zg,B,zg];have s1:=Z4 F (x:=y%18446744073709551616) (y:=x%18446744073709551616) (c:=0) (by omega) (by omega) (by omega) (by omega) (by omega);have hbo:(y%18446744073709551616<x%18446744073709551616/\(if y%18446744073709551616<x%18446744073709551616+0 then (1:Int) else 0)=1)\/(x%18446744073709551616<=y%18446744073709551616/\(if y%18446744073709551616<x%18446744073709551616+0 then (1:Int) else 0)=0):=by split<;>omega
 rw[s1];generalize (if y%18446744073709551616<x%18446744073709551616+0 then (1:Int) else 0)=bo at*;have s2:=Z4 F (x:=y/18446744073709551616) (y:=x/18446744073709551616) (c:=bo) (by omega) (by omega) (by omega) (by omega) (by omega);rw[zg,s2,zg];rw[aw1 br.1 hlt bb.2 hbo,aw2];clear s1 s2 hbo hq2;by_cases g1:x/18446744073709551616>(y-x)/18446744073709551616
 ·rw[decide_eq_true g1,decide_eq_true (aw3 br.1 hlt g1)]; simp only[cond_true,cond_false,Bool.true_or,Bool.or_true,Bool.false_or,Bool.or_false,Bool.and_true,Bool.true_and,Bool.false_and,decide_true,beq_self_eq_true]
 ·rw[decide_eq_false g1]
  by_cases g2:x/18446744073709551616=(y-x)/18446744073709551616
  ·rw[show (x/18446744073709551616==(y-x)/18446744073709551616)=true by rw[beq_iff_eq]; exact g2]
   simp only[cond_true,cond_false];by_cases g3:x%18446744073709551616>(y-x)%18446744073709551616
   ·rw[decide_eq_true g3,decide_eq_true (aw4 br.1 hlt g2 g3)]; simp only[cond_true,cond_false,Bool.true_or,Bool.or_true,Bool.false_or,Bool.or_false,Bool.and_true,Bool.true_and,Bool.false_and,decide_true,beq_self_eq_true]
   ·rw[decide_eq_false g3,decide_eq_false (aw5 br.1 hlt g2 g3)]
    by_cases g4:x%18446744073709551616=(y-x)%18446744073709551616
    ·rw[show (x%18446744073709551616==(y-x)%18446744073709551616)=true by rw[beq_iff_eq]; exact g4,decide_eq_true (aw6 g2 g4)]
     cases (m==3) with
     | true=>simp only[cond_true,cond_false,Bool.true_or,Bool.false_or,Bool.and_true,Bool.true_and]
     | false =>
      simp only[cond_true,cond_false,Bool.false_or,Bool.true_and];by_cases g5:val q%2=1
      ·rw[g5]; simp only[cond_true,cond_false,Bool.true_or,Bool.or_true,Bool.false_or,Bool.or_false,Bool.and_true,Bool.true_and,Bool.false_and,decide_true,beq_self_eq_true]
      ·rw[decide_eq_false g5,show (val q%2==1)=false by rw[beq_eq_false_iff_ne]; exact g5]
    ·rw[show (x%18446744073709551616==(y-x)%18446744073709551616)=false by rw[beq_eq_false_iff_ne]; exact g4,decide_eq_false (aw7 g4)]; simp only[cond_true,cond_false,Bool.true_or,Bool.or_true,Bool.false_or,Bool.or_false,Bool.and_true,Bool.true_and,Bool.false_and,decide_true,beq_self_eq_true]
  ·rw[show (x/18446744073709551616==(y-x)/18446744073709551616)=false by rw[beq_eq_false_iff_ne]; exact g2,decide_eq_false (aw8 g1 g2),decide_eq_false (aw9 g2)]; simp only[cond_true,cond_false,Bool.true_or,Bool.or_true,Bool.false_or,Bool.or_false,Bool.and_true,Bool.true_and,Bool.false_and,decide_true,beq_self_eq_true]
def ZX (m a b:Int):Int :=
 bif decide (tr a b=0) then tq a b else bif !awB m (tq a b) (tr a b) b then tq a b else bif dsg a b then tq a b-1 else tq a b+1
theorem zbs (a b:Int) (hb:b≠0):((tr a b).natAbs:Int)=aR a b:=by
 have:=aQR (a:=a) hb;unfold tr;cases decide (a<0)<;>simp only[cond_true,cond_false]<;>omega
theorem za7 (F:Nat) (hF:70<F) {a b m:Int} (ha:inR a=true) (hb:inR b=true) (h0:b≠0) (hq:inR (tq a b)=true) (m0:0<=m) (m4:m<=4):vn.sh F (mk a) (mk b) m=some ((mk (ZX m a b),0,()),()):=by
 have qr:=aQR (a:=a) h0;have ha':=yR.1 ha;have hb':=yR.1 hb;have hr:inR (tr a b)=true:=by
  rw[yR]; unfold tr;cases decide (a<0)<;>simp only[cond_true,cond_false]<;>omega
 unfold vn.sh ZX;rw[decide_eq_false (show ¬m<0 by omega),decide_eq_false (show ¬m>4 by omega),ze0 F hF (wj ha) (wj hb) (by rw[xv]; exact h0)];simp only[xv,hq,cond_true,cond_false,zg,vN,bne_self_eq_false];rw[VZ];by_cases hz:tr a b=0
 ·rw[decide_eq_true hz]; rfl
 ·rw[decide_eq_false hz]
  simp only[cond_false];rw[away_eq F (wj hq) (wj hr) (wj hb) m (by rw[xv,xv,zbs a b h0]; omega)];simp only[zg,xv];cases awB m (tq a b) (tr a b) b with
  | false=>rfl
  | true =>
   have hr0:aR a b≠0:=fun h=>hz (by unfold tr; rw[h]; cases decide (a<0)<;>rfl)
   have hb2:(2:Int)<=b.natAbs:=by omega
   have hq2:2*aQ a b<=a.natAbs:=by
    have:=Int.mul_le_mul_of_nonneg_right hb2 qr.1;omega
   have hw:(!(decide ((mk a).1<0)==decide ((mk b).1<0)))=dsg a b:=by rw[qm (wj ha),qm (wj hb),xv,xv]; rfl
   rw[hw,tK F (by omega) (by omega)];simp only[zg,Bool.not_true,cond_false];cases hd:dsg a b with
   | true =>
    have i:inR (tq a b-1)=true:=by rw[yR]; unfold tq; rw[hd]; simp only[cond_true]; omega
    rw[Sa F (wj hq) (wj (by rw[yR]; omega))];simp only[cond_true,zg,xv,ue,vN,i]
   | false =>
    have i:inR (tq a b+1)=true:=by rw[yR]; unfold tq; rw[hd]; simp only[cond_false]; omega
    rw[YG F (wj hq) (wj (by rw[yR]; omega))];simp only[cond_false,cond_true,zg,xv,ue,vN,i]
theorem S3 {m c b:Int} (hb:0<b):ZX m (c*b) b=c:=by
 have hn:(((c*b).natAbs:Nat):Int)=c.natAbs*b:=by
  rw[Int.natAbs_mul]; push_cast; rw[show ((b.natAbs:Nat):Int)=b by omega]
 have hR:aR (c*b) b=0:=by
  unfold aR;rw[hn,show ((b.natAbs:Nat):Int)=b by omega,Int.mul_emod_left]
 have hQ:aQ (c*b) b=c.natAbs:=by
  unfold aQ;rw[hn,show ((b.natAbs:Nat):Int)=b by omega,Int.mul_ediv_cancel _ (by omega)]
 have h1:tr (c*b) b=0:=by unfold tr; rw[hR]; cases decide (c*b<0)<;>rfl
 unfold ZX tq dsg;rw[h1,hQ,decide_eq_false (show ¬b<0 by omega)];by_cases hc:c<0
 ·rw[decide_eq_true (show c*b<0 from Int.mul_neg_of_neg_of_pos hc hb)]
  simp; omega
 ·rw[decide_eq_false (show ¬c*b<0 by have:=Int.mul_nonneg (show 0<=c by omega) (Int.le_of_lt hb); omega)]
  simp; omega
def minF (m:Int) (l:List Int):Int:=l.foldl (fun m x=>if x<m then x else m) m
def minL:List Int->Int
 | []=>0
 | a::r=>minF a r
theorem zgi {a b:Int}:decide (Ye a b<0)=decide (a<b):=by
 unfold Ye;by_cases h:a<b
 ·rw[if_pos h,decide_eq_true h]; rfl
 ·rw[if_neg h,decide_eq_false h]; split<;>rfl
theorem S8 {a b:Int}:decide (Ye a b>0)=decide (a>b):=by
 unfold Ye;by_cases h:a<b
 ·rw[if_pos h,decide_eq_false (show ¬a>b by omega)]; rfl
 ·rw[if_neg h]
  by_cases h':a=b
  ·rw[if_pos h',decide_eq_false (show ¬a>b by omega)]; rfl
  ·rw[if_neg h',decide_eq_true (show a>b by omega)]; rfl
def uw (x:Int):List yp.T->Nat
 | []=>0
 | a::r=>if tF a<x then uw x r+1 else 0
theorem YV (x:Int):∀l:List yp.T,uw x l<=l.length
 | []=>by simp[uw]
 | a::r=>by
  have:=YV x r;simp only[uw,List.length_cons];split<;>omega
def Zp:List yp.T->Nat->Int
 | a::b::r,k+1=>tR a*(tF b-tF a)+Zp (b::r) k
 | _,_=>0
theorem zfV (v:Int):-tW v<=v/\v<=tW v:=by unfold tW; split<;>omega
theorem Vy {a b m n:Int} (h1:-m<=a) (h2:a<=m) (h3:-n<=b) (h4:b<=n):-(m*n)<=a*b/\a*b<=m*n:=by
 have hm:0<=m:=by omega
 have hn:0<=n:=by omega
 have e1:(a.natAbs:Int)*(b.natAbs:Int)<=m*n:=Int.mul_le_mul (by omega) (by omega) (by omega) hm;have e2:((a*b).natAbs:Int)=(a.natAbs:Int)*(b.natAbs:Int):=by rw[Int.natAbs_mul]; push_cast; rfl
 omega
theorem Tw:∀(l:List yp.T) (lo:Int) (k:Nat),-1<=lo->W0 lo l->-tT l<=Zp l k/\Zp l k<=tT l
 | [],lo,k,_,h=>by simp[tT,Zp]
 | [a],lo,k,_,h=>by simp[tT,Zp]
 | a::b::r,lo,0,hlo,h=>by
  have:=(ZH (a::b::r) lo hlo h).1;simp only[Zp]; omega
 | a::b::r,lo,k+1,hlo,h=>by
  obtain ⟨a1,a2,a3,a4,a5⟩:=h;have ih:=Tw (b::r) (tF a) k (by omega) a5;obtain ⟨b1,b2,b3,b4,b5⟩:=a5;have hf:=zfV (tR a);have:=Vy hf.1 hf.2 (show -(tF b-tF a)<=tF b-tF a by omega) (show tF b-tF a<=tF b-tF a by omega);simp only[Zp,tT];omega
theorem Xc:∀(l:List yp.T) (r0:Int),r0<=qp r0 l/\∀t∈l,tW (tR t)<=qp r0 l
 | [],r0=>⟨by simp[qp],by simp⟩
 | a::r,r0=>by
  have ih:=Xc r (if tW (tR a)>r0 then tW (tR a) else r0);have e:qp r0 (a::r)=qp (if tW (tR a)>r0 then tW (tR a) else r0) r:=rfl;have h0:r0<=(if tW (tR a)>r0 then tW (tR a) else r0)/\tW (tR a)<=(if tW (tR a)>r0 then tW (tR a) else r0):=by split<;>omega
  rw[e];refine ⟨by omega,fun t ht=>?_⟩;rcases List.mem_cons.1 ht with rfl | ht
  ·omega
  ·exact ih.2 t ht
def zam (x:Int) (l:List yp.T):yp.T:=l.getD (uw x l-1) (0,0)
def grad (x:Int) (l:List yp.T):Int:=if uw x l=0 then 0 else Zp l (uw x l-1)+tR (zam x l)*(x-tF (zam x l))
def vol (x:Int) (l:List yp.T):Int:=if uw x l=0 then 0 else x*tR (zam x l)
def ZC (op x n:Int):Bool :=
 bif op==1 then decide (x<n) else bif op==2 then decide (x<=n) else bif op==3 then decide (x>n) else bif op==4 then decide (x>=n) else bif op==5 then decide (x=n) else !decide (x=n)
def evN (u:Int) (D:List wV.T) (q:List Int) (n:zx.T) (vs:List Int):Int :=
 bif nK n==1 then nN n else bif nK n==2 then nN n*u else bif nK n==3 then q.getD (nN n).toNat 0
 else bif nK n==4 then xw (q.getD (nN n).toNat 0) (dS (D.getD (nN n).toNat (ByteArray.empty,0)))
 else bif nK n==5 then 0-vs.getD 0 0 else bif nK n==6 then vs.getD 0 0+vs.getD 1 0 else bif nK n==7 then vs.getD 0 0-vs.getD 1 0
 else bif nK n==8 then vs.getD 0 0*vs.getD 1 0 else bif nK n==9 then minL vs else bif nK n==10 then X5 vs
 else bif nK n==11 then X5 [0,vs.getD 0 0-nN n] else bif nK n==12 then minL [nN n,vs.getD 0 0]
 else bif nK n==13 then u*grad (vs.getD 0 0) (nT n) else bif nK n==14 then u*vol (vs.getD 0 0) (nT n)
 else bif nK n==15 then ZX 2 (vs.getD 0 0*(10000-nN n)) 10000
 else bif ZC (nO n) (vs.getD 0 0) (nN n) then vs.getD 1 0 else vs.getD 2 0
def ev (u:Int) (D:List wV.T) (q:List Int):Tree->Int:=Tree.fold (evN u D q)
theorem zfZ (u:Int) (D:List wV.T) (q:List Int) (n:zx.T) (ks:List Tree):ev u D q (.nd n ks)=evN u D q n (ks.map (ev u D q)):=Tree.fold_nd _ n ks
theorem zcK:∀(l:List Int),(∀v∈l,0<=v)->∀v∈l,v<=qo l
 | [],h,v,hv=>by simp at hv
 | x::r,h,v,hv=>by
  have hx:=h x (by simp);have h0:0<=qo r:=by
   have:∀(l:List Int),(∀v∈l,0<=v)->0<=qo l:=by
    intro l;induction l with
    | nil=>intro _; simp[qo]
    | cons y s ih=>intro hh; have:=ih (fun v hv=>hh v (by simp[hv])); have:=hh y (by simp); simp only[qo,List.sum_cons] at*; omega
   exact this r (fun v hv=>h v (by simp[hv]))
  have ih:=zcK r (fun v hv=>h v (by simp[hv]));simp only[qo,List.sum_cons] at*;rcases List.mem_cons.1 hv with rfl | hv
  ·omega
  ·have:=ih v hv; omega
structure Kids (ks:List Tree) (V M:Tree->Int):Prop where
 lo:∀k∈ks,-M k<=V k
 hi:∀k∈ks,V k<=M k
 bd:∀k∈ks,M k<=BND
theorem Kids.nn {ks:List Tree} {V M:Tree->Int} (h:Kids ks V M):∀k∈ks,0<=M k:=fun k hk=>by
 have:=h.lo k hk; have:=h.hi k hk; omega
theorem Kids.sum {ks:List Tree} {V M:Tree->Int} (h:Kids ks V M):∀k∈ks,M k<=qo (ks.map M):=fun k hk =>
 zcK _ (by simp only[List.mem_map]; rintro v ⟨k,hk,rfl⟩; exact h.nn k hk) _ (List.mem_map_of_mem hk)
theorem Kids.inr {ks:List Tree} {V M:Tree->Int} (h:Kids ks V M):∀v∈ks.map V,inR v=true:=by
 simp only[List.mem_map];rintro v ⟨k,hk,rfl⟩
 have hBND:BND=1329227995784915872903807060280344576:=rfl;have:=h.lo k hk; have:=h.hi k hk; have:=h.bd k hk;rw[yR]; omega
def okQ (D:List wV.T) (q:List Int):Prop:=q.length=D.length/\∀x∈q,0<=x/\x<=1099511627776
theorem okQ.at {D:List wV.T} {q:List Int} (h:okQ D q) {i:Nat} (hi:i<D.length):0<=q.getD i 0/\q.getD i 0<=1099511627776:=Zo h.2 (by rw[h.1]; exact hi)
theorem zgo {x s:Int} (h0:0<=x) (h:x<=1099511627776) (h1:1<=s):0<=xw x s/\xw x s<=xw 1099511627776 s:=by
 have hq1:0<=x/s:=Int.ediv_nonneg (by omega) (by omega);have e1:=Int.mul_ediv_add_emod x s;have e2:=Int.mul_ediv_add_emod 1099511627776 s;have r1:=Int.emod_nonneg x (show s≠0 by omega);have r2:=Int.emod_nonneg 1099511627776 (show s≠0 by omega);have hm:x/s<=1099511627776/s:=Int.ediv_le_ediv (by omega) h;unfold xw;refine ⟨by split<;>omega,?_⟩;split
 ·split<;>omega
 ·split
  ·rename_i a b
   rcases Int.lt_or_eq_of_le hm with hlt | heq
   ·omega
   ·rw[heq] at e1; omega
  ·omega
theorem len2 {α:Type} {l:List α} (h:l.length=2):∃a b,l=[a,b]:=by
 match l,h with
 | [a,b],_=>exact ⟨a,b,rfl⟩
theorem len3 {α:Type} {l:List α} (h:l.length=3):∃a b c,l=[a,b,c]:=by
 match l,h with
 | [a,b,c],_=>exact ⟨a,b,c,rfl⟩
structure Inv (u:Int) (D:List wV.T) (q:List Int) (t:Tree):Prop where
 lo:-mag u D t<=ev u D q t
 hi:ev u D q t<=mag u D t
 bd:mag u D t<=BND
theorem farN_ge {n:zx.T} {v:Int} (h0:0<=v) (h:tC n v<=BND):v<=BND:=by
 unfold tC at h;cases h15:(nK n==15) with
 | true=>rw[h15] at h; simp only[cond_true] at h; omega
 | false=>rw[h15] at h; exact h
theorem QD {p:yr.T} {t:Tree} (h:Good p t) (hu:(uY p.2.1 t).2.2=0):wT t<=6/\ud tyE t.subs 0=none/\ty t=1/\ud (Wj (tZ t) p.2.1) t.subs 0=none/\uY p.2.1 t=(mk (tZ t),0,0):=by
 obtain ⟨a1,a2,a3,a4⟩:=zal hu;exact ⟨a2,(Rw a1).1,(Rw a1).2,(zfw a3).1,a4⟩
theorem int_eq (F:Nat) {v:Int} (h:inR v=true):uA.sh F (mk v)=some ((bif decide (-9223372036854775808<=v)&&decide (v<9223372036854775808) then v else 0,decide (-9223372036854775808<=v)&&decide (v<9223372036854775808),()),()):=by
 have hv:=yR.1 h;unfold uA.sh;simp only[mk];obtain ⟨k,e1,e2,e3⟩:=Tv (v%18446744073709551616);rw[zeM e2 e3];generalize i64.wrap (v%18446744073709551616)=r at*;by_cases hr:-9223372036854775808<=v/\v<9223372036854775808
 ·have er:r=v:=by omega
  have e0:(v/18446744073709551616 != if r<0 then (-1:Int) else 0)=false:=by
   have:v/18446744073709551616=if r<0 then (-1:Int) else 0:=by split<;>omega
   rw[this]; simp
  rw[e0,decide_eq_true hr.1,decide_eq_true hr.2,er];rfl
 ·have e0:(v/18446744073709551616 != if r<0 then (-1:Int) else 0)=true:=by
   rw[bne_iff_ne]; split<;>omega
  rw[e0];rcases Int.lt_or_le v (-9223372036854775808) with h' | h'
  ·rw[decide_eq_false (show ¬-9223372036854775808<=v by omega)]; rfl
  ·rw[decide_eq_true h',decide_eq_false (show ¬v<9223372036854775808 by omega)]; rfl
theorem tq_bd {a b:Int} (hb:b≠0):-(a.natAbs:Int)<=tq a b/\tq a b<=a.natAbs:=by
 have:=aQR (a:=a) hb;unfold tq;cases dsg a b<;>simp only[cond_true,cond_false]<;>omega
def Dv (S u:Int) (D:List wV.T) (q:List Int) (t:Tree):Prop:=ty t=1->∃c,ev u D q t=c*10000^(S-wT t).toNat
theorem Ug {ks:List Tree} {k:Tree} (hk:k∈ks):0<=wT k/\wT k<=X5 (ks.map wT):=by
 have h0:∀x∈ks.map wT,0<=x:=by simp only[List.mem_map]; rintro x ⟨k,hk,rfl⟩; exact (qZ k).1
 exact ⟨(qZ k).1,(TJ h0).2 _ (List.mem_map_of_mem hk)⟩
theorem Uf (n:zx.T) (ks:List Tree):X5 (ks.map wT)<=wT (.nd n ks):=by
 rw[WT];cases nK n==15<;>simp only[cond_true,cond_false]<;>omega
theorem Dv.mul {S u:Int} {D:List wV.T} {q:List Int} {t:Tree} (h:Dv S u D q t) (ht:ty t=1) {e:Int} (h1:wT t<=e) (h2:e<=S):∃c,ev u D q t=c*10000^(S-e).toNat:=by
 obtain ⟨c,hc⟩:=h ht;have h0:=(qZ t).1;refine ⟨c*10000^(e-wT t).toNat,?_⟩;rw[hc,Int.mul_assoc,<-Int.pow_add,show (e-wT t).toNat+(S-e).toNat=(S-wT t).toNat by omega]
theorem qU {l:List Int} (h:Y2 l=1):∀x∈l,x=1:=by
 cases l with
 | nil=>simp
 | cons a r =>
  simp only[Y2] at h;cases hr:r.all (fun x=>x==a) with
  | false=>rw[hr] at h; exact absurd (show (-1:Int)=1 from h) (by decide)
  | true =>
   rw[hr] at h;have h:a=1:=h;intro x hx;rcases List.mem_cons.1 hx with rfl | hx
   ·exact h
   ·have:=List.all_eq_true.1 hr x hx
    rw[<-h]; simpa using this
theorem ze2 {a b:Int} (h:U9 a b=1):a=1\/b=1:=by
 unfold U9 at h;cases h1:(a==0) with
 | true=>rw[h1] at h; exact .inr h
 | false =>
  rw[h1] at h;cases h2:(b==0) with
  | true=>rw[h2] at h; exact .inl h
  | false =>
   rw[h2] at h;cases h3:(qH a&&b==1) with
   | true=>simp at h3; exact .inr h3.2
   | false =>
    rw[h3] at h;cases h4:(qH b&&a==1) with
    | true=>simp at h4; exact .inl h4.2
    | false=>rw[h4] at h; exact absurd (show (-1:Int)=1 from h) (by decide)
theorem zep (t:Tree):∀s∈t.subs,wT s<=wT t:=by
 refine Tree.ind (P:=fun t=>∀s∈t.subs,wT s<=wT t) (fun n ks ih=>?_) t;intro s hs;rw[Xr] at hs;rcases List.mem_append.1 hs with hs | hs
 ·unfold tv at hs
  obtain ⟨l,hl,hsl⟩:=List.mem_flatten.1 hs;obtain ⟨k,hk,rfl⟩:=List.mem_map.1 hl;have h1:=ih k hk s hsl;have h2:=(Ug hk).2;have h3:=Uf n ks;omega
 ·rw[List.mem_singleton.1 hs]; exact Int.le_refl _
def lv:List Int->Int
 | []=>0
 | d::r=>d+65536*lv r
def DG (l:List Int):Prop:=∀d∈l,0<=d/\d<65536
def Rep (l:List Int) (v:Int):Prop:=l.length=12/\DG l/\∃k:Int,lv l=v+6277101735386680763835789423207666416102355444464034512896*k
theorem DG.cons {d:Int} {r:List Int} (h:DG (d::r)):(0<=d/\d<65536)/\DG r:=⟨h d (by simp),fun x hx=>h x (by simp[hx])⟩
theorem DG.mk {d:Int} {r:List Int} (h:0<=d/\d<65536) (hr:DG r):DG (d::r):=fun x hx=>by
 rcases List.mem_cons.1 hx with rfl | hx
 ·exact h
 ·exact hr x hx
theorem DG.nil:DG []:=fun x hx=>by simp at hx
theorem len12 {l:List Int} (h:l.length=12):∃a b c d e f g i j k m n,l=[a,b,c,d,e,f,g,i,j,k,m,n]:=by
 match l,h with
 | [a,b,c,d,e,f,g,i,j,k,m,n],_=>exact ⟨a,b,c,d,e,f,g,i,j,k,m,n,rfl⟩
theorem TB {pre xs:List Int} {x y:Int} {i:Nat} (h:pre.length=i):(pre++x::xs).set i y=(pre++[y])++xs:=by
 subst h; simp
theorem SM {pre xs:List Int} {x:Int} {i:Nat} (h:pre.length=i):(pre++x::xs).getD i 0=x:=by
 subst h; simp[List.getD_eq_getElem?_getD]
theorem UT {l xs:List Int} {x:Int} {i:Nat} (h:l.drop i=x::xs):l.getD i 0=x:=by
 have:=congrArg (·[0]?) h
 rw[List.getD_eq_getElem?_getD];simp at this;rw[this]; rfl
theorem XI {i n:Nat} {l:List Int} (h:i<n) (hl:l.length=n):(idx (i:Int) n&&Nat.beq n l.length)=true:=by
 rw[xX h,hl]; simp
def Vx:Int->List Int->List Int->List Int
 | c,x::xs,y::ys=>((c+x+y)%65536)::Vx ((c+x+y)/65536) xs ys
 | _,_,_=>[]
theorem Rj:∀(xs ys:List Int) (c:Int),xs.length=ys.length->(Vx c xs ys).length=xs.length
 | [],[],c,h=>rfl
 | x::xs,y::ys,c,h=>by simp only[Vx,List.length_cons,Rj xs ys _ (by simpa using h)]
 | [],_::_,_,h=>by simp at h
 | _::_,[],_,h=>by simp at h
theorem zdy:∀(xs ys:List Int) (c:Int),DG (Vx c xs ys)
 | [],ys,c=>by simp only[Vx]; exact DG.nil
 | x::xs,[],c=>by simp only[Vx]; exact DG.nil
 | x::xs,y::ys,c=>by simp only[Vx]; exact DG.mk (by omega) (zdy xs ys _)
theorem zdx:∀(xs ys:List Int) (c:Int),xs.length=ys.length->DG xs->DG ys->0<=c->c<=1->∃k:Int,0<=k/\k<=1/\lv (Vx c xs ys)+65536^xs.length*k=c+lv xs+lv ys
 | [],[],c,h,_,_,h1,h2=>⟨c,h1,h2,by simp[Vx,lv]⟩
 | [],_::_,_,h,_,_,_,_=>by simp at h
 | _::_,[],_,h,_,_,_,_=>by simp at h
 | x::xs,y::ys,c,h,hx,hy,h1,h2=>by
  have ⟨⟨x1,x2⟩,hx⟩:=hx.cons;have ⟨⟨y1,y2⟩,hy⟩:=hy.cons;obtain ⟨k,k1,k2,hk⟩:=zdx xs ys ((c+x+y)/65536) (by simpa using h) hx hy (by omega) (by omega);refine ⟨k,k1,k2,?_⟩;simp only[Vx,lv,List.length_cons,Int.pow_succ];have:(65536:Int)^xs.length*65536*k=65536*(65536^xs.length*k):=by
   rw[Int.mul_comm (65536^xs.length) 65536,Int.mul_assoc]
  rw[this];generalize (65536:Int)^xs.length*k=q at*;omega
theorem plus_l3 (F:Nat) {R:Type} (k:List Int->List Int->Option R) (b r4:List Int) (hb:b.length=12):∀(xs pre ys:List Int) (c:Int) (i fu:Nat),pre.length=i->i+xs.length=12->b.drop i=ys->DG xs->DG ys->0<=c->c<=1->xs.length<fu->
  z6.l3 F (fun _ _ _ a _ r=>k a r) fu c (i:Int) (pre++xs) b r4=k (pre++Vx c xs ys) r4:=by
 intro xs;induction xs with
 | nil =>
  intro pre ys c i fu hp hi hy _ _ _ _ hf;obtain ⟨fu,rfl⟩:∃j,fu=j+1:=⟨fu-1,by simp at hf; omega⟩;simp only[List.length_nil,Nat.add_zero] at hi;simp only[z6.l3,z6.l3.body,decide_eq_false (show ¬((i:Int)<12) by omega),cond_false,Vx]
 | cons x xs ih =>
  intro pre ys c i fu hp hi hy hx hys c1 c2 hf;obtain ⟨fu,rfl⟩:∃j,fu=j+1:=⟨fu-1,by simp at hf; omega⟩;simp only[List.length_cons] at hi hf;have ⟨⟨x1,x2⟩,hx⟩:=hx.cons;have hyl:=congrArg List.length hy;simp only[List.length_drop] at hyl;cases ys with
  | nil=>simp only[List.length_nil] at hyl; omega
  | cons y ys =>
   have ⟨⟨y1,y2⟩,hys⟩:=hys.cons;have hal:(pre++x::xs).length=12:=by simp; omega
   have e1:=XI (show i<12 by omega) hal;have e2:=XI (show i<12 by omega) hb;have e3:(pre++x::xs).getD (Int.toNat (i:Int)) 0=x:=SM (by rw[Int.toNat_natCast]; exact hp);have e4:b.getD (Int.toNat (i:Int)) 0=y:=by rw[Int.toNat_natCast]; exact UT hy
   have e5:∀z,(pre++x::xs).set (Int.toNat (i:Int)) z=(pre++[z])++xs:=fun z=>TB (by rw[Int.toNat_natCast]; exact hp)
   simp only[z6.l3,z6.l3.body,decide_eq_true (show ((i:Int)<12) by omega),cond_true,e1,e2,e3,e4,e5];rw[x8 (n:=c+x) (by omega) (by omega),x8 (n:=c+x+y) (by omega) (by omega),Int.tdiv_eq_ediv_of_nonneg (by omega),Int.tmod_eq_emod_of_nonneg (by omega),x8 (n:=(c+x+y)/65536) (by omega) (by omega),zY (by omega) (by omega),<-vj];rw[ih (pre++[(c+x+y)%65536]) ys ((c+x+y)/65536) (i+1) fu (by simp; omega) (by omega) (wX hy) hx hys (by omega) (by omega) (by omega)];simp[Vx]
theorem pow12:(65536:Int)^12=6277101735386680763835789423207666416102355444464034512896:=by decide
theorem TD (F:Nat) (hF:20<F) {a b:List Int} {x y:Int} (ha:Rep a x) (hb:Rep b y):∃l,z6.sh F a b=some ((l,()),())/\Rep l (x+y):=by
 obtain ⟨a1,a2,k1,a3⟩:=ha;obtain ⟨b1,b2,k2,b3⟩:=hb;refine ⟨Vx 0 a b,?_,by rw[Rj _ _ _ (by omega)]; exact a1,zdy _ _ _,?_⟩
 ·unfold z6.sh
  have:=plus_l3 F (fun a1 r41=>bif Nat.beq 12 a1.length then bif (Nat.beq a1.length r41.length&&Nat.beq 12 r41.length) then bif (Nat.beq 12 a1.length&&true) then (some ((a1,()),()):Option z6.sg.R)
   else none
  else none
 else none) b (List.replicate 12 0) b1 a [] b 0 0 F rfl (by omega) (by simp) a2 b2 (by omega) (by omega) (by omega)
  rw[List.nil_append,show ((0:Nat):Int)=0 from rfl] at this;rw[this];have hl:(Vx 0 a b).length=12:=by rw[Rj _ _ _ (by omega)]; exact a1
  rw[List.nil_append,hl];rfl
 ·obtain ⟨k,_,_,hk⟩:=zdx a b 0 (by omega) a2 b2 (by omega) (by omega)
  rw[a1,pow12] at hk;refine ⟨k1+k2-k,?_⟩;rw[Int.mul_sub,Int.mul_add];omega
theorem zdB (F:Nat) {R:Type} (k:List Int->List Int->Option R) (r2:List Int):∀(xs pre:List Int) (i fu:Nat),pre.length=i->i+xs.length=12->DG xs->xs.length<fu->
  zM.l2 F (fun _ _ a r=>k a r) fu (i:Int) (pre++xs) r2=k (pre++xs.map (fun d=>65535-d)) r2:=by
 intro xs;induction xs with
 | nil =>
  intro pre i fu hp hi _ hf;obtain ⟨fu,rfl⟩:∃j,fu=j+1:=⟨fu-1,by simp at hf; omega⟩;simp only[List.length_nil,Nat.add_zero] at hi;simp only[zM.l2,zM.l2.body,decide_eq_false (show ¬((i:Int)<12) by omega),cond_false,List.map_nil]
 | cons x xs ih =>
  intro pre i fu hp hi hx hf;obtain ⟨fu,rfl⟩:∃j,fu=j+1:=⟨fu-1,by simp at hf; omega⟩;simp only[List.length_cons] at hi hf;have ⟨⟨x1,x2⟩,hx⟩:=hx.cons;have hal:(pre++x::xs).length=12:=by simp; omega
  have e1:=XI (show i<12 by omega) hal;have e3:(pre++x::xs).getD (Int.toNat (i:Int)) 0=x:=SM (by rw[Int.toNat_natCast]; exact hp);have e5:∀z,(pre++x::xs).set (Int.toNat (i:Int)) z=(pre++[z])++xs:=fun z=>TB (by rw[Int.toNat_natCast]; exact hp)
  simp only[zM.l2,zM.l2.body,decide_eq_true (show ((i:Int)<12) by omega),cond_true,e1,e3,e5];rw[x8 (n:=65535-x) (by omega) (by omega),zY (by omega) (by omega),<-vj];rw[ih (pre++[65535-x]) (i+1) fu (by simp; omega) (by omega) hx (by omega)];simp
theorem zfe:∀(xs:List Int),lv (xs.map (fun d=>65535-d))+lv xs+1=65536^xs.length
 | []=>by simp[lv]
 | x::xs=>by
  have:=zfe xs;simp only[List.map_cons,lv,List.length_cons,Int.pow_succ];generalize (65536:Int)^xs.length=q at*;omega
theorem opp_dg {xs:List Int} (h:DG xs):DG (xs.map (fun d=>65535-d)):=fun d hd=>by
 obtain ⟨x,hx,rfl⟩:=List.mem_map.1 hd;have:=h x hx;omega
theorem Y7 (F:Nat) (hF:20<F) {a:List Int} {x:Int} (ha:Rep a x):∃l,zM.sh F a=some ((l,()),())/\Rep l (-x):=by
 obtain ⟨a1,a2,k1,a3⟩:=ha;have h1:Rep (a.map (fun d=>65535-d)) (-x-1):=by
  refine ⟨by simpa using a1,opp_dg a2,1-k1,?_⟩;have:=zfe a;rw[a1,pow12] at this;rw[Int.mul_sub];omega
 have h2:Rep ((List.replicate 12 0).set 0 1) 1:=⟨rfl,by
  intro d hd;simp[List.replicate] at hd;omega,0,by rfl⟩
 obtain ⟨l,hl,hr⟩:=TD F hF h1 h2;refine ⟨l,?_,by rw[show -x=-x-1+1 by omega]; exact hr⟩;unfold zM.sh;have:=zdB F (fun a1 r21=>bif Nat.beq 12 a1.length then oB (z6.sh F a1 ((List.replicate 12 0).set 0 1)) fun c_2 =>
  bif (Nat.beq c_2.1.1.length r21.length&&Nat.beq 12 r21.length) then bif (Nat.beq 12 c_2.1.1.length&&true) then (some ((c_2.1.1,()),()):Option zM.sg.R)
   else none
  else none
 else none) (List.replicate 12 0) a [] 0 F rfl (by omega) a2 (by omega)
 rw[List.nil_append,show ((0:Nat):Int)=0 from rfl] at this;rw[this,List.nil_append,hl];have e1:(a.map (fun d=>65535-d)).length=12:=by simpa using a1
 have e2:l.length=12:=hr.1;rw[e1];simp only[zg,e2];rfl
theorem zcp (f:Nat) (a b:Int):zy.sh (f+20) (a,b)=bif decide (a<0) then
  some (([(b.fdiv 1).tmod 65536,(b.fdiv 65536).tmod 65536,(b.fdiv 4294967296).tmod 65536,(b.fdiv 281474976710656).tmod 65536,((u64.wrap a).fdiv 1).tmod 65536,((u64.wrap a).fdiv 65536).tmod 65536,((u64.wrap a).fdiv 4294967296).tmod 65536,((u64.wrap a).fdiv 281474976710656).tmod 65536,65535,65535,65535,65535],()),())
 else some (([(b.fdiv 1).tmod 65536,(b.fdiv 65536).tmod 65536,(b.fdiv 4294967296).tmod 65536,(b.fdiv 281474976710656).tmod 65536,((u64.wrap a).fdiv 1).tmod 65536,((u64.wrap a).fdiv 65536).tmod 65536,((u64.wrap a).fdiv 4294967296).tmod 65536,((u64.wrap a).fdiv 281474976710656).tmod 65536,0,0,0,0],()),()):=by kernel_rfl
theorem four {b:Int} (h1:0<=b) (h2:b<18446744073709551616):(b.fdiv 1).tmod 65536=b%65536/\(b.fdiv 65536).tmod 65536=b/65536%65536/\(b.fdiv 4294967296).tmod 65536=b/4294967296%65536/\(b.fdiv 281474976710656).tmod 65536=b/281474976710656%65536:=by
 rw[Int.fdiv_eq_ediv_of_nonneg _ (by omega),Int.fdiv_eq_ediv_of_nonneg _ (by omega),Int.fdiv_eq_ediv_of_nonneg _ (by omega),Int.fdiv_eq_ediv_of_nonneg _ (by omega),Int.tmod_eq_emod_of_nonneg (by omega),Int.tmod_eq_emod_of_nonneg (by omega),Int.tmod_eq_emod_of_nonneg (by omega),Int.tmod_eq_emod_of_nonneg (by omega)];exact ⟨by omega,rfl,rfl,rfl⟩
theorem Rep.of12 {a b c d e f g i j k m n v q:Int} (h1:0<=a/\a<65536) (h2:0<=b/\b<65536) (h3:0<=c/\c<65536) (h4:0<=d/\d<65536) (h5:0<=e/\e<65536) (h6:0<=f/\f<65536) (h7:0<=g/\g<65536) (h8:0<=i/\i<65536)
  (h9:0<=j/\j<65536) (h10:0<=k/\k<65536) (h11:0<=m/\m<65536) (h12:0<=n/\n<65536) (h:lv [a,b,c,d,e,f,g,i,j,k,m,n]=v+6277101735386680763835789423207666416102355444464034512896*q):Rep [a,b,c,d,e,f,g,i,j,k,m,n] v :=
 ⟨rfl,DG.mk h1 (DG.mk h2 (DG.mk h3 (DG.mk h4 (DG.mk h5 (DG.mk h6 (DG.mk h7 (DG.mk h8 (DG.mk h9 (DG.mk h10 (DG.mk h11 (DG.mk h12 DG.nil))))))))))),q,h⟩
theorem Ym (F:Nat) (hF:20<F) {w:Int×Int} (hw:wfW w):∃l,zy.sh F w=some ((l,()),())/\Rep l (val w):=by
 obtain ⟨f,rfl⟩:∃f,F=f+20:=⟨F-20,by omega⟩;obtain ⟨a,b⟩:=w;obtain ⟨h1,h2,h3,h4⟩:=hw;simp only at h1 h2 h3 h4;rw[zcp];have hu:=four h3 h4;have hA1:0<=u64.wrap a:=by rw[vM]; omega
 have hA2:u64.wrap a<18446744073709551616:=by rw[vM]; omega
 have hv:=four hA1 hA2;rw[hu.1,hu.2.1,hu.2.2.1,hu.2.2.2,hv.1,hv.2.1,hv.2.2.1,hv.2.2.2];by_cases hn:a<0
 ·rw[decide_eq_true hn]
  have hA:u64.wrap a=a+18446744073709551616:=by rw[vM]; omega
  rw[hA];refine ⟨_,rfl,Rep.of12 (q:=1) (by omega) (by omega) (by omega) (by omega) (by omega) (by omega) (by omega) (by omega) (by omega) (by omega) (by omega) (by omega) ?_⟩;simp only[lv,val];omega
 ·rw[decide_eq_false hn]
  have hA:u64.wrap a=a:=by rw[vM]; omega
  rw[hA];refine ⟨_,rfl,Rep.of12 (q:=0) (by omega) (by omega) (by omega) (by omega) (by omega) (by omega) (by omega) (by omega) (by omega) (by omega) (by omega) (by omega) ?_⟩;simp only[lv,val];omega
theorem Rep.open {l:List Int} {v:Int} (h:Rep l v):∃a b c d e f g i j k m n q:Int,l=[a,b,c,d,e,f,g,i,j,k,m,n]/\(0<=a/\a<65536)/\(0<=b/\b<65536)/\(0<=c/\c<65536)/\(0<=d/\d<65536)/\(0<=e/\e<65536)/\(0<=f/\f<65536)/\(0<=g/\g<65536)/\(0<=i/\i<65536) /\
  (0<=j/\j<65536)/\(0<=k/\k<65536)/\(0<=m/\m<65536)/\(0<=n/\n<65536) /\
  a+65536*b+4294967296*c+281474976710656*d+18446744073709551616*e+1208925819614629174706176*f+79228162514264337593543950336*g+5192296858534827628530496329220096*i+340282366920938463463374607431768211456*j+22300745198530623141535718272648361505980416*k+1461501637330902918203684832716283019655932542976*m+95780971304118053647396689196894323976171195136475136*n=v+6277101735386680763835789423207666416102355444464034512896*q:=by
 obtain ⟨h1,h2,q,h3⟩:=h;obtain ⟨a,b,c,d,e,f,g,i,j,k,m,n,rfl⟩:=len12 h1;refine ⟨a,b,c,d,e,f,g,i,j,k,m,n,q,rfl,h2 a (by simp),h2 b (by simp),h2 c (by simp),h2 d (by simp),h2 e (by simp),h2 f (by simp),h2 g (by simp),h2 i (by simp),h2 j (by simp),h2 k (by simp),h2 m (by simp),h2 n (by simp),?_⟩;simp only[lv] at h3;omega
theorem Re (F:Nat) {l:List Int} {v:Int} (h:Rep l v) (h1:-3138550867693340381917894711603833208051177722232017256448<=v) (h2:v<3138550867693340381917894711603833208051177722232017256448):xm.sh F l=some ((decide (v<0),()),()):=by
 obtain ⟨a,b,c,d,e,f,g,i,j,k,m,n,q,rfl,b1,b2,b3,b4,b5,b6,b7,b8,b9,b10,b11,b12,hs⟩:=h.open;unfold xm.sh;have hd:decide (([a,b,c,d,e,f,g,i,j,k,m,n].getD 11 0)>=32768)=decide (v<0):=by
  show decide (n>=32768)=decide (v<0);by_cases hv:v<0
  ·rw[decide_eq_true hv,decide_eq_true (by omega)]
  ·rw[decide_eq_false hv,decide_eq_false (by omega)]
 rw[hd];rfl
def hor (d c b a:Int):Int:=a+65536*b+4294967296*c+281474976710656*d
theorem Wm {a b c d:Int} (h1:0<=a/\a<65536) (h2:0<=b/\b<65536) (h3:0<=c/\c<65536) (h4:0<=d/\d<65536):0<=hor d c b a/\hor d c b a<18446744073709551616:=by unfold hor; omega
theorem US {a b c d:Int} (h1:0<=a/\a<65536) (h2:0<=b/\b<65536) (h3:0<=c/\c<65536) (h4:0<=d/\d<65536) :
  u64.wrap (u64.wrap (u64.wrap (u64.wrap (u64.wrap (u64.wrap (u64.wrap (u64.wrap (0*65536)+d)*65536)+c)*65536)+b)*65536)+a)=hor d c b a:=by
 unfold hor;rw[x8 (n:=0*65536) (by omega) (by omega),x8 (n:=0*65536+d) (by omega) (by omega),x8 (n:=(0*65536+d)*65536) (by omega) (by omega),x8 (n:=(0*65536+d)*65536+c) (by omega) (by omega),
  x8 (n:=((0*65536+d)*65536+c)*65536) (by omega) (by omega),x8 (n:=((0*65536+d)*65536+c)*65536+b) (by omega) (by omega),x8 (n:=(((0*65536+d)*65536+c)*65536+b)*65536) (by omega) (by omega),x8 (by omega) (by omega)]
 omega
theorem zeG (f:Nat) (a b c d e f' g i j k m n:Int):zH.sh (f+20) [a,b,c,d,e,f',g,i,j,k,m,n]=bif decide (i>=32768) then
  (bif (j != 65535) then some (((0,0),false,()),()) else bif (k != 65535) then some (((0,0),false,()),()) else bif (m != 65535) then some (((0,0),false,()),()) else bif (n != 65535) then some (((0,0),false,()),()) else
   some (((i64.wrap (u64.wrap (u64.wrap (u64.wrap (u64.wrap (u64.wrap (u64.wrap (u64.wrap (u64.wrap (0*65536)+i)*65536)+g)*65536)+f')*65536)+e)),u64.wrap (u64.wrap (u64.wrap (u64.wrap (u64.wrap (u64.wrap (u64.wrap (u64.wrap (0*65536)+d)*65536)+c)*65536)+b)*65536)+a)),true,()),()))
 else (bif (j != 0) then some (((0,0),false,()),()) else bif (k != 0) then some (((0,0),false,()),()) else bif (m != 0) then some (((0,0),false,()),()) else bif (n != 0) then some (((0,0),false,()),()) else
   some (((i64.wrap (u64.wrap (u64.wrap (u64.wrap (u64.wrap (u64.wrap (u64.wrap (u64.wrap (u64.wrap (0*65536)+i)*65536)+g)*65536)+f')*65536)+e)),u64.wrap (u64.wrap (u64.wrap (u64.wrap (u64.wrap (u64.wrap (u64.wrap (u64.wrap (0*65536)+d)*65536)+c)*65536)+b)*65536)+a)),true,()),())):=by kernel_rfl
theorem zcI (F:Nat) {l:List Int} (hl:l.length=12) {v:Int} (hv:inR v=false) (h:zH.sh F l=some (((0,0),false,()),())):yH.sh F l=some ((ue v,vN v,()),()):=by
 unfold yH.sh ue vN;rw[hl,h,hv];rfl
theorem zan (F:Nat) {l:List Int} (hl:l.length=12) {v:Int} (hv:inR v=true) (h:zH.sh F l=some ((mk v,true,()),())):yH.sh F l=some ((ue v,vN v,()),()):=by
 unfold yH.sh ue vN;rw[hl,h,hv];rfl
theorem zfc {a b:Int} {w:Int×Int} (h1:a=w.1) (h2:b=w.2):(some (((a,b),true,()),()):Option ((((Int×Int))×Bool×Unit)×Unit))=some ((w,true,()),()):=by
 rw[h1,h2]
theorem VH (F:Nat) (hF:20<F) {l:List Int} {v:Int} (h:Rep l v) (h1:-3138550867693340381917894711603833208051177722232017256448<=v) (h2:v<3138550867693340381917894711603833208051177722232017256448):yH.sh F l=some ((ue v,vN v,()),()):=by
 obtain ⟨fu,rfl⟩:∃f,F=f+20:=⟨F-20,by omega⟩;have hl:=h.1;obtain ⟨a,b,c,d,e,f,g,i,j,k,m,n,q,rfl,b1,b2,b3,b4,b5,b6,b7,b8,b9,b10,b11,b12,hs⟩:=h.open;have hw:=zeG fu a b c d e f g i j k m n;rw[US b1 b2 b3 b4,US b5 b6 b7 b8] at hw;have hb1:=Wm b1 b2 b3 b4;have hb2:=Wm b5 b6 b7 b8;have hs2:hor d c b a+18446744073709551616*hor i g f e+340282366920938463463374607431768211456*(hor n m k j)=v+6277101735386680763835789423207666416102355444464034512896*q:=by unfold hor; omega
 have hi8:decide (i>=32768)=decide (hor i g f e>=9223372036854775808):=by
  by_cases hi:i>=32768
  ·rw[decide_eq_true hi,decide_eq_true (by unfold hor; omega)]
  ·rw[decide_eq_false hi,decide_eq_false (by unfold hor; omega)]
 have htop:=Wm b9 b10 b11 b12;by_cases hi:i>=32768
 ·rw[decide_eq_true hi] at hw hi8
  have hi9:=of_decide_eq_true hi8.symm;simp only[cond_true] at hw;by_cases ht:j=65535/\k=65535/\m=65535/\n=65535
  ·obtain ⟨rfl,rfl,rfl,rfl⟩:=ht
   simp only[bne_self_eq_false,cond_false] at hw;have htt:hor 65535 65535 65535 65535=18446744073709551615:=by decide
   rw[htt] at hs2;have hv:inR v=true:=by rw[yR]; omega
   refine zan _ hl hv (hw.trans ?_);have e1:i64.wrap (hor i g f e)=hor i g f e-18446744073709551616:=by rw[Yk]; split<;>omega
   rw[e1];exact zfc (by simp only[mk]; omega) (by simp only[mk]; omega)
  ·have hv:inR v=false:=by
    have:hor n m k j<18446744073709551615:=by unfold hor; omega
    rw[ZK]; omega
   refine zcI _ hl hv (hw.trans ?_);by_cases h1:j=65535
   ·by_cases h2:k=65535
    ·by_cases h3:m=65535
     ·have h4:n≠65535:=fun h4=>ht ⟨h1,h2,h3,h4⟩
      rw[show (n != 65535)=true by simpa using h4];cases (j != 65535)<;>cases (k != 65535)<;>cases (m != 65535)<;>rfl
     ·rw[show (m != 65535)=true by simpa using h3]
      cases (j != 65535)<;>cases (k != 65535)<;>rfl
    ·rw[show (k != 65535)=true by simpa using h2]
     cases (j != 65535)<;>rfl
   ·rw[show (j != 65535)=true by simpa using h1]
    rfl
 ·rw[decide_eq_false hi] at hw hi8
  have hi9:=of_decide_eq_false hi8.symm;simp only[cond_false] at hw;by_cases ht:j=0/\k=0/\m=0/\n=0
  ·obtain ⟨rfl,rfl,rfl,rfl⟩:=ht
   simp only[bne_self_eq_false,cond_false] at hw;have htt:hor 0 0 0 0=0:=by decide
   rw[htt] at hs2;have hv:inR v=true:=by rw[yR]; omega
   refine zan _ hl hv (hw.trans ?_);have e1:i64.wrap (hor i g f e)=hor i g f e:=by rw[Yk]; split<;>omega
   rw[e1];exact zfc (by simp only[mk]; omega) (by simp only[mk]; omega)
  ·have hv:inR v=false:=by
    have:0<hor n m k j:=by unfold hor; omega
    rw[ZK]; omega
   refine zcI _ hl hv (hw.trans ?_);by_cases h1:j=0
   ·by_cases h2:k=0
    ·by_cases h3:m=0
     ·have h4:n≠0:=fun h4=>ht ⟨h1,h2,h3,h4⟩
      rw[show (n != 0)=true by simpa using h4];cases (j != 0)<;>cases (k != 0)<;>cases (m != 0)<;>rfl
     ·rw[show (m != 0)=true by simpa using h3]
      cases (j != 0)<;>cases (k != 0)<;>rfl
    ·rw[show (k != 0)=true by simpa using h2]
     cases (j != 0)<;>rfl
   ·rw[show (j != 0)=true by simpa using h1]
    rfl
theorem Xq {w:Int×Int} (h:wfW w):-170141183460469231731687303715884105728<=val w/\val w<170141183460469231731687303715884105728:=by
 have:=yR.1 (Q5 h); exact this
theorem YN (F:Nat) (hF:20<F) {a b:Int×Int} (ha:wfW a) (hb:wfW b):yP.sh F a b=some ((ue (val a+val b),vN (val a+val b),()),()):=by
 obtain ⟨la,da,ra⟩:=Ym F hF ha;obtain ⟨lb,db,rb⟩:=Ym F hF hb;obtain ⟨l,dl,rl⟩:=TD F hF ra rb;have h1:=Xq ha;have h2:=Xq hb;unfold yP.sh;rw[da,db];simp only[zg];rw[dl];simp only[zg];rw[VH F hF rl (by omega) (by omega)];rfl
theorem zf3 {l:List Int} {v:Int} (h:Rep l v) (h1:-3138550867693340381917894711603833208051177722232017256448<=v) (h2:v<3138550867693340381917894711603833208051177722232017256448):(l==List.replicate 12 0)=decide (v=0):=by
 obtain ⟨a,b,c,d,e,f,g,i,j,k,m,n,q,rfl,b1,b2,b3,b4,b5,b6,b7,b8,b9,b10,b11,b12,hs⟩:=h.open;by_cases hv:v=0
 ·subst hv
  rw[decide_eq_true rfl];have e:a=0/\b=0/\c=0/\d=0/\e=0/\f=0/\g=0/\i=0/\j=0/\k=0/\m=0/\n=0:=by
   have:q=0:=by omega
   subst this;omega
  obtain ⟨rfl,rfl,rfl,rfl,rfl,rfl,rfl,rfl,rfl,rfl,rfl,rfl⟩:=e;rfl
 ·rw[decide_eq_false hv]
  have:¬(a=0/\b=0/\c=0/\d=0/\e=0/\f=0/\g=0/\i=0/\j=0/\k=0/\m=0/\n=0):=by
   rintro ⟨rfl,rfl,rfl,rfl,rfl,rfl,rfl,rfl,rfl,rfl,rfl,rfl⟩
   omega
  rw[beq_eq_false_iff_ne];intro h;simp only[List.replicate,List.cons.injEq,and_true] at h;exact this h
theorem QJ (F:Nat) (hF:20<F) {a b:Int×Int} (ha:wfW a) (hb:wfW b):xu.sh F a b=some ((Ye (val a) (val b),()),()):=by
 obtain ⟨la,da,ra⟩:=Ym F hF ha;obtain ⟨lb,db,rb⟩:=Ym F hF hb;obtain ⟨lt,dt,rt⟩:=Y7 F hF rb;obtain ⟨l,dl,rl⟩:=TD F hF ra rt;have h1:=Xq ha;have h2:=Xq hb;unfold xu.sh;rw[da,db];simp only[zg];rw[dt];simp only[zg];rw[dl];simp only[zg];have e1:=rl.1;rw[Re F rl (by omega) (by omega),e1,zf3 rl (by omega) (by omega)];simp only[zg];rcases Int.lt_trichotomy (val a) (val b) with h | h | h
 ·rw[zaa h,decide_eq_true (show val a+-val b<0 by omega)]; rfl
 ·rw[zdr h,decide_eq_false (show ¬(val a+-val b<0) by omega),decide_eq_true (show val a+-val b=0 by omega)]; rfl
 ·rw[zab h,decide_eq_false (show ¬(val a+-val b<0) by omega),decide_eq_false (show ¬val a+-val b=0 by omega)]; rfl
theorem abs_raw (f:Nat) (k0:Int->Int->Option zW.sg.R) (a b c d e f' g i j k m n:Int):zW.j4 (f+20) k0 [a,b,c,d,e,f',g,i,j,k,m,n] =
  k0 (u64.wrap (u64.wrap (u64.wrap (u64.wrap (u64.wrap (u64.wrap (u64.wrap (u64.wrap (0*65536)+i)*65536)+g)*65536)+f')*65536)+e)) (u64.wrap (u64.wrap (u64.wrap (u64.wrap (u64.wrap (u64.wrap (u64.wrap (u64.wrap (0*65536)+d)*65536)+c)*65536)+b)*65536)+a)):=by kernel_rfl
theorem zgB (F:Nat) (hF:20<F) {l:List Int} {v:Int} (h:Rep l v) (h1:0<=v) (h2:v<340282366920938463463374607431768211456) (k0:Int->Int->Option zW.sg.R) :
  zW.j4 F k0 l=k0 (v/18446744073709551616) (v%18446744073709551616):=by
 obtain ⟨fu,rfl⟩:∃f,F=f+20:=⟨F-20,by omega⟩;obtain ⟨a,b,c,d,e,f,g,i,j,k,m,n,q,rfl,b1,b2,b3,b4,b5,b6,b7,b8,b9,b10,b11,b12,hs⟩:=h.open;rw[abs_raw,US b1 b2 b3 b4,US b5 b6 b7 b8];have hb1:=Wm b1 b2 b3 b4;have hb2:=Wm b5 b6 b7 b8;have hs2:hor d c b a+18446744073709551616*hor i g f e+340282366920938463463374607431768211456*(hor n m k j)=v+6277101735386680763835789423207666416102355444464034512896*q:=by unfold hor; omega
 have htop:=Wm b9 b10 b11 b12;have hq:hor n m k j=0/\q=0:=by omega
 rw[hq.1,hq.2] at hs2;congr 1<;>omega
theorem WL (F:Nat) (hF:20<F) {a:Int×Int} (ha:wfW a):zW.sh F a=some ((((val a).natAbs:Int)/18446744073709551616,((val a).natAbs:Int)%18446744073709551616,()),()):=by
 obtain ⟨la,da,ra⟩:=Ym F hF ha;obtain ⟨lt,dt,rt⟩:=Y7 F hF ra;have h1:=Xq ha;unfold zW.sh;rw[da];simp only[zg];rw[Re F ra (by omega) (by omega),dt,ra.1];simp only[zg];rw[rt.1];by_cases hn:val a<0
 ·rw[decide_eq_true hn,show ((val a).natAbs:Int)=- val a by omega]
  exact zgB F hF rt (by omega) (by omega) (fun r25 r35=>some ((r25,r35,()),()))
 ·rw[decide_eq_false hn,show ((val a).natAbs:Int)=val a by omega]
  exact zgB F hF ra (by omega) (by omega) (fun r25 r35=>some ((r25,r35,()),()))
theorem zfI (f:Nat) {R:Type} (k0:Bool->zh.T->List Int->Option R) (below:Bool) (a b:Int):yd.l3 (f+20) (fun bl _ _ _ _ r l=>k0 bl r l) (f+20) below a b 0 (0,0) (List.replicate 12 0) =
  k0 below (0,0) [(b.fdiv 1).tmod 65536,(b.fdiv 65536).tmod 65536,(b.fdiv 4294967296).tmod 65536,(b.fdiv 281474976710656).tmod 65536,(a.fdiv 1).tmod 65536,(a.fdiv 65536).tmod 65536,(a.fdiv 4294967296).tmod 65536,(a.fdiv 281474976710656).tmod 65536,0,0,0,0]:=by kernel_rfl
theorem Sl (F:Nat) (hF:20<F) {b:Bool} {hi lo:Int} (h1:0<=hi) (h2:hi<18446744073709551616) (h3:0<=lo) (h4:lo<18446744073709551616) {v:Int} (hv:v=bif b then -(hi*18446744073709551616+lo) else hi*18446744073709551616+lo) :
  yd.sh F b hi lo=some ((ue v,vN v,()),()):=by
 obtain ⟨fu,rfl⟩:∃f,F=f+20:=⟨F-20,by omega⟩;have hu:=four h3 h4;have hw:=four h1 h2;have e:=zfI fu (fun bl r l=>bif bl then bif Nat.beq 12 l.length then oB (zM.sh (fu+20) l) fun c_2 =>
   bif (Nat.beq c_2.1.1.length l.length&&Nat.beq 12 l.length) then bif Nat.beq 12 c_2.1.1.length then oB (yH.sh (fu+20) c_2.1.1) fun c_3 =>
     (some ((c_3.1.1,c_3.1.2.1,()),()):Option yd.sg.R)
    else none
   else none
  else none
 else bif Nat.beq 12 l.length then oB (yH.sh (fu+20) l) fun c_4 =>
  some ((c_4.1.1,c_4.1.2.1,()),())
 else none) b hi lo
 rw[hu.1,hu.2.1,hu.2.2.1,hu.2.2.2,hw.1,hw.2.1,hw.2.2.1,hw.2.2.2] at e;have hr:Rep [lo%65536,lo/65536%65536,lo/4294967296%65536,lo/281474976710656%65536,hi%65536,hi/65536%65536,hi/4294967296%65536,hi/281474976710656%65536,0,0,0,0] (hi*18446744073709551616+lo) :=
  Rep.of12 (q:=0) (by omega) (by omega) (by omega) (by omega) (by omega) (by omega) (by omega) (by omega) (by omega) (by omega) (by omega) (by omega) (by simp only[lv]; omega)
 generalize ([lo%65536,lo/65536%65536,lo/4294967296%65536,lo/281474976710656%65536,hi%65536,hi/65536%65536,hi/4294967296%65536,hi/281474976710656%65536,0,0,0,0]:List Int)=l at*;obtain ⟨lt,dt,rt⟩:=Y7 (fu+20) hF hr;unfold yd.sh;refine Eq.trans e ?_;simp only[dt,hr.1,rt.1,zg];cases b with
 | true =>
  simp only[cond_true] at hv ⊢;rw[hv,VH _ hF rt (by omega) (by omega)];rfl
 | false =>
  simp only[cond_false] at hv ⊢;rw[hv,VH _ hF hr (by omega) (by omega)];rfl
theorem qO (F:Nat) {v:Int} (h1:-9223372036854775808<=v) (h2:v<9223372036854775808):zU.sh F v=some ((mk v,()),()):=by
 unfold zU.sh;rw[vM];by_cases h:v<0
 ·rw[decide_eq_true h,show mk v=(-1,v%18446744073709551616) by simp only[mk]; exact zcU (by omega) rfl]; rfl
 ·rw[decide_eq_false h,show mk v=(0,v%18446744073709551616) by simp only[mk]; exact zcU (by omega) rfl]; rfl
end Go.VS
