/- Plain laws, joined from smaller texts. -/
import Derived.Test.YtmkkoenoplginaaDoorQR1
set_option linter.unusedVariables false
set_option linter.unusedSimpArgs false
set_option linter.unusedSectionVars false
set_option maxRecDepth 100000
namespace Go.VS
open Go IntKind
def wfW (w:Int×Int):Prop:=-9223372036854775808<=w.1/\w.1<9223372036854775808/\0<=w.2/\w.2<18446744073709551616
def val (w:Int×Int):Int:=w.1*18446744073709551616+w.2
def mk (v:Int):Int×Int:=(v/18446744073709551616,v%18446744073709551616)
def inR (v:Int):Bool:=decide (-170141183460469231731687303715884105728<=v)&&decide (v<170141183460469231731687303715884105728)
def vm (v:Int):Int×Int:=bif inR v then mk v else (0,0)
def vu (v:Int):Int:=bif inR v then 0 else 10
theorem yV {v:Int}:inR v=true↔-170141183460469231731687303715884105728<=v/\v<170141183460469231731687303715884105728:=by simp[inR]
theorem uL {v:Int}:inR v=false↔(v < -170141183460469231731687303715884105728\/170141183460469231731687303715884105728<=v):=by
 cases h:inR v with
 | true=>simp; have:=yV.1 h; omega
 | false =>
  simp;rcases Int.lt_or_le v (-170141183460469231731687303715884105728) with h' | h'
  ·exact .inl h'
  ·rcases Int.lt_or_le v 170141183460469231731687303715884105728 with h'' | h''
   ·rw[yV.2 ⟨h',h''⟩] at h; cases h
   ·exact .inr h''
theorem mk_val {w:Int×Int} (h:wfW w):mk (val w)=w:=by
 obtain ⟨a,b⟩:=w;obtain ⟨h1,h2,h3,h4⟩:=h;simp only[mk,val] at*;ext<;>simp only<;>omega
theorem wz {v:Int}:val (mk v)=v:=by simp only[val,mk]; omega
theorem wo {v:Int} (h:inR v=true):wfW (mk v):=by
 have:=yV.1 h;simp only[wfW,mk];omega
theorem SE {w:Int×Int} (h:wfW w):inR (val w)=true:=by
 rw[yV];obtain ⟨h1,h2,h3,h4⟩:=h;simp only[val];omega
theorem Xi (v:Int):wfW (vm v):=by
 unfold vm;cases h:inR v with
 | true=>exact wo h
 | false=>simp[wfW]
theorem Vk (n:Int):∃k,i64.wrap n=n+18446744073709551616*k/\-9223372036854775808<=i64.wrap n/\i64.wrap n<9223372036854775808:=by
 rw[ZR];split
 ·exact ⟨-(n/18446744073709551616)-1,by omega,by omega,by omega⟩
 ·exact ⟨-(n/18446744073709551616),by omega,by omega,by omega⟩
theorem uF (F:Nat) {v:Int} (h1:-9223372036854775808<=v) (h2:v<9223372036854775808):yt.sh F v=some ((mk v,()),()):=by
 unfold yt.sh;have e:(2^(min (63:Int).toNat IntKind.i64.bits):Int)=9223372036854775808:=by decide
 have e2:v.fdiv 9223372036854775808=v/18446744073709551616:=by rw[Int.fdiv_eq_ediv_of_nonneg _ (by omega)]; omega
 rw[e,e2,wT];rfl
theorem qS (F:Nat) {x y c:Int} (h1:0<=x) (h2:0<=y) (h3:0<=c) (h4:c<=1):z8.sh F x y c=some (((x+y+c)%18446744073709551616,(x+y+c)/18446744073709551616,()),()):=by
 simp[z8.sh,h1,h2,h3,h4]
theorem ZW (F:Nat) {x y c:Int} (h1:0<=x) (h2:0<=y) (h2':y<18446744073709551616) (h3:0<=c) (h4:c<=1):zR.sh F x y c=some (((x-y-c)%18446744073709551616,(if x<y+c then 1 else 0),()),()):=by
 simp[zR.sh,h1,h2,h2',h3,h4]
theorem Q2 (F:Nat) {a b:Int×Int} (ha:wfW a) (hb:wfW b):xz.sh F a b=some ((vm (val a+val b),vu (val a+val b),()),()):=by
 obtain ⟨a1,a2⟩:=a;obtain ⟨b1,b2⟩:=b;obtain ⟨h1,h2,h3,h4⟩:=ha;obtain ⟨g1,g2,g3,g4⟩:=hb;simp only at*;unfold xz.sh;simp only[wT];rw[qS F (by omega) (by omega) (by omega) (by omega)];simp only[zE];rw[qS F (by omega) (by omega) (by omega) (by omega)];simp only[zE,vm,vu,val,mk];obtain ⟨k,e1,e2,e3⟩:=Vk ((a1%18446744073709551616+b1%18446744073709551616+(a2+b2+0)/18446744073709551616)%18446744073709551616);generalize i64.wrap ((a1%18446744073709551616+b1%18446744073709551616+(a2+b2+0)/18446744073709551616)%18446744073709551616)=r at*;cases hr:inR (a1*18446744073709551616+a2+(b1*18446744073709551616+b2)) with
 | true =>
  rw[yV] at hr;have q1:r=(a1*18446744073709551616+a2+(b1*18446744073709551616+b2))/18446744073709551616:=by omega
  have q2:(a2+b2+0)%18446744073709551616=(a1*18446744073709551616+a2+(b1*18446744073709551616+b2))%18446744073709551616:=by omega
  have hs:(decide (a1<0)==decide (b1<0)&&!(decide (r<0)==decide (a1<0)))=false:=by
   by_cases x1:a1<0<;>by_cases x2:b1<0<;>by_cases x3:r<0<;>simp[x1,x2,x3]<;>omega
  simp only[cond_true];rw[<-q1,<-q2];cases hx:(decide (a1<0)==decide (b1<0)) with
  | true =>
   rw[hx] at hs;simp only[Bool.true_and] at hs;simp only[hs,cond_true,cond_false]
  | false=>rfl
 | false =>
  rw[uL] at hr;have hs:(decide (a1<0)==decide (b1<0))=true/\(!(decide (r<0)==decide (a1<0)))=true:=by
   by_cases x1:a1<0<;>by_cases x2:b1<0<;>by_cases x3:r<0<;>simp[x1,x2,x3]<;>omega
  simp only[hs.1,hs.2,cond_true,cond_false]
theorem sub_eq (F:Nat) {a b:Int×Int} (ha:wfW a) (hb:wfW b):xy.sh F a b=some ((vm (val a-val b),vu (val a-val b),()),()):=by
 obtain ⟨a1,a2⟩:=a;obtain ⟨b1,b2⟩:=b;obtain ⟨h1,h2,h3,h4⟩:=ha;obtain ⟨g1,g2,g3,g4⟩:=hb;simp only at*;unfold xy.sh;simp only[wT];rw[ZW F (by omega) (by omega) (by omega) (by omega) (by omega)];simp only[zE];have hbo:(a2<b2/\(if a2<b2+0 then (1:Int) else 0)=1)\/(b2<=a2/\(if a2<b2+0 then (1:Int) else 0)=0):=by split<;>omega
 generalize (if a2<b2+0 then (1:Int) else 0)=bo at*;rw[ZW F (by omega) (by omega) (by omega) (by omega) (by omega)];simp only[zE,vm,vu,val,mk];obtain ⟨k,e1,e2,e3⟩:=Vk ((a1%18446744073709551616-b1%18446744073709551616-bo)%18446744073709551616);generalize i64.wrap ((a1%18446744073709551616-b1%18446744073709551616-bo)%18446744073709551616)=r at*;cases hr:inR (a1*18446744073709551616+a2-(b1*18446744073709551616+b2)) with
 | true =>
  rw[yV] at hr;have q1:r=(a1*18446744073709551616+a2-(b1*18446744073709551616+b2))/18446744073709551616:=by omega
  have q2:(a2-b2-0)%18446744073709551616=(a1*18446744073709551616+a2-(b1*18446744073709551616+b2))%18446744073709551616:=by omega
  have hs:(!(decide (a1<0)==decide (b1<0))&&!(decide (r<0)==decide (a1<0)))=false:=by
   by_cases x1:a1<0<;>by_cases x2:b1<0<;>by_cases x3:r<0<;>simp[x1,x2,x3]<;>omega
  simp only[cond_true];rw[<-q1,<-q2];cases hx:(!(decide (a1<0)==decide (b1<0))) with
  | true =>
   rw[hx] at hs;simp only[Bool.true_and] at hs;simp only[hs,cond_true,cond_false]
  | false=>rfl
 | false =>
  rw[uL] at hr;have hs:(!(decide (a1<0)==decide (b1<0)))=true/\(!(decide (r<0)==decide (a1<0)))=true:=by
   by_cases x1:a1<0<;>by_cases x2:b1<0<;>by_cases x3:r<0<;>simp[x1,x2,x3]<;>omega
  simp only[hs.1,hs.2,cond_true,cond_false]
theorem wf_zero:wfW (0,0):=by simp[wfW]
theorem neg_eq (F:Nat) {a:Int×Int} (ha:wfW a):xI.sh F a=some ((vm (-val a),vu (-val a),()),()):=by
 unfold xI.sh;rw[sub_eq F wf_zero ha];have:val (0,0)-val a=-val a:=by simp[val]
 rw[this];rfl
def V7 (x y:Int):Int:=if x<y then -1 else if x=y then 0 else 1
theorem ST {x y:Int} (h:x<y):V7 x y=-1:=by unfold V7; rw[if_pos h]
theorem cmpZ_eq {x y:Int} (h:x=y):V7 x y=0:=by unfold V7; rw[if_neg (by omega),if_pos h]
theorem SU {x y:Int} (h:y<x):V7 x y=1:=by unfold V7; rw[if_neg (by omega),if_neg (by omega)]
theorem QH (F:Nat) {a b:Int×Int} (ha:wfW a) (hb:wfW b):xH.sh F a b=some ((V7 (val a) (val b),()),()):=by
 obtain ⟨a1,a2⟩:=a;obtain ⟨b1,b2⟩:=b;obtain ⟨h1,h2,h3,h4⟩:=ha;obtain ⟨g1,g2,g3,g4⟩:=hb;simp only at*;unfold xH.sh;simp only[Bool.and_true];by_cases x1:a1<b1
 ·have y1:(a1==b1)=false:=by rw[beq_eq_false_iff_ne]; omega
  rw[ST (by simp only[val]; omega)];simp[y1,x1]
 ·by_cases x2:a1=b1
  ·subst x2
   by_cases x3:a2=b2
   ·subst x3
    rw[cmpZ_eq rfl];simp
   ·have y3:(a2==b2)=false:=by rw[beq_eq_false_iff_ne]; exact x3
    by_cases x4:a2<b2
    ·rw[ST (by simp only[val]; omega)]
     simp[y3,x4]
    ·rw[SU (by simp only[val]; omega)]
     simp[y3,x4]
  ·have y1:(a1==b1)=false:=by rw[beq_eq_false_iff_ne]; omega
   rw[SU (by simp only[val]; omega)];simp[y1,x1]
theorem RM {a b a' b':Int} (h1:a=a') (h2:b=b'):(some ((a,b,()),()):Option ((Int×Int×Unit)×Unit))=some ((a',b',()),()):=by rw[h1,h2]
theorem Uc (F:Nat) {a:Int×Int} (ha:wfW a):y6.sh F a=some ((((val a).natAbs:Int)/18446744073709551616,((val a).natAbs:Int)%18446744073709551616,()),()):=by
 obtain ⟨a1,a2⟩:=a;obtain ⟨h1,h2,h3,h4⟩:=ha;simp only at*;unfold y6.sh;simp only[wT];by_cases x:a1>=0
 ·have e:((val (a1,a2)).natAbs:Int)=a1*18446744073709551616+a2:=by simp only[val]; omega
  rw[e];simp only[x,decide_true,cond_true];exact RM (by omega) (by omega)
 ·have e:((val (a1,a2)).natAbs:Int)=-(a1*18446744073709551616+a2):=by simp only[val]; omega
  rw[e];simp only[x,decide_false,cond_false];rw[ZW F (by omega) (by omega) (by omega) (by omega) (by omega)];simp only[zE];have hbo:(0<a2/\(if 0<a2+0 then (1:Int) else 0)=1)\/(a2=0/\(if 0<a2+0 then (1:Int) else 0)=0):=by split<;>omega
  generalize (if 0<a2+0 then (1:Int) else 0)=bo at*;rw[ZW F (by omega) (by omega) (by omega) (by omega) (by omega)];simp only[zE];exact RM (by omega) (by omega)
theorem VI (F:Nat) {b:Bool} {hi lo:Int} (h1:0<=hi) (h2:hi<18446744073709551616) (h3:0<=lo) (h4:lo<18446744073709551616) {v:Int} (hv:v=bif b then -(hi*18446744073709551616+lo) else hi*18446744073709551616+lo) :
  xa.sh F b hi lo=some ((vm v,vu v,()),()):=by
 unfold xa.sh;have e:(2^(min (63:Int).toNat IntKind.u64.bits):Int)=9223372036854775808:=by decide
 rw[e,Int.fdiv_eq_ediv_of_nonneg _ (by omega)];by_cases x:hi<9223372036854775808
 ·have e1:(hi/9223372036854775808==0)=true:=by rw[beq_iff_eq]; omega
  rw[e1,yR (by omega) (by omega)];have hw:wfW (hi,lo):=⟨by simp only; omega,x,h3,h4⟩;cases b with
  | true =>
   simp only[cond_true] at hv ⊢;rw[neg_eq F hw];simp only[zE];have:v=-val (hi,lo):=by rw[hv]; rfl
   rw[this]
  | false =>
   simp only[cond_true,cond_false] at hv ⊢;have:v=val (hi,lo):=by rw[hv]; rfl
   rw[this];simp only[vm,vu,SE hw,cond_true,mk_val hw]
 ·have e1:(hi/9223372036854775808==0)=false:=by rw[beq_eq_false_iff_ne]; omega
  rw[e1];cases b with
  | true =>
   simp only[cond_true,cond_false] at hv ⊢;by_cases y:hi=9223372036854775808
   ·subst y
    by_cases z:lo=0
    ·subst z
     subst hv;rfl
    ·have e2:(lo==0)=false:=by rw[beq_eq_false_iff_ne]; exact z
     have hr:inR v=false:=by rw[uL]; omega
     simp only[vm,vu,hr,cond_false,e2,beq_self_eq_true,cond_true]
   ·have e2:(hi==9223372036854775808)=false:=by rw[beq_eq_false_iff_ne]; exact y
    have hr:inR v=false:=by rw[uL]; omega
    simp only[vm,vu,hr,cond_false,e2]
  | false =>
   simp only[cond_false] at hv ⊢;have hr:inR v=false:=by rw[uL]; omega
   simp only[vm,vu,hr,cond_false]
theorem TG {x:Int} (h1:0<=x) (h2:x<18446744073709551616):u64.wrap ((BitVec.ofInt IntKind.u64.bits x &&& BitVec.ofInt IntKind.u64.bits 4294967295).toNat:Int)=x%4294967296:=by
 obtain ⟨X,rfl⟩:=Int.eq_ofNat_of_zero_le h1;show u64.wrap ((BitVec.ofInt 64 (X:Int) &&& BitVec.ofInt 64 ((4294967295:Nat):Int)).toNat:Int)=_;rw[BitVec.ofInt_natCast,BitVec.ofInt_natCast,BitVec.toNat_and,BitVec.toNat_ofNat,BitVec.toNat_ofNat,Nat.mod_eq_of_lt (by omega:X<2^64),Nat.mod_eq_of_lt (by decide)];have:X &&& 4294967295=X%4294967296:=Nat.and_two_pow_sub_one_eq_mod X 32;rw[this,wZ (by omega) (by omega)];omega
theorem Sq {x:Int} (h1:0<=x) (h2:x<18446744073709551616):u64.wrap ((BitVec.ofInt IntKind.u64.bits x ||| BitVec.ofInt IntKind.u64.bits 0).toNat:Int)=x:=by
 obtain ⟨X,rfl⟩:=Int.eq_ofNat_of_zero_le h1;show u64.wrap ((BitVec.ofInt 64 (X:Int) ||| BitVec.ofInt 64 ((0:Nat):Int)).toNat:Int)=_
 rw[BitVec.ofInt_natCast,BitVec.ofInt_natCast,BitVec.toNat_or,BitVec.toNat_ofNat,BitVec.toNat_ofNat,Nat.mod_eq_of_lt (by omega:X<2^64)];simp;rw[wZ (by omega) (by omega)]
theorem zero_or {x:Int} (h1:0<=x) (h2:x<18446744073709551616):u64.wrap ((BitVec.ofInt IntKind.u64.bits 0 ||| BitVec.ofInt IntKind.u64.bits x).toNat:Int)=x:=by
 rw[BitVec.or_comm]; exact Sq h1 h2
theorem Uq {x:Int} (h:0<=x):x.fdiv (2^(min (32:Int).toNat IntKind.u64.bits))=x/4294967296:=by
 have e:(2^(min (32:Int).toNat IntKind.u64.bits):Int)=4294967296:=by decide
 rw[e,Int.fdiv_eq_ediv_of_nonneg _ (by omega)]
theorem ZD {a b m n:Int} (ha:0<=a) (ha':a<=m) (hb:0<=b) (hb':b<=n):0<=a*b/\a*b<=m*n :=
 ⟨Int.mul_nonneg ha hb,Int.mul_le_mul ha' hb' hb (by omega)⟩
theorem Yc (F:Nat) {x y:Int} (h1:0<=x) (h2:x<18446744073709551616) (h3:0<=y) (h4:y<18446744073709551616) :
  yA.sh F x y=some ((x*y/18446744073709551616,x*y%18446744073709551616,()),()):=by
 unfold yA.sh;rw[TG h1 h2,TG h3 h4,Uq h1,Uq h3];have hx:x=x/4294967296*4294967296+x%4294967296:=by omega
 have hy:y=y/4294967296*4294967296+y%4294967296:=by omega
 have bx1:0<=x/4294967296/\x/4294967296<=4294967295:=by omega
 have bx0:0<=x%4294967296/\x%4294967296<=4294967295:=by omega
 have by1:0<=y/4294967296/\y/4294967296<=4294967295:=by omega
 have by0:0<=y%4294967296/\y%4294967296<=4294967295:=by omega
 have hxy:x*y=(x/4294967296)*(y/4294967296)*18446744073709551616+((x/4294967296)*(y%4294967296)+(x%4294967296)*(y/4294967296))*4294967296+(x%4294967296)*(y%4294967296):=by
  generalize x/4294967296=x1 at*;generalize x%4294967296=x0 at*;generalize y/4294967296=y1 at*;generalize y%4294967296=y0 at*;rw[hx,hy];simp only[Int.add_mul,Int.mul_add];have r1:x1*4294967296*(y1*4294967296)=x1*y1*18446744073709551616:=by
   rw[Int.mul_assoc,Int.mul_left_comm 4294967296,<-Int.mul_assoc]; rfl
  have r2:x1*4294967296*y0=x1*y0*4294967296:=by rw[Int.mul_right_comm]
  have r3:x0*(y1*4294967296)=x0*y1*4294967296:=by rw[Int.mul_assoc]
  rw[r1,r2,r3];omega
 have A:=ZD bx1.1 bx1.2 by1.1 by1.2;have B:=ZD bx1.1 bx1.2 by0.1 by0.2;have C:=ZD bx0.1 bx0.2 by1.1 by1.2;have D:=ZD bx0.1 bx0.2 by0.1 by0.2;rw[hxy];generalize (x/4294967296)*(y/4294967296)=a at*;generalize (x/4294967296)*(y%4294967296)=b at*;generalize (x%4294967296)*(y/4294967296)=c at*;generalize (x%4294967296)*(y%4294967296)=d at*;clear hxy hx hy bx1 bx0 by1 by0;have w1:u64.wrap a=a:=wZ (by omega) (by omega);have w2:u64.wrap b=b:=wZ (by omega) (by omega);have w3:u64.wrap c=c:=wZ (by omega) (by omega);have w4:u64.wrap d=d:=wZ (by omega) (by omega);rw[w1,w2,w3,w4,Uq D.1];have w5:u64.wrap (b+d/4294967296)=b+d/4294967296:=wZ (by omega) (by omega);rw[w5,TG (by omega) (by omega),Uq (by omega)];have w6:u64.wrap ((b+d/4294967296)%4294967296+c)=(b+d/4294967296)%4294967296+c:=wZ (by omega) (by omega);rw[w6,Uq (by omega)];have w7:u64.wrap (a+(b+d/4294967296)/4294967296)=a+(b+d/4294967296)/4294967296:=wZ (by omega) (by omega);rw[w7];have w8:u64.wrap (a+(b+d/4294967296)/4294967296+((b+d/4294967296)%4294967296+c)/4294967296)=a+(b+d/4294967296)/4294967296+((b+d/4294967296)%4294967296+c)/4294967296:=wZ (by omega) (by omega);rw[w8,wT];exact RM (by omega) (by omega)
theorem Sh {a:Int×Int} (ha:wfW a):decide (a.1<0)=decide (val a<0):=by
 obtain ⟨a1,a2⟩:=a;obtain ⟨h1,h2,h3,h4⟩:=ha;have:a1<0↔val (a1,a2)<0:=by simp only[val] at*; omega
 simp[this]
theorem Q3 {a:Int×Int} (ha:wfW a):0<=((val a).natAbs:Int)/\((val a).natAbs:Int)<=170141183460469231731687303715884105728:=by
 have:=yV.1 (SE ha);omega
theorem WM {x y m n:Int} (hm:m=x.natAbs) (hn:n=y.natAbs):x*y=bif !(decide (x<0)==decide (y<0)) then -(m*n) else m*n:=by
 subst hm hn;by_cases h1:x<0
 ·have e1:(x.natAbs:Int)=-x:=by omega
  by_cases h2:y<0
  ·have e2:(y.natAbs:Int)=-y:=by omega
   simp[h1,h2,e1,e2,Int.neg_mul_neg]
  ·have e2:(y.natAbs:Int)=y:=by omega
   simp[h1,h2,e1,e2,Int.neg_mul]
 ·have e1:(x.natAbs:Int)=x:=by omega
  by_cases h2:y<0
  ·have e2:(y.natAbs:Int)=-y:=by omega
   simp[h1,h2,e1,e2,Int.mul_neg]
  ·have e2:(y.natAbs:Int)=y:=by omega
   simp[h1,h2,e1,e2]
theorem wmul_j (F:Nat) {R:Type} (k:(Int×Int)->Int->Option R) {a b:Int×Int} (ha:wfW a) (hb:wfW b) (r:Int×Int) {ah al bh bl:Int}
  (h1:0<=ah/\ah<=9223372036854775808) (h2:0<=al/\al<18446744073709551616) (h3:0<=bh/\bh<=9223372036854775808) (h4:0<=bl/\bl<18446744073709551616)
  (hA:((val a).natAbs:Int)=ah*18446744073709551616+al) (hB:((val b).natAbs:Int)=bh*18446744073709551616+bl) (h0:ah=0\/bh=0) :
  yu.j5 F (fun e w=>k w e) (fun e w=>k w e) ah al bh bl a b r=k (vm (val a*val b)) (vu (val a*val b)):=by
 unfold yu.j5;rw[Yc F h2.1 h2.2 h4.1 h4.2];simp only[zE];have hp:xk.sh F (ah != 0) bl al=some ((if ah≠0 then bl else al,()),()):=by
  unfold xk.sh;by_cases h:ah=0
  ·simp[h]
  ·have:(ah != 0)=true:=by simp[h]
   simp[this,h]
 rw[hp];simp only[zE];obtain ⟨c,hc1,hc2,hc3⟩:∃c,c=ah*bl+bh*al/\yA.sh F (u64.wrap ((BitVec.ofInt IntKind.u64.bits ah ||| BitVec.ofInt IntKind.u64.bits bh).toNat:Int)) (if ah≠0 then bl else al) =
   some ((c/18446744073709551616,c%18446744073709551616,()),())/\0<=c:=by
  rcases h0 with rfl | rfl
  ·refine ⟨bh*al,by simp,?_,Int.mul_nonneg h3.1 h2.1⟩
   rw[zero_or h3.1 (by omega),if_neg (by simp),Yc F h3.1 (by omega) h2.1 h2.2]
  ·refine ⟨ah*bl,by simp,?_,Int.mul_nonneg h1.1 h4.1⟩
   rw[Sq h1.1 (by omega)];by_cases h:ah=0
   ·subst h
    rw[if_neg (by simp),Yc F (by omega) (by omega) h2.1 h2.2];simp
   ·rw[if_pos h,Yc F h1.1 (by omega) h4.1 h4.2]
 rw[hc2];simp only[zE];have hd:0<=al*bl:=Int.mul_nonneg h2.1 h4.1;have hd':al*bl<=340282366920938463426481119284349108225:=(ZD h2.1 (by omega:al<=18446744073709551615) h4.1 (by omega:bl<=18446744073709551615)).2;have hm:((val a).natAbs:Int)*((val b).natAbs:Int)=c*18446744073709551616+al*bl:=by
  rw[hA,hB,hc1];rcases h0 with rfl | rfl
  ·simp only[Int.zero_mul,Int.zero_add,Int.mul_add]
   have:al*(bh*18446744073709551616)=bh*al*18446744073709551616:=by rw[Int.mul_left_comm,<-Int.mul_assoc]
   omega
  ·simp only[Int.zero_mul,Int.zero_add,Int.add_zero,Int.add_mul]
   have:ah*18446744073709551616*bl=ah*bl*18446744073709551616:=by rw[Int.mul_right_comm]
   omega
 have hs:=WM (x:=val a) (y:=val b) rfl rfl;rw[hm,<-Sh ha,<-Sh hb] at hs;generalize al*bl=d at*;generalize hsg:(!(decide (a.1<0)==decide (b.1<0)))=sg at*;rw[qS F (by omega) (by omega) (by omega) (by omega)];simp only[zE];by_cases q1:c/18446744073709551616=0
 ·have e1:(c/18446744073709551616 != 0)=false:=by simp[q1]
  rw[e1];simp only[cond_false];by_cases q2:(d/18446744073709551616+c%18446744073709551616+0)/18446744073709551616=0
  ·have e2:((d/18446744073709551616+c%18446744073709551616+0)/18446744073709551616 != 0)=false:=by rw[q2]; rfl
   rw[e2];simp only[cond_false];rw[VI F (v:=val a*val b) (by omega) (by omega) (by omega) (by omega) (by rw[hs]; cases sg<;>simp only[cond_true,cond_false]<;>omega)];simp only[zE]
  ·have e2:((d/18446744073709551616+c%18446744073709551616+0)/18446744073709551616 != 0)=true:=bne_iff_ne.2 q2
   rw[e2];simp only[cond_true];have hr:inR (val a*val b)=false:=by rw[uL,hs]; cases sg<;>simp only[cond_true,cond_false]<;>omega
   simp only[vm,vu,hr,cond_false]
 ·have e1:(c/18446744073709551616 != 0)=true:=by simp[q1]
  rw[e1];simp only[cond_true];have hr:inR (val a*val b)=false:=by rw[uL,hs]; cases sg<;>simp only[cond_true,cond_false]<;>omega
  simp only[vm,vu,hr,cond_false]
theorem Vm (F:Nat) {a b:Int×Int} (ha:wfW a) (hb:wfW b):yu.sh F a b=some ((vm (val a*val b),vu (val a*val b),()),()):=by
 have ba:=Q3 ha;have bb:=Q3 hb;unfold yu.sh;rw[Uc F ha,Uc F hb];simp only[zE];have key:∀(h0:((val a).natAbs:Int)/18446744073709551616=0\/((val b).natAbs:Int)/18446744073709551616=0),yu.j5 F (fun e w=>some ((w,e,()),())) (fun e w=>some ((w,e,()),()))
   (((val a).natAbs:Int)/18446744073709551616) (((val a).natAbs:Int)%18446744073709551616) (((val b).natAbs:Int)/18446744073709551616) (((val b).natAbs:Int)%18446744073709551616) a b (0,0) =
   (some ((vm (val a*val b),vu (val a*val b),()),()):Option yu.sg.R):=fun h0 =>
  wmul_j F (fun w e=>some ((w,e,()),())) ha hb (0,0) (by omega) (by omega) (by omega) (by omega) (by omega) (by omega) h0
 by_cases q1:((val a).natAbs:Int)/18446744073709551616=0
 ·have e1:(((val a).natAbs:Int)/18446744073709551616 != 0)=false:=by simp[q1]
  rw[e1];simp only[cond_false];exact key (.inl q1)
 ·have e1:(((val a).natAbs:Int)/18446744073709551616 != 0)=true:=by simp[q1]
  rw[e1];simp only[cond_true];by_cases q2:((val b).natAbs:Int)/18446744073709551616=0
  ·have e2:(((val b).natAbs:Int)/18446744073709551616 != 0)=false:=by simp[q2]
   rw[e2];simp only[cond_false];exact key (.inr q2)
  ·have e2:(((val b).natAbs:Int)/18446744073709551616 != 0)=true:=by simp[q2]
   rw[e2];simp only[cond_true];have hs:=WM (x:=val a) (y:=val b) rfl rfl;have hp:(18446744073709551616:Int)*18446744073709551616<=((val a).natAbs:Int)*((val b).natAbs:Int):=Int.mul_le_mul (by omega) (by omega) (by omega) (by omega);have hr:inR (val a*val b)=false:=by
    rw[uL,hs];generalize ((val a).natAbs:Int)*((val b).natAbs:Int)=m at*;cases (!(decide (val a<0)==decide (val b<0)))<;>simp only[cond_true,cond_false]<;>omega
   simp only[vm,vu,hr,cond_false]
def FU:Nat:=4194304
def Tn (l:List (Int×Int)):Int:=(l.map val).sum
theorem shr63 {x:Int} (h1:-9223372036854775808<=x) (h2:x<9223372036854775808):x.fdiv (2^(min (63:Int).toNat IntKind.i64.bits))=if x<0 then -1 else 0:=by
 have e:(2^(min (63:Int).toNat IntKind.i64.bits):Int)=9223372036854775808:=by decide
 rw[e,Int.fdiv_eq_ediv_of_nonneg _ (by omega)];split<;>omega
theorem pair2 {a b c d:Int} (h1:a=c) (h2:b=d):(a,b)=(c,d):=by rw[h1,h2]
theorem sum_rg (F:Nat) {R:Type} (k:Int->Int->Int->Option R) (l:List (Int×Int)) (N:Int) (xs:List (Int×Int)):∀(i lo hi top:Int) (r:Int×Int),(∀x∈xs,wfW x)->0<=lo->lo<18446744073709551616->0<=hi->hi<18446744073709551616->
  -4611686018427387904+xs.length<=top->top<=4611686018427387904-xs.length->
  ∃lo' hi' top',yi.l4.rg F (fun lo hi top _ _ _ _ _=>k lo hi top) l N xs i lo hi top r=k lo' hi' top'/\0<=lo'/\lo'<18446744073709551616/\0<=hi'/\hi'<18446744073709551616 /\
   -4611686018427387904<=top'/\top'<=4611686018427387904/\top'*340282366920938463463374607431768211456+hi'*18446744073709551616+lo'=top*340282366920938463463374607431768211456+hi*18446744073709551616+lo+Tn xs:=by
 induction xs with
 | nil =>
  intro i lo hi top r _ h1 h2 h3 h4 h5 h6;exact ⟨lo,hi,top,by simp only[yi.l4.rg],h1,h2,h3,h4,by simp at h5; omega,by simp at h6; omega,by simp[Tn]⟩
 | cons x xs ih =>
  intro i lo hi top r hw h1 h2 h3 h4 h5 h6;obtain ⟨x1,x2⟩:=x;obtain ⟨g1,g2,g3,g4⟩:=hw (x1,x2) (by simp);simp only at g1 g2 g3 g4;simp only[yi.l4.rg,wT];rw[qS F h1 g3 (by omega) (by omega)];simp only[zE];rw[qS F h3 (by omega) (by omega) (by omega)];simp only[zE];rw[shr63 g1 g2];obtain ⟨s,hs⟩:∃s:Int,s=(if x1<0 then -1 else 0)/\(x1<0/\s=-1\/0<=x1/\s=0):=⟨_,rfl,by split<;>omega⟩;rw[<-hs.1];simp only[List.length_cons] at h5 h6;rw[yR (n:=(hi+x1%18446744073709551616+(lo+x2+0)/18446744073709551616)/18446744073709551616) (by omega) (by omega)];rw[yR (n:=s+_) (by omega) (by omega),yR (n:=top+_) (by omega) (by omega)];obtain ⟨lo',hi',top',e1,e2,e3,e4,e5,e6,e7,e8⟩:=ih (i+1) ((lo+x2+0)%18446744073709551616) ((hi+x1%18446744073709551616+(lo+x2+0)/18446744073709551616)%18446744073709551616)
   (top+(s+(hi+x1%18446744073709551616+(lo+x2+0)/18446744073709551616)/18446744073709551616)) r (fun y hy=>hw y (by simp[hy])) (by omega) (by omega) (by omega) (by omega) (by omega) (by omega)
  refine ⟨lo',hi',top',e1,e2,e3,e4,e5,e6,e7,?_⟩;rw[e8];simp only[Tn,List.map_cons,List.sum_cons,val];omega
theorem wsum_eq (F:Nat) {l:List (Int×Int)} (hw:∀x∈l,wfW x) (hl:l.length<F) (hL:l.length<4611686018427387904):yi.sh F l=some ((vm (Tn l),vu (Tn l),()),()):=by
 unfold yi.sh;rw[show (0:Int)=((0:Nat):Int) from rfl,yi.l4.rg_eq F _ l _ rfl (by omega) l 0 F _ _ _ _ (by simp) hl];obtain ⟨lo,hi,top,e1,e2,e3,e4,e5,e6,e7,e8⟩:=sum_rg F (fun lo hi top=>bif (top != ((i64.wrap hi).fdiv (2^(min (63:Int).toNat IntKind.i64.bits)))) then (some (((0,0),10,()),()):Option yi.sg.R) else some (((i64.wrap hi,lo),0,()),()))
  l (l.length:Int) l 0 0 0 0 (0,0) hw (by omega) (by omega) (by omega) (by omega) (by omega) (by omega)
 refine e1.trans ?_;obtain ⟨k,f1,f2,f3⟩:=Vk hi;rw[shr63 f2 f3];simp only[Int.zero_mul,Int.zero_add] at e8;rw[<-e8];generalize i64.wrap hi=r at*;by_cases hr:r<0
 ·rw[if_pos hr]
  by_cases ht:top=-1
  ·have hb:(top != -1)=false:=by rw[ht]; rfl
   have hin:inR (top*340282366920938463463374607431768211456+hi*18446744073709551616+lo)=true:=by rw[yV]; omega
   simp only[hb,cond_false,vm,vu,hin,cond_true,mk];rw[pair2 (a:=r) (b:=lo) (c:=(top*340282366920938463463374607431768211456+hi*18446744073709551616+lo)/18446744073709551616) (d:=(top*340282366920938463463374607431768211456+hi*18446744073709551616+lo)%18446744073709551616) (by omega) (by omega)]
  ·have hb:(top != -1)=true:=bne_iff_ne.2 ht
   have hin:inR (top*340282366920938463463374607431768211456+hi*18446744073709551616+lo)=false:=by rw[uL]; omega
   simp only[hb,cond_true,vm,vu,hin,cond_false]
 ·rw[if_neg hr]
  by_cases ht:top=0
  ·have hb:(top != 0)=false:=by rw[ht]; rfl
   have hin:inR (top*340282366920938463463374607431768211456+hi*18446744073709551616+lo)=true:=by rw[yV]; omega
   simp only[hb,cond_false,vm,vu,hin,cond_true,mk];rw[pair2 (a:=r) (b:=lo) (c:=(top*340282366920938463463374607431768211456+hi*18446744073709551616+lo)/18446744073709551616) (d:=(top*340282366920938463463374607431768211456+hi*18446744073709551616+lo)%18446744073709551616) (by omega) (by omega)]
  ·have hb:(top != 0)=true:=bne_iff_ne.2 ht
   have hin:inR (top*340282366920938463463374607431768211456+hi*18446744073709551616+lo)=false:=by rw[uL]; omega
   simp only[hb,cond_true,vm,vu,hin,cond_false]
theorem power_0:zN.sh FU 0=some ((mk (10000^(0:Int).toNat),0,()),()):=by kernel_rfl
theorem power_1:zN.sh FU 1=some ((mk (10000^(1:Int).toNat),0,()),()):=by kernel_rfl
theorem power_2:zN.sh FU 2=some ((mk (10000^(2:Int).toNat),0,()),()):=by kernel_rfl
theorem power_3:zN.sh FU 3=some ((mk (10000^(3:Int).toNat),0,()),()):=by kernel_rfl
theorem power_4:zN.sh FU 4=some ((mk (10000^(4:Int).toNat),0,()),()):=by kernel_rfl
theorem power_5:zN.sh FU 5=some ((mk (10000^(5:Int).toNat),0,()),()):=by kernel_rfl
theorem power_6:zN.sh FU 6=some ((mk (10000^(6:Int).toNat),0,()),()):=by kernel_rfl
theorem power_7:zN.sh FU 7=some ((mk (10000^(7:Int).toNat),0,()),()):=by kernel_rfl
theorem power_8:zN.sh FU 8=some ((mk (10000^(8:Int).toNat),0,()),()):=by kernel_rfl
theorem power_9:zN.sh FU 9=some ((mk (10000^(9:Int).toNat),0,()),()):=by kernel_rfl
theorem RZ {k:Int} (h1:0<=k) (h2:k<=9):zN.sh FU k=some ((mk (10000^k.toNat),0,()),()):=by
 have:k=0\/k=1\/k=2\/k=3\/k=4\/k=5\/k=6\/k=7\/k=8\/k=9:=by omega
 rcases this with rfl | rfl | rfl | rfl | rfl | rfl | rfl | rfl | rfl | rfl
 ·exact power_0
 ·exact power_1
 ·exact power_2
 ·exact power_3
 ·exact power_4
 ·exact power_5
 ·exact power_6
 ·exact power_7
 ·exact power_8
 ·exact power_9
def Zu (a b:Int):Int:=a/b+if a%b=0 then 0 else 1
theorem QD (F:Nat) {s:Int} (h1:1<=s) (h2:s<=1000000000000):xn.sh F (mk 1099511627776) (mk s) 1=some ((mk (Zu 1099511627776 s),0,()),()):=by
 have hq1:0<=1099511627776/s:=Int.ediv_nonneg (by omega) (by omega);have hq2:1099511627776/s<=1099511627776:=Int.ediv_le_self _ (by omega);have hr1:0<=1099511627776%s:=Int.emod_nonneg _ (by omega);have hr2:1099511627776%s<s:=Int.emod_lt_of_pos _ (by omega);have ms:mk s=(0,s):=by simp only[mk]; ext<;>simp only<;>omega
 have ma:mk 1099511627776=(0,1099511627776):=by rfl
 have mks:∀{v:Int},0<=v->v<18446744073709551616->mk v=(0,v):=fun h h'=>by simp only[mk]; ext<;>simp only<;>omega
 have hQ:yS.sh F (mk 1099511627776) (mk s)=some ((mk (1099511627776/s),mk (1099511627776%s),0,()),()):=by
  unfold yS.sh;have hb:(((mk s).1==0)&&(((mk s).2==0)&&true))=false:=by
   rw[ms]; simp; omega
  rw[hb];simp only[cond_false];rw[Uc F (wo (by rw[yV]; omega)),Uc F (wo (by rw[yV]; omega))];simp only[zE,wz];have n1:((1099511627776:Int).natAbs:Int)=1099511627776:=rfl;have n2:(s.natAbs:Int)=s:=by omega
  rw[n1,n2];have d1:(1099511627776:Int)/18446744073709551616=0:=by decide
  have d2:(1099511627776:Int)%18446744073709551616=1099511627776:=by decide
  have d3:s/18446744073709551616=0:=by omega
  have d4:s%18446744073709551616=s:=by omega
  rw[d1,d2,d3,d4];have hsne:(s != 0)=true:=bne_iff_ne.2 (by omega);have hs0:(s==0)=false:=by rw[beq_eq_false_iff_ne]; omega
  have hq:z7.sh F 0 1099511627776 0 s=some ((0,1099511627776/s,0,1099511627776%s,()),()):=by
   unfold z7.sh zj.sh;have e0:(0:Int).tmod s=0:=by simp
   have e1:(0:Int).tdiv s=0:=by simp
   have e2:(1099511627776:Int).tdiv s=1099511627776/s:=Int.tdiv_eq_ediv_of_nonneg (by omega);have e3:(1099511627776:Int).tmod s=1099511627776%s:=Int.tmod_eq_emod_of_nonneg (by omega);have e4:decide (s<=0)=false:=by simp; omega
   simp only[beq_self_eq_true,cond_true,hsne,e0,e1,hs0,cond_false,e4,zE,e2,e3];rw[wZ (by omega) (by omega),wZ (n:=1099511627776/s) (by omega) (by omega)]
  rw[hq];simp only[zE];have hng:(!(decide ((mk 1099511627776).1<0)==decide ((mk s).1<0)))=false:=by rw[ma,ms]; rfl
  rw[hng,VI F (v:=1099511627776/s) (by omega) (by omega) (by omega) (by omega) (by simp)];simp only[zE];have i1:inR (1099511627776/s)=true:=by rw[yV]; omega
  have i2:inR (1099511627776%s)=true:=by rw[yV]; omega
  have hz:decide ((mk 1099511627776).1<0)=false:=by rw[ma]; rfl
  simp only[vu,vm,i1,cond_true,bne_self_eq_false,cond_false];rw[hz,VI F (v:=1099511627776%s) (by omega) (by omega) (by omega) (by omega) (by simp)];simp only[zE,vu,vm,i2,cond_true]
 unfold xn.sh;rw[hQ];have c1:decide ((1:Int)<0)=false:=by decide
 have c2:decide ((1:Int)>4)=false:=by decide
 simp only[c1,c2,cond_false,zE,bne_self_eq_false];by_cases hz:1099511627776%s=0
 ·have e:(((mk (1099511627776%s)).1==0)&&(((mk (1099511627776%s)).2==0)&&true))=true:=by rw[hz]; rfl
  rw[e];simp only[cond_true,Zu,hz,if_true,Int.add_zero]
 ·have e:(((mk (1099511627776%s)).1==0)&&(((mk (1099511627776%s)).2==0)&&true))=false:=by
   rw[mks hr1 (by omega)]; simp; exact hz
  rw[e];simp only[cond_false];have ha:xc.sh F (mk (1099511627776/s)) (mk (1099511627776%s)) (mk s) 1=some ((true,()),()):=by
   unfold xc.sh;rw[mks hr1 (by omega),ms];rfl
  rw[ha];simp only[zE,Bool.not_true,cond_false];have hng:(!(decide ((mk 1099511627776).1<0)==decide ((mk s).1<0)))=false:=by rw[ma,ms]; rfl
  rw[hng];simp only[cond_false];rw[uF F (by omega) (by omega)];simp only[zE];rw[Q2 F (wo (by rw[yV]; omega)) (wo (by rw[yV]; omega))];simp only[zE,wz];have i1:inR (1099511627776/s+1)=true:=by rw[yV]; omega
  simp only[vu,vm,i1,cond_true,Zu,hz,if_false]
def XT (c:Int):Bool:=decide (c>=97)&&decide (c<=122)
def digB (c:Int):Bool:=decide (c>=48)&&decide (c<=57)
def TM (c:Int):Bool:=XT c||(digB c||c==95)
theorem YJ (F:Nat) (c:Int):yL.sh F c=some ((XT c,()),()):=by
 unfold yL.sh XT;cases decide (c>=97)<;>rfl
theorem QE (F:Nat) (c:Int):xl.sh F c=some ((digB c,()),()):=by
 unfold xl.sh digB;cases decide (c>=48)<;>rfl
theorem Qh (F:Nat) (c:Int):xd.sh F c=some ((TM c,()),()):=by
 unfold xd.sh TM;rw[YJ,QE];simp only[zE];cases XT c<;>cases digB c<;>rfl
def cI (c:UInt8):Int:=(c.toNat:Int)
theorem bt_at {s:ByteArray} {n:Nat} {c:UInt8} {r:List UInt8} (h:s.data.toList.drop n=c::r):bt s (n:Int)=cI c:=by
 have:s.data.toList[n]?=some c:=by
  have:=congrArg (·[0]?) h
  simpa using this
 simp only[bt,Int.toNat_natCast,List.getD_eq_getElem?_getD,this,Option.getD_some,cI]
theorem wP (s:ByteArray):s.size=s.data.toList.length:=by rw[Array.length_toList]; rfl
theorem run_l2 (F:Nat) {R:Type} (k:Int->Option R) (s:ByteArray) (of:Nat) (p:Int->Bool) (hp:∀c,ya.d15 F of (c,())=some ((p c,()),())) (hs:s.size<4611686018427387904) :
  ∀(xs:List UInt8) (n fu:Nat),s.data.toList.drop n=xs->xs.length<fu->ya.l2 F (fun _ _ n _=>k n) fu s of (n:Int)=k ((n+(xs.takeWhile fun c=>p (cI c)).length:Nat):Int):=by
 intro xs;induction xs with
 | nil =>
  intro n fu h hf;obtain ⟨fu,rfl⟩:∃j,fu=j+1:=⟨fu-1,by simp at hf; omega⟩;have hn:s.size<=n:=by rw[wP]; simpa using h
  have e1:decide ((n:Int)<(s.size:Int))=false:=by simp; exact hn
  simp only[ya.l2,ya.l2.body,e1,cond_false,List.takeWhile_nil,List.length_nil,Nat.add_zero]
 | cons c xs ih =>
  intro n fu h hf;obtain ⟨fu,rfl⟩:∃j,fu=j+1:=⟨fu-1,by simp at hf; omega⟩;have hn:n<s.size:=by rw[wP]; exact wj h
  have e1:decide ((n:Int)<(s.size:Int))=true:=by simp; exact hn
  have e2:idx (n:Int) s.size=true:=xf hn;simp only[ya.l2,ya.l2.body,e1,e2,cond_true,bt_at h,hp,zE];cases hc:p (cI c) with
  | true =>
   simp only[cond_true];rw[yR (by omega) (by omega),<-xh,ih (n+1) fu (xK h) (by simp at hf; omega)];simp only[List.takeWhile_cons,hc,if_true,List.length_cons];congr 2
   omega
  | false =>
   simp only[cond_false,List.takeWhile_cons,hc];simp
theorem RU (F:Nat) {s:ByteArray} {of:Nat} {p:Int->Bool} (hp:∀c,ya.d15 F of (c,())=some ((p c,()),())) (hs:s.size<4611686018427387904) (hF:s.size<F) :
  ya.sh F s of=some ((((s.data.toList.takeWhile fun c=>p (cI c)).length:Int),()),()):=by
 unfold ya.sh;have:=run_l2 F (fun n=>(some ((n,()),()):Option ya.sg.R)) s of p hp hs s.data.toList 0 F (by simp) (by rw[<-wP]; exact hF);simpa using this
theorem T8 (F:Nat) (c:Int):ya.d15 F wR (c,())=some ((XT c,()),()):=by
 unfold ya.d15;rw[show mkT ya.ds15 [(va,xd.sp F),(wR,yL.sp F)] wR (c,())=yL.sh F c from rfl,YJ]
theorem Rv (F:Nat) (c:Int):ya.d15 F va (c,())=some ((TM c,()),()):=by
 unfold ya.d15;rw[show mkT ya.ds15 [(va,xd.sp F),(wR,yL.sp F)] va (c,())=xd.sh F c from rfl,Qh]
theorem vr {α:Type} {p:α->Bool}:∀{l:List α},((l.takeWhile p).length=l.length)↔l.all p=true
 | []=>by simp
 | a::l=>by
  simp only[List.takeWhile_cons,List.all_cons];cases h:p a with
  | true=>simp only[if_true,List.length_cons,Bool.true_and]; rw[<-vr (l:=l)]; omega
  | false=>simp
def wordsL:List UInt8:=[32,112,108,97,110,32,114,111,117,110,100,32,98,121,32,98,108,111,99,107,115,32,109,105,110,32,109,97,120,32,111,118,101,114,32,117,112,116,111,32,103,114,97,100,117,97,116,101,100,32,118,111,108,117,109,101,32,111,102,102,32,105,102,32,102,108,111,111,114,32,99,101,105,108,32,122,101,114,111,32,104,97,108,102,32,101,118,101,110,32]
def RI (l:List UInt8):Bool:=!l.isEmpty&&(l.all (fun c=>XT (cI c))&&Lib.contains wordsL ([32]++l++[32]))
def Yb (l:List UInt8):Bool:=!l.isEmpty&&(decide (l.length<=32)&&(XT (cI (l.headD 0))&&(l.all (fun c=>TM (cI c))&&!RI l)))
theorem UL (s:ByteArray):(!(s.toList==(⟨#[]⟩:ByteArray).toList))=!s.data.toList.isEmpty:=by
 rw[ByteArray.toList_eq,ByteArray.toList_eq];cases s.data.toList<;>rfl
theorem word_eq (F:Nat) {s:ByteArray} (hs:s.size<=1048576) (hF:s.size<F):xC.sh F s=some ((RI s.data.toList,()),()):=by
 unfold xC.sh;rw[UL,RU F (T8 F) (by omega) hF];unfold RI;cases hE:s.data.toList.isEmpty with
 | true=>rfl
 | false =>
  simp only[Bool.not_false,cond_true,zE,Bool.true_and];by_cases ha:s.data.toList.all (fun c=>XT (cI c))=true
  ·have e1:(((s.data.toList.takeWhile fun c=>XT (cI c)).length:Int)==(s.size:Int))=true:=by
    rw[vr.2 ha,<-wP]; simp
   have s1:(⟨#[32]⟩:ByteArray).size=1:=rfl;have s2:((⟨#[32]⟩:ByteArray)++s).size=1+s.size:=by rw[ByteArray.size_append]; rfl
   have e2:Nat.ble ((⟨#[32]⟩:ByteArray).size+s.size) xj=true:=by rw[s1,Nat.ble_eq]; unfold xj; omega
   have e3:Nat.ble (((⟨#[32]⟩:ByteArray)++s).size+(⟨#[32]⟩:ByteArray).size) xj=true:=by rw[s1,s2,Nat.ble_eq]; unfold xj; omega
   rw[e1,e2,e3,ha];simp only[cond_true,Bool.true_and];have hd:((⟨#[32]⟩:ByteArray)++s++(⟨#[32]⟩:ByteArray)).data.toList=[32]++s.data.toList++[32]:=by simp[ByteArray.data_append]
   unfold yF.sh;rw[hd];rfl
  ·have e1:(((s.data.toList.takeWhile fun c=>XT (cI c)).length:Int)==(s.size:Int))=false:=by
    rw[beq_eq_false_iff_ne];intro h;apply ha;rw[<-vr];rw[wP] at h;exact_mod_cast h
   rw[e1];simp only[cond_false];rw[Bool.not_eq_true] at ha;rw[ha];rfl
theorem Ss (F:Nat) {s:ByteArray} (hF:64<F):xv.sh F s=some ((Yb s.data.toList,()),()):=by
 unfold xv.sh Yb;rw[UL];cases hE:s.data.toList.isEmpty with
 | true=>rfl
 | false =>
  simp only[Bool.not_false,cond_true,Bool.true_and];by_cases hl:s.data.toList.length<=32
  ·have e1:decide ((s.size:Int)<=32)=true:=decide_eq_true (by have:=wP s; omega)
   have hpos:0<s.size:=by rw[wP]; cases h:s.data.toList with | nil=>rw[h] at hE; cases hE | cons=>simp
   have e2:idx 0 s.size=true:=xf (i:=0) hpos;have e3:bt s 0=cI (s.data.toList.headD 0):=by
    cases h:s.data.toList with
    | nil=>rw[h] at hE; cases hE
    | cons c r=>exact bt_at (n:=0) (r:=r) (by simpa using h)
   have hsz:s.size<=32:=by rw[wP]; exact hl
   rw[e1,e2,e3,YJ,RU F (Rv F) (by omega) (by omega),word_eq F (by omega) (by omega)];simp only[cond_true,zE,hl,decide_true,Bool.true_and];cases XT (cI (s.data.toList.headD 0)) with
   | false=>rfl
   | true =>
    simp only[cond_true,Bool.true_and];by_cases ha:s.data.toList.all (fun c=>TM (cI c))=true
    ·have e4:(((s.data.toList.takeWhile fun c=>TM (cI c)).length:Int)==(s.size:Int))=true:=by
      rw[vr.2 ha,<-wP]; simp
     rw[e4,ha];rfl
    ·have e4:(((s.data.toList.takeWhile fun c=>TM (cI c)).length:Int)==(s.size:Int))=false:=by
      rw[beq_eq_false_iff_ne];intro h;apply ha;rw[<-vr];rw[wP] at h;exact_mod_cast h
     rw[e4];rw[Bool.not_eq_true] at ha;rw[ha];rfl
  ·have e1:decide ((s.size:Int)<=32)=false:=decide_eq_false (by have:=wP s; omega)
   have e2:decide (s.data.toList.length<=32)=false:=decide_eq_false hl;rw[e1,e2];rfl
theorem XZ {n:Int} {len:Nat} (h1:0<=n) (h2:n<(len:Int)):idx n len=true:=by
 unfold idx; rw[decide_eq_true h1,decide_eq_true h2]; rfl
def qv (a b:ByteArray):Bool:=a.toList==b.toList
theorem d16_eq (F:Nat) (e d:yZ.T):zf.d16 F (wd+1) (e,d,())=some ((qv e.1 d.1,()),()):=by
 unfold zf.d16;rw[show mkT zf.ds16 [(qp,yU.sp F)] (wd+1) (e,d,())=yU.sh F e d from rfl];rfl
theorem Rk (F:Nat) {R:Type} (k:Int->Option R) (k':Option R) (L:List yZ.T) (N:Int) (d:yZ.T):∀(xs:List yZ.T) (i:Nat),
  zf.l2.rg F k (fun _ _ _ _ _=>k') L N xs (i:Int) (wd,d)=match xs.findIdx? (fun e=>qv e.1 d.1) with | some j=>k ((i+j:Nat):Int) | none=>k':=by
 intro xs;induction xs with
 | nil=>intro i; rfl
 | cons x xs ih =>
  intro i;simp only[zf.l2.rg];rw[d16_eq];simp only[zE];cases h:qv x.1 d.1 with
  | true=>simp[List.findIdx?_cons,h]
  | false =>
   simp only[cond_false];rw[<-xh,ih (i+1)];simp only[List.findIdx?_cons,h];cases hj:xs.findIdx? (fun e=>qv e.1 d.1) with
   | none=>simp
   | some j=>simp; congr 1; omega
theorem V5 (F:Nat) {l:List yZ.T} {d:yZ.T} (hl:l.length<F) (hL:l.length<4611686018427387904):zQ.sh F l (wd,d)=some ((l.any (fun e=>qv e.1 d.1),()),()):=by
 unfold zQ.sh zf.sh;have h1:=zf.l2.rg_eq F (fun r42=>(some ((r42,()),()):Option zf.sg.R)) (fun s3 f3 t73 t83 t93=>some (((-1),()),())) l (l.length:Int) rfl (by omega) l 0 F (wd,d) (by simp) hl;have h2:=Rk F (fun r=>(some ((r,()),()):Option zf.sg.R)) (some (((-1),()),())) l (l.length:Int) d l 0;have h3:=h1.trans h2;rw[show ((0:Nat):Int)=0 from rfl] at h3;rw[h3];cases h:l.findIdx? (fun e=>qv e.1 d.1) with
 | none =>
  have:l.any (fun e=>qv e.1 d.1)=false:=by
   rw[List.findIdx?_eq_none_iff] at h;rw[List.any_eq_false];intro x hx;simpa using h x hx
  simp only[zE,this];rfl
 | some j =>
  have:l.any (fun e=>qv e.1 d.1)=true:=by
   rw[List.findIdx?_eq_some_iff_getElem] at h;obtain ⟨h1,h2,_⟩:=h;rw[List.any_eq_true];exact ⟨l[j],List.getElem_mem _,h2⟩
  simp only[zE,this];have:decide (((0+j:Nat):Int)>=0)=true:=decide_eq_true (by omega);rw[this]
abbrev dS (d:yZ.T):Int:=d.2
def dE (pre:List yZ.T):List yZ.T->Int
 | []=>0
 | d::r=>bif !Yb d.1.data.toList then 61 else bif pre.any (fun e=>qv e.1 d.1) then 61 else bif decide (dS d<1) then 50 else bif decide (dS d>1000000000000) then 50 else dE (pre++[d]) r
def qF (name:ByteArray) (dims:List yZ.T) (mode:Int):Int :=
 bif !Yb name.data.toList then 61 else bif decide ((dims.length:Int)<1) then 100 else bif decide ((dims.length:Int)>4) then 100 else bif dE [] dims != 0 then dE [] dims else bif decide (mode<0) then 50 else bif decide (mode>4) then 50 else 0
theorem tI {n i:Nat} (h:i<=n):zB n none (some (i:Int))=(true,0,i):=by
 unfold zB;have e1:decide ((0:Int)<=((i:Nat):Int))=true:=decide_eq_true (by omega);have e2:decide (((i:Nat):Int)<=(n:Int))=true:=decide_eq_true (by omega);simp only[Option.getD_none,Option.getD_some,e1,e2,Int.toNat_natCast];rfl
theorem tH {n i:Nat} (h:i<=n):zB n (some (i:Int)) none=(true,i,n):=by
 unfold zB;have e1:decide ((0:Int)<=((i:Nat):Int))=true:=decide_eq_true (by omega);have e2:decide (((i:Nat):Int)<=(n:Int))=true:=decide_eq_true (by omega);have e3:decide ((n:Int)<=(n:Int))=true:=decide_eq_true (by omega);simp only[Option.getD_none,Option.getD_some,e1,e2,e3,Int.toNat_natCast];rfl
theorem head_rg (F:Nat) (hF:64<F) {R:Type} (k:Int->Option R) (k2:zI.T->Option R) (L:List yZ.T) (N:Int) (p:zI.T) (hp:p.2.1=L) (hL:L.length<=32):∀(xs:List yZ.T) (i:Nat),L.drop i=xs->
  zS.l6.rg F k k (fun _ _ _ _ p=>k2 p) L N xs (i:Int) p=bif dE (L.take i) xs != 0 then k (dE (L.take i) xs) else k2 p:=by
 intro xs;induction xs with
 | nil=>intro i h; rfl
 | cons d xs ih =>
  intro i h;have hi:=wj h;have hd:L[i]?=some d:=by have:=congrArg (·[0]?) h; simpa using this
  have htake:L.take (i+1)=L.take i++[d]:=by rw[List.take_add_one,hd]; rfl
  simp only[zS.l6.rg];rw[Ss F hF];simp only[zE,dE];rw[<-xh,ih (i+1) (xK h),htake];cases hn:Yb d.1.data.toList with
  | false=>rfl
  | true =>
   simp only[Bool.not_true,cond_false];rw[hp,tI (by omega)];simp only[cond_true,List.drop_zero];rw[V5 F (by simp; omega) (by simp; omega)];simp only[zE];cases hc:(L.take i).any (fun e=>qv e.1 d.1) with
   | true=>rfl
   | false =>
    simp only[cond_false];cases decide (dS d<1) with
    | true=>rfl
    | false =>
     cases decide (dS d>1000000000000) with
     | true=>rfl
     | false=>rfl
theorem head_eq (F:Nat) (hF:64<F) (p:zI.T):zS.sh F p=some ((qF p.1 p.2.1 p.2.2.1,()),()):=by
 unfold zS.sh qF;rw[Ss F hF];simp only[zE];cases hn:Yb p.1.data.toList with
 | false=>rfl
 | true =>
  simp only[Bool.not_true,cond_false];cases h1:decide ((p.2.1.length:Int)<1) with
  | true=>rfl
  | false =>
   cases h2:decide ((p.2.1.length:Int)>4) with
   | true=>rfl
   | false =>
    have h2:=of_decide_eq_false h2;simp only[cond_false];refine Eq.trans (zS.l6.rg_eq F _ _ _ p.2.1 _ rfl (by omega) p.2.1 0 F _ (by simp) (by omega)) ?_;refine (head_rg F hF (fun r=>(some ((r,()),()):Option zS.sg.R)) (fun p=>bif decide (p.2.2.1<0) then some ((50,()),()) else bif decide (p.2.2.1>4) then some ((50,()),()) else some ((0,()),())) p.2.1 (p.2.1.length:Int) p rfl (by omega) p.2.1 0 (by simp)).trans ?_;simp only[List.take_zero];cases (dE [] p.2.1 != 0) with
    | true=>rfl
    | false =>
     cases decide (p.2.2.1<0) with
     | true=>rfl
     | false=>cases decide (p.2.2.1>4)<;>rfl
abbrev nK (n:zo.T):Int:=n.1
abbrev nN (n:zo.T):Int:=n.2.1
abbrev nO (n:zo.T):Int:=n.2.2.1
abbrev nC (n:zo.T):Int:=n.2.2.2.1
abbrev nT (n:zo.T):List zy.T:=n.2.2.2.2.1
abbrev qM (n:zo.T):Int×Int×Bool×Bool:=get yE x6 (nK n).toNat
abbrev aK (n:zo.T):Int:=(qM n).1
def ar (n:zo.T):Nat:=bif decide (aK n>=0) then (aK n).toNat else (nC n).toNat
def ue (n:zo.T):Bool:=decide (1<=nK n)&&decide (nK n<=16)
def vT (n:zo.T):Bool:=bif decide (aK n<0) then decide (nC n>=2)&&decide (nC n<=16) else nC n==0
theorem uy {n:zo.T}:ue n=true↔1<=nK n/\nK n<=16:=by simp[ue]
theorem ZT (F:Nat) {n:zo.T} (h:ue n=true) (hk:vT n=true):yD.sh F n=some (((ar n:Int),()),()):=by
 unfold yD.sh;have hg:=uy.1 h;have e1:idx (nK n) 17=true:=XZ (by omega) (by omega);unfold ar;unfold vT at hk;rw[show idx n.1 17=true from e1];simp only[cond_true];cases ha:decide (aK n>=0) with
 | true =>
  have ha':=of_decide_eq_true ha;simp only[cond_true];have:(((aK n).toNat:Nat):Int)=aK n:=by omega
  rw[this]
 | false =>
  have ha':=of_decide_eq_false ha;simp only[cond_false];rw[decide_eq_true (show aK n<0 by omega)] at hk;simp at hk;have:(((nC n).toNat:Nat):Int)=nC n:=by omega
  rw[this]
abbrev tF (x:zy.T):Int:=x.1
abbrev tR (x:zy.T):Int:=x.2
def TB (l:List zy.T) (i:Nat) (x:zy.T):Bool:=(decide (i=0)||!decide (tF x<=tF (l.getD (i-1) (0,0))))&&(!decide (tF x>1000000000000)&&(!decide (tR x < -1000000000000)&&!decide (tR x>1000000000000)))
def u0 (l:List zy.T):List zy.T->Nat->Bool
 | [],_=>true
 | x::r,i=>TB l i x&&u0 l r (i+1)
def YA (l:List zy.T):Bool:=decide (1<=l.length)&&(decide (l.length<=16)&&(decide (tF (l.getD 0 (0,0))=0)&&u0 l l 0))
theorem S4 (F:Nat) {R:Type} (k:Bool->Option R) (k1:Option R) (l:List zy.T) (N:Int) (hl:l.length<=32):∀(xs:List zy.T) (i:Nat),l.drop i=xs->
  zF.l4.rg F k (fun _ _ _ _ _=>k1) l N xs (i:Int) l=bif u0 l xs i then k1 else k false:=by
 intro xs;induction xs with
 | nil=>intro i h; simp[zF.l4.rg,u0]
 | cons x xs ih =>
  intro i h;have hi:=wj h;have ih:=ih (i+1) (xK h);rw[xh] at ih;simp only[zF.l4.rg,u0,TB];by_cases h0:i=0
  ·subst h0
   have e1:decide (((0:Nat):Int)>0)=false:=rfl;simp only[e1,cond_false,decide_true,Bool.true_or,Bool.true_and];cases decide (tF x>1000000000000)<;>cases decide (tR x < -1000000000000)<;>cases decide (tR x>1000000000000)<;>first | rfl | exact ih
  ·have e1:decide (((i:Nat):Int)>0)=true:=decide_eq_true (by omega)
   have e2:i64.wrap ((i:Int)-1)=((i-1:Nat):Int):=by rw[yR (by omega) (by omega)]; omega
   have e3:idx ((i-1:Nat):Int) l.length=true:=xf (by omega);have e4:get zy l (((i-1:Nat):Int).toNat)=l.getD (i-1) (0,0):=rfl;have e5:decide (i=0)=false:=decide_eq_false h0;simp only[e1,e2,e3,e4,e5,cond_true,Bool.false_or];cases decide (tF x<=tF (l.getD (i-1) (0,0)))<;>cases decide (tF x>1000000000000)<;>cases decide (tR x < -1000000000000)<;>cases decide (tR x>1000000000000)<;>first | rfl | exact ih
theorem S5 (F:Nat) (hF:64<F) (l:List zy.T):zF.sh F l=some ((YA l,()),()):=by
 unfold zF.sh YA;by_cases h1:1<=l.length
 ·have e1:decide ((l.length:Int)<1)=false:=decide_eq_false (by omega)
  by_cases h2:l.length<=16
  ·have e2:decide ((l.length:Int)>16)=false:=decide_eq_false (by omega)
   have e3:idx 0 l.length=true:=xf (i:=0) (by omega);simp only[e1,e2,e3,cond_false,cond_true,h1,h2,decide_true,Bool.true_and];have e4:get zy l 0=l.getD 0 (0,0):=rfl;rw[e4];by_cases h3:tF (l.getD 0 (0,0))=0
   ·have e5:(tF (l.getD 0 (0,0)) != 0)=false:=by rw[h3]; rfl
    rw[e5,h3];simp only[cond_false,decide_true,Bool.true_and];refine Eq.trans (zF.l4.rg_eq F _ _ l _ rfl (by omega) l 0 F _ (by simp) (by omega)) ?_;refine Eq.trans (S4 F (fun r=>(some ((r,()),()):Option zF.sg.R)) (some ((true,()),())) l (l.length:Int) (by omega) l 0 (by simp)) ?_;cases u0 l l 0<;>rfl
   ·have e5:(tF (l.getD 0 (0,0)) != 0)=true:=bne_iff_ne.2 h3
    have e6:decide (tF (l.getD 0 (0,0))=0)=false:=decide_eq_false h3;rw[e5,e6];rfl
  ·have e2:decide ((l.length:Int)>16)=true:=decide_eq_true (by omega)
   have e3:decide (l.length<=16)=false:=decide_eq_false h2;rw[e1,e2,e3];simp
 ·have e1:decide ((l.length:Int)<1)=true:=decide_eq_true (by omega)
  have e3:decide (1<=l.length)=false:=decide_eq_false h1;rw[e1,e3];rfl
def XO (n:zo.T) (dims:Nat):Int:=bif decide ((qM n).2.1<0) then (dims:Int)-1 else (qM n).2.1
def opB (n:zo.T):Bool:=bif (qM n).2.2.2 then decide (nO n>=1)&&decide (nO n<=6) else nO n==0
def uk (n:zo.T):Bool:=(qM n).2.2.1
def vd (dims:Nat) (n:zo.T) (pile:Nat):Int :=
 bif !ue n then 50 else bif decide (nN n<0) then 50 else bif decide (nN n>XO n dims) then 50 else bif !vT n then 50 else bif !opB n then 50
 else bif !uk n&&decide (((nT n).length:Int)>0) then 50 else bif decide ((pile:Int)<(ar n:Int)) then 50 else bif uk n&&!YA (nT n) then 51 else 0
theorem R8 (F:Nat) (hF:64<F) {R:Type} (k:Int->Option R) {n:zo.T} (hg:ue n=true) (pile:Nat) (most:Int) (kids op:Bool) (hk:kids=true->vT n=true) (a:yE.T) :
  zP.j13 F k k k (pile:Int) most kids op n a=k (bif decide (nN n<0) then 50 else bif decide (nN n>most) then 50 else bif !kids then 50 else bif !op then 50
 else bif !a.2.2.1&&decide (((nT n).length:Int)>0) then 50 else bif decide ((pile:Int)<(ar n:Int)) then 50 else bif a.2.2.1&&!YA (nT n) then 51 else 0):=by
 unfold zP.j13;cases h1:decide (nN n<0) with
 | true=>rfl
 | false =>
  cases h2:decide (nN n>most) with
  | true=>rfl
  | false =>
   cases kids with
   | false=>rfl
   | true =>
    cases op with
    | false=>rfl
    | true =>
     simp only[Bool.not_true,cond_false];rw[ZT F hg (hk rfl)];simp only[zE];rw[S5 F hF];simp only[zE];cases h3:a.2.2.1 with
     | false =>
      simp only[Bool.not_false,cond_true,Bool.true_and,cond_false,Bool.false_and];cases decide (((nT n).length:Int)>0) with
      | true=>rfl
      | false=>cases decide ((pile:Int)<(ar n:Int))<;>rfl
     | true =>
      simp only[Bool.not_true,cond_true,Bool.true_and,cond_false,Bool.false_and];cases decide ((pile:Int)<(ar n:Int)) with
      | true=>rfl
      | false=>cases YA (nT n)<;>rfl
theorem node_eq (F:Nat) (hF:64<F) (n:zo.T) {dims:Nat} (hd:dims<4611686018427387904) (pile:Nat):zP.sh F n (dims:Int) (pile:Int)=some ((vd dims n pile,()),()):=by
 unfold zP.sh vd;cases hg:ue n with
 | false =>
  have:decide ((n.1:Int)<1)=true\/decide ((n.1:Int)>16)=true:=by
   rcases Int.lt_or_le (nK n) 1 with h | h
   ·exact .inl (decide_eq_true h)
   ·rcases Int.lt_or_le 16 (nK n) with h' | h'
    ·exact .inr (decide_eq_true h')
    ·rw[uy.2 ⟨h,h'⟩] at hg; cases hg
  rcases this with h | h
  ·rw[h]; rfl
  ·rw[h]; cases decide ((n.1:Int)<1)<;>rfl
 | true =>
  have hg':=uy.1 hg;have e1:decide ((nK n:Int)<1)=false:=decide_eq_false (by omega);have e2:decide ((nK n:Int)>16)=false:=decide_eq_false (by omega);have e3:idx (nK n) 17=true:=XZ (by omega) (by omega);rw[show decide (n.1<1)=false from e1,show decide (n.1>16)=false from e2,show idx n.1 17=true from e3];simp only[cond_false,cond_true,Bool.not_true];have hw:i64.wrap ((dims:Int)-1)=(dims:Int)-1:=yR (by omega) (by omega);rw[hw];have key:∀most:Int,zP.j7 F (fun r=>(some ((r,()),()):Option zP.sg.R)) (fun r=>some ((r,()),())) (fun r=>some ((r,()),())) (pile:Int) most n (qM n) =
   some ((bif decide (nN n<0) then 50 else bif decide (nN n>most) then 50 else bif !vT n then 50 else bif !opB n then 50
    else bif !uk n&&decide (((nT n).length:Int)>0) then 50 else bif decide ((pile:Int)<(ar n:Int)) then 50 else bif uk n&&!YA (nT n) then 51 else 0,()),()):=by
   intro most;have k10:∀kids:Bool,kids=vT n->zP.j10 F (fun r=>(some ((r,()),()):Option zP.sg.R)) (fun r=>some ((r,()),())) (fun r=>some ((r,()),())) (pile:Int) most kids n (qM n) =
    some ((bif decide (nN n<0) then 50 else bif decide (nN n>most) then 50 else bif !vT n then 50 else bif !opB n then 50
     else bif !uk n&&decide (((nT n).length:Int)>0) then 50 else bif decide ((pile:Int)<(ar n:Int)) then 50 else bif uk n&&!YA (nT n) then 51 else 0,()),()):=by
    intro kids hkk;have k13:=fun op:Bool=>R8 F hF (fun r=>(some ((r,()),()):Option zP.sg.R)) hg pile most kids op (fun h=>by rw[<-hkk,h]) (qM n)
    unfold zP.j10;rw[show (fun r=>(some ((r,()),()):Option zP.sg.R))=(fun r=>some ((r,()),())) from rfl] at k13;rw[k13,k13,k13,hkk];unfold opB uk;cases (qM n).2.2.2 with
    | false=>rfl
    | true=>cases decide (nO n>=1)<;>rfl
   unfold zP.j7;cases ha:decide (aK n<0) with
   | true =>
    cases hc:decide (nC n>=2) with
    | true=>exact k10 _ (by unfold vT; rw[ha,hc]; rfl)
    | false=>exact k10 _ (by unfold vT; rw[ha,hc]; rfl)
   | false=>exact k10 _ (by unfold vT; rw[ha]; rfl)
  unfold XO;cases hm:decide ((qM n).2.1<0) with
  | true=>exact key _
  | false=>exact key _
def Xg (dims:Nat):List zo.T->Nat->Nat->Option (Nat×Int)
 | [],_,_=>none
 | n::r,pile,i=>bif vd dims n pile != 0 then some (i,vd dims n pile) else Xg dims r (pile-ar n+1) (i+1)
def WD:List zo.T->Nat->Nat
 | [],pile=>pile
 | n::r,pile=>WD r (pile-ar n+1)
theorem x5 {dims:Nat} {n:zo.T} {pile:Nat} (h:vd dims n pile=0) :
  ue n=true/\0<=nN n/\nN n<=XO n dims/\vT n=true/\opB n=true/\(uk n=false->nT n=[])/\ar n<=pile/\(uk n=true->YA (nT n)=true):=by
 unfold vd at h;cases h1:ue n with
 | false=>rw[h1] at h; exact absurd (show (50:Int)=0 from h) (by decide)
 | true =>
 rw[h1] at h;cases h2:decide (nN n<0) with
 | true=>rw[h2] at h; exact absurd (show (50:Int)=0 from h) (by decide)
 | false =>
 rw[h2] at h;cases h3:decide (nN n>XO n dims) with
 | true=>rw[h3] at h; exact absurd (show (50:Int)=0 from h) (by decide)
 | false =>
 rw[h3] at h;cases h4:vT n with
 | false=>rw[h4] at h; exact absurd (show (50:Int)=0 from h) (by decide)
 | true =>
 rw[h4] at h;cases h5:opB n with
 | false=>rw[h5] at h; exact absurd (show (50:Int)=0 from h) (by decide)
 | true =>
 rw[h5] at h;cases h6:(!uk n&&decide (((nT n).length:Int)>0)) with
 | true=>rw[h6] at h; exact absurd (show (50:Int)=0 from h) (by decide)
 | false =>
 rw[h6] at h;cases h7:decide ((pile:Int)<(ar n:Int)) with
 | true=>rw[h7] at h; exact absurd (show (50:Int)=0 from h) (by decide)
 | false =>
 rw[h7] at h;cases h8:(uk n&&!YA (nT n)) with
 | true=>rw[h8] at h; exact absurd (show (51:Int)=0 from h) (by decide)
 | false =>
 have h2:=of_decide_eq_false h2;have h3:=of_decide_eq_false h3;have h7:=of_decide_eq_false h7;refine ⟨rfl,by omega,by omega,rfl,rfl,fun ht=>?_,by omega,fun ht=>?_⟩
 ·rw[ht] at h6
  simp only[Bool.not_false,Bool.true_and] at h6;have h6:=of_decide_eq_false h6;exact List.eq_nil_of_length_eq_zero (by omega)
 ·rw[ht] at h8
  simp only[Bool.true_and] at h8;cases hr:YA (nT n) with
  | true=>rfl
  | false=>rw[hr] at h8; cases h8
theorem SY {n:zo.T} (hg:ue n=true) (hk:vT n=true):ar n<=16:=by
 unfold ar;unfold vT at hk;cases h:decide (aK n<0) with
 | true =>
  have h':=of_decide_eq_true h;rw[h] at hk;simp at hk;rw[decide_eq_false (show ¬aK n>=0 by omega)];simp only[cond_false];omega
 | false =>
  have h':=of_decide_eq_false h;rw[decide_eq_true (show aK n>=0 by omega)];simp only[cond_true];have hg:=uy.1 hg;have:∀i:Nat,(get yE x6 i).1<=(16:Int):=by
   intro i;rcases Nat.lt_or_ge i 17 with hi | hi
   ·have:∀j:Fin 17,(get yE x6 j.1).1<=(16:Int):=by decide
    exact this ⟨i,hi⟩
   ·have:get yE x6 i=Ty.dflt yE:=by
     unfold get;rw[List.getD_eq_getElem?_getD,List.getElem?_eq_none (by exact hi)];rfl
    rw[this]; decide
  have:aK n<=(16:Int):=this _;omega
theorem QK (F:Nat) (hF:64<F) {R:Type} (k0:Int->Int->Option R) (k1:Int->zI.T->Option R) (L:List zo.T) (N:Int) (p:zI.T) (hp:p.2.1.length<=32):∀(xs:List zo.T) (i pile:Nat),pile+xs.length<4611686018427387904->
  zG.l8.rg F k0 (fun pile _ _ _ _ p=>k1 pile p) L N xs (i:Int) (pile:Int) p=match Xg p.2.1.length xs pile i with | some (j,e)=>k0 (j:Int) e | none=>k1 (WD xs pile:Int) p:=by
 intro xs;induction xs with
 | nil=>intro i pile h; rfl
 | cons n xs ih =>
  intro i pile h;simp only[List.length_cons] at h;simp only[zG.l8.rg];rw[node_eq F hF n (by omega)];simp only[zE,Xg,WD];cases he:(vd p.2.1.length n pile != 0) with
  | true=>rfl
  | false =>
   simp only[cond_false];have he:vd p.2.1.length n pile=0:=by simpa using he
   obtain ⟨h1,h2,h3,h4,h5,h6,h7,h8⟩:=x5 he;have ha:=SY h1 h4;rw[ZT F h1 h4];simp only[zE];rw[yR (n:=1-(ar n:Int)) (by omega) (by omega),yR (by omega) (by omega)];rw[show (pile:Int)+(1-(ar n:Int))=((pile-ar n+1:Nat):Int) by omega];have:=ih (i+1) (pile-ar n+1) (by omega);rw[xh] at this;exact this
def xS (p:zI.T):Int×Int :=
 bif qF p.1 p.2.1 p.2.2.1 != 0 then (-1,qF p.1 p.2.1 p.2.2.1) else bif decide ((p.2.2.2.length:Int)>1024) then (1024,2) else
 match Xg p.2.1.length p.2.2.2 0 0 with
 | some (j,e)=>((j:Int),e)
 | none=>bif ((WD p.2.2.2 0:Int) != 1) then ((p.2.2.2.length:Int),50) else (0,0)
theorem tX {name:ByteArray} {dims:List yZ.T} {mode:Int} (h:qF name dims mode=0):1<=dims.length/\dims.length<=4/\dE [] dims=0/\Yb name.data.toList=true/\0<=mode/\mode<=4:=by
 unfold qF at h;cases h0:Yb name.data.toList with
 | false=>rw[h0] at h; exact absurd (show (61:Int)=0 from h) (by decide)
 | true =>
 rw[h0] at h;cases h1:decide ((dims.length:Int)<1) with
 | true=>rw[h1] at h; exact absurd (show (100:Int)=0 from h) (by decide)
 | false =>
 rw[h1] at h;cases h2:decide ((dims.length:Int)>4) with
 | true=>rw[h2] at h; exact absurd (show (100:Int)=0 from h) (by decide)
 | false =>
 rw[h2] at h;cases h3:(dE [] dims != 0) with
 | true=>rw[h3] at h; simp only[Bool.not_true,cond_false,cond_true] at h; rw[h] at h3; exact absurd h3 (by decide)
 | false =>
 rw[h3] at h;cases h4:decide (mode<0) with
 | true=>rw[h4] at h; exact absurd (show (50:Int)=0 from h) (by decide)
 | false =>
 rw[h4] at h;cases h5:decide (mode>4) with
 | true=>rw[h5] at h; exact absurd (show (50:Int)=0 from h) (by decide)
 | false =>
 have h1:=of_decide_eq_false h1;have h2:=of_decide_eq_false h2;have h4:=of_decide_eq_false h4;have h5:=of_decide_eq_false h5;refine ⟨by omega,by omega,by simpa using h3,rfl,by omega,by omega⟩
theorem Ym (F:Nat) (hF:2048<F) (p:zI.T):zG.sh F p=some (((xS p).1,(xS p).2,()),()):=by
 unfold zG.sh xS;rw[head_eq F (by omega)];simp only[zE];cases h:(qF p.1 p.2.1 p.2.2.1 != 0) with
 | true=>rfl
 | false =>
  have hh:=tX (show qF p.1 p.2.1 p.2.2.1=0 by simpa using h);cases h1:decide ((p.2.2.2.length:Int)>1024) with
  | true=>rfl
  | false =>
   have h1:=of_decide_eq_false h1;simp only[cond_false];refine Eq.trans (zG.l8.rg_eq F _ _ p.2.2.2 _ rfl (by omega) p.2.2.2 0 F _ _ (by simp) (by omega)) ?_;refine (QK F (by omega) (fun r24 r34=>(some ((r24,r34,()),()):Option zG.sg.R)) (fun pile5 p5=>bif (pile5 != 1) then some (((p5.2.2.2.length:Int),50,()),()) else some ((0,0,()),())) p.2.2.2 (p.2.2.2.length:Int) p (by omega) p.2.2.2 0 0 (by omega)).trans ?_;cases Xg p.2.1.length p.2.2.2 0 0 with
   | some x=>rfl
   | none=>cases hc:((WD p.2.2.2 0:Int) != 1)<;>simp only[cond_true,cond_false,hc]
inductive Tree:Type
 | nd:zo.T->List Tree->Tree
mutual
def Tree.fold {α:Type} (f:zo.T->List α->α):Tree->α
 | .nd n ks=>f n (Tree.foldL f ks)
def Tree.foldL {α:Type} (f:zo.T->List α->α):List Tree->List α
 | []=>[]
 | t::r=>Tree.fold f t::Tree.foldL f r
end
theorem Tree.foldL_map {α:Type} (f:zo.T->List α->α):∀l:List Tree,Tree.foldL f l=l.map (Tree.fold f)
 | []=>rfl
 | t::r=>by rw[Tree.foldL,Tree.foldL_map f r]; rfl
theorem Tree.fold_nd {α:Type} (f:zo.T->List α->α) (n:zo.T) (ks:List Tree):Tree.fold f (.nd n ks)=f n (ks.map (Tree.fold f)):=by
 rw[Tree.fold,Tree.foldL_map]
theorem Tree.ind {P:Tree->Prop} (h:∀n ks,(∀k∈ks,P k)->P (.nd n ks)) (t:Tree):P t :=
 Tree.rec (motive_1:=P) (motive_2:=fun l=>∀k∈l,P k) (fun n ks ih=>h n ks ih) (by simp) (fun t r h1 h2 k hk=>by
  rcases List.mem_cons.1 hk with rfl | hk
  ·exact h1
  ·exact h2 k hk) t
def Tree.root:Tree->zo.T | .nd n _=>n
def Tree.kids:Tree->List Tree | .nd _ ks=>ks
def Tree.flat:Tree->List zo.T:=Tree.fold (fun n ks=>ks.flatten++[n])
def yo (l:List Tree):List zo.T:=(l.map Tree.flat).flatten
theorem Xq (n:zo.T) (ks:List Tree):Tree.flat (.nd n ks)=yo ks++[n]:=Tree.fold_nd _ n ks
def Tree.size (t:Tree):Nat:=t.flat.length
def ZV:Tree->Tree×List Tree:=Tree.fold (fun n ks=>(.nd n (ks.map (·.1)),(ks.map (·.2)).flatten++[.nd n (ks.map (·.1))]))
theorem S1 (t:Tree):(ZV t).1=t:=by
 refine Tree.ind (P:=fun t=>(ZV t).1=t) (fun n ks ih=>?_) t;unfold ZV at*;rw[Tree.fold_nd];simp only[List.map_map];congr 1
 exact (List.map_congr_left ih).trans (List.map_id' ks)
def Tree.subs (t:Tree):List Tree:=(ZV t).2
def wS (l:List Tree):List Tree:=(l.map Tree.subs).flatten
theorem qW (n:zo.T) (ks:List Tree):Tree.subs (.nd n ks)=wS ks++[.nd n ks]:=by
 have:(ks.map (fun k=>(ZV k).1))=ks:=(List.map_congr_left (fun k _=>S1 k)).trans (List.map_id' ks);unfold Tree.subs wS;rw[ZV,Tree.fold_nd,<-ZV];simp only[List.map_map];rw[show ((fun x:Tree×List Tree=>x.1) ∘ ZV)=(fun k=>(ZV k).1) from rfl,this];rfl
theorem ZU (t:Tree):t.subs.length=t.flat.length:=by
 refine Tree.ind (P:=fun t=>t.subs.length=t.flat.length) (fun n ks ih=>?_) t;rw[qW,Xq];simp only[List.length_append,List.length_cons,List.length_nil,wS,yo,List.length_flatten,List.map_map];congr 2
 exact List.map_congr_left (fun k hk=>ih k hk)
def wt (st:List Tree) (n:zo.T):Tree:=.nd n (st.drop (st.length-ar n))
def wq (st:List Tree) (n:zo.T):List Tree:=st.take (st.length-ar n)++[wt st n]
def news:List Tree->List zo.T->List Tree
 | _,[]=>[]
 | st,n::r=>wt st n::news (wq st n) r
def qb:List Tree->List zo.T->List Tree
 | st,[]=>st
 | st,n::r=>qb (wq st n) r
def okS (dims:Nat):List Tree->List zo.T->Prop
 | _,[]=>True
 | st,n::r=>vd dims n st.length=0/\okS dims (wq st n) r
theorem WI {st:List Tree} {n:zo.T} (h:ar n<=st.length):(wq st n).length=st.length-ar n+1:=by
 simp[wq]
theorem QJ (dims:Nat):∀(xs:List zo.T) (st:List Tree) (i:Nat),Xg dims xs st.length i=none->okS dims st xs/\(qb st xs).length=WD xs st.length
 | [],st,i,h=>⟨trivial,rfl⟩
 | n::r,st,i,h=>by
  simp only[Xg] at h;cases he:(vd dims n st.length != 0) with
  | true=>rw[he] at h; cases h
  | false =>
   rw[he] at h;have he:vd dims n st.length=0:=by simpa using he
   have hl:=WI (x5 he).2.2.2.2.2.2.1;simp only[cond_false] at h;rw[<-hl] at h;have:=QJ dims r (wq st n) (i+1) h;refine ⟨⟨he,this.1⟩,?_⟩;rw[qb,this.2,hl];rfl
theorem R5 (dims:Nat):∀(xs:List zo.T) (st:List Tree) (i:Nat),okS dims st xs->Xg dims xs st.length i=none/\WD xs st.length=(qb st xs).length
 | [],st,i,h=>⟨rfl,rfl⟩
 | n::r,st,i,h=>by
  have hl:=WI (x5 h.1).2.2.2.2.2.2.1;have:=R5 dims r (wq st n) (i+1) h.2;rw[hl] at this;simp only[Xg,h.1,WD,qb];exact this
theorem uA (a b:List Tree):yo (a++b)=yo a++yo b:=by simp[yo]
theorem uz (t:Tree):yo [t]=t.flat:=by simp[yo]
theorem vi (st:List Tree) (n:zo.T):yo (wq st n)=yo st++[n]:=by
 unfold wq wt;rw[uA,uz,Xq,<-List.append_assoc,<-uA,List.take_append_drop]
theorem W6:∀(xs:List zo.T) (st:List Tree),yo (qb st xs)=yo st++xs
 | [],st=>by simp[qb]
 | n::r,st=>by rw[qb,W6 r,vi]; simp
theorem Yt (a b:List Tree):wS (a++b)=wS a++wS b:=by simp[wS]
theorem WG (t:Tree):wS [t]=t.subs:=by simp[wS]
theorem To (st:List Tree) (n:zo.T):wS (wq st n)=wS st++[wt st n]:=by
 unfold wq;rw[Yt,WG,wt,qW,<-List.append_assoc,<-Yt,List.take_append_drop]
theorem WH:∀(xs:List zo.T) (st:List Tree),wS (qb st xs)=wS st++news st xs
 | [],st=>by simp[qb,news]
 | n::r,st=>by rw[qb,WH r,To,news]; simp
theorem Tp {b st:List Tree} {n:zo.T} (h:ar n<=st.length):wt (b++st) n=wt st n/\wq (b++st) n=b++wq st n:=by
 have e:(b++st).length-ar n=b.length+(st.length-ar n):=by simp; omega
 have e1:wt (b++st) n=wt st n:=by
  unfold wt;rw[e,List.drop_append];simp
 refine ⟨e1,?_⟩;unfold wq;rw[e1,e,List.take_append,List.take_of_length_le (by omega)];simp
theorem TD {dims:Nat} {n:zo.T} {p q:Nat} (h:vd dims n p=0) (hq:p<=q):vd dims n q=0:=by
 have hh:=x5 h;have h7:decide ((p:Int)<(ar n:Int))=false:=decide_eq_false (by have:=hh.2.2.2.2.2.2.1; omega);have h7':decide ((q:Int)<(ar n:Int))=false:=decide_eq_false (by have:=hh.2.2.2.2.2.2.1; omega);unfold vd at*;rw[h7] at h;rw[h7'];exact h
theorem frame (dims:Nat) (b:List Tree):∀(xs:List zo.T) (st:List Tree),okS dims st xs->okS dims (b++st) xs/\news (b++st) xs=news st xs/\qb (b++st) xs=b++qb st xs
 | [],st,h=>⟨trivial,rfl,rfl⟩
 | n::r,st,h=>by
  have hf:=Tp (b:=b) (x5 h.1).2.2.2.2.2.2.1;have:=frame dims b r (wq st n) h.2;simp only[okS,news,qb,hf.1,hf.2];refine ⟨⟨TD h.1 (by simp),this.1⟩,?_,this.2.2⟩;rw[this.2.1]
theorem uX (n:zo.T) (ks:List Tree):Tree.size (.nd n ks)=(yo ks).length+1:=by simp[Tree.size,Xq]
theorem vI (t:Tree):1<=t.size:=by
 cases t with
 | nd n ks=>rw[uX]; omega
theorem xx (t:Tree) (l:List Tree):yo (t::l)=t.flat++yo l:=by simp[yo]
theorem vX:∀st:List Tree,st.length<=(yo st).length
 | []=>by simp
 | t::r=>by
  have:=vX r;have:=vI t;rw[xx];simp only[List.length_append,List.length_cons];unfold Tree.size at this;omega
theorem vc {a:Nat} (h:a<=4194304):Nat.ble a xj=true:=by rw[Nat.ble_eq]; exact Nat.le_trans h (by decide)
theorem ZQ {a b:Nat} (h:b<=a) (ha:a<4611686018427387904):i64.wrap ((a:Int)-(b:Int))=((a-b:Nat):Int):=by
 rw[yR (by omega) (by omega)]; omega
theorem XB {st:List Tree} {n:zo.T}:(wt st n).size+(yo (st.take (st.length-ar n))).length=(yo st).length+1:=by
 unfold wt;rw[uX];have:yo st=yo (st.take (st.length-ar n))++yo (st.drop (st.length-ar n)):=by rw[<-uA,List.take_append_drop]
 have:=congrArg List.length this;simp only[List.length_append] at this;omega
def wh:Nat->List Tree->List Int
 | _,[]=>[]
 | b,t::r=>(b:Int)::wh (b+t.size) r
def vG:Nat->List Tree->List Int
 | _,[]=>[]
 | i,t::r=>((i+1-t.size:Nat):Int)::vG (i+1) r
theorem vf:∀(l:List Tree) (b:Nat),(wh b l).length=l.length
 | [],b=>rfl
 | t::r,b=>by simp[wh,vf r]
theorem X3:∀(l:List Tree) (b:Nat),(vG b l).length=l.length
 | [],b=>rfl
 | t::r,b=>by simp[vG,X3 r]
theorem tL:∀(a c:List Tree) (b:Nat),wh b (a++c)=wh b a++wh (b+(yo a).length) c
 | [],c,b=>by simp[wh,yo]
 | t::r,c,b=>by
  simp only[List.cons_append,wh,tL r c,xx,List.length_append];rw[show b+t.size+(yo r).length=b+(t.flat.length+(yo r).length) by unfold Tree.size; omega]
theorem Uk (a:List Tree) (b m:Nat):(wh b a).take m=wh b (a.take m):=by
 have:wh b a=wh b (a.take m++a.drop m):=by rw[List.take_append_drop]
 rw[this,tL,List.take_append];simp only[vf,List.length_take];rcases Nat.le_total m a.length with h | h
 ·rw[Nat.min_eq_left h,Nat.sub_self,List.take_zero,List.append_nil,List.take_of_length_le (by rw[vf,List.length_take]; omega)]
 ·rw[List.drop_of_length_le h]
  simp only[wh,List.take_nil,List.append_nil];rw[List.take_of_length_le (by rw[vf,List.length_take]; omega)]
theorem Ul (st:List Tree) (n:zo.T):wh 0 (wq st n)=(wh 0 st).take (st.length-ar n)++[(((yo (st.take (st.length-ar n))).length:Nat):Int)]:=by
 unfold wq;rw[tL,Uk];simp only[wh,Nat.zero_add]
theorem Tq {st:List Tree} {m:Nat} (h:m<st.length):(wh 0 st).getD m 0=(((yo (st.take m)).length:Nat):Int):=by
 have e:st=st.take m++st.drop m:=by rw[List.take_append_drop]
 have:wh 0 st=wh 0 (st.take m)++wh (0+(yo (st.take m)).length) (st.drop m):=by rw[<-tL,List.take_append_drop]
 have hl:(wh 0 (st.take m)).length=m:=by rw[vf,List.length_take]; omega
 rw[List.getD_eq_getElem?_getD,this,List.getElem?_append_right (by omega),hl,Nat.sub_self];cases hd:st.drop m with
 | nil =>
  have:=congrArg List.length hd;simp at this;omega
 | cons t r=>simp[wh]
theorem Ro (F:Nat) {R:Type} (dims:Nat) (k:List Int->Option R) (L:List zo.T) (N:Int):∀(xs:List zo.T) (st:List Tree) (list:List Int),okS dims st xs->(yo st).length+xs.length<=2048->list.length<=(yo st).length->
  zw.l3.rg F (fun _ _ _ _ list _=>k list) L N xs ((yo st).length:Int) list (wh 0 st)=k (list++vG (yo st).length (news st xs)):=by
 intro xs;induction xs with
 | nil=>intro st list h h2 h3; simp[zw.l3.rg,news,vG]
 | cons n xs ih =>
  intro st list h h2 h3;obtain ⟨g1,g2,g3,g4,g5,g6,g7,g8⟩:=x5 h.1;have hst:=vX st;have hfs:=congrArg List.length (vi st n);have hts:=XB (st:=st) (n:=n);have htp:=vI (wt st n);simp only[List.length_cons,List.length_append,List.length_nil] at h2 hfs;have IH:=ih (wq st n) (list++[(((yo st).length+1-(wt st n).size:Nat):Int)]) h.2 (by omega) (by simp; omega);have e1:(yo st).length+1-(wt st n).size=(yo (st.take (st.length-ar n))).length:=by omega
  rw[hfs,Ul,<-e1] at IH;simp only[zw.l3.rg];rw[ZT F g1 g4];simp only[zE,vf];rw[ZQ g7 (by omega)];rw[tI (by omega)];simp only[news,vG,Int.toNat_natCast];simp only[Nat.zero_add,List.append_assoc,List.singleton_append] at IH;rw[xh] at IH;cases hk:decide ((ar n:Int)>0) with
  | true =>
   have hk:=of_decide_eq_true hk;have hm:st.length-ar n<st.length:=by omega
   have e2:get (.int .i64) (wh 0 st) (st.length-ar n)=(((yo st).length+1-(wt st n).size:Nat):Int):=by rw[e1]; exact Tq hm
   rw[xf hm,e2];simp only[cond_true];rw[vc (by simp[vf]; omega),vc (by simp; omega)];simp only[cond_true];exact IH
  | false =>
   have hk:=of_decide_eq_false hk;have hk0:ar n=0:=by omega
   have e2:(yo st).length+1-(wt st n).size=(yo st).length:=by
    rw[e1,hk0,Nat.sub_zero,List.take_length]
   simp only[cond_false];rw[vc (by simp; omega),vc (by simp; omega)];simp only[cond_true];rw[hk0,Nat.sub_zero,List.take_of_length_le (by rw[vf]; omega),e2] at IH;rw[e2];exact IH
def isQ (n:zo.T):Bool:=nK n==3||nK n==4
def noQ (t:Tree):Bool:=t.flat.all fun n=>!isQ n
def uH:List zo.T->Int×Int->Int×Int
 | [],s=>s
 | n::r,s=>uH r (s.1+1,bif isQ n then s.1 else s.2)
theorem q9:∀(a b:List zo.T) (s:Int×Int),uH (a++b) s=uH b (uH a s)
 | [],b,s=>rfl
 | n::r,b,s=>q9 r b _
theorem YK:∀(a:List zo.T) (s:Int×Int),(uH a s).1=s.1+a.length
 | [],s=>by simp[uH]
 | n::r,s=>by rw[uH,YK r]; simp; omega
theorem UV:∀(c:List zo.T) (s:Int×Int) (b:Int),b<=s.1->(decide ((uH c s).2<b)=((c.all fun n=>!isQ n)&&decide (s.2<b)))
 | [],s,b,h=>by rw[List.all_nil,Bool.true_and]; rfl
 | n::r,s,b,h=>by
  rw[uH,UV r _ b (by simp; omega)];simp only[List.all_cons];cases hq:isQ n with
  | true =>
   have:decide (s.1<b)=false:=decide_eq_false (by omega);simp[this]
  | false=>simp
theorem UW:∀(a:List zo.T) (s:Int×Int),s.2<s.1->(uH a s).2<(uH a s).1
 | [],s,h=>h
 | n::r,s,h=>by
  rw[uH];refine UW r _ ?_;cases isQ n with
  | true=>simp only[cond_true]; omega
  | false=>simp only[cond_false]; omega
theorem noQ_top (st:List Tree) (n:zo.T):decide ((uH (yo st++[n]) (0,-1)).2<(((yo st).length+1-(wt st n).size:Nat):Int))=noQ (wt st n):=by
 have hts:=XB (st:=st) (n:=n);have e1:(yo st).length+1-(wt st n).size=(yo (st.take (st.length-ar n))).length:=by omega
 have e2:yo st++[n]=yo (st.take (st.length-ar n))++(wt st n).flat:=by
  rw[<-vi]; unfold wq; rw[uA,uz]
 rw[e1,e2,q9];have h1:=YK (yo (st.take (st.length-ar n))) (0,-1);rw[UV _ _ _ (by rw[h1]; simp)];have h2:=UW (yo (st.take (st.length-ar n))) (0,-1) (by decide);rw[h1] at h2;simp only[Int.zero_add] at h2;rw[decide_eq_true h2,Bool.and_true];rfl
theorem Tc (F:Nat) {R:Type} (dims:Nat) (k:List Bool->Option R) (L:List zo.T) (N:Int) (list:List Int):∀(xs:List zo.T) (st:List Tree) (pre:List Int) (out:List Bool),okS dims st xs->(yo st).length+xs.length<=2048->
  list=pre++vG (yo st).length (news st xs)->pre.length=(yo st).length->out.length=(yo st).length->
  zq.l7.rg F (fun _ _ _ _ _ _ out=>k out) L N xs ((yo st).length:Int) list (uH (yo st) (0,-1)).2 (out++List.replicate xs.length false)=k (out++(news st xs).map noQ):=by
 intro xs;induction xs with
 | nil=>intro st pre out h h2 h3 h4 h5; simp[zq.l7.rg,news]
 | cons n xs ih =>
  intro st pre out h h2 h3 h4 h5;have hfs:=congrArg List.length (vi st n);simp only[List.length_cons,List.length_append,List.length_nil] at h2 hfs;simp only[news,vG] at h3;have IH:=ih (wq st n) (pre++[(((yo st).length+1-(wt st n).size:Nat):Int)]) (out++[noQ (wt st n)]) h.2 (by omega) (by rw[h3,hfs]; simp) (by simp; omega) (by simp; omega);have hq:=noQ_top st n;rw[q9] at hq;have hl:=YK (yo st) (0,-1);simp only[Int.zero_add] at hl;rw[hfs,xh,vi,q9] at IH;simp only[uH,hl] at IH hq;have hg:get (.int .i64) list (Int.toNat ((yo st).length:Int))=(((yo st).length+1-(wt st n).size:Nat):Int):=by
   rw[Int.toNat_natCast,get,h3,List.getD_eq_getElem?_getD,List.getElem?_append_right (by omega),h4,Nat.sub_self];rfl
  have hi1:idx ((yo st).length:Int) list.length=true:=xf (by rw[h3]; simp; omega);have hi2:idx ((yo st).length:Int) (out++List.replicate (n::xs).length false).length=true:=xf (by simp; omega);have hset:∀b:Bool,(out++List.replicate (n::xs).length false).set (Int.toNat ((yo st).length:Int)) b=(out++[b])++List.replicate xs.length false:=by
   intro b;rw[Int.toNat_natCast,List.set_append_right _ _ (by omega),h5,Nat.sub_self];simp[List.replicate_succ]
  simp only[zq.l7.rg,hi1,hi2,hset,cond_true,hg];simp only[news,List.map_cons];simp only[List.append_assoc,List.singleton_append] at IH ⊢;cases h3':(nK n==3) with
  | true =>
   have hqq:isQ n=true:=by unfold isQ; rw[h3']; rfl
   rw[hqq] at IH hq;simp only[cond_true] at IH hq;rw[hq];exact IH
  | false =>
   cases h4':(nK n==4) with
   | true =>
    have hqq:isQ n=true:=by unfold isQ; rw[h3',h4']; rfl
    rw[hqq] at IH hq;simp only[cond_true] at IH hq;rw[hq];exact IH
   | false =>
    have hqq:isQ n=false:=by unfold isQ; rw[h3',h4']; rfl
    rw[hqq] at IH hq;simp only[cond_false] at IH hq;rw[hq];exact IH
def VE (m:Int) (l:List Int):Int:=l.foldl (fun m x=>if x>m then x else m) m
def XQ:List Int->Int
 | []=>0
 | a::r=>VE a r
def w9:Tree->Int:=Tree.fold (fun n ks=>XQ ks+bif nK n==15 then 1 else 0)
theorem SM (n:zo.T) (ks:List Tree):w9 (.nd n ks)=XQ (ks.map w9)+bif nK n==15 then 1 else 0:=Tree.fold_nd _ n ks
theorem Sx {b:Int}:∀(l:List Int) (m:Int),m<=b->(∀x∈l,x<=b)->VE m l<=b
 | [],m,h,_=>h
 | x::r,m,h,hl=>by
  show VE (if x>m then x else m) r<=b;refine Sx r _ ?_ (fun y hy=>hl y (by simp[hy]));have:=hl x (by simp);split<;>omega
theorem Sy:∀(l:List Int) (m:Int),m<=VE m l/\∀x∈l,x<=VE m l
 | [],m=>⟨by simp[VE],by simp⟩
 | x::r,m=>by
  have h:=Sy r (if x>m then x else m);have e:VE m (x::r)=VE (if x>m then x else m) r:=rfl;rw[e];have h0:m<=(if x>m then x else m)/\x<=(if x>m then x else m):=by split<;>omega
  refine ⟨by omega,fun y hy=>?_⟩;rcases List.mem_cons.1 hy with rfl | hy
  ·omega
  ·exact h.2 y hy
theorem maxL_le {b:Int} {l:List Int} (hb:0<=b) (h:∀x∈l,x<=b):XQ l<=b:=by
 cases l with
 | nil=>exact hb
 | cons a r=>exact Sx r a (h a (by simp)) (fun x hx=>h x (by simp[hx]))
theorem maxL_ge {l:List Int} (h0:∀x∈l,0<=x):0<=XQ l/\∀x∈l,x<=XQ l:=by
 cases l with
 | nil=>simp[XQ]
 | cons a r =>
  have:=Sy r a;refine ⟨by have:=h0 a (by simp); simp only[XQ]; omega,fun x hx=>?_⟩;rcases List.mem_cons.1 hx with rfl | hx
  ·exact this.1
  ·exact this.2 x hx
theorem U1 {ks:List Tree} {k:Tree} (h:k∈ks):k.size<=(yo ks).length:=by
 obtain ⟨a,b,rfl⟩:=List.append_of_mem h;rw[uA,xx];simp only[List.length_append,Tree.size];omega
theorem VZ (t:Tree):0<=w9 t/\w9 t<=t.size:=by
 refine Tree.ind (P:=fun t=>0<=w9 t/\w9 t<=t.size) (fun n ks ih=>?_) t;rw[SM,uX];have h1:0<=XQ (ks.map w9):=(maxL_ge (by simp only[List.mem_map]; rintro x ⟨k,hk,rfl⟩; exact (ih k hk).1)).1;have h2:XQ (ks.map w9)<=(yo ks).length:=maxL_le (by omega) (by
  simp only[List.mem_map];rintro x ⟨k,hk,rfl⟩
  have:=(ih k hk).2;have:=U1 hk;omega)
 cases nK n==15<;>simp only[cond_true,cond_false]<;>omega
theorem Qd (F:Nat) {R:Type} (k:Int->Option R) (X:List Int):∀(xs:List Int) (i m:Int),zx.l5.rg F (fun _ m _ _=>k m) X xs i m=k (VE m xs)
 | [],i,m=>rfl
 | x::r,i,m=>by
  rw[zx.l5.rg,Qd F k X r];rfl
theorem max_eq (F:Nat) {l:List Int} (h:1<=l.length) (hF:l.length<F) (hL:l.length<4611686018427387904):zx.sh F l=some ((XQ l,()),()):=by
 unfold zx.sh;rw[decide_eq_false (show ¬(l.length:Int)<1 by omega),show idx 0 l.length=true from xf (i:=0) (by omega)];simp only[cond_false,cond_true];cases l with
 | nil=>simp at h
 | cons a r =>
  refine Eq.trans (zx.l5.rg_eq F _ (a::r) (by omega) r 1 F _ (by simp) (by simp at hF; omega)) ?_;exact Qd F (fun m=>(some ((m,()),()):Option zx.sg.R)) (a::r) r _ _
theorem RQ (F:Nat) (hF:4096<F) {R:Type} (dims:Nat) (k:List Int->Option R) (L:List zo.T) (N:Int):∀(xs:List zo.T) (st:List Tree) (i:Int),okS dims st xs->(yo st).length+xs.length<=2048->
  zz.l6.rg F (fun _ _ _ _ pile=>k pile) L N xs i (st.map w9)=k ((qb st xs).map w9):=by
 intro xs;induction xs with
 | nil=>intro st i h h2; rfl
 | cons n xs ih =>
  intro st i h h2;obtain ⟨g1,g2,g3,g4,g5,g6,g7,g8⟩:=x5 h.1;have hst:=vX st;have hfs:=congrArg List.length (vi st n);simp only[List.length_cons,List.length_append,List.length_nil] at h2 hfs;have IH:=ih (wq st n) (i+1) h.2 (by omega);have hbd:=VZ (wt st n);have hts:=XB (st:=st) (n:=n);have hstep:(wq st n).map w9=(st.map w9).take (st.length-ar n)++[w9 (wt st n)]:=by
   unfold wq; simp[List.map_take]
  have hd:w9 (wt st n)=XQ ((st.map w9).drop (st.length-ar n))+bif nK n==15 then 1 else 0:=by
   unfold wt; rw[SM,List.map_drop]
  rw[hstep] at IH;simp only[zz.l6.rg];rw[ZT F g1 g4];simp only[zE];have hlen:(st.map w9).length=st.length:=by simp
  rw[hlen,ZQ g7 (by omega),tI (by omega),tH (by omega)];simp only[cond_true];rw[List.take_of_length_le (by rw[hlen]; omega:(st.map w9).length<=st.length)];cases hk:decide ((ar n:Int)>0) with
  | true =>
   have hk:=of_decide_eq_true hk;simp only[cond_true];rw[max_eq F (by rw[List.length_drop,hlen]; omega) (by rw[List.length_drop,hlen]; omega) (by rw[List.length_drop,hlen]; omega)];simp only[zE];cases h15:(nK n==15) with
   | true =>
    rw[h15] at hd;simp only[cond_true] at hd;simp only[cond_true];rw[yR (by omega) (by omega),<-hd,vc (by simp; omega)];exact IH
   | false =>
    rw[h15] at hd;simp only[cond_false,Int.add_zero] at hd;simp only[cond_false];rw[<-hd,vc (by simp; omega)];exact IH
  | false =>
   have hk:=of_decide_eq_false hk;have hk0:ar n=0:=by omega
   simp only[cond_false];rw[hk0,Nat.sub_zero,List.drop_of_length_le (by rw[hlen]; omega)] at hd;rw[hk0,Nat.sub_zero,List.take_of_length_le (by rw[hlen]; omega)] at IH;cases h15:(nK n==15) with
   | true =>
    rw[h15] at hd;simp only[cond_true];rw[vc (by simp; omega)];simp only[cond_true];rw[show i64.wrap (0+1)=w9 (wt st n) by rw[hd]; rfl];exact IH
   | false =>
    rw[h15] at hd;simp only[cond_false];rw[vc (by simp; omega)];simp only[cond_true];rw[hd] at IH;exact IH
structure Good (p:zI.T) (t:Tree):Prop where
 head:qF p.1 p.2.1 p.2.2.1=0
 len:p.2.2.2.length<=1024
 ok:okS p.2.1.length [] p.2.2.2
 eq:qb [] p.2.2.2=[t]
theorem Good.flat {p:zI.T} {t:Tree} (h:Good p t):t.flat=p.2.2.2:=by
 have:=W6 p.2.2.2 [];rw[h.eq,uz] at this;simpa [yo] using this
theorem Good.subs {p:zI.T} {t:Tree} (h:Good p t):news [] p.2.2.2=t.subs:=by
 have:=WH p.2.2.2 [];rw[h.eq,WG] at this;simpa [wS] using this.symm
theorem QL {p:zI.T} (h:(xS p).2=0):∃t,Good p t:=by
 unfold xS at h;cases h1:(qF p.1 p.2.1 p.2.2.1 != 0) with
 | true =>
  rw[h1] at h;simp only[cond_true] at h;rw[h] at h1;cases h1
 | false =>
  rw[h1] at h;have h1:qF p.1 p.2.1 p.2.2.1=0:=by simpa using h1
  cases h2:decide ((p.2.2.2.length:Int)>1024) with
  | true=>rw[h2] at h; exact absurd (show (2:Int)=0 from h) (by decide)
  | false =>
   rw[h2] at h;have h2:=of_decide_eq_false h2;simp only[cond_false] at h;cases h3:Xg p.2.1.length p.2.2.2 0 0 with
   | some x =>
    rw[h3] at h;have hne:∀(xs:List zo.T) (pile i:Nat),Xg p.2.1.length xs pile i=some x->x.2≠0:=by
     intro xs;induction xs with
     | nil=>intro pile i h; cases h
     | cons n r ih =>
      intro pile i h;simp only[Xg] at h;cases he:(vd p.2.1.length n pile != 0) with
      | true =>
       rw[he] at h;simp only[cond_true,Option.some.injEq] at h;rw[<-h];simpa using he
      | false=>rw[he] at h; exact ih _ _ h
    exact absurd h (hne _ _ _ h3)
   | none =>
    rw[h3] at h;have:=QJ p.2.1.length p.2.2.2 [] 0 h3;cases h4:((WD p.2.2.2 0:Int) != 1) with
    | true=>rw[h4] at h; exact absurd (show (50:Int)=0 from h) (by decide)
    | false =>
     have h4:(WD p.2.2.2 0:Int)=1:=by simpa using h4
     have hl:(qb [] p.2.2.2).length=1:=by rw[this.2]; simp only[List.length_nil]; omega
     obtain ⟨t,ht⟩:=List.length_eq_one_iff.1 hl;exact ⟨t,h1,by omega,this.1,ht⟩
theorem Good.check {p:zI.T} {t:Tree} (h:Good p t):xS p=(0,0):=by
 unfold xS;have:=R5 p.2.1.length p.2.2.2 [] 0 h.ok;rw[h.eq] at this;simp only[List.length_nil,List.length_cons] at this;rw[h.head,this.1,this.2,decide_eq_false (by have:=h.len; omega)];rfl
theorem Vi (F:Nat) (hF:4096<F) {p:zI.T} {t:Tree} (h:Good p t):yQ.sh F p=some ((vG 0 t.subs,0,()),()):=by
 unfold yQ.sh zw.sh;rw[Ym F (by omega),h.check];have hl:=h.len;have e:=Eq.trans (zw.l3.rg_eq F (fun _ _ _ _ list2 _=>zw.j13 F (fun r23=>(some ((r23,()),()):Option zw.sg.R)) list2) p.2.2.2 _ rfl (by omega) p.2.2.2 0 F [] [] (by simp) (by omega))
  (Ro F p.2.1.length (fun list=>some ((list,()),())) p.2.2.2 (p.2.2.2.length:Int) p.2.2.2 [] [] h.ok (by simp[yo]; omega) (by simp))
 rw[h.subs] at e;have e:zw.l3 F (fun _ _ _ _ list2 _=>zw.j13 F (fun r23=>(some ((r23,()),()):Option zw.sg.R)) list2) F p.2.2.2 (p.2.2.2.length:Int) 0 [] []=some ((vG 0 t.subs,()),()):=e;rw[e];rfl
theorem Tl (F:Nat) (hF:4096<F) {p:zI.T} {t:Tree} (h:Good p t):zq.sh F p=some ((t.subs.map noQ,0,()),()):=by
 unfold zq.sh;rw[Vi F hF h];simp only[zE,bne_self_eq_false,cond_false];have hl:=h.len;have hn:t.subs.length=p.2.2.2.length:=by rw[ZU,h.flat]
 have hz:(decide (0<=((vG 0 t.subs).length:Int))&&decide (((vG 0 t.subs).length:Int)<=((vG 0 t.subs).length:Int))&&decide (((vG 0 t.subs).length:Int)<=(xj:Int)))=true:=by
  have:xj=1099511627776:=rfl;rw[X3,this];simp;omega
 rw[hz];simp only[cond_true];have e:=Eq.trans (zq.l7.rg_eq F (fun _ _ _ _ _ _ out2=>zq.j13 F (fun r23 r33=>(some ((r23,r33,()),()):Option zq.sg.R)) out2) p.2.2.2 _ rfl (by omega) p.2.2.2 0 F (vG 0 t.subs) (-1) (ZP .bool p.2.2.2.length) (by simp) (by omega))
  (Tc F p.2.1.length (fun out=>some ((out,0,()),())) p.2.2.2 (p.2.2.2.length:Int) (vG 0 t.subs) p.2.2.2 [] [] [] h.ok (by simp[yo]; omega) (by rw[h.subs]; rfl) rfl rfl)
 rw[h.subs] at e;rw[show ((vG 0 t.subs).length:Int).toNat=p.2.2.2.length by rw[X3,hn]; rfl];exact e
theorem Tk (F:Nat) (hF:4096<F) {p:zI.T} {t:Tree} (h:Good p t):zz.sh F p=some ((w9 t,0,()),()):=by
 unfold zz.sh;rw[Ym F (by omega),h.check];have hl:=h.len;have e:=Eq.trans (zz.l6.rg_eq F (fun _ _ _ _ pile4=>zz.j17 F (fun r25 r35=>(some ((r25,r35,()),()):Option zz.sg.R)) pile4) p.2.2.2 _ rfl (by omega) p.2.2.2 0 F [] (by simp) (by omega))
  (RQ F hF p.2.1.length (fun pile=>zz.j17 F (fun r25 r35=>(some ((r25,r35,()),()):Option zz.sg.R)) pile) p.2.2.2 (p.2.2.2.length:Int) p.2.2.2 [] 0 h.ok (by simp[yo]; omega))
 rw[h.eq] at e;exact e
def Xf (t:Int):Bool:=decide (t>=2)
def Rd:List Int->Int
 | []=>-1
 | a::r=>bif r.all (fun x=>x==a) then a else -1
def RY (a b:Int):Int :=
 bif a==0 then b else bif b==0 then a else bif Xf a&&b==1 then 1 else bif Xf b&&a==1 then 1 else -1
def tyN (n:zo.T) (ks:List Int):Int :=
 bif nK n==1 then 0 else bif nK n==2 then 1 else bif nK n==3 then 2+2*nN n else bif nK n==4 then 3+2*nN n
 else bif nK n==8 then RY (ks.getD 0 0) (ks.getD 1 0)
 else bif nK n==11||nK n==12 then (bif Xf (ks.getD 0 0) then ks.getD 0 0 else -1)
 else bif nK n==13||nK n==14 then (bif Xf (ks.getD 0 0) then 1 else -1)
 else bif nK n==15 then (bif ks.getD 0 0==1 then 1 else -1)
 else bif nK n==16 then (bif Xf (ks.getD 0 0) then Rd (ks.drop 1) else -1)
 else Rd ks
def ty:Tree->Int:=Tree.fold tyN
theorem ty_nd (n:zo.T) (ks:List Tree):ty (.nd n ks)=tyN n (ks.map ty):=Tree.fold_nd _ n ks
def linE (n:zo.T) (fs:List Bool):Bool:=nK n==8&&(!fs.getD 0 false&&!fs.getD 1 false)
def tyE (t:Tree):Int:=bif ty t == -1 then 80 else bif linE t.root (t.kids.map noQ) then 81 else 0
def uM (E:Tree->Int):List Tree->Nat->Option (Nat×Int)
 | [],_=>none
 | t::r,i=>bif E t != 0 then some (i,E t) else uM E r (i+1)
theorem R3 {a:Int}:∀(r:List Int),(a::r).all (fun x=>x==a)=r.all (fun x=>x==a):=by intro r; simp
theorem R1 (F:Nat) {R:Type} (k:Int->Option R) (k1:Int->ym.T->Option R) (L:List Int) (N:Int) (n:ym.T) (fr:Nat) (a:Int) (hfr:fr<n.2.1.length) (ha:get (.int .i64) n.2.1 fr=a):∀(xs:List Int) (i:Int),
  zv.l2.rg F k (fun fr _ _ _ _ n=>k1 fr n) L N xs i (fr:Int) n=bif xs.all (fun x=>x==a) then k1 fr n else k (-1)
 | [],i=>rfl
 | x::r,i=>by
  rw[zv.l2.rg,R1 F k k1 L N n fr a hfr ha r,xf hfr,Int.toNat_natCast,ha];simp only[cond_true,List.all_cons];cases hx:(x==a) with
  | true=>simp only[bne,hx,Bool.not_true,cond_false,Bool.true_and]
  | false=>simp only[bne,hx,Bool.not_false,cond_true,Bool.false_and,cond_false]
theorem R2 (F:Nat) (hF:64<F) (n:zo.T) (ks:List Int) (fx:List Bool) {fr:Nat} (h:fr<ks.length) (hl:ks.length<=32):zv.sh F (n,ks,fx) (fr:Int)=some ((Rd (ks.drop fr),()),()):=by
 unfold zv.sh;simp only[];rw[tH (by omega)];simp only[cond_true];rw[List.take_length];refine Eq.trans (zv.l2.rg_eq F _ _ (ks.drop fr) _ rfl (by simp; omega) (ks.drop fr) 0 F _ _ (by simp) (by simp; omega)) ?_;refine (R1 F (fun r41=>(some ((r41,()),()):Option zv.sg.R)) (fun fr n2=>bif idx fr n2.2.1.length then some ((get (.int .i64) n2.2.1 fr.toNat,()),()) else none) (ks.drop fr) _ (n,ks,fx) fr (get (.int .i64) ks fr) h rfl (ks.drop fr) _).trans ?_;simp only[];rw[xf h,Int.toNat_natCast];have hd:ks.drop fr=get (.int .i64) ks fr::ks.drop (fr+1):=by
  rw[List.drop_eq_getElem_cons h];congr 1
  unfold get;rw[List.getD_eq_getElem?_getD,List.getElem?_eq_getElem h];rfl
 rw[hd,R3];simp only[Rd];cases (ks.drop (fr+1)).all (fun x=>x==get (.int .i64) ks fr)<;>rfl
theorem X0 {n:Nat} (h:1<=n):idx 0 n=true:=xf (i:=0) (by omega)
theorem idx1 {n:Nat} (h:2<=n):idx 1 n=true:=xf (i:=1) (by omega)
theorem qQ (F:Nat) (hF:64<F) (n:zo.T) (ks:List Int) (fx:List Bool) (h:1<=ks.length) (hl:ks.length<=32):yg.sh F (n,ks,fx)=some ((Rd ks,()),()):=by
 unfold yg.sh;rw[show (0:Int)=((0:Nat):Int) from rfl,R2 F hF n ks fx (by omega) hl];rfl
theorem Tw (F:Nat) (n:zo.T) (ks:List Int) (fx:List Bool) (h:2<=ks.length):yk.sh F (n,ks,fx)=some ((RY (ks.getD 0 0) (ks.getD 1 0),()),()):=by
 unfold yk.sh yy.sh RY Xf;simp only[zE];rw[X0 (by omega),idx1 (by omega)];simp only[cond_true];rw[show get (.int .i64) ks 0=ks.getD 0 0 from rfl,show get (.int .i64) ks 1=ks.getD 1 0 from rfl];cases (ks.getD 0 0==0) with
 | true=>rfl
 | false =>
  cases (ks.getD 1 0==0) with
  | true=>rfl
  | false=>cases decide (ks.getD 0 0>=2)<;>cases decide (ks.getD 1 0>=2)<;>cases (ks.getD 0 0==1)<;>cases (ks.getD 1 0==1)<;>rfl
theorem Wj (F:Nat) (n:zo.T) (ks:List Int) (fx:List Bool) (h:1<=ks.length):yb.sh F (n,ks,fx)=some ((bif Xf (ks.getD 0 0) then ks.getD 0 0 else -1,()),()):=by
 unfold yb.sh yy.sh Xf;simp only[zE];rw[X0 (by omega)];simp only[cond_true];rw[show get (.int .i64) ks 0=ks.getD 0 0 from rfl];cases decide (ks.getD 0 0>=2)<;>rfl
theorem WN (F:Nat) (n:zo.T) (ks:List Int) (fx:List Bool) (h:1<=ks.length):yn.sh F (n,ks,fx)=some ((bif Xf (ks.getD 0 0) then 1 else -1,()),()):=by
 unfold yn.sh yy.sh Xf;simp only[zE];rw[X0 (by omega)];simp only[cond_true];rw[show get (.int .i64) ks 0=ks.getD 0 0 from rfl];cases decide (ks.getD 0 0>=2)<;>rfl
theorem off_eq (F:Nat) (n:zo.T) (ks:List Int) (fx:List Bool) (h:1<=ks.length):yG.sh F (n,ks,fx)=some ((bif ks.getD 0 0==1 then 1 else -1,()),()):=by
 unfold yG.sh;rw[X0 (by omega)];simp only[cond_true];rw[show get (.int .i64) ks 0=ks.getD 0 0 from rfl];cases (ks.getD 0 0==1)<;>rfl
theorem test_eq (F:Nat) (hF:64<F) (n:zo.T) (ks:List Int) (fx:List Bool) (h:2<=ks.length) (hl:ks.length<=32):yz.sh F (n,ks,fx)=some ((bif Xf (ks.getD 0 0) then Rd (ks.drop 1) else -1,()),()):=by
 unfold yz.sh yy.sh Xf;simp only[zE];rw[X0 (by omega)];simp only[cond_true];rw[show get (.int .i64) ks 0=ks.getD 0 0 from rfl];have:=R2 F hF n ks fx (fr:=1) (by omega) hl;rw[show (((1:Nat):Int))=1 from rfl] at this;rw[this];cases decide (ks.getD 0 0>=2)<;>rfl
theorem tU {n:zo.T} (h:ue n=true):nK n=1\/nK n=2\/nK n=3\/nK n=4\/nK n=5\/nK n=6\/nK n=7\/nK n=8\/nK n=9\/nK n=10\/nK n=11\/nK n=12\/nK n=13\/nK n=14\/nK n=15\/nK n=16:=by
 have:=uy.1 h;omega
theorem xT {n:zo.T} {k:Int} (h:nK n=k):ar n=bif decide ((get yE x6 k.toNat).1>=0) then (get yE x6 k.toNat).1.toNat else (nC n).toNat:=by
 unfold ar aK qM;rw[h]
theorem Yd {n:zo.T} {k:Int} (h:nK n=k):vT n=bif decide ((get yE x6 k.toNat).1<0) then decide (nC n>=2)&&decide (nC n<=16) else nC n==0:=by
 unfold vT aK qM;rw[h]
theorem tS {n:zo.T} {k:Int} (h:nK n=k) (dims:Nat):XO n dims=bif decide ((get yE x6 k.toNat).2.1<0) then (dims:Int)-1 else (get yE x6 k.toNat).2.1:=by
 unfold XO qM;rw[h]
theorem rule_eq (F:Nat) (hF:64<F) {dims:Nat} (hd:dims<=4) {n:zo.T} {pile:Nat} (h:vd dims n pile=0) :
  ∃r c,y7.sh F (nK n)=some ((r,c,()),())/\(bif decide (c<0) then nC n else c)=(ar n:Int) /\
   ∀(ks:List Int) (fx:List Bool),ks.length=ar n->zh.d63 F r ((n,ks,fx),())=some ((tyN n ks,()),()):=by
 obtain ⟨g1,g2,g3,g4,g5,g6,g7,g8⟩:=x5 h;have ha:=SY g1 g4;rcases tU g1 with h | h | h | h | h | h | h | h | h | h | h | h | h | h | h | h
 ·exact ⟨xO,0,by rw[h]; rfl,by rw[xT h]; rfl,fun ks fx hk=>by unfold tyN; rw[h]; rfl⟩
 ·exact ⟨xU,0,by rw[h]; rfl,by rw[xT h]; rfl,fun ks fx hk=>by unfold tyN; rw[h]; rfl⟩
 ·rw[tS h] at g3
  have g3:nN n<=(dims:Int)-1:=g3;refine ⟨xA,0,by rw[h]; rfl,by rw[xT h]; rfl,fun ks fx hk=>?_⟩;refine Eq.trans (show zh.d63 F xA ((n,ks,fx),())=yh.sh F (n,ks,fx) from rfl) ?_;unfold yh.sh tyN;rw[h,yR (n:=2*nN n) (by omega) (by omega),yR (n:=2+2*nN n) (by omega) (by omega)];rfl
 ·rw[tS h] at g3
  have g3:nN n<=(dims:Int)-1:=g3;refine ⟨xJ,0,by rw[h]; rfl,by rw[xT h]; rfl,fun ks fx hk=>?_⟩;refine Eq.trans (show zh.d63 F xJ ((n,ks,fx),())=yw.sh F (n,ks,fx) from rfl) ?_;unfold yw.sh tyN;rw[h,yR (n:=2*nN n) (by omega) (by omega),yR (n:=3+2*nN n) (by omega) (by omega)];rfl
 ·have e:ar n=1:=by rw[xT h]; rfl
  refine ⟨zH,1,by rw[h]; rfl,by rw[e]; rfl,fun ks fx hk=>?_⟩;refine Eq.trans (show zh.d63 F zH ((n,ks,fx),())=yg.sh F (n,ks,fx) from rfl) ?_;rw[qQ F hF n ks fx (by omega) (by omega)];unfold tyN; rw[h]; rfl
 ·have e:ar n=2:=by rw[xT h]; rfl
  refine ⟨zH,2,by rw[h]; rfl,by rw[e]; rfl,fun ks fx hk=>?_⟩;refine Eq.trans (show zh.d63 F zH ((n,ks,fx),())=yg.sh F (n,ks,fx) from rfl) ?_;rw[qQ F hF n ks fx (by omega) (by omega)];unfold tyN; rw[h]; rfl
 ·have e:ar n=2:=by rw[xT h]; rfl
  refine ⟨zH,2,by rw[h]; rfl,by rw[e]; rfl,fun ks fx hk=>?_⟩;refine Eq.trans (show zh.d63 F zH ((n,ks,fx),())=yg.sh F (n,ks,fx) from rfl) ?_;rw[qQ F hF n ks fx (by omega) (by omega)];unfold tyN; rw[h]; rfl
 ·have e:ar n=2:=by rw[xT h]; rfl
  refine ⟨xG,2,by rw[h]; rfl,by rw[e]; rfl,fun ks fx hk=>?_⟩;refine Eq.trans (show zh.d63 F xG ((n,ks,fx),())=yk.sh F (n,ks,fx) from rfl) ?_;rw[Tw F n ks fx (by omega)];unfold tyN; rw[h]; rfl
 ·rw[Yd h] at g4
  have g4:(decide (nC n>=2)&&decide (nC n<=16))=true:=g4;simp at g4;have e:ar n=(nC n).toNat:=by rw[xT h]; rfl
  refine ⟨zH,-1,by rw[h]; rfl,?_,fun ks fx hk=>?_⟩
  ·rw[e]; rw[decide_eq_true (show (-1:Int)<0 by omega)]; simp only[cond_true]; omega
  refine Eq.trans (show zh.d63 F zH ((n,ks,fx),())=yg.sh F (n,ks,fx) from rfl) ?_;rw[qQ F hF n ks fx (by omega) (by omega)];unfold tyN; rw[h]; rfl
 ·rw[Yd h] at g4
  have g4:(decide (nC n>=2)&&decide (nC n<=16))=true:=g4;simp at g4;have e:ar n=(nC n).toNat:=by rw[xT h]; rfl
  refine ⟨zH,-1,by rw[h]; rfl,?_,fun ks fx hk=>?_⟩
  ·rw[e]; rw[decide_eq_true (show (-1:Int)<0 by omega)]; simp only[cond_true]; omega
  refine Eq.trans (show zh.d63 F zH ((n,ks,fx),())=yg.sh F (n,ks,fx) from rfl) ?_;rw[qQ F hF n ks fx (by omega) (by omega)];unfold tyN; rw[h]; rfl
 ·have e:ar n=1:=by rw[xT h]; rfl
  refine ⟨yN,1,by rw[h]; rfl,by rw[e]; rfl,fun ks fx hk=>?_⟩;refine Eq.trans (show zh.d63 F yN ((n,ks,fx),())=yb.sh F (n,ks,fx) from rfl) ?_;rw[Wj F n ks fx (by omega)];unfold tyN; rw[h]; rfl
 ·have e:ar n=1:=by rw[xT h]; rfl
  refine ⟨yN,1,by rw[h]; rfl,by rw[e]; rfl,fun ks fx hk=>?_⟩;refine Eq.trans (show zh.d63 F yN ((n,ks,fx),())=yb.sh F (n,ks,fx) from rfl) ?_;rw[Wj F n ks fx (by omega)];unfold tyN; rw[h]; rfl
 ·have e:ar n=1:=by rw[xT h]; rfl
  refine ⟨yP,1,by rw[h]; rfl,by rw[e]; rfl,fun ks fx hk=>?_⟩;refine Eq.trans (show zh.d63 F yP ((n,ks,fx),())=yn.sh F (n,ks,fx) from rfl) ?_;rw[WN F n ks fx (by omega)];unfold tyN; rw[h]; rfl
 ·have e:ar n=1:=by rw[xT h]; rfl
  refine ⟨yP,1,by rw[h]; rfl,by rw[e]; rfl,fun ks fx hk=>?_⟩;refine Eq.trans (show zh.d63 F yP ((n,ks,fx),())=yn.sh F (n,ks,fx) from rfl) ?_;rw[WN F n ks fx (by omega)];unfold tyN; rw[h]; rfl
 ·have e:ar n=1:=by rw[xT h]; rfl
  refine ⟨xQ,1,by rw[h]; rfl,by rw[e]; rfl,fun ks fx hk=>?_⟩;refine Eq.trans (show zh.d63 F xQ ((n,ks,fx),())=yG.sh F (n,ks,fx) from rfl) ?_;rw[off_eq F n ks fx (by omega)];unfold tyN; rw[h]; rfl
 ·have e:ar n=3:=by rw[xT h]; rfl
  refine ⟨xN,3,by rw[h]; rfl,by rw[e]; rfl,fun ks fx hk=>?_⟩;refine Eq.trans (show zh.d63 F xN ((n,ks,fx),())=yz.sh F (n,ks,fx) from rfl) ?_;rw[test_eq F hF n ks fx (by omega) (by omega)];unfold tyN; rw[h]; rfl
theorem Xk {α β:Type} {f:α->β} {d:β} {l:List α} {m j:Nat}:(l.map f).getD (m+j) d=((l.drop m).map f).getD j d:=by
 rw[List.map_drop,List.getD_eq_getElem?_getD,List.getD_eq_getElem?_getD,List.getElem?_drop]
theorem RL (F:Nat) (hF:64<F) {R:Type} {dims:Nat} (hd:dims<=4) (kE:List Int->Int->Int->Option R) (kO:List Int->List Int->Option R) (L:List zo.T) (N:Int) (fixed:List Bool):∀(xs:List zo.T) (st:List Tree) (pre:List Bool) (types:List Int),
  okS dims st xs->(yo st).length+xs.length<=2048->fixed=pre++(news st xs).map noQ->pre.length=(yo st).length->types.length=(yo st).length->
  zh.l8.rg F kE kE (fun _ _ _ _ _ types pile _=>kO types pile) L N xs ((yo st).length:Int) fixed types (st.map ty) (st.map noQ) =
   match uM tyE (news st xs) (yo st).length with
   | some (j,e)=>kE [] (j:Int) e
   | none=>kO (types++(news st xs).map ty) ((qb st xs).map ty):=by
 intro xs;induction xs with
 | nil=>intro st pre types h h2 h3 h4 h5; simp[zh.l8.rg,news,uM,qb]
 | cons n xs ih =>
  intro st pre types h h2 h3 h4 h5;obtain ⟨g1,g2,g3,g4,g5,g6,g7,g8⟩:=x5 h.1;have hst:=vX st;have hfs:=congrArg List.length (vi st n);simp only[List.length_cons,List.length_append,List.length_nil] at h2 hfs;simp only[news,List.map_cons] at h3;have IH:=ih (wq st n) (pre++[noQ (wt st n)]) (types++[ty (wt st n)]) h.2 (by omega) (by rw[h3]; simp) (by simp; omega) (by simp; omega);have hst1:(wq st n).map ty=(st.map ty).take (st.length-ar n)++[ty (wt st n)]:=by unfold wq; simp[List.map_take]
  have hst2:(wq st n).map noQ=(st.map noQ).take (st.length-ar n)++[noQ (wt st n)]:=by unfold wq; simp[List.map_take]
  rw[hst1,hst2,hfs] at IH;obtain ⟨r,c,q1,q2,q3⟩:=rule_eq F hF hd h.1;have hl1:(st.map ty).length=st.length:=by simp
  have hl2:(st.map noQ).length=st.length:=by simp
  have hgf:get .bool fixed (Int.toNat ((yo st).length:Int))=noQ (wt st n):=by
   rw[Int.toNat_natCast,get,h3,List.getD_eq_getElem?_getD,List.getElem?_append_right (by omega),h4,Nat.sub_self];rfl
  have hif:idx ((yo st).length:Int) fixed.length=true:=xf (by rw[h3]; simp; omega);have ht:=q3 ((st.map ty).drop (st.length-ar n)) ((st.map noQ).drop (st.length-ar n)) (by simp; omega);have hty:tyN n ((st.map ty).drop (st.length-ar n))=ty (wt st n):=by unfold wt; rw[ty_nd,List.map_drop]
  rw[hty] at ht;have hE:tyE (wt st n)=bif ty (wt st n) == -1 then 80 else bif linE n ((st.map noQ).drop (st.length-ar n)) then 81 else 0:=by
   rw[<-List.map_drop]; rfl
  have hm:st.length-ar n<=st.length:=by omega
  have hb1:=tH hm;have hb2:=tI hm;have ew:=ZQ g7 (by omega);have htk1:(st.map ty).take st.length=st.map ty:=List.take_of_length_le (by omega);have htk2:(st.map noQ).take st.length=st.map noQ:=List.take_of_length_le (by omega);have hbl1:∀y,Nat.ble (types.length+([y]:List Int).length) xj=true:=fun y=>vc (by simp; omega)
  have hbl2:∀y,Nat.ble (st.length-ar n+([y]:List Int).length) xj=true:=fun y=>vc (by simp; omega)
  have hbl3:∀y,Nat.ble (st.length-ar n+([y]:List Bool).length) xj=true:=fun y=>vc (by simp; omega)
  simp only[List.append_assoc,List.singleton_append] at IH;rw[xh] at IH;have h8a:(nK n==8)=true->ar n=2:=fun h=>by rw[xT (by simpa using h)]; rfl
  simp only[zh.l8.rg];rw[q1];simp only[zE];simp only[news,uM,hE];generalize ar n=a at*;cases hc:decide (c<0) with
  | true =>
   rw[hc] at q2;have q2:n.2.2.2.1=(a:Int):=q2;simp only[cond_true,q2,hl1,hl2,ew,hb1,hb2,htk1,htk2];rw[ht];simp only[zE];cases hn:(ty (wt st n) == -1) with
   | true=>rfl
   | false =>
    simp only[cond_false,hbl1,hbl2,hbl3,hif,hgf,cond_true,linE];cases h8:(nK n==8) with
    | true =>
     have h8:=h8a h8;have hi1:idx ((st.length-a:Nat):Int) st.length=true:=xf (by omega);have hi2:idx ((st.length-a+1:Nat):Int) st.length=true:=xf (by omega);have ew2:i64.wrap (((st.length-a:Nat):Int)+1)=((st.length-a+1:Nat):Int):=by rw[yR (by omega) (by omega)]; omega
     have hg0:get .bool (st.map noQ) (st.length-a)=((st.map noQ).drop (st.length-a)).getD 0 false:=by rw[<-List.map_drop]; exact Xk (j:=0)
     have hg1:get .bool (st.map noQ) (st.length-a+1)=((st.map noQ).drop (st.length-a)).getD 1 false:=by rw[<-List.map_drop]; exact Xk (j:=1)
     simp only[hi1,hi2,ew2,cond_true,Int.toNat_natCast,hg0,hg1,Bool.true_and];cases ((st.map noQ).drop (st.length-a)).getD 0 false with
     | true=>exact IH
     | false =>
      cases ((st.map noQ).drop (st.length-a)).getD 1 false with
      | true=>exact IH
      | false=>rfl
    | false=>exact IH
  | false =>
   rw[hc] at q2;have q2:c=(a:Int):=q2;simp only[cond_false,cond_true,q2,hl1,hl2,ew,hb1,hb2,htk1,htk2];rw[ht];simp only[zE];cases hn:(ty (wt st n) == -1) with
   | true=>rfl
   | false =>
    simp only[cond_false,hbl1,hbl2,hbl3,hif,hgf,cond_true,linE];cases h8:(nK n==8) with
    | true =>
     have h8:=h8a h8;have hi1:idx ((st.length-a:Nat):Int) st.length=true:=xf (by omega);have hi2:idx ((st.length-a+1:Nat):Int) st.length=true:=xf (by omega);have ew2:i64.wrap (((st.length-a:Nat):Int)+1)=((st.length-a+1:Nat):Int):=by rw[yR (by omega) (by omega)]; omega
     have hg0:get .bool (st.map noQ) (st.length-a)=((st.map noQ).drop (st.length-a)).getD 0 false:=by rw[<-List.map_drop]; exact Xk (j:=0)
     have hg1:get .bool (st.map noQ) (st.length-a+1)=((st.map noQ).drop (st.length-a)).getD 1 false:=by rw[<-List.map_drop]; exact Xk (j:=1)
     simp only[hi1,hi2,ew2,cond_true,Int.toNat_natCast,hg0,hg1,Bool.true_and];cases ((st.map noQ).drop (st.length-a)).getD 0 false with
     | true=>exact IH
     | false =>
      cases ((st.map noQ).drop (st.length-a)).getD 1 false with
      | true=>exact IH
      | false=>rfl
    | false=>exact IH
def uB (t:Tree):List Int×Int×Int :=
 match uM tyE t.subs 0 with
 | some (j,e)=>([],(j:Int),e)
 | none=>bif ty t != 1 then ([],(t.size:Int)-1,80) else (t.subs.map ty,0,0)
theorem Q6 (F:Nat) (hF:4096<F) {p:zI.T} {t:Tree} (h:Good p t):zh.sh F p=some (((uB t).1,(uB t).2.1,(uB t).2.2,()),()):=by
 unfold zh.sh;rw[Ym F (by omega),h.check,Tl F hF h];simp only[zE,bne_self_eq_false,cond_false];have hl:=h.len;have hn:t.subs.length=p.2.2.2.length:=by rw[ZU,h.flat]
 have hs:t.size=p.2.2.2.length:=by rw[Tree.size,h.flat]
 have hp:=vI t;refine Eq.trans (zh.l8.rg_eq F _ _ _ p.2.2.2 _ rfl (by omega) p.2.2.2 0 F _ [] [] [] (by simp) (by omega)) ?_;refine (RL F (by omega) (tX h.head).2.1 (fun r26 r36 r46=>(some ((r26,r36,r46,()),()):Option zh.sg.R)) (fun types8 pile8=>zh.j23 F (fun r29 r39 r49=>some ((r29,r39,r49,()),())) (fun r210 r310 r410=>some ((r210,r310,r410,()),())) types8 pile8) p.2.2.2 _ (t.subs.map noQ) p.2.2.2 [] [] [] h.ok (by simp[yo]; omega) (by rw[h.subs]; rfl) rfl rfl).trans ?_;rw[h.subs,h.eq];unfold uB;rw[show (yo []).length=0 from rfl];cases uM tyE t.subs 0 with
 | some x=>rfl
 | none =>
  simp only[List.nil_append,List.map_cons,List.map_nil];unfold zh.j23;rw[show idx 0 [ty t].length=true from rfl,show get (.int .i64) [ty t] 0=ty t from rfl,List.length_map,hn,hs,yR (by omega) (by omega)];cases (ty t != 1)<;>rfl
theorem RA (F:Nat) (hF:4096<F) {p:zI.T} (h:(xS p).2≠0):zh.sh F p=some (([],(xS p).1,(xS p).2,()),()):=by
 unfold zh.sh;rw[Ym F (by omega)];simp only[zE];rw[show ((xS p).2 != 0)=true by simpa using h];rfl
theorem Xo (F:Nat) (u:zg.T) (o:Bool) (w:zg.T) (e:Int):zV.sh F (u,o) w e=some ((w,()),((u,o||e != 0),())):=by
 unfold zV.sh;cases o<;>rfl
theorem q8 (F:Nat) (u:zg.T) (o:Bool) {a b:zg.T} (ha:wfW a) (hb:wfW b):zT.sh F (u,o) a b=some ((vm (val a*val b),()),((u,o||vu (val a*val b) != 0),())):=by
 unfold zT.sh;rw[Vm F ha hb];simp only[zE];rw[Xo];rfl
theorem Xm (F:Nat) (u:zg.T) (o:Bool) {a b:zg.T} (ha:wfW a) (hb:wfW b):zY.sh F (u,o) a b=some ((vm (val a+val b),()),((u,o||vu (val a+val b) != 0),())):=by
 unfold zY.sh;rw[Q2 F ha hb];simp only[zE];rw[Xo];rfl
theorem wk {v:Int} (h:inR v=true):vm v=mk v/\(vu v != 0)=false:=by
 unfold vm vu;rw[h];exact ⟨rfl,rfl⟩
theorem Z2 {v:Int} (h:inR v=false):(vu v != 0)=true:=by
 unfold vu;rw[h];rfl
def TP:Int->List zy.T->Prop
 | _,[]=>True
 | lo,x::r=>lo<tF x/\tF x<=1000000000000/\-1000000000000<=tR x/\tR x<=1000000000000/\TP (tF x) r
theorem YZ (L:List zy.T):∀(xs:List zy.T) (i:Nat) (lo:Int),L.drop i=xs->u0 L xs i=true->(i=0->∀x,xs.head?=some x->lo<tF x)->(i≠0->tF (L.getD (i-1) (0,0))=lo)->TP lo xs
 | [],i,lo,h,ho,h0,h1=>trivial
 | x::r,i,lo,h,ho,h0,h1=>by
  simp only[u0,TB,Bool.and_eq_true,Bool.or_eq_true,Bool.not_eq_true',decide_eq_true_eq,decide_eq_false_iff_not] at ho;obtain ⟨⟨a1,a2,a3,a4⟩,a5⟩:=ho;have hx:L.getD i (0,0)=x:=by
   have:=congrArg (·[0]?) h
   rw[List.getD_eq_getElem?_getD];simp at this;rw[this]; rfl
  refine ⟨?_,by omega,by omega,by omega,YZ L r (i+1) (tF x) (xK h) a5 (by omega) (fun _=>by simp only[Nat.add_sub_cancel]; rw[hx])⟩;by_cases hi:i=0
  ·exact h0 hi x rfl
  ·rcases a1 with a1 | a1
   ·exact absurd a1 hi
   ·rw[h1 hi] at a1
    omega
theorem Uv {l:List zy.T} (h:YA l=true):1<=l.length/\l.length<=16/\TP (-1) l:=by
 simp only[YA,Bool.and_eq_true,decide_eq_true_eq] at h;obtain ⟨a1,a2,a3,a4⟩:=h;refine ⟨a1,a2,YZ l l 0 (-1) (by simp) a4 (fun _ x hx=>?_) (fun h=>absurd rfl h)⟩;cases l with
 | nil=>cases hx
 | cons y r =>
  simp only[List.head?_cons,Option.some.injEq] at hx;subst hx;have a3:tF y=0:=a3;omega
def tA (v:Int):Int:=if 0-v>v then 0-v else v
theorem VP {v:Int} (h1:-1000000000000<=v) (h2:v<=1000000000000):0<=tA v/\tA v<=1000000000000:=by unfold tA; split<;>omega
theorem far_eq (F:Nat) {v:Int} (h1:-1000000000000<=v) (h2:v<=1000000000000):xp.sh F v=some ((tA v,()),()):=by
 unfold xp.sh tA;rw[yR (n:=0-v) (by omega) (by omega)]
def qr:List zy.T->Int
 | a::b::r=>tA (tR a)*(tF b-tF a)+qr (b::r)
 | _=>0
def XG (r0:Int) (l:List zy.T):Int:=l.foldl (fun r t=>if tA (tR t)>r then tA (tR t) else r) r0
theorem Uf:∀(l:List zy.T) (lo:Int),-1<=lo->TP lo l->0<=qr l/\qr l<=l.length*1000000000000000000000000
 | [],lo,_,h=>by simp[qr]
 | [a],lo,_,h=>by simp[qr]
 | a::b::r,lo,hlo,h=>by
  obtain ⟨a1,a2,a3,a4,a5⟩:=h;have ih:=Uf (b::r) (tF a) (by omega) a5;obtain ⟨b1,b2,b3,b4,b5⟩:=a5;have hf:=VP (v:=tR a) (by omega) (by omega);have:=ZD hf.1 hf.2 (show 0<=tF b-tF a by omega) (show tF b-tF a<=1000000000000 by omega);have e:(1000000000000:Int)*1000000000000=1000000000000000000000000:=by decide
  rw[e] at this;simp only[qr,List.length_cons] at ih ⊢;push_cast at ih ⊢;omega
theorem UB:∀(l:List zy.T) (r0 lo:Int),0<=r0->r0<=1000000000000->TP lo l->0<=XG r0 l/\XG r0 l<=1000000000000
 | [],r0,lo,h1,h2,h=>⟨h1,h2⟩
 | a::r,r0,lo,h1,h2,h=>by
  obtain ⟨a1,a2,a3,a4,a5⟩:=h;have hf:=VP (v:=tR a) (by omega) (by omega);exact UB r _ (tF a) (show 0<=(if tA (tR a)>r0 then tA (tR a) else r0) by split<;>omega) (show (if tA (tR a)>r0 then tA (tR a) else r0)<=1000000000000 by split<;>omega) a5
theorem Yx (F:Nat) {R:Type} (k:List zy.T->Int->yq.T->zg.T->zg.T->Option R) (L:List zy.T) (N:Int) (u x:zg.T) (r6:zg.T) (hL:L.length<=16):∀(xs:List zy.T) (i:Nat) (rate w lo:Int),L.drop i=xs->-1<=lo->TP lo xs->0<=w->w+xs.length*1000000000000000000000000<=20000000000000000000000000->
  zm.l3.rg F (fun tiers rate _ _ _ _ m x _ ways=>k tiers rate m x ways) L N xs (i:Int) L rate (u,false) x r6 (mk w)=k L (XG rate xs) (u,false) x (mk (w+qr xs))
 | [],i,rate,w,lo,h,hlo,hi,hw,hw2=>by simp only[zm.l3.rg,XG,qr,List.foldl_nil,Int.add_zero]
 | a::r,i,rate,w,lo,h,hlo,hi,hw,hw2=>by
  have ⟨a1,a2,a3,a4,a5⟩:=hi;have h0:=wj h;simp only[List.length_cons] at hw2;push_cast at hw2;have hf:=VP (v:=tR a) (by omega) (by omega);have hlen:=congrArg List.length h;simp only[List.length_drop,List.length_cons] at hlen;simp only[zm.l3.rg];rw[far_eq F (by omega) (by omega),yR (n:=(i:Int)+1) (by omega) (by omega)];simp only[zE];cases r with
  | nil =>
   simp only[List.length_nil] at hlen;rw[decide_eq_false (show ¬((i:Int)+1<(L.length:Int)) by omega)];simp only[cond_false];have:=Yx F k L N u x r6 hL [] (i+1) (if tA (tR a)>rate then tA (tR a) else rate) w (tF a) (xK h) (by omega) trivial hw (by simp; omega);rw[xh] at this;rw[this];rfl
  | cons b r =>
   simp only[List.length_cons] at hlen;rw[decide_eq_true (show ((i:Int)+1<(L.length:Int)) by omega)];obtain ⟨b1,b2,b3,b4,b5⟩:=a5;have hg:get zy L (Int.toNat ((i:Int)+1))=b:=by
    rw[<-xh]; exact wG (xK h)
   have hid:idx ((i:Int)+1) L.length=true:=XZ (by omega) (by omega);have hp:=ZD hf.1 hf.2 (show 0<=tF b-tF a by omega) (show tF b-tF a<=1000000000000 by omega);rw[show (1000000000000:Int)*1000000000000=1000000000000000000000000 by decide] at hp;simp only[cond_true];rw[uF F (v:=tA (tR a)) (by omega) (by omega),hid,hg,yR (n:=tF b-tF a) (by omega) (by omega),uF F (v:=tF b-tF a) (by omega) (by omega)];simp only[zE,cond_true];rw[q8 F u false (wo (by rw[yV]; omega)) (wo (by rw[yV]; omega))];simp only[zE,wz];have hin:inR (tA (tR a)*(tF b-tF a))=true:=by rw[yV]; omega
   rw[(wk hin).1,(wk hin).2];rw[Xm F u _ (wo (by rw[yV]; omega)) (wo hin)];simp only[zE,wz];have hin2:inR (w+tA (tR a)*(tF b-tF a))=true:=by rw[yV]; omega
   rw[(wk hin2).1,(wk hin2).2];simp only[beq_self_eq_true,Bool.and_true,Bool.or_false,cond_true];have:=Yx F k L N u x r6 hL (b::r) (i+1) (if tA (tR a)>rate then tA (tR a) else rate) (w+tA (tR a)*(tF b-tF a)) (tF a) (xK h) (by omega) ⟨b1,b2,b3,b4,b5⟩ (by omega) (by simp only[List.length_cons]; push_cast; simp only[List.length_cons] at hw2; push_cast at hw2; omega);rw[xh] at this;rw[this,Int.add_assoc];rfl
def Zr:List zy.T->Int
 | []=>0
 | [a]=>tF a
 | _::b::r=>Zr (b::r)
theorem WW:∀(l:List zy.T),1<=l.length->tF (l.getD (l.length-1) (0,0))=Zr l
 | [],h=>by simp at h
 | [a],h=>rfl
 | a::b::r,h=>by
  have:=WW (b::r) (by simp);simp only[Zr,<-this];rfl
theorem UX:∀(l:List zy.T) (lo:Int),-1<=lo->TP lo l->0<=Zr l/\Zr l<=1000000000000
 | [],lo,h1,h=>by simp[Zr]
 | [a],lo,h1,h=>by
  obtain ⟨a1,a2,a3,a4,a5⟩:=h;simp only[Zr]; omega
 | a::b::r,lo,h1,h=>by
  obtain ⟨a1,a2,a3,a4,a5⟩:=h;exact UX (b::r) (tF a) (by omega) a5
def tc (u x:Int) (l:List zy.T):Int:=u*(XG 0 l*(x+Zr l)+qr l)
def BND:Int:=1329227995784915872903807060280344576
theorem mul_ge {a b:Int} (ha:1<=a) (hb:0<=b):b<=a*b:=by
 have:=Int.mul_le_mul_of_nonneg_right ha hb;omega
def Tr (F:Nat) (tiers7:List zy.T) (rate7:Int) (m7:yq.T) (x7 ways7:zg.T):Option zm.sg.R :=
 bif idx (i64.wrap ((tiers7.length:Int)-1)) tiers7.length then oB (yt.sh F (get zy tiers7 ((i64.wrap ((tiers7.length:Int)-1)).toNat)).1) fun c_8 =>
  oB (zY.sh F m7 x7 c_8.1.1) fun c_9 =>
  bif (((m7.1.1==c_9.2.1.1.1)&&((m7.1.2==c_9.2.1.1.2)&&true))&&true) then oB (yt.sh F rate7) fun c_10 =>
   oB (zT.sh F c_9.2.1 c_10.1.1 c_9.1.1) fun c_11 =>
   bif (((c_9.2.1.1.1==c_11.2.1.1.1)&&((c_9.2.1.1.2==c_11.2.1.1.2)&&true))&&true) then oB (zY.sh F c_11.2.1 c_11.1.1 ways7) fun c_12 =>
    bif (((c_11.2.1.1.1==c_12.2.1.1.1)&&((c_11.2.1.1.2==c_12.2.1.1.2)&&true))&&true) then oB (zT.sh F c_12.2.1 c_9.2.1.1 c_12.1.1) fun c_13 =>
     bif (((c_12.2.1.1.1==c_13.2.1.1.1)&&((c_12.2.1.1.2==c_13.2.1.1.2)&&true))&&true) then some ((c_13.1.1,()),(c_13.2.1,()))
     else none
    else none
   else none
  else none
 else none
theorem Yf {v:Int} (h:0<=v):(inR v=true/\v<170141183460469231731687303715884105728)\/(inR v=false/\170141183460469231731687303715884105728<=v):=by
 rcases Int.lt_or_le v 170141183460469231731687303715884105728 with h' | h'
 ·exact .inl ⟨by rw[yV]; omega,h'⟩
 ·exact .inr ⟨by rw[uL]; omega,h'⟩
theorem Us (F:Nat) (hF:64<F) {u x:Int} (hu:1<=u) (hu2:u<=1000000000000000000000000) (hx:0<=x) (hx2:x<=BND) {l:List zy.T} (hl:YA l=true) :
  ∃w o,zm.sh F (mk u,false) (mk x) l=some ((w,()),((mk u,o),()))/\wfW w/\0<=tc u x l/\((o=true/\BND<tc u x l)\/(o=false/\w=mk (tc u x l)/\tc u x l<170141183460469231731687303715884105728)):=by
 obtain ⟨l1,l2,l3⟩:=Uv hl;have hBND:BND=1329227995784915872903807060280344576:=rfl;have hlast:=UX l (-1) (by omega) l3;have hrate:=UB l 0 (-1) (by omega) (by omega) l3;have hways:=Uf l (-1) (by omega) l3;have hX:zm.sh F (mk u,false) (mk x) l=Tr F l (XG 0 l) (mk u,false) (mk x) (mk (0+qr l)):=by
  refine Eq.trans (zm.l3.rg_eq F _ l _ rfl (by omega) l 0 F l 0 (mk u,false) (mk x) (0,0) (0,0) (by simp) (by omega)) ?_;exact Yx F (Tr F) l _ (mk u) (mk x) (0,0) l2 l 0 0 0 (-1) (by simp) (by omega) l3 (by omega) (by omega)
 rw[hX];unfold Tr;rw[yR (n:=(l.length:Int)-1) (by omega) (by omega),show ((l.length:Int)-1)=((l.length-1:Nat):Int) by omega,xf (by omega),Int.toNat_natCast,show (get zy l (l.length-1)).1=Zr l from WW l l1];simp only[cond_true,Int.zero_add];unfold tc;generalize Zr l=lf at*;generalize XG 0 l=rt at*;generalize qr l=ws at*;have iu:inR u=true:=by rw[yV]; omega
 have iws:inR ws=true:=by rw[yV]; omega
 have iR:inR (x+lf)=true:=by rw[yV]; omega
 rw[uF F (by omega) (by omega)];simp only[zE];rw[Xm F _ _ (wo (by rw[yV]; omega)) (wo (by rw[yV]; omega))];simp only[zE,wz];rw[uF F (v:=rt) (by omega) (by omega),(wk iR).1,(wk iR).2];simp only[zE,beq_self_eq_true,Bool.and_true,Bool.or_false,cond_true];rw[q8 F _ _ (wo (by rw[yV]; omega)) (wo iR)];simp only[zE,wz,beq_self_eq_true,Bool.and_true,cond_true,Bool.false_or];have hp0:0<=rt*(x+lf):=Int.mul_nonneg hrate.1 (by omega);have hs0:0<=rt*(x+lf)+ws:=by omega
 have hg:=mul_ge hu hs0;generalize rt*(x+lf)=p at*;rw[Xm F _ _ (Xi p) (wo iws)];simp only[zE,beq_self_eq_true,Bool.and_true,cond_true];rw[q8 F _ _ (wo iu) (Xi _)];simp only[zE,beq_self_eq_true,Bool.and_true,cond_true,wz];refine ⟨_,_,rfl,Xi _,by omega,?_⟩;rcases Yf hp0 with ⟨i1,b1⟩ | ⟨i1,b1⟩
 ·rw[(wk i1).1,(wk i1).2,wz]
  rcases Yf hs0 with ⟨i2,b2⟩ | ⟨i2,b2⟩
  ·rw[(wk i2).1,(wk i2).2,wz]
   rcases Yf (v:=u*(p+ws)) (by omega) with ⟨i3,b3⟩ | ⟨i3,b3⟩
   ·rw[(wk i3).1,(wk i3).2]
    exact .inr ⟨rfl,rfl,b3⟩
   ·rw[Z2 i3]
    exact .inl ⟨by simp,by omega⟩
  ·rw[Z2 i2]
   exact .inl ⟨by simp,by omega⟩
 ·rw[Z2 i1]
  exact .inl ⟨by simp,by omega⟩
def Zl (l:List Int):Int:=l.sum
def ub (u:Int) (D:List yZ.T) (n:zo.T) (vs:List Int):Int :=
 bif nK n==1 then nN n else bif nK n==2 then nN n*u else bif nK n==3 then 1099511627776
 else bif nK n==4 then Zu 1099511627776 (dS (D.getD (nN n).toNat (ByteArray.empty,0)))
 else bif nK n==8 then vs.getD 0 0*vs.getD 1 0
 else bif nK n==13||nK n==14 then tc u (vs.getD 0 0) (nT n)
 else bif nK n==15 then vs.getD 0 0
 else bif nK n==11||(nK n==12||nK n==16) then Zl vs+nN n
 else Zl vs
def qH (n:zo.T) (v:Int):Int:=bif nK n==15 then v*10000 else v
def mag (u:Int) (D:List yZ.T):Tree->Int:=Tree.fold (ub u D)
theorem mag_nd (u:Int) (D:List yZ.T) (n:zo.T) (ks:List Tree):mag u D (.nd n ks)=ub u D n (ks.map (mag u D)):=Tree.fold_nd _ n ks
def magE (u:Int) (D:List yZ.T) (t:Tree):Int:=bif decide (qH t.root (mag u D t)>BND) then 90 else 0
theorem Tb:∀(l pre:List yZ.T),dE pre l=0->∀d∈l,1<=dS d/\dS d<=1000000000000
 | [],pre,h,d,hd=>by simp at hd
 | x::r,pre,h,d,hd=>by
  simp only[dE] at h;cases h1:Yb x.1.data.toList with
  | false=>rw[h1] at h; exact absurd (show (61:Int)=0 from h) (by decide)
  | true =>
  rw[h1] at h;cases h2:pre.any (fun e=>qv e.1 x.1) with
  | true=>rw[h2] at h; exact absurd (show (61:Int)=0 from h) (by decide)
  | false =>
  rw[h2] at h;cases h3:decide (dS x<1) with
  | true=>rw[h3] at h; exact absurd (show (50:Int)=0 from h) (by decide)
  | false =>
  rw[h3] at h;cases h4:decide (dS x>1000000000000) with
  | true=>rw[h4] at h; exact absurd (show (50:Int)=0 from h) (by decide)
  | false =>
  rw[h4] at h;have h3:=of_decide_eq_false h3;have h4:=of_decide_eq_false h4;rcases List.mem_cons.1 hd with rfl | hd
  ·exact ⟨by omega,by omega⟩
  ·exact Tb r _ h d hd
theorem Si:∀(l:List Int),Tn (l.map mk)=Zl l
 | []=>rfl
 | x::r=>by
  have:=Si r;simp only[Tn,Zl,List.map_cons,List.sum_cons,wz] at*;rw[this]
theorem Vq {b:Int}:∀(l:List Int),(∀v∈l,0<=v/\v<=b)->0<=Zl l/\Zl l<=l.length*b
 | [],h=>by simp[Zl]
 | x::r,h=>by
  have ih:=Vq r (fun v hv=>h v (by simp[hv]));have hx:=h x (by simp);simp only[Zl,List.sum_cons,List.length_cons] at*;push_cast;rw[Int.add_mul];omega
theorem Yh {b:Int} {l:List Int} (h:∀v∈l,0<=v/\v<=b) {i:Nat} (hi:i<l.length):0<=l.getD i 0/\l.getD i 0<=b:=by
 rw[List.getD_eq_getElem?_getD,List.getElem?_eq_getElem hi];exact h _ (List.getElem_mem _)
theorem Yg {l:List Int} {i:Nat} (hi:i<l.length):get zg (l.map mk) i=mk (l.getD i 0):=by
 unfold get;rw[List.getD_eq_getElem?_getD,List.getD_eq_getElem?_getD,List.getElem?_map,List.getElem?_eq_getElem hi];rfl
theorem QN {s:Int} (h1:1<=s):0<=Zu 1099511627776 s/\Zu 1099511627776 s<=1099511627777:=by
 have hq1:0<=1099511627776/s:=Int.ediv_nonneg (by omega) (by omega);have hq2:1099511627776/s<=1099511627776:=Int.ediv_le_self _ (by omega);unfold Zu;split<;>omega
def NodeR (u:Int) (D:List yZ.T) (n:zo.T) (vs:List Int) (r:Option zu.sg.R):Prop :=
 ∃w o,r=some ((w,()),((mk u,o),()))/\wfW w/\0<=ub u D n vs/\((o=true/\BND<qH n (ub u D n vs))\/(o=false/\w=mk (ub u D n vs)/\qH n (ub u D n vs)<170141183460469231731687303715884105728))
theorem NodeR.of {u:Int} {D:List yZ.T} {n:zo.T} {vs:List Int} {v:Int} (hm:ub u D n vs=v) (hf:(nK n==15)=false) (h0:0<=v) {r:Option zu.sg.R} (o:Bool)
  (hr:r=some ((vm v,()),((mk u,o||vu v != 0),()))) (ho:o=false):NodeR u D n vs r:=by
 subst ho;refine ⟨_,_,hr,Xi _,by rw[hm]; exact h0,?_⟩;have hBND:BND=1329227995784915872903807060280344576:=rfl;unfold qH;rw[hm,hf];simp only[cond_false,Bool.false_or];rcases Yf h0 with ⟨i,b⟩ | ⟨i,b⟩
 ·rw[(wk i).1,(wk i).2]; exact .inr ⟨rfl,rfl,b⟩
 ·rw[Z2 i]; exact .inl ⟨rfl,by omega⟩
theorem qU:BND=1329227995784915872903807060280344576:=rfl
theorem j18_eq (F:Nat) (hF:64<F) {u:Int} {n:zo.T} {vs:List Int} (hv:∀v∈vs,0<=v/\v<=BND) (hl:vs.length<=16) (hN:0<=nN n) (hN2:nN n<=1000000000000) :
  zu.j18 F (fun m r=>(some ((r,()),(m,())):Option zu.sg.R)) (vs.map mk) (mk u,false) n (0,0) =
   some ((mk (bif nK n==11||(nK n==12||nK n==16) then Zl vs+nN n else Zl vs),()),((mk u,false),())):=by
 have hs:=Vq vs hv;have hsb:Zl vs<=21267647932558653966460912964485513216:=by
  have:(vs.length:Int)*BND<=16*BND:=Int.mul_le_mul_of_nonneg_right (by omega) (by rw[qU]; omega);rw[qU] at this hs;omega
 have i1:inR (Zl vs)=true:=by rw[yV]; omega
 have i2:inR (Zl vs+nN n)=true:=by rw[yV]; omega
 unfold zu.j18;rw[wsum_eq F (by
  intro x hx;obtain ⟨v,hv',rfl⟩:=List.mem_map.1 hx;have:=hv v hv';rw[qU] at this;exact wo (by rw[yV]; omega)) (by simp; omega) (by simp; omega)]
 simp only[zE,Si];rw[Xo,(wk i1).1,(wk i1).2];simp only[zE];rw[uF F (v:=nN n) (by omega) (by omega)];simp only[zE,Bool.or_false];rw[Xm F _ _ (wo i1) (wo (by rw[yV]; omega))];simp only[zE,wz];rw[(wk i2).1,(wk i2).2];cases (nK n==11)<;>cases (nK n==12)<;>cases (nK n==16)<;>rfl
theorem Su {n:zo.T} {dims:Nat} (hd:dims<=4) (h:nN n<=XO n dims) (hg:ue n=true):nN n<=1000000000000:=by
 rcases tU hg with h' | h' | h' | h' | h' | h' | h' | h' | h' | h' | h' | h' | h' | h' | h' | h'<;>rw[tS h'] at h
 ·exact h
 ·exact h
 ·have h:nN n<=(dims:Int)-1:=h; omega
 ·have h:nN n<=(dims:Int)-1:=h; omega
 ·have h:nN n<=0:=h; omega
 ·have h:nN n<=0:=h; omega
 ·have h:nN n<=0:=h; omega
 ·have h:nN n<=0:=h; omega
 ·have h:nN n<=0:=h; omega
 ·have h:nN n<=0:=h; omega
 ·exact h
 ·exact h
 ·have h:nN n<=0:=h; omega
 ·have h:nN n<=0:=h; omega
 ·have h:nN n<=10000:=h; omega
 ·exact h
theorem ua (F:Nat) (hF:64<F) {u:Int} (p:zI.T) {n:zo.T} {vs:List Int} {D:List yZ.T} (hv:∀v∈vs,0<=v/\v<=BND) (hl:vs.length<=16) (hN:0<=nN n) (hN2:nN n<=1000000000000) {k:Int} (h:nK n=k)
  (hk:k=5\/k=6\/k=7\/k=9\/k=10\/k=11\/k=12\/k=16):NodeR u D n vs (zu.sh F (mk u,false) p n (vs.map mk)):=by
 have hj:=j18_eq F hF (u:=u) (n:=n) hv hl hN hN2;have hs:=Vq vs hv;have hsb:Zl vs<=21267647932558653966460912964485513216:=by
  have:(vs.length:Int)*BND<=16*BND:=Int.mul_le_mul_of_nonneg_right (by omega) (by rw[qU]; omega);rw[qU] at this hs;omega
 have hm:ub u D n vs=bif nK n==11||(nK n==12||nK n==16) then Zl vs+nN n else Zl vs:=by
  unfold ub;rw[h];rcases hk with rfl | rfl | rfl | rfl | rfl | rfl | rfl | rfl<;>rfl
 have he:zu.sh F (mk u,false) p n (vs.map mk)=zu.j18 F (fun m r=>(some ((r,()),(m,())):Option zu.sg.R)) (vs.map mk) (mk u,false) n (0,0):=by
  unfold zu.sh;have h':n.1=k:=h;rw[h'];rcases hk with rfl | rfl | rfl | rfl | rfl | rfl | rfl | rfl<;>rfl
 have hf:(nK n==15)=false:=by rw[h]; rcases hk with rfl | rfl | rfl | rfl | rfl | rfl | rfl | rfl<;>rfl
 rw[he,hj];have hb:0<=ub u D n vs/\ub u D n vs<170141183460469231731687303715884105728:=by
  rw[hm];cases (nK n==11||(nK n==12||nK n==16))<;>simp only[cond_true,cond_false]<;>omega
 rw[<-hm];refine ⟨_,_,rfl,wo (by rw[yV]; omega),hb.1,.inr ⟨rfl,rfl,?_⟩⟩;unfold qH;rw[hf];exact hb.2
theorem R9 (F:Nat) (hF:64<F) {u:Int} (hu:1<=u) (hu2:u<=1000000000000000000000000) {p:zI.T} (hD:dE [] p.2.1=0) (hd4:p.2.1.length<=4) {n:zo.T} {pile:Nat} (hn:vd p.2.1.length n pile=0)
  {vs:List Int} (hl:vs.length=ar n) (hv:∀v∈vs,0<=v/\v<=BND):NodeR u p.2.1 n vs (zu.sh F (mk u,false) p n (vs.map mk)):=by
 obtain ⟨g1,g2,g3,g4,g5,g6,g7,g8⟩:=x5 hn;have ha:=SY g1 g4;have hN2:=Su hd4 g3 g1;have iu:inR u=true:=by rw[yV]; omega
 have iN:inR (nN n)=true:=by rw[yV]; omega
 rcases tU g1 with h | h | h | h | h | h | h | h | h | h | h | h | h | h | h | h
 ·refine NodeR.of (v:=nN n) (by unfold ub; rw[h]; rfl) (by rw[h]; rfl) g2 false ?_ rfl
  unfold zu.sh;have h':n.1=1:=h;rw[h',uF F (v:=nN n) (by omega) (by omega),(wk iN).1,(wk iN).2];rfl
 ·refine NodeR.of (v:=nN n*u) (by unfold ub; rw[h]; rfl) (by rw[h]; rfl) (Int.mul_nonneg g2 (by omega)) false ?_ rfl
  unfold zu.sh;have h':n.1=2:=h;rw[h',uF F (v:=nN n) (by omega) (by omega)];have e:=q8 F (mk u) false (wo iN) (wo iu);rw[wz,wz] at e;exact (congrArg (fun x=>oB x fun c_3=>(some ((c_3.1.1,()),(c_3.2.1,())):Option zu.sg.R)) e).trans rfl
 ·refine NodeR.of (v:=1099511627776) (by unfold ub; rw[h]; rfl) (by rw[h]; rfl) (by decide) false ?_ rfl
  unfold zu.sh;have h':n.1=3:=h;rw[h',uF F (v:=1099511627776) (by omega) (by omega)];rfl
 ·have hNd:nN n<=(p.2.1.length:Int)-1:=by have:=g3; rw[tS h] at this; exact this
  have hi:(nN n).toNat<p.2.1.length:=by omega
  have hsz:1<=dS (p.2.1.getD (nN n).toNat (ByteArray.empty,0))/\dS (p.2.1.getD (nN n).toNat (ByteArray.empty,0))<=1000000000000:=by
   rw[List.getD_eq_getElem?_getD,List.getElem?_eq_getElem hi];exact Tb p.2.1 [] hD _ (List.getElem_mem _)
  have hc:=QN hsz.1;have ic:inR (Zu 1099511627776 (dS (p.2.1.getD (nN n).toNat (ByteArray.empty,0))))=true:=by rw[yV]; omega
  refine NodeR.of (v:=Zu 1099511627776 (dS (p.2.1.getD (nN n).toNat (ByteArray.empty,0)))) (by unfold ub; rw[h]; rfl) (by rw[h]; rfl) hc.1 false ?_ rfl;unfold zu.sh;have h':n.1=4:=h;have hid:idx (nN n) p.2.1.length=true:=XZ (by omega) (by omega);have hof:=uF F (v:=dS (p.2.1.getD (nN n).toNat (ByteArray.empty,0))) (by omega) (by omega);have e:=QD F hsz.1 hsz.2;have e2:=Xo F (mk u) false (mk (Zu 1099511627776 (dS (p.2.1.getD (nN n).toNat (ByteArray.empty,0))))) 0;rw[h',uF F (v:=1099511627776) (by omega) (by omega),show idx n.2.1 p.2.1.length=true from hid,show yt.sh F (get yZ p.2.1 n.2.1.toNat).2=_ from hof];rw[(wk ic).1,(wk ic).2];show (oB (xn.sh F (mk 1099511627776) (mk _) 1) fun c_7=>oB (zV.sh F (mk u,false) c_7.1.1 c_7.1.2.1) fun c_8=>some ((c_8.1.1,()),(c_8.2.1,())))=_;rw[e];simp only[zE];rw[e2];rfl
 ·exact ua F hF p hv (by omega) g2 hN2 h (by decide)
 ·exact ua F hF p hv (by omega) g2 hN2 h (by decide)
 ·exact ua F hF p hv (by omega) g2 hN2 h (by decide)
 ·have ea:ar n=2:=by rw[xT h]; rfl
  have b0:=Yh hv (i:=0) (by omega);have b1:=Yh hv (i:=1) (by omega);rw[qU] at b0 b1;refine NodeR.of (v:=vs.getD 0 0*vs.getD 1 0) (by unfold ub; rw[h]; rfl) (by rw[h]; rfl) (Int.mul_nonneg b0.1 b1.1) false ?_ rfl;unfold zu.sh;have h':n.1=8:=h;have e:=q8 F (mk u) false (wo (v:=vs.getD 0 0) (by rw[yV]; omega)) (wo (v:=vs.getD 1 0) (by rw[yV]; omega));rw[wz,wz] at e;rw[h',X0 (n:=(vs.map mk).length) (by simp; omega),idx1 (n:=(vs.map mk).length) (by simp; omega),Yg (i:=0) (by omega),Yg (i:=1) (by omega)];exact (congrArg (fun x=>oB x fun c_3=>(some ((c_3.1.1,()),(c_3.2.1,())):Option zu.sg.R)) e).trans rfl
 ·exact ua F hF p hv (by omega) g2 hN2 h (by decide)
 ·exact ua F hF p hv (by omega) g2 hN2 h (by decide)
 ·exact ua F hF p hv (by omega) g2 hN2 h (by decide)
 ·exact ua F hF p hv (by omega) g2 hN2 h (by decide)
 ·have ea:ar n=1:=by rw[xT h]; rfl
  have b0:=Yh hv (i:=0) (by omega);have ht:uk n=true:=by unfold uk qM; rw[h]; rfl
  obtain ⟨w,o,q1,q2,q3,q4⟩:=Us F hF hu hu2 b0.1 b0.2 (g8 ht);have hm:ub u p.2.1 n vs=tc u (vs.getD 0 0) (nT n):=by unfold ub; rw[h]; rfl
  have hf:qH n (ub u p.2.1 n vs)=tc u (vs.getD 0 0) (nT n):=by unfold qH; rw[h,hm]; rfl
  refine ⟨w,o,?_,q2,by rw[hm]; exact q3,by rw[hf,hm]; exact q4⟩;unfold zu.sh;have h':n.1=13:=h;rw[h',X0 (n:=(vs.map mk).length) (by simp; omega),Yg (i:=0) (by omega)];exact (congrArg (fun x=>oB x fun c_3=>(some ((c_3.1.1,()),(c_3.2.1,())):Option zu.sg.R)) q1).trans rfl
 ·have ea:ar n=1:=by rw[xT h]; rfl
  have b0:=Yh hv (i:=0) (by omega);have ht:uk n=true:=by unfold uk qM; rw[h]; rfl
  obtain ⟨w,o,q1,q2,q3,q4⟩:=Us F hF hu hu2 b0.1 b0.2 (g8 ht);have hm:ub u p.2.1 n vs=tc u (vs.getD 0 0) (nT n):=by unfold ub; rw[h]; rfl
  have hf:qH n (ub u p.2.1 n vs)=tc u (vs.getD 0 0) (nT n):=by unfold qH; rw[h,hm]; rfl
  refine ⟨w,o,?_,q2,by rw[hm]; exact q3,by rw[hf,hm]; exact q4⟩;unfold zu.sh;have h':n.1=14:=h;rw[h',X0 (n:=(vs.map mk).length) (by simp; omega),Yg (i:=0) (by omega)];exact (congrArg (fun x=>oB x fun c_3=>(some ((c_3.1.1,()),(c_3.2.1,())):Option zu.sg.R)) q1).trans rfl
 ·have ea:ar n=1:=by rw[xT h]; rfl
  have b0:=Yh hv (i:=0) (by omega);rw[qU] at b0;have hm:ub u p.2.1 n vs=vs.getD 0 0:=by unfold ub; rw[h]; rfl
  have hf:qH n (ub u p.2.1 n vs)=vs.getD 0 0*10000:=by unfold qH; rw[h,hm]; rfl
  have h':n.1=15:=h;have e:=q8 F (mk u) false (wo (v:=vs.getD 0 0) (by rw[yV]; omega)) (wo (v:=10000) (by rw[yV]; omega));rw[wz,wz] at e;refine ⟨mk (vs.getD 0 0),vu (vs.getD 0 0*10000) != 0,?_,wo (by rw[yV]; omega),by rw[hm]; exact b0.1,?_⟩
  ·unfold zu.sh
   rw[h',X0 (n:=(vs.map mk).length) (by simp; omega),Yg (i:=0) (by omega),uF F (v:=10000) (by omega) (by omega)];exact (congrArg (fun x=>oB x fun c_3=>(some ((mk (vs.getD 0 0),()),(c_3.2.1,())):Option zu.sg.R)) e).trans rfl
  ·rw[hf,hm]
   rcases Yf (v:=vs.getD 0 0*10000) (by omega) with ⟨i,b⟩ | ⟨i,b⟩
   ·rw[(wk i).2]; exact .inr ⟨rfl,rfl,b⟩
   ·rw[Z2 i]; exact .inl ⟨rfl,by rw[qU]; omega⟩
 ·exact ua F hF p hv (by omega) g2 hN2 h (by decide)
theorem Q4 (F:Nat) {n:zo.T} {v:Int} (h0:0<=v) (h:qH n v<170141183460469231731687303715884105728):yW.sh F n (mk v)=some ((decide (qH n v>BND),()),()):=by
 have hB:val (72057594037927936,0)=BND:=rfl;have wB:wfW (72057594037927936,0):=by simp[wfW]
 have hc:∀x:Int,decide (V7 x BND>0)=decide (x>BND):=by
  intro x;unfold V7;rcases Int.lt_trichotomy x BND with h | h | h
  ·rw[if_pos h,decide_eq_false (by omega),decide_eq_false (by omega)]
  ·rw[if_neg (by omega),if_pos h,decide_eq_false (by omega),decide_eq_false (by omega)]
  ·rw[if_neg (by omega),if_neg (by omega),decide_eq_true (by omega),decide_eq_true (by omega)]
 unfold yW.sh qH at*;cases h15:(nK n==15) with
 | true =>
  rw[h15] at h;simp only[cond_true] at h ⊢;have iv:inR v=true:=by rw[yV]; omega
  have i2:inR (v*10000)=true:=by rw[yV]; omega
  rw[uF F (v:=10000) (by omega) (by omega)];simp only[zE];rw[Vm F (wo iv) (wo (v:=10000) (by rw[yV]; omega))];simp only[zE,wz];rw[(wk i2).1,QH F (wo i2) wB];simp only[zE,wz,hB,hc]
 | false =>
  rw[h15] at h;simp only[cond_false] at h ⊢;have iv:inR v=true:=by rw[yV]; omega
  rw[QH F (wo iv) wB];simp only[zE,wz,hB,hc]
theorem Rx (F:Nat) {n:zo.T} (hg:ue n=true) (hk:vT n=true):zO.sh F n=some (((ar n:Int),()),()):=by
 have h9:∀k:Int,(nK n=k)->(k=9\/k=10)->(ar n:Int)=nC n:=by
  intro k h hkk;rw[Yd h] at hk;have hk:(decide (nC n>=2)&&decide (nC n<=16))=true:=by rcases hkk with rfl | rfl<;>exact hk
  simp at hk;have:ar n=(nC n).toNat:=by rw[xT h]; rcases hkk with rfl | rfl<;>rfl
  omega
 unfold zO.sh;rcases tU hg with h | h | h | h | h | h | h | h | h | h | h | h | h | h | h | h<;>rw[show n.1=_ from h]
 ·rw[xT h]; rfl
 ·rw[xT h]; rfl
 ·rw[xT h]; rfl
 ·rw[xT h]; rfl
 ·rw[xT h]; rfl
 ·rw[xT h]; rfl
 ·rw[xT h]; rfl
 ·rw[xT h]; rfl
 ·rw[h9 9 h (.inl rfl)]; rfl
 ·rw[h9 10 h (.inr rfl)]; rfl
 ·rw[xT h]; rfl
 ·rw[xT h]; rfl
 ·rw[xT h]; rfl
 ·rw[xT h]; rfl
 ·rw[xT h]; rfl
 ·rw[xT h]; rfl
theorem UO (F:Nat) (hF:64<F) {R:Type} {u:Int} (hu:1<=u) (hu2:u<=1000000000000000000000000) {p:zI.T} (hD:dE [] p.2.1=0) (hd4:p.2.1.length<=4) (kE:List zg.T->Int->Option R) (kO:List zg.T->Option R) (L:List zo.T) (N:Int):∀(xs:List zo.T) (st:List Tree) (i:Nat) (mags:List zg.T),
  okS p.2.1.length st xs->(yo st).length+xs.length<=2048->mags.length<=(yo st).length->(∀t∈st,0<=mag u p.2.1 t/\mag u p.2.1 t<=BND)->
  zl.l4.rg F kE (fun _ _ _ _ _ _ mags _=>kO mags) L N xs (i:Int) p (mk u,false) mags (st.map fun t=>mk (mag u p.2.1 t)) =
   match uM (magE u p.2.1) (news st xs) i with
   | some (j,e)=>kE [] (j:Int)
   | none=>kO (mags++(news st xs).map fun t=>mk (mag u p.2.1 t)):=by
 intro xs;induction xs with
 | nil=>intro st i mags h h2 h3 h4; simp[zl.l4.rg,news,uM]
 | cons n xs ih =>
  intro st i mags h h2 h3 h4;obtain ⟨g1,g2,g3,g4,g5,g6,g7,g8⟩:=x5 h.1;have hst:=vX st;have hfs:=congrArg List.length (vi st n);simp only[List.length_cons,List.length_append,List.length_nil] at h2 hfs;have hdr:∀t∈st.drop (st.length-ar n),0<=mag u p.2.1 t/\mag u p.2.1 t<=BND:=fun t ht=>h4 t (List.mem_of_mem_drop ht)
  have hmm:mag u p.2.1 (wt st n)=ub u p.2.1 n ((st.drop (st.length-ar n)).map (mag u p.2.1)):=by unfold wt; rw[mag_nd]
  have hnode:=R9 F hF hu hu2 hD hd4 h.1 (vs:=(st.drop (st.length-ar n)).map (mag u p.2.1)) (by simp; omega) (by
   intro v hv;obtain ⟨t,ht,rfl⟩:=List.mem_map.1 hv;exact hdr t ht)
  obtain ⟨w,o,q1,q2,q3,q4⟩:=hnode;rw[<-hmm] at q3 q4;have hl:(st.map fun t=>mk (mag u p.2.1 t)).length=st.length:=by simp
  have hE:magE u p.2.1 (wt st n)=bif decide (qH n (mag u p.2.1 (wt st n))>BND) then 90 else 0:=rfl
  have hdm:(st.map fun t=>mk (mag u p.2.1 t)).drop (st.length-ar n)=((st.drop (st.length-ar n)).map (mag u p.2.1)).map mk:=by
   rw[<-List.map_drop,List.map_map]; rfl
  have ew:=ZQ g7 (by omega);have hb1:=tH (show st.length-ar n<=st.length by omega);have hb2:=tI (show st.length-ar n<=st.length by omega);have htk:(st.map fun t=>mk (mag u p.2.1 t)).take st.length=st.map fun t=>mk (mag u p.2.1 t):=List.take_of_length_le (by omega)
  have hbl1:∀y,Nat.ble (mags.length+([y]:List zg.T).length) xj=true:=fun y=>vc (by simp; omega)
  have hbl2:∀y,Nat.ble (st.length-ar n+([y]:List zg.T).length) xj=true:=fun y=>vc (by simp; omega)
  simp only[zl.l4.rg];rw[Rx F g1 g4];simp only[zE,hl,ew,hb1,hb2,htk,cond_true,hdm];rw[q1];simp only[zE,news,uM,hE];rcases q4 with ⟨rfl,hbig⟩ | ⟨rfl,rfl,hsm⟩
  ·rw[decide_eq_true hbig]
   rfl
  ·rw[Q4 F q3 hsm]
   simp only[zE,cond_false];cases hfar:decide (qH n (mag u p.2.1 (wt st n))>BND) with
   | true=>rfl
   | false =>
    have hfar:=of_decide_eq_false hfar;have hle:mag u p.2.1 (wt st n)<=BND:=by
     unfold qH at hfar;cases h15:(nK n==15) with
     | true=>rw[h15] at hfar; simp only[cond_true] at hfar; omega
     | false=>rw[h15] at hfar; simp only[cond_false] at hfar; omega
    have hstep:(wq st n).map (fun t=>mk (mag u p.2.1 t))=(st.map fun t=>mk (mag u p.2.1 t)).take (st.length-ar n)++[mk (mag u p.2.1 (wt st n))]:=by
     unfold wq; simp[List.map_take]
    have IH:=ih (wq st n) (i+1) (mags++[mk (mag u p.2.1 (wt st n))]) h.2 (by omega) (by simp; omega) (by
     intro t ht;rcases List.mem_append.1 ht with ht | ht
     ·exact h4 t (List.mem_of_mem_take ht)
     ·rw[List.mem_singleton.1 ht]; exact ⟨q3,hle⟩)
    rw[hstep,xh] at IH;simp only[hbl1,hbl2,cond_true,cond_false];refine IH.trans ?_;simp only[List.append_assoc,List.singleton_append,List.map_cons];rfl
def Y1 (u:Int) (D:List yZ.T) (t:Tree):List zg.T×Int :=
 match uM (magE u D) t.subs 0 with
 | some (j,e)=>([],(j:Int))
 | none=>(t.subs.map fun t=>mk (mag u D t),-1)
theorem UP (F:Nat) (hF:4096<F) {u:Int} (hu:1<=u) (hu2:u<=1000000000000000000000000) {p:zI.T} {t:Tree} (h:Good p t):zl.sh F p (mk u)=some (((Y1 u p.2.1 t).1,(Y1 u p.2.1 t).2,()),()):=by
 unfold zl.sh;have hl:=h.len;have hh:=tX h.head;refine Eq.trans (zl.l4.rg_eq F _ _ p.2.2.2 _ rfl (by omega) p.2.2.2 0 F _ _ _ _ (by simp) (by omega)) ?_;refine (UO F (by omega) hu hu2 hh.2.2.1 hh.2.1 (fun r44 r54=>(some ((r44,r54,()),()):Option zl.sg.R)) (fun mags=>zl.j13 F (fun r46 r56=>some ((r46,r56,()),())) mags) p.2.2.2 _ p.2.2.2 [] 0 [] h.ok (by simp[yo]; omega) (by simp) (by simp)).trans ?_;rw[h.subs];unfold Y1;cases uM (magE u p.2.1) t.subs 0 with
 | some x=>rfl
 | none=>rfl
def uW (t:Tree):Int:=10000^(w9 t).toNat
theorem Ug {t:Tree} (h:w9 t<=6):1<=uW t/\uW t<=1000000000000000000000000:=by
 have:=(VZ t).1;unfold uW;have:(w9 t).toNat=0\/(w9 t).toNat=1\/(w9 t).toNat=2\/(w9 t).toNat=3\/(w9 t).toNat=4\/(w9 t).toNat=5\/(w9 t).toNat=6:=by omega
 rcases this with h | h | h | h | h | h | h<;>rw[h]<;>decide
def ve (D:List yZ.T) (t:Tree):zg.T×Int×Int :=
 bif (uB t).2.2 != 0 then ((0,0),(uB t).2.1,(uB t).2.2)
 else bif decide (w9 t>6) then ((0,0),(t.size:Int)-1,90)
 else bif decide ((Y1 (uW t) D t).2>=0) then ((0,0),(Y1 (uW t) D t).2,90)
 else (mk (uW t),0,0)
theorem Ud:4096<FU:=by decide
theorem Unit_eq {p:zI.T} {t:Tree} (h:Good p t):yX.sh FU p=some (((ve p.2.1 t).1,(ve p.2.1 t).2.1,(ve p.2.1 t).2.2,()),()):=by
 have hl:=h.len;have hs:t.size=p.2.2.2.length:=by rw[Tree.size,h.flat]
 have hp:=vI t;unfold yX.sh ve;rw[Q6 FU Ud h];simp only[zE];cases h1:((uB t).2.2 != 0) with
 | true=>rfl
 | false =>
  simp only[cond_false];rw[Tk FU Ud h];simp only[zE];rw[<-hs,yR (n:=(t.size:Int)-1) (by omega) (by omega)];cases h2:decide (w9 t>6) with
  | true=>rfl
  | false =>
   have h2:=of_decide_eq_false h2;have hd:=(VZ t).1;have hu:=Ug (t:=t) (by omega);simp only[cond_false];rw[RZ hd (by omega)];simp only[zE];have:=UP FU Ud hu.1 hu.2 h;unfold uW at*;rw[this];simp only[zE];cases decide ((Y1 (10000^(w9 t).toNat) p.2.1 t).2>=0)<;>rfl
theorem Q5 {p:zI.T} (h:(xS p).2≠0):yX.sh FU p=some (((0,0),(xS p).1,(xS p).2,()),()):=by
 unfold yX.sh;rw[RA FU Ud h];simp only[zE];rw[show ((xS p).2 != 0)=true by simpa using h];rfl
theorem RK {D:List yZ.T} {t:Tree} (h:(ve D t).2.2=0):(uB t).2.2=0/\w9 t<=6/\(Y1 (uW t) D t).2<0/\ve D t=(mk (uW t),0,0):=by
 unfold ve at*;cases h1:((uB t).2.2 != 0) with
 | true =>
  rw[h1] at h;have h:(uB t).2.2=0:=h;rw[h] at h1;exact absurd h1 (by decide)
 | false =>
  rw[h1] at h;cases h2:decide (w9 t>6) with
  | true=>rw[h2] at h; exact absurd (show (90:Int)=0 from h) (by decide)
  | false =>
   rw[h2] at h;cases h3:decide ((Y1 (uW t) D t).2>=0) with
   | true=>rw[h3] at h; exact absurd (show (90:Int)=0 from h) (by decide)
   | false =>
    have h2:=of_decide_eq_false h2;have h3:=of_decide_eq_false h3;exact ⟨by simpa using h1,by omega,by omega,rfl⟩
def ZB {α:Type} (p:α->Bool):List α->Nat->Option Nat
 | [],_=>none
 | x::r,i=>bif p x then some i else ZB p r (i+1)
theorem YC {α:Type} {p:α->Bool}:∀{l:List α} {i j:Nat},ZB p l i=some j->i<=j/\j<i+l.length/\∃x,l[j-i]?=some x/\p x=true
 | [],_,_,h=>by cases h
 | x::r,i,j,h=>by
  unfold ZB at h;cases hp:p x with
  | true =>
   rw[hp] at h;cases h
   exact ⟨Nat.le_refl _,by simp,x,by simp,hp⟩
  | false =>
   rw[hp] at h;obtain ⟨h1,h2,y,h3,h4⟩:=YC (l:=r) h;refine ⟨by omega,by simp only[List.length_cons]; omega,y,?_,h4⟩;rw[show j-i=(j-(i+1))+1 by omega];simpa using h3
def Xc (o:Option Nat):Int:=match o with
 | some j=>(j:Int)
 | none=>-1
def eqW (v x:zg.T):Bool:=(v.1==x.1)&&((v.2==x.2)&&true)
theorem W3 (F:Nat) {R:Type} (k:Int->Option R) (k1:Option R) (L:List zg.T) (N:Int) (v:zg.T):∀(xs:List zg.T) (i:Nat),
  zn.l2.rg F k (fun _ _ _ _ _=>k1) L N xs (i:Int) v=match ZB (eqW v) xs i with
   | some j=>k (j:Int)
   | none=>k1
 | [],i=>rfl
 | x::xs,i=>by
  have ih:=W3 F k k1 L N v xs (i+1);rw[xh] at ih;unfold zn.l2.rg ZB;show (bif eqW v x then _ else _)=_;cases eqW v x with
  | true=>rfl
  | false=>exact ih
theorem Ri (F:Nat) (l:List zg.T) (v:zg.T) (hF:l.length<F) (hL:l.length<4611686018427387904):zn.sh F l v=some ((Xc (ZB (eqW v) l 0),()),()):=by
 have e:=zn.l2.rg_eq F (fun r41=>(some ((r41,()),()):Option zn.sg.R)) (fun s2 t72 t82 t92 v2=>some (((-1),()),())) l (l.length:Int) rfl (by omega) l 0 F v rfl hF;unfold zn.sh;refine e.trans ((W3 F _ _ l _ v l 0).trans ?_);cases ZB (eqW v) l 0<;>rfl
theorem Va (F:Nat) {R:Type} (k0:Bool->Option R) (k1:Option R) (L:List zy.T) (N:Int) (s2:List zy.T):∀(xs ys:List zy.T) (i:Nat),s2.drop i=ys->xs.length=ys.length->
  zp.l4.rg F k0 (fun _ _ _ _ _=>k1) L N xs (i:Int) s2=bif decide (xs=ys) then k1 else k0 false
 | [],[],i,h,hl=>rfl
 | [],_::_,i,h,hl=>by simp at hl
 | _::_,[],i,h,hl=>by simp at hl
 | x::xs,y::ys,i,h,hl=>by
  have ih:=Va F k0 k1 L N s2 xs ys (i+1) (xK h) (by simpa using hl);rw[xh] at ih;unfold zp.l4.rg;rw[xf (wj h),wG (t:=zy) h,cond_true];obtain ⟨a,b⟩:=x;obtain ⟨c,d⟩:=y;cases hb:((a==c)&&((b==d)&&true)) with
  | true =>
   simp only[hb,Bool.not_true,cond_false];rw[ih];simp only[Bool.and_eq_true,Bool.and_true,beq_iff_eq] at hb;obtain ⟨rfl,rfl⟩:=hb;simp only[List.cons.injEq,true_and]
  | false =>
   simp only[hb,Bool.not_false,cond_true];rw[decide_eq_false,cond_false];intro e;rw[List.cons.injEq,Prod.mk.injEq] at e;obtain ⟨⟨rfl,rfl⟩,_⟩:=e;simp at hb
theorem Rp (F:Nat) (a b:List zy.T) (hF:a.length<F) (hL:a.length<4611686018427387904):zp.sh F a b=some ((decide (a=b),()),()):=by
 unfold zp.sh;cases hb:((a.length:Int) != (b.length:Int)) with
 | true =>
  rw[cond_true,decide_eq_false];intro e;subst e;simp at hb
 | false =>
  rw[cond_false];have h0:(a.length:Int)=(b.length:Int):=by simpa using hb
  have hl:a.length=b.length:=by omega
  refine (zp.l4.rg_eq F _ _ a (a.length:Int) rfl (by omega) a 0 F b rfl hF).trans ?_;refine (Va F (fun r41=>(some ((r41,()),()):Option zp.sg.R)) (some ((true,()),())) a _ b a b 0 rfl hl).trans ?_;cases decide (a=b)<;>rfl
theorem d16T_eq (F:Nat) (l t:List zy.T) (hF:l.length<F) (hL:l.length<4611686018427387904):zd.d16 F (xM+1) (l,t,())=some ((decide (l=t),()),()):=by
 show yf.sh F l t=_;unfold yf.sh;rw[Rp F l t hF hL,zE]
theorem W4 (F:Nat) {R:Type} (k:Int->Option R) (k1:Option R) (L:List (List zy.T)) (N:Int) (t:List zy.T):∀(xs:List (List zy.T)) (i:Nat),(∀l∈xs,l.length<F/\l.length<4611686018427387904)->
  zd.l2.rg F k (fun _ _ _ _ _=>k1) L N xs (i:Int) (xM,t)=match ZB (fun l=>decide (l=t)) xs i with
   | some j=>k (j:Int)
   | none=>k1
 | [],i,h=>rfl
 | x::xs,i,h=>by
  have ih:=W4 F k k1 L N t xs (i+1) fun l hl=>h l (by simp[hl])
  rw[xh] at ih;obtain ⟨h1,h2⟩:=h x (by simp);unfold zd.l2.rg ZB;simp only;rw[d16T_eq F x t h1 h2,zE];cases decide (x=t) with
  | true=>rfl
  | false=>exact ih
theorem Rj (F:Nat) (S:List (List zy.T)) (t:List zy.T) (hS:∀l∈S,l.length<F/\l.length<4611686018427387904) (hF:S.length<F) (hL:S.length<4611686018427387904) :
  zd.sh F S (xM,t)=some ((Xc (ZB (fun l=>decide (l=t)) S 0),()),()):=by
 have e:=zd.l2.rg_eq F (fun r42=>(some ((r42,()),()):Option zd.sg.R)) (fun s3 f3 t73 t83 t93=>some (((-1),()),())) S (S.length:Int) rfl (by omega) S 0 F (xM,t) rfl hF;unfold zd.sh;refine e.trans ((W4 F _ _ S _ t S 0 hS).trans ?_);cases ZB (fun l=>decide (l=t)) S 0<;>rfl
abbrev EmM:Type:=zI.T×(List Int)×zg.T×zD.T×List Nat
abbrev EmS:Type:=List zg.T×List (List zy.T)×List zK.T
def emW (m:EmM) (s:EmS):EmM:=(m.1,m.2.1,m.2.2.1,(m.2.2.2.1.1,m.2.2.2.1.2.1,m.2.2.2.1.2.2.1,s.1,s.2.1,s.2.2),m.2.2.2.2)
def Zp (C:List zg.T) (w:zg.T):Nat×List zg.T:=match ZB (eqW w) C 0 with
 | some j=>(j,C)
 | none=>(C.length,C++[w])
def Zy (S:List (List zy.T)) (t:List zy.T):Nat×List (List zy.T):=match ZB (fun l=>decide (l=t)) S 0 with
 | some j=>(j,S)
 | none=>(S.length,S++[t])
theorem SS (C:List zg.T) (w:zg.T):(Zp C w).1<(Zp C w).2.length/\(Zp C w).2.length<=C.length+1/\∃r,(Zp C w).2=C++r:=by
 unfold Zp;split
 ·rename_i j h
  obtain ⟨_,h2,_⟩:=YC h;exact ⟨by simpa using h2,by simp,[],by simp⟩
 ·exact ⟨by simp,by simp,[w],rfl⟩
theorem So (S:List (List zy.T)) (t:List zy.T):(Zy S t).1<(Zy S t).2.length/\(Zy S t).2.length<=S.length+1/\∃r,(Zy S t).2=S++r/\∀x∈r,x=t:=by
 unfold Zy;split
 ·rename_i j h
  obtain ⟨_,h2,_⟩:=YC h;exact ⟨by simpa using h2,by simp,[],by simp,by simp⟩
 ·exact ⟨by simp,by simp,[t],rfl,by simp⟩
theorem U5 (F:Nat) (m:EmM) (C:List zg.T) (S:List (List zy.T)) (K:List zK.T) (w:zg.T) (hF:C.length<F) (hC:C.length<=4194000) :
  zA.sh F (emW m (C,S,K)) w=some ((((Zp C w).1:Int),()),(emW m ((Zp C w).2,S,K),())):=by
 unfold zA.sh;rw[show (emW m (C,S,K)).2.2.2.1.2.2.2.1=C from rfl,Ri F C w hF (by omega),zE];unfold Zp;cases hp:ZB (eqW w) C 0 with
 | some j =>
  show (bif decide (Xc (some j)>=0) then _ else _)=_;rw[decide_eq_true (show Xc (some j)>=0 from Int.natCast_nonneg j),cond_true]; rfl
 | none =>
  show (bif decide (Xc none>=0) then _ else _)=_;rw[decide_eq_false (show ¬Xc none>=0 by simp[Xc]),cond_false,vc (by simp; omega),cond_true,yR (by simp<;>omega) (by simp; omega)];simp only[List.length_append,List.length_cons,List.length_nil];rw[show (((C.length+(0+1):Nat):Int)-1)=(C.length:Int) by omega];rfl
theorem Qp (F:Nat) (m:EmM) (C:List zg.T) (S:List (List zy.T)) (K:List zK.T) (t:List zy.T) (hS:∀l∈S,l.length<=64) (hF:4194000<F) (hC:S.length<=4194000) (ht:t.length<=64) :
  zU.sh F (emW m (C,S,K)) t=some ((((Zy S t).1:Int),()),(emW m (C,(Zy S t).2,K),())):=by
 unfold zU.sh;rw[show (emW m (C,S,K)).2.2.2.1.2.2.2.2.1=S from rfl,Rj F S t (fun l hl=>by have:=hS l hl; omega) (by omega) (by omega),zE];unfold Zy;cases hp:ZB (fun l=>decide (l=t)) S 0 with
 | some j =>
  show (bif decide (Xc (some j)>=0) then _ else _)=_;rw[decide_eq_true (show Xc (some j)>=0 from Int.natCast_nonneg j),cond_true]; rfl
 | none =>
  show (bif decide (Xc none>=0) then _ else _)=_;have hc:yK.sh F t=some ((t,()),()):=by
   unfold yK.sh Xv;rw[show Nat.ble t.length 1099511627776=true by rw[Nat.ble_eq]; omega]; rfl
  rw[decide_eq_false (show ¬Xc none>=0 by simp[Xc]),cond_false,hc,zE,vc (by simp; omega),cond_true,yR (by simp<;>omega) (by simp; omega)];simp only[List.length_append,List.length_cons,List.length_nil];rw[show (((S.length+(0+1):Nat):Int)-1)=(S.length:Int) by omega];rfl
theorem VV (F:Nat) (m:EmM) (C:List zg.T) (S:List (List zy.T)) (K:List zK.T) (op arg:Int) (hK:K.length<=4194000) :
  zr.sh F (emW m (C,S,K)) op arg=some ((),(emW m (C,S,K++[(op,arg,0)]),())):=by
 unfold zr.sh;rw[show (emW m (C,S,K)).2.2.2.1.2.2.2.2.2=K from rfl,vc (by simp; omega)];rfl
def WF (dims:Nat) (t:Tree):Prop:=∀s∈t.subs,s.kids.length=ar s.root/\vd dims s.root (ar s.root)=0
theorem WU {s:Tree} {l:List Tree}:s∈wS l↔∃k∈l,s∈k.subs:=by
 unfold wS;simp only[List.mem_flatten,List.mem_map];constructor
 ·rintro ⟨_,⟨k,hk,rfl⟩,hs⟩; exact ⟨k,hk,hs⟩
 ·rintro ⟨k,hk,hs⟩; exact ⟨_,⟨k,hk,rfl⟩,hs⟩
theorem all_nd {P:Tree->Prop} {n:zo.T} {ks:List Tree}:(∀s∈Tree.subs (.nd n ks),P s)↔P (.nd n ks)/\∀k∈ks,∀s∈k.subs,P s:=by
 rw[qW];constructor
 ·intro h
  exact ⟨h _ (by simp),fun k hk s hs=>h s (List.mem_append_left _ (WU.2 ⟨k,hk,hs⟩))⟩
 ·rintro ⟨h1,h2⟩ s hs
  rcases List.mem_append.1 hs with hs | hs
  ·obtain ⟨k,hk,hs⟩:=WU.1 hs; exact h2 k hk s hs
  ·simp at hs; subst hs; exact h1
theorem uj {dims:Nat} {n:zo.T} {ks:List Tree}:WF dims (.nd n ks)↔(ks.length=ar n/\vd dims n (ar n)=0)/\∀k∈ks,WF dims k:=all_nd
theorem Xx {dims:Nat}:∀(xs:List zo.T) (st:List Tree),okS dims st xs->∀s∈news st xs,s.kids.length=ar s.root/\vd dims s.root (ar s.root)=0
 | [],st,_,s,hs=>by simp[news] at hs
 | n::r,st,h,s,hs=>by
  have ha:=(x5 h.1).2.2.2.2.2.2.1;rcases List.mem_cons.1 hs with rfl | hs
  ·refine ⟨?_,?_⟩
   ·show (st.drop (st.length-ar n)).length=ar n
    rw[List.length_drop]; omega
   ·have h7:decide ((ar n:Int)<(ar n:Int))=false:=decide_eq_false (by omega)
    have h7':decide ((st.length:Int)<(ar n:Int))=false:=decide_eq_false (by omega);have h1:=h.1;show vd dims n (ar n)=0;unfold vd at h1 ⊢;rw[h7'] at h1;rw[h7];exact h1
  ·exact Xx r (wq st n) h.2 s hs
theorem Good.wf {p:zI.T} {t:Tree} (h:Good p t):WF p.2.1.length t:=by
 intro s hs;rw[<-h.subs] at hs;exact Xx _ _ h.ok s hs
theorem WF.len {dims:Nat} {t:Tree} (h:WF dims t):t.kids.length=ar t.root:=by
 cases t with
 | nd n ks=>exact (uj.1 h).1.1
theorem WF.node {dims:Nat} {t:Tree} (h:WF dims t):vd dims t.root (ar t.root)=0:=by
 cases t with
 | nd n ks=>exact (uj.1 h).1.2
theorem WF.good {dims:Nat} {t:Tree} (h:WF dims t):ue t.root=true/\vT t.root=true:=⟨(x5 h.node).1,(x5 h.node).2.2.2.1⟩
theorem WF.arK {dims:Nat} {t:Tree} (h:WF dims t) {k:Int} (hk:nK t.root=k):t.kids.length=bif decide ((get yE x6 k.toNat).1>=0) then (get yE x6 k.toNat).1.toNat else (nC t.root).toNat:=by rw[h.len,xT hk]
theorem WF.several {dims:Nat} {t:Tree} (h:WF dims t) (hk:nK t.root=9\/nK t.root=10):2<=t.kids.length/\t.kids.length<=16/\(t.kids.length:Int)=nC t.root:=by
 have hg:=h.good;have hl:=h.len;rcases hk with hk | hk
 ·have h2:=hg.2
  rw[Yd hk] at h2;have h2:(decide (nC t.root>=2)&&decide (nC t.root<=16))=true:=h2;simp at h2;rw[xT hk] at hl;have hl:t.kids.length=(nC t.root).toNat:=hl;omega
 ·have h2:=hg.2
  rw[Yd hk] at h2;have h2:(decide (nC t.root>=2)&&decide (nC t.root<=16))=true:=h2;simp at h2;rw[xT hk] at hl;have hl:t.kids.length=(nC t.root).toNat:=hl;omega
def wQ (s:EmS) (op arg:Int):EmS:=(s.1,s.2.1,s.2.2++[(op,arg,0)])
def wN (s:EmS) (op:Int) (w:zg.T):EmS:=((Zp s.1 w).2,s.2.1,s.2.2++[(op,((Zp s.1 w).1:Int),0)])
def Ws (s:EmS) (op:Int) (t:List zy.T):EmS:=(s.1,(Zy s.2.1 t).2,s.2.2++[(op,((Zy s.2.1 t).1:Int),0)])
def tm (ks:List (EmS->EmS)) (s:EmS):EmS:=ks.foldl (fun s k=>k s) s
def S2 (op:Int):List (EmS->EmS)->EmS->EmS
 | [],s=>s
 | k::r,s=>r.foldl (fun s k=>wQ (k s) op 0) (k s)
def uC (K:List zK.T) (i:Nat) (v:Int):List zK.T:=K.set i ((get zK K i).1,(get zK K i).2.1,v)
def kF (ks:List (EmS->EmS)) (i:Nat):EmS->EmS:=ks.getD i id
def Ui (n:zo.T) (ks:List (EmS->EmS)) (s:EmS):EmS:=kF ks 1 (wN (kF ks 0 s) (15+nO n) (mk (nN n)))
def Vp (n:zo.T) (ks:List (EmS->EmS)) (s:EmS):EmS:=kF ks 2 (wQ (Ui n ks s) 15 0)
def Uh (n:zo.T) (ks:List (EmS->EmS)) (s:EmS):EmS :=
 ((Vp n ks s).1,(Vp n ks s).2.1,uC (uC (Vp n ks s).2.2 (kF ks 0 s).2.2.length (((Ui n ks s).2.2.length:Int)-((kF ks 0 s).2.2.length:Int)))
  (Ui n ks s).2.2.length (((Vp n ks s).2.2.length:Int)-((Ui n ks s).2.2.length:Int)-1))
def emN (u:Int) (n:zo.T) (ks:List (EmS->EmS)) (s:EmS):EmS :=
 if nK n=1 then wN s 1 (mk (nN n))
 else if nK n=2 then wN s 1 (vm (nN n*u))
 else if nK n=3 then wQ s 2 (nN n)
 else if nK n=4 then wQ s 3 (nN n)
 else if nK n<=8 then wQ (tm ks s) (nK n-1) 0
 else if nK n=9 then S2 8 ks s
 else if nK n=10 then S2 9 ks s
 else if nK n=11 then wN (tm ks s) 10 (mk (nN n))
 else if nK n=12 then wN (tm ks s) 11 (mk (nN n))
 else if nK n=13 then Ws (tm ks s) 12 (nT n)
 else if nK n=14 then Ws (tm ks s) 13 (nT n)
 else if nK n=15 then wQ (tm ks s) 14 (nN n)
 else Uh n ks s
def em (u:Int):Tree->EmS->EmS:=Tree.fold (emN u)
theorem Qq (u:Int) (n:zo.T) (ks:List Tree):em u (.nd n ks)=emN u n (ks.map (em u)):=Tree.fold_nd _ n ks
def V6 (n:zo.T) (cs:List Nat):Nat:=if nK n=9\/nK n=10 then cs.sum+(cs.length-1) else if nK n=16 then cs.sum+2 else cs.sum+1
def cnt:Tree->Nat:=Tree.fold V6
theorem T9 (n:zo.T) (ks:List Tree):cnt (.nd n ks)=V6 n (ks.map cnt):=Tree.fold_nd _ n ks
theorem emN1 {u:Int} {n:zo.T} {ks:List (EmS->EmS)} {s:EmS} (h:nK n=1):emN u n ks s=wN s 1 (mk (nN n)):=by
 unfold emN;rw[if_pos (show nK n=1 by omega)]
theorem emN2 {u:Int} {n:zo.T} {ks:List (EmS->EmS)} {s:EmS} (h:nK n=2):emN u n ks s=wN s 1 (vm (nN n*u)):=by
 unfold emN;rw[if_neg (show ¬nK n=1 by omega),if_pos (show nK n=2 by omega)]
theorem emN3 {u:Int} {n:zo.T} {ks:List (EmS->EmS)} {s:EmS} (h:nK n=3):emN u n ks s=wQ s 2 (nN n):=by
 unfold emN;rw[if_neg (show ¬nK n=1 by omega),if_neg (show ¬nK n=2 by omega),if_pos (show nK n=3 by omega)]
theorem emN4 {u:Int} {n:zo.T} {ks:List (EmS->EmS)} {s:EmS} (h:nK n=4):emN u n ks s=wQ s 3 (nN n):=by
 unfold emN;rw[if_neg (show ¬nK n=1 by omega),if_neg (show ¬nK n=2 by omega),if_neg (show ¬nK n=3 by omega),if_pos (show nK n=4 by omega)]
theorem emN5 {u:Int} {n:zo.T} {ks:List (EmS->EmS)} {s:EmS} (h:nK n=5):emN u n ks s=wQ (tm ks s) 4 0:=by
 unfold emN;rw[if_neg (show ¬nK n=1 by omega),if_neg (show ¬nK n=2 by omega),if_neg (show ¬nK n=3 by omega),if_neg (show ¬nK n=4 by omega),if_pos (show nK n<=8 by omega)];rw[h]; rfl
theorem emN6 {u:Int} {n:zo.T} {ks:List (EmS->EmS)} {s:EmS} (h:nK n=6):emN u n ks s=wQ (tm ks s) 5 0:=by
 unfold emN;rw[if_neg (show ¬nK n=1 by omega),if_neg (show ¬nK n=2 by omega),if_neg (show ¬nK n=3 by omega),if_neg (show ¬nK n=4 by omega),if_pos (show nK n<=8 by omega)];rw[h]; rfl
theorem emN7 {u:Int} {n:zo.T} {ks:List (EmS->EmS)} {s:EmS} (h:nK n=7):emN u n ks s=wQ (tm ks s) 6 0:=by
 unfold emN;rw[if_neg (show ¬nK n=1 by omega),if_neg (show ¬nK n=2 by omega),if_neg (show ¬nK n=3 by omega),if_neg (show ¬nK n=4 by omega),if_pos (show nK n<=8 by omega)];rw[h]; rfl
theorem emN8 {u:Int} {n:zo.T} {ks:List (EmS->EmS)} {s:EmS} (h:nK n=8):emN u n ks s=wQ (tm ks s) 7 0:=by
 unfold emN;rw[if_neg (show ¬nK n=1 by omega),if_neg (show ¬nK n=2 by omega),if_neg (show ¬nK n=3 by omega),if_neg (show ¬nK n=4 by omega),if_pos (show nK n<=8 by omega)];rw[h]; rfl
theorem emN9 {u:Int} {n:zo.T} {ks:List (EmS->EmS)} {s:EmS} (h:nK n=9):emN u n ks s=S2 8 ks s:=by
 unfold emN;rw[if_neg (show ¬nK n=1 by omega),if_neg (show ¬nK n=2 by omega),if_neg (show ¬nK n=3 by omega),if_neg (show ¬nK n=4 by omega),if_neg (show ¬nK n<=8 by omega),if_pos (show nK n=9 by omega)]
theorem Qx {u:Int} {n:zo.T} {ks:List (EmS->EmS)} {s:EmS} (h:nK n=10):emN u n ks s=S2 9 ks s:=by
 unfold emN;rw[if_neg (show ¬nK n=1 by omega),if_neg (show ¬nK n=2 by omega),if_neg (show ¬nK n=3 by omega),if_neg (show ¬nK n=4 by omega),if_neg (show ¬nK n<=8 by omega),if_neg (show ¬nK n=9 by omega),if_pos (show nK n=10 by omega)]
theorem Qw {u:Int} {n:zo.T} {ks:List (EmS->EmS)} {s:EmS} (h:nK n=11):emN u n ks s=wN (tm ks s) 10 (mk (nN n)):=by
 unfold emN;rw[if_neg (show ¬nK n=1 by omega),if_neg (show ¬nK n=2 by omega),if_neg (show ¬nK n=3 by omega),if_neg (show ¬nK n=4 by omega),if_neg (show ¬nK n<=8 by omega),if_neg (show ¬nK n=9 by omega),if_neg (show ¬nK n=10 by omega),if_pos (show nK n=11 by omega)]
theorem Qv {u:Int} {n:zo.T} {ks:List (EmS->EmS)} {s:EmS} (h:nK n=12):emN u n ks s=wN (tm ks s) 11 (mk (nN n)):=by
 unfold emN;rw[if_neg (show ¬nK n=1 by omega),if_neg (show ¬nK n=2 by omega),if_neg (show ¬nK n=3 by omega),if_neg (show ¬nK n=4 by omega),if_neg (show ¬nK n<=8 by omega),if_neg (show ¬nK n=9 by omega),if_neg (show ¬nK n=10 by omega),if_neg (show ¬nK n=11 by omega),if_pos (show nK n=12 by omega)]
theorem Qu {u:Int} {n:zo.T} {ks:List (EmS->EmS)} {s:EmS} (h:nK n=13):emN u n ks s=Ws (tm ks s) 12 (nT n):=by
 unfold emN;rw[if_neg (show ¬nK n=1 by omega),if_neg (show ¬nK n=2 by omega),if_neg (show ¬nK n=3 by omega),if_neg (show ¬nK n=4 by omega),if_neg (show ¬nK n<=8 by omega),if_neg (show ¬nK n=9 by omega),if_neg (show ¬nK n=10 by omega),if_neg (show ¬nK n=11 by omega),if_neg (show ¬nK n=12 by omega),if_pos (show nK n=13 by omega)]
theorem Qt {u:Int} {n:zo.T} {ks:List (EmS->EmS)} {s:EmS} (h:nK n=14):emN u n ks s=Ws (tm ks s) 13 (nT n):=by
 unfold emN;rw[if_neg (show ¬nK n=1 by omega),if_neg (show ¬nK n=2 by omega),if_neg (show ¬nK n=3 by omega),if_neg (show ¬nK n=4 by omega),if_neg (show ¬nK n<=8 by omega),if_neg (show ¬nK n=9 by omega),if_neg (show ¬nK n=10 by omega),if_neg (show ¬nK n=11 by omega),if_neg (show ¬nK n=12 by omega),if_neg (show ¬nK n=13 by omega),if_pos (show nK n=14 by omega)]
theorem Qs {u:Int} {n:zo.T} {ks:List (EmS->EmS)} {s:EmS} (h:nK n=15):emN u n ks s=wQ (tm ks s) 14 (nN n):=by
 unfold emN;rw[if_neg (show ¬nK n=1 by omega),if_neg (show ¬nK n=2 by omega),if_neg (show ¬nK n=3 by omega),if_neg (show ¬nK n=4 by omega),if_neg (show ¬nK n<=8 by omega),if_neg (show ¬nK n=9 by omega),if_neg (show ¬nK n=10 by omega),if_neg (show ¬nK n=11 by omega),if_neg (show ¬nK n=12 by omega),if_neg (show ¬nK n=13 by omega),if_neg (show ¬nK n=14 by omega),if_pos (show nK n=15 by omega)]
theorem Qr {u:Int} {n:zo.T} {ks:List (EmS->EmS)} {s:EmS} (h:nK n=16):emN u n ks s=Uh n ks s:=by
 unfold emN;rw[if_neg (show ¬nK n=1 by omega),if_neg (show ¬nK n=2 by omega),if_neg (show ¬nK n=3 by omega),if_neg (show ¬nK n=4 by omega),if_neg (show ¬nK n<=8 by omega),if_neg (show ¬nK n=9 by omega),if_neg (show ¬nK n=10 by omega),if_neg (show ¬nK n=11 by omega),if_neg (show ¬nK n=12 by omega),if_neg (show ¬nK n=13 by omega),if_neg (show ¬nK n=14 by omega),if_neg (show ¬nK n=15 by omega)]
theorem cntN9 {n:zo.T} {cs:List Nat} (h:nK n=9\/nK n=10):V6 n cs=cs.sum+(cs.length-1):=if_pos h
theorem cntN16 {n:zo.T} {cs:List Nat} (h:nK n=16):V6 n cs=cs.sum+2:=by
 unfold V6;rw[if_neg (show ¬(nK n=9\/nK n=10) by omega),if_pos h]
theorem tE {n:zo.T} {cs:List Nat} (h:nK n≠9) (h1:nK n≠10) (h2:nK n≠16):V6 n cs=cs.sum+1:=by
 unfold V6;rw[if_neg (show ¬(nK n=9\/nK n=10) by omega),if_neg h2]
structure Up (s s':EmS) (c k l:Nat):Prop where
 C:∃r,s'.1=s.1++r
 Cn:s'.1.length<=s.1.length+c
 S:∃r,s'.2.1=s.2.1++r
 Sn:s'.2.1.length<=s.2.1.length+c
 K:∃r,s'.2.2=s.2.2++r
 Kn:s'.2.2.length=s.2.2.length+k
 T:(∀x∈s.2.1,x.length<=l)->∀x∈s'.2.1,x.length<=l
theorem Up.refl (s:EmS) (l:Nat):Up s s 0 0 l:=⟨⟨[],by simp⟩,Nat.le_refl _,⟨[],by simp⟩,Nat.le_refl _,⟨[],by simp⟩,rfl,fun h=>h⟩
theorem Up.trans {a b c:EmS} {x y k m l:Nat} (h1:Up a b x k l) (h2:Up b c y m l):Up a c (x+y) (k+m) l:=by
 obtain ⟨⟨r1,e1⟩,n1,⟨r2,e2⟩,n2,⟨r3,e3⟩,n3,t1⟩:=h1;obtain ⟨⟨q1,f1⟩,m1,⟨q2,f2⟩,m2,⟨q3,f3⟩,m3,t2⟩:=h2;exact ⟨⟨r1++q1,by rw[f1,e1,List.append_assoc]⟩,by omega,⟨r2++q2,by rw[f2,e2,List.append_assoc]⟩,by omega,⟨r3++q3,by rw[f3,e3,List.append_assoc]⟩,by omega,fun h=>t2 (t1 h)⟩
theorem Up.mono {a b:EmS} {x y k l:Nat} (h:Up a b x k l) (hx:x<=y):Up a b y k l:=⟨h.C,by have:=h.Cn; omega,h.S,by have:=h.Sn; omega,h.K,h.Kn,h.T⟩
theorem vb (s:EmS) (op arg:Int) (l:Nat):Up s (wQ s op arg) 0 1 l:=⟨⟨[],by simp[wQ]⟩,Nat.le_refl _,⟨[],by simp[wQ]⟩,Nat.le_refl _,⟨[(op,arg,0)],rfl⟩,by simp[wQ],fun h=>h⟩
theorem tK (s:EmS) (op:Int) (w:zg.T) (l:Nat):Up s (wN s op w) 1 1 l:=by
 obtain ⟨_,h2,h3⟩:=SS s.1 w;exact ⟨h3,h2,⟨[],by simp[wN]⟩,by simp[wN],⟨_,rfl⟩,by simp[wN],fun h=>h⟩
theorem Vn (s:EmS) (op:Int) (t:List zy.T) {l:Nat} (ht:t.length<=l):Up s (Ws s op t) 1 1 l:=by
 obtain ⟨_,h2,r,h3,h4⟩:=So s.2.1 t;refine ⟨⟨[],by simp[Ws]⟩,by simp[Ws],⟨r,h3⟩,h2,⟨_,rfl⟩,by simp[Ws],fun h x hx=>?_⟩;have hx:x∈(Zy s.2.1 t).2:=hx;rw[h3] at hx;rcases List.mem_append.1 hx with hx | hx
 ·exact h x hx
 ·rw[h4 x hx]; exact ht
theorem Vo {u:Int} {l:Nat}:∀(ks:List Tree),(∀k∈ks,∀s,Up s (em u k s) k.size (cnt k) l)->∀s,Up s (tm (ks.map (em u)) s) (yo ks).length ((ks.map cnt).sum) l
 | [],_,s=>Up.refl s l
 | k::r,h,s=>by
  have h1:=h k (by simp) s;have h2:=Vo r (fun x hx=>h x (by simp[hx])) (em u k s);have:=h1.trans h2;rw[xx,List.length_append];exact this
theorem Yq {u:Int} {l:Nat} {op:Int}:∀(ks:List Tree),(∀k∈ks,∀s,Up s (em u k s) k.size (cnt k) l)->∀s,Up s ((ks.map (em u)).foldl (fun s k=>wQ (k s) op 0) s) (yo ks).length ((ks.map cnt).sum+ks.length) l
 | [],_,s=>Up.refl s l
 | k::r,h,s=>by
  have h1:=(h k (by simp) s).trans (vb _ op 0 l);have h2:=Yq (op:=op) r (fun x hx=>h x (by simp[hx])) (wQ (em u k s) op 0);have:=h1.trans h2;rw[xx,List.length_append];simp only[List.map_cons,List.foldl_cons,List.sum_cons,List.length_cons];rw[show cnt k+(List.map cnt r).sum+(r.length+1)=cnt k+1+((List.map cnt r).sum+r.length) by omega];exact this.mono (by unfold Tree.size; omega)
theorem qX (K:List zK.T) (i:Nat) (v:Int):(uC K i v).length=K.length:=by simp[uC]
theorem qY {A B:List zK.T} {i:Nat} {v:Int} (h:A.length<=i):uC (A++B) i v=A++uC B (i-A.length) v:=by
 unfold uC;rw[List.set_append_right _ _ h];congr 3<;>(unfold get; rw[List.getD_eq_getElem?_getD,List.getD_eq_getElem?_getD,List.getElem?_append_right h])
theorem three {ks:List Tree} (h:ks.length=3):∃a b c,ks=[a,b,c]:=by
 match ks,h with
 | [a,b,c],_=>exact ⟨a,b,c,rfl⟩
theorem up_tst {u:Int} {l:Nat} {n:zo.T} {a b c:Tree} (ha:∀s,Up s (em u a s) a.size (cnt a) l) (hb:∀s,Up s (em u b s) b.size (cnt b) l) (hc:∀s,Up s (em u c s) c.size (cnt c) l) (s:EmS) :
  Up s (Uh n ([a,b,c].map (em u)) s) (a.size+b.size+c.size+1) (cnt a+cnt b+cnt c+2) l:=by
 have h1:=ha s;have h2:=(h1.trans (tK _ (15+nO n) (mk (nN n)) l)).trans (hb _);have h3:=(h2.trans (vb _ 15 0 l)).trans (hc _);have e2:Ui n ([a,b,c].map (em u)) s=em u b (wN (em u a s) (15+nO n) (mk (nN n))):=rfl;have e3:Vp n ([a,b,c].map (em u)) s=em u c (wQ (em u b (wN (em u a s) (15+nO n) (mk (nN n)))) 15 0):=rfl;refine ⟨h3.C,by have:=h3.Cn; show (Vp n _ s).1.length<=_; rw[e3]; omega,h3.S,by have:=h3.Sn; show (Vp n _ s).2.1.length<=_; rw[e3]; omega,?_,?_,h3.T⟩
 ·obtain ⟨r,e⟩:=h3.K
  unfold Uh;rw[e3,e2];simp only;rw[e,qY (by have:=h1.Kn; show s.2.2.length<=(em u a s).2.2.length; omega),qY (by have:=h2.Kn; omega)];exact ⟨_,rfl⟩
 ·show (uC (uC _ _ _) _ _).length=_
  rw[qX,qX,e3,h3.Kn]; omega
theorem qu {dims:Nat} {n:zo.T} {pile:Nat} (h:vd dims n pile=0):(nT n).length<=16:=by
 obtain ⟨_,_,_,_,_,h6,_,h8⟩:=x5 h;cases ht:uk n with
 | false=>rw[h6 ht]; simp
 | true=>exact (Uv (h8 ht)).2.1
theorem uO {dims:Nat} (t:Tree):WF dims t->cnt t+1<=2*t.size:=by
 refine Tree.ind (P:=fun t=>WF dims t->cnt t+1<=2*t.size) (fun n ks ih hw=>?_) t;have hk:∀l:List Tree,(∀k∈l,cnt k+1<=2*k.size)->(l.map cnt).sum+l.length<=2*(yo l).length:=by
  intro l;induction l with
  | nil=>intro _; simp[yo]
  | cons k l ihl =>
   intro h;have h1:=h k (by simp);have h2:=ihl fun x hx=>h x (by simp[hx])
   rw[xx,List.length_append];unfold Tree.size at h1;simp only[List.map_cons,List.sum_cons,List.length_cons];omega
 have h:=hk ks fun k hk=>ih k hk ((uj.1 hw).2 k hk)
 rw[T9,uX];unfold V6;rw[List.length_map];split
 ·omega
 ·rename_i h9
  split
  ·rename_i h16
   have h3:ks.length=3:=by
    have:=hw.arK (k:=16) h16;exact this
   omega
  ·omega
theorem u7 {u:Int} {dims:Nat} (t:Tree):WF dims t->∀s,Up s (em u t s) t.size (cnt t) 16:=by
 refine Tree.ind (P:=fun t=>WF dims t->∀s,Up s (em u t s) t.size (cnt t) 16) (fun n ks ih hw s=>?_) t;have hk:∀k∈ks,∀s,Up s (em u k s) k.size (cnt k) 16:=fun k hk=>ih k hk ((uj.1 hw).2 k hk)
 have hg:ue n=true:=hw.good.1;have har:=fun (k:Int) (h:nK n=k)=>hw.arK (k:=k) h
 have hall:=Vo ks hk s;have hnode:=(uj.1 hw).1.2;have z:∀k:Int,nK n=k->(0:Nat)=(bif decide ((get yE x6 k.toNat).1>=0) then (get yE x6 k.toNat).1.toNat else (nC n).toNat)->ks=[]:=fun k h e=>by
  have:=har k h;exact List.eq_nil_of_length_eq_zero (this.trans e.symm)
 rw[Qq,uX,T9];rcases tU hg with h | h | h | h | h | h | h | h | h | h | h | h | h | h | h | h
 ·have:=z 1 h rfl; subst this
  rw[emN1 h,tE (by omega) (by omega) (by omega)]; exact (tK s 1 _ 16).mono (by simp[yo])
 ·have:=z 2 h rfl; subst this
  rw[emN2 h,tE (by omega) (by omega) (by omega)]; exact (tK s 1 _ 16).mono (by simp[yo])
 ·have:=z 3 h rfl; subst this
  rw[emN3 h,tE (by omega) (by omega) (by omega)]; exact (vb s 2 _ 16).mono (by simp[yo])
 ·have:=z 4 h rfl; subst this
  rw[emN4 h,tE (by omega) (by omega) (by omega)]; exact (vb s 3 _ 16).mono (by simp[yo])
 ·rw[emN5 h,tE (by omega) (by omega) (by omega)]; exact (hall.trans (vb _ _ 0 16)).mono (by omega)
 ·rw[emN6 h,tE (by omega) (by omega) (by omega)]; exact (hall.trans (vb _ _ 0 16)).mono (by omega)
 ·rw[emN7 h,tE (by omega) (by omega) (by omega)]; exact (hall.trans (vb _ _ 0 16)).mono (by omega)
 ·rw[emN8 h,tE (by omega) (by omega) (by omega)]; exact (hall.trans (vb _ _ 0 16)).mono (by omega)
 ·obtain ⟨h2,_,_⟩:=hw.several (.inl h)
  have h2:2<=ks.length:=h2;cases ks with
  | nil=>simp at h2
  | cons k r =>
   have hu:=(hk k (by simp) s).trans (Yq (op:=8) r (fun x hx=>hk x (by simp[hx])) (em u k s));rw[emN9 h,cntN9 (.inl h),xx,show (List.map cnt (k::r)).sum+((List.map cnt (k::r)).length-1)=cnt k+((List.map cnt r).sum+r.length) by simp; omega];exact hu.mono (by simp only[List.length_append]; unfold Tree.size; omega)
 ·obtain ⟨h2,_,_⟩:=hw.several (.inr h)
  have h2:2<=ks.length:=h2;cases ks with
  | nil=>simp at h2
  | cons k r =>
   have hu:=(hk k (by simp) s).trans (Yq (op:=9) r (fun x hx=>hk x (by simp[hx])) (em u k s));rw[Qx h,cntN9 (.inr h),xx,show (List.map cnt (k::r)).sum+((List.map cnt (k::r)).length-1)=cnt k+((List.map cnt r).sum+r.length) by simp; omega];exact hu.mono (by simp only[List.length_append]; unfold Tree.size; omega)
 ·rw[Qw h,tE (by omega) (by omega) (by omega)]; exact (hall.trans (tK _ _ _ 16)).mono (by omega)
 ·rw[Qv h,tE (by omega) (by omega) (by omega)]; exact (hall.trans (tK _ _ _ 16)).mono (by omega)
 ·rw[Qu h,tE (by omega) (by omega) (by omega)]; exact (hall.trans (Vn _ _ _ (qu hnode))).mono (by omega)
 ·rw[Qt h,tE (by omega) (by omega) (by omega)]; exact (hall.trans (Vn _ _ _ (qu hnode))).mono (by omega)
 ·rw[Qs h,tE (by omega) (by omega) (by omega)]; exact (hall.trans (vb _ _ _ 16)).mono (by omega)
 ·obtain ⟨a,b,c,rfl⟩:=three (show ks.length=3 from har 16 h)
  have hu:=up_tst (n:=n) (hk a (by simp)) (hk b (by simp)) (hk c (by simp)) s;rw[Qr h,cntN16 h,xx,xx,uz,show (List.map cnt [a,b,c]).sum=cnt a+cnt b+cnt c by simp; omega];exact hu.mono (by simp only[List.length_append]; unfold Tree.size; omega)
def AtT (T s:Tree) (b:Nat):Prop:=∃x y,T.subs=x++s.subs++y/\x.length=b
theorem AtT.self (T:Tree):AtT T T 0:=⟨[],[],by simp,rfl⟩
theorem Zv (k:Tree) (l:List Tree):wS (k::l)=k.subs++wS l:=by simp[wS]
theorem Ys:∀l:List Tree,(wS l).length=(yo l).length
 | []=>rfl
 | k::l=>by rw[Zv,xx,List.length_append,List.length_append,ZU,Ys l]
theorem AtT.kid {T:Tree} {n:zo.T} {pre post:List Tree} {k:Tree} {b:Nat} (h:AtT T (.nd n (pre++k::post)) b):AtT T k (b+(yo pre).length):=by
 obtain ⟨x,y,e,rfl⟩:=h;rw[qW,Yt,Zv] at e;exact ⟨x++wS pre,wS post++[.nd n (pre++k::post)]++y,by rw[e]; simp,by rw[List.length_append,Ys]⟩
theorem AtT.le {T s:Tree} {b:Nat} (h:AtT T s b):b+s.size<=T.size:=by
 obtain ⟨x,y,e,rfl⟩:=h;have:=congrArg List.length e;simp only[List.length_append,ZU] at this;unfold Tree.size;omega
theorem AtT.last {T s:Tree} {b:Nat} (h:AtT T s b):T.subs[b+s.size-1]?=some s:=by
 obtain ⟨x,y,e,rfl⟩:=h;obtain ⟨n,ks⟩:=s;have h1:(Tree.nd n ks).size=(wS ks).length+1:=by rw[uX,Ys]
 rw[e,h1,qW,List.append_assoc,List.getElem?_append_right (by omega),List.append_assoc,List.getElem?_append_right (by omega)];rw[show x.length+((wS ks).length+1)-1-x.length-(wS ks).length=0 by omega];rfl
theorem S0 (t:Tree):t.subs.map Tree.root=t.flat:=by
 refine Tree.ind (P:=fun t=>t.subs.map Tree.root=t.flat) (fun n ks ih=>?_) t;rw[qW,Xq,List.map_append];congr 1
 have:∀l:List Tree,(∀k∈l,k.subs.map Tree.root=k.flat)->(wS l).map Tree.root=yo l:=by
  intro l;induction l with
  | nil=>intro _; rfl
  | cons k l ihl=>intro h; rw[Zv,xx,List.map_append,h k (by simp),ihl fun x hx=>h x (by simp[hx])]
 exact this ks ih
theorem AtT.node {T s:Tree} {b:Nat} (h:AtT T s b):T.flat[b+s.size-1]?=some s.root:=by
 rw[<-S0,List.getElem?_map,h.last]; rfl
theorem U0:∀(l:List Tree) (i j:Nat) (t:Tree),l[j]?=some t->(vG i l)[j]?=some ((i+j+1-t.size:Nat):Int)
 | [],i,j,t,h=>by simp at h
 | x::l,i,0,t,h=>by
  simp at h; subst h; rfl
 | x::l,i,j+1,t,h=>by
  have:=U0 l (i+1) j t (by simpa using h);rw[show i+1+j+1=i+(j+1)+1 by omega] at this;simpa [vG] using this
theorem AtT.first {T s:Tree} {b:Nat} (h:AtT T s b):(vG 0 T.subs)[b+s.size-1]?=some (b:Int):=by
 have hp:=vI s;rw[U0 T.subs 0 _ s h.last];congr 2; omega
theorem VL {l:List Int} {i:Nat} {v:Int} (h:l[i]?=some v):get (.int .i64) l ((i:Int)).toNat=v:=by
 show l.getD i _=v;rw[List.getD_eq_getElem?_getD,h]; rfl
theorem tw {α:Type} {l:List α} {i:Nat} {v:α} (h:l[i]?=some v):i<l.length:=(List.getElem?_eq_some_iff.1 h).1
def kps:Nat->List Tree->List Int
 | _,[]=>[]
 | b,k::r=>((b:Int)+(k.size:Int)-1)::kps (b+k.size) r
theorem SB:∀(a c:List Tree) (b:Nat),kps b (a++c)=kps b a++kps (b+(yo a).length) c
 | [],c,b=>by simp[kps,yo]
 | k::r,c,b=>by
  simp only[List.cons_append,kps,SB r c,xx,List.length_append];rw[show b+k.size+(yo r).length=b+(k.flat.length+(yo r).length) by unfold Tree.size; omega]
theorem tT:∀(l:List Tree) (b:Nat),(kps b l).length=l.length
 | [],b=>rfl
 | k::r,b=>by simp[kps,tT r]
theorem get_i {l:List Int} {i:Nat} (h:i<l.length):get (.int .i64) l i=l[i]:=by
 show l.getD i _=_;rw[List.getD_eq_getElem?_getD,List.getElem?_eq_getElem h]; rfl
theorem Uw (F:Nat) {R:Type} (kk:List Int->Option R):∀(d i fu:Nat) (s:List Int),i+d<=s.length->d<fu->s.length<=4194304->
  ∃s',zt.l1 F (fun _ _ _ s=>kk s) fu (i:Int) ((i:Int)+(d:Int)-1) s=kk s'/\s'.length=s.length/\∀k,s'[k]?=if i<=k/\k<i+d then s[i+(i+d-1-k)]? else s[k]?
 | d,i,0,s,_,h,_=>by omega
 | 0,i,fu+1,s,h1,h2,h3=>by
  refine ⟨s,?_,rfl,fun k=>by rw[if_neg (by omega)]⟩;unfold zt.l1 zt.l1.body;rw[decide_eq_false (by omega)]; rfl
 | 1,i,fu+1,s,h1,h2,h3=>by
  refine ⟨s,?_,rfl,fun k=>?_⟩
  ·unfold zt.l1 zt.l1.body
   rw[decide_eq_false (by omega)]; rfl
  ·split
   ·rename_i h
    rw[show i+(i+1-1-k)=k by omega]
   ·rfl
 | d+2,i,fu+1,s,h1,h2,h3=>by
  obtain ⟨s',e,hl,hs⟩:=Uw F kk d (i+1) fu ((s.set i (s[i+d+1]'(by omega))).set (i+d+1) (s[i]'(by omega))) (by simp; omega) (by omega) (by simpa using h3);simp only[List.length_set] at hl;refine ⟨s',?_,hl,fun k=>?_⟩
  ·unfold zt.l1 zt.l1.body
   have ej:(i:Int)+((d+2:Nat):Int)-1=((i+d+1:Nat):Int):=by omega
   rw[ej,decide_eq_true (show (i:Int)<((i+d+1:Nat):Int) by omega)];simp only[cond_true,Int.toNat_natCast,List.length_set];rw[xf (show i+d+1<s.length by omega),xf (show i<s.length by omega)];simp only[cond_true];rw[get_i (show i+d+1<s.length by omega),get_i (show i<s.length by omega),yR (by omega) (by omega),yR (by omega) (by omega)];rw[show (i:Int)+1=((i+1:Nat):Int) by omega,show ((i+d+1:Nat):Int)-1=((i+1:Nat):Int)+(d:Int)-1 by omega];exact e
  ·rw[hs k]
   by_cases h1':i+1<=k/\k<i+1+d
   ·rw[if_pos h1',if_pos (by omega)]
    rw[List.getElem?_set_ne (by omega),List.getElem?_set_ne (by omega)];congr 1; omega
   ·rw[if_neg h1']
    by_cases hk:k=i
    ·subst hk
     rw[if_pos (by omega),List.getElem?_set_ne (by omega),List.getElem?_set_self (by omega)];rw[show k+(k+(d+2)-1-k)=k+d+1 by omega,List.getElem?_eq_getElem (by omega)]
    ·by_cases hk2:k=i+d+1
     ·subst hk2
      rw[if_pos (by omega),List.getElem?_set_self (by simp; omega)];rw[show i+(i+(d+2)-1-(i+d+1))=i by omega,List.getElem?_eq_getElem (by omega)]
     ·rw[if_neg (by omega),List.getElem?_set_ne (by omega),List.getElem?_set_ne (by omega)]
theorem Tt (F:Nat) (s:List Int) (hF:s.length<F) (hl:s.length<=4194304):zt.sh F s=some ((),(s.reverse,())):=by
 obtain ⟨s',e,h1,h2⟩:=Uw F (fun s1=>(some ((),(s1,())):Option zt.sg.R)) s.length 0 F s (by omega) hF hl;have:s'=s.reverse:=by
  apply List.ext_getElem?;intro k;rw[h2 k];by_cases hk:k<s.length
  ·rw[if_pos (by omega),List.getElem?_reverse (by omega)]
   congr 1; omega
  ·rw[if_neg (by omega),List.getElem?_eq_none (by omega),List.getElem?_eq_none (by simp; omega)]
 subst this;unfold zt.sh;rw[yR (by omega) (by omega)];rw[show ((0:Nat):Int)+(s.length:Int)-1=(s.length:Int)-1 by omega] at e;exact e
def emZ (m:EmM):EmM:=(m.1,m.2.1,m.2.2.1,(m.2.2.2.1.1,m.2.2.2.1.2.1,[],[],[],[]),m.2.2.2.2)
theorem kids_l2 (me:za.M) (F:Nat) {R:Type} (k0:za.l2.K0 R) (m:EmM) (sz:List Int) (C:List zg.T) (S:List (List zy.T)) (K:List zK.T) {T t:Tree} {b:Nat} (hT:T.size<=1024) (ht:AtT T t b) (hf:m.2.1=vG 0 T.subs) :
  ∀(a c:List Tree) (out:List Int) (fu:Nat),t.kids=a++c->out.length=c.length->a.length<fu->c.length<=1024->
   za.l2 me F k0 fu ((b+t.size-1:Nat):Int) ((b:Int)+((yo a).length:Int)-1) (emZ m) out sz C S K=k0 ((b+t.size-1:Nat):Int) ((b:Int)-1) false (emZ m) (out++(kps b a).reverse) sz C S K:=by
 intro a;induction hn:a.length generalizing a with
 | zero =>
  intro c out fu he ho hfu hc;have:a=[]:=List.eq_nil_of_length_eq_zero hn;subst this;obtain ⟨fu,rfl⟩:∃k,fu=k+1:=⟨fu-1,by omega⟩;have hfirst:=ht.first;have hlt:=tw hfirst;unfold za.l2 za.l2.body;rw[show (emZ m).2.1=vG 0 T.subs from hf,xf hlt,VL hfirst,cond_true];rw[show ((yo ([]:List Tree)).length:Int)=0 from rfl,Int.add_zero,decide_eq_false (show ¬((b:Int)-1>=(b:Int)) by omega)];simp only[cond_false,kps,List.reverse_nil,List.append_nil];rw[<-hf]; rfl
 | succ d ih =>
  intro c out fu he ho hfu hc;obtain ⟨fu,rfl⟩:∃k,fu=k+1:=⟨fu-1,by omega⟩;obtain ⟨init,k,rfl⟩:∃init k,a=init++[k]:=by
   rcases List.eq_nil_or_concat a with h | ⟨i,k,h⟩
   ·rw[h] at hn; simp at hn
   ·exact ⟨i,k,by rw[h,List.concat_eq_append]⟩
  have hn:init.length=d:=by simpa using hn
  have hk:AtT T k (b+(yo init).length):=by
   obtain ⟨n,ks⟩:=t;have he:ks=init++[k]++c:=he;rw[he,List.append_assoc] at ht;exact ht.kid
  have hfirst:=ht.first;have hlt:=tw hfirst;have hkf:=hk.first;have hklt:=tw hkf;have hkp:=vI k;have hle:=hk.le;have ih:=ih init hn (k::c) (out++[((b:Int)+((yo init).length:Int)+(k.size:Int)-1)]) fu (by rw[he]; simp) (by simp; omega) (by simp at hfu; omega) (by
   have h1:=ht.le;have h2:t.kids.length<=t.size:=by
    obtain ⟨n,ks⟩:=t;rw[uX]; have:=vX ks; show ks.length<=_; omega
   rw[he] at h2; simp at h2 ⊢; omega)
  unfold za.l2 za.l2.body;rw[show (emZ m).2.1=vG 0 T.subs from hf,xf hlt,VL hfirst,cond_true];rw[uA,uz,List.length_append];have e1:(b:Int)+(((yo init).length+k.flat.length:Nat):Int)-1=((b+(yo init).length+k.size-1:Nat):Int):=by unfold Tree.size at hkp ⊢; omega
  rw[e1,decide_eq_true (show ((b+(yo init).length+k.size-1:Nat):Int)>=(b:Int) by omega),vc (by simp; omega),xf hklt,VL hkf];simp only[cond_true];rw[yR (by omega) (by omega)];have e2:(((b+(yo init).length:Nat):Int)-1)=(b:Int)+((yo init).length:Int)-1:=by omega
  rw[e2];have e3:((b+(yo init).length+k.size-1:Nat):Int)=(b:Int)+((yo init).length:Int)+(k.size:Int)-1:=by omega
  rw[e3,<-hf];refine Eq.trans ih ?_;rw[SB,List.reverse_append];simp only[kps,List.reverse_cons,List.reverse_nil,List.nil_append,List.append_assoc,List.cons_append];rw[show ((b+(yo init).length:Nat):Int)+(k.size:Int)-1=(b:Int)+((yo init).length:Int)+(k.size:Int)-1 by omega]
def Room (s:EmS) (n:Nat):Prop:=s.1.length+n<=8192/\s.2.1.length+n<=8192/\s.2.2.length+2*n<=16384/\∀x∈s.2.1,x.length<=16
theorem Room.up {s s':EmS} {a c k:Nat} (h:Room s (a+c)) (hu:Up s s' a k 16) (hk:k<=2*a):Room s' c:=by
 obtain ⟨h1,h2,h3,h4⟩:=h;have a1:=hu.Cn; have a2:=hu.Sn; have a3:=hu.Kn;exact ⟨by omega,by omega,by omega,hu.T h4⟩
theorem Room.le {s:EmS} {a b:Nat} (h:Room s b) (hab:a<=b):Room s a:=⟨by have:=h.1; omega,by have:=h.2.1; omega,by have:=h.2.2.1; omega,h.2.2.2⟩
def KidsOK (me:za.M) (m:EmM) (u:Int) (dims b:Nat) (ks:List Tree):Prop :=
 ∀pre k post,ks=pre++k::post->WF dims k/\∀s,Room s k.size->me (emW m s) (((b+(yo pre).length:Nat):Int)+(k.size:Int)-1)=some ((),(emW m (em u k s),()))
theorem KidsOK.tail {me:za.M} {m:EmM} {u:Int} {dims b:Nat} {k:Tree} {ks:List Tree} (h:KidsOK me m u dims b (k::ks)):KidsOK me m u dims (b+k.size) ks:=by
 intro pre x post e;obtain ⟨h1,h2⟩:=h (k::pre) x post (by rw[e]; rfl);refine ⟨h1,fun s hs=>?_⟩;rw[xx,List.length_append] at h2;have:=h2 s hs;rwa [show b+(k.flat.length+(yo pre).length)=b+k.size+(yo pre).length by unfold Tree.size; omega] at this
theorem KidsOK.head {me:za.M} {m:EmM} {u:Int} {dims b:Nat} {k:Tree} {ks:List Tree} (h:KidsOK me m u dims b (k::ks)):WF dims k/\∀s,Room s k.size->me (emW m s) ((b:Int)+(k.size:Int)-1)=some ((),(emW m (em u k s),())):=h [] k ks rfl
theorem Uu {u:Int} {dims:Nat} {k:Tree} {s:EmS} {c:Nat} (hw:WF dims k) (h:Room s (k.size+c)):Room (em u k s) c:=by
 have h1:=u7 (u:=u) k hw s;have h2:=uO k hw;exact h.up h1 (by omega)
theorem Q1 (me:za.M) (F:Nat) {R:Type} (k0:zk.l1.K0 R) (t6:List Int) (t7:Int) (m:EmM) (u:Int) (dims:Nat) (G:EmS->Option R) (hG:∀i x s,k0 t6 t7 i x (emZ m) m.2.2.2.1.2.2.1 s.1 s.2.1 s.2.2=G s) :
  ∀(ks:List Tree) (b:Nat) (i:Int) (s:EmS),KidsOK me m u dims b ks->Room s ((yo ks).length)->
   zk.l1.rg me F k0 t6 t7 (kps b ks) i (emZ m) m.2.2.2.1.2.2.1 s.1 s.2.1 s.2.2=G (tm (ks.map (em u)) s)
 | [],b,i,s,_,_=>hG i _ s
 | k::ks,b,i,s,h,hr=>by
  obtain ⟨hw,hme⟩:=h.head;rw[xx,List.length_append] at hr;have hr:Room s (k.size+(yo ks).length):=hr;have ih:=Q1 me F k0 t6 t7 m u dims G hG ks (b+k.size) (i+1) (em u k s) h.tail (Uu hw hr);unfold kps zk.l1.rg;have e:me ((emZ m).1,(emZ m).2.1,(emZ m).2.2.1,((emZ m).2.2.2.1.1,(emZ m).2.2.2.1.2.1,m.2.2.2.1.2.2.1,s.1,s.2.1,s.2.2),(emZ m).2.2.2.2) ((b:Int)+(k.size:Int)-1)=some ((),(emW m (em u k s),())):=hme s (hr.le (by omega));rw[e,zE];exact ih
theorem WX {ks:List Tree} {b:Nat} (h:ks.length<=1024):(kps b ks).length<9223372036854775807:=by rw[tT]; omega
theorem em_all (me:za.M) (F:Nat) (hF:4096<F) (m:EmM) (u:Int) (dims:Nat) {ks:List Tree} {b:Nat} {s:EmS} (h:KidsOK me m u dims b ks) (hr:Room s (yo ks).length) (hl:ks.length<=1024) :
  zk.sh me F (emW m s) (kps b ks)=some ((),(emW m (tm (ks.map (em u)) s),())):=by
 unfold zk.sh;refine (zk.l1.rg_eq me F _ (kps b ks) _ rfl (WX hl) (kps b ks) 0 F _ _ _ _ _ rfl (by rw[tT]; omega)).trans ?_;exact Q1 me F (fun t62 t72 t82 t92 m2 m_92 m_102 m_112 m_122=>some ((()),((m2.1,m2.2.1,m2.2.2.1,(m2.2.2.2.1.1,m2.2.2.2.1.2.1,m_92,m_102,m_112,m_122),m2.2.2.2.2),()))) (kps b ks) _ m u dims
  (fun s=>some ((),(emW m s,()))) (fun _ _ _=>rfl) ks b 0 s h hr
theorem UC (F:Nat) (m:EmM) (s:EmS) (op arg:Int) (h:Room s 1):zr.sh F (emW m s) op arg=some ((),(emW m (wQ s op arg),())):=VV F m s.1 s.2.1 s.2.2 op arg (by have:=h.2.2.1; omega)
theorem Td (F:Nat) (hF:16384<F) (m:EmM) (s:EmS) (op:Int) (w:zg.T) {R:Type} (K:zr.sg.R->Option R) (h:Room s 1) :
  (oB (zA.sh F (emW m s) w) fun c=>oB (zr.sh F c.2.1 op c.1.1) K)=K ((),(emW m (wN s op w),())):=by
 have h1:=h.1; have h2:=h.2.2.1;rw[U5 F m s.1 s.2.1 s.2.2 w (by omega) (by omega),zE];have:=VV F m (Zp s.1 w).2 s.2.1 s.2.2 op ((Zp s.1 w).1:Int) (by omega);rw[this,zE]; rfl
theorem scl_s (F:Nat) (hF:4194304<=F) (m:EmM) (s:EmS) (op:Int) (t:List zy.T) {R:Type} (K:zr.sg.R->Option R) (h:Room s 1) (ht:t.length<=16) :
  (oB (zU.sh F (emW m s) t) fun c=>oB (zr.sh F c.2.1 op c.1.1) K)=K ((),(emW m (Ws s op t),())):=by
 have h1:=h.2.1; have h2:=h.2.2.1;rw[Qp F m s.1 s.2.1 s.2.2 t (fun l hl=>by have:=h.2.2.2 l hl; omega) (by omega) (by omega) (by omega),zE];have:=VV F m s.1 (Zy s.2.1 t).2 s.2.2 op ((Zy s.2.1 t).1:Int) (by omega);rw[this,zE]; rfl
theorem RO (me:za.M) (F:Nat) {R:Type} (k0:zb.l6.K0 R) (t18:List Int) (t19:Int) (op:Int) (m:EmM) (u:Int) (dims:Nat) (G:EmS->Option R) (hG:∀i x s,k0 op t18 t19 i x (emZ m) m.2.2.2.1.2.2.1 s.1 s.2.1 s.2.2=G s) :
  ∀(ks:List Tree) (b:Nat) (i:Int) (s:EmS),KidsOK me m u dims b ks->Room s ((yo ks).length)->
   zb.l6.rg me F k0 t18 t19 (kps b ks) i op (emZ m) m.2.2.2.1.2.2.1 s.1 s.2.1 s.2.2=G ((ks.map (em u)).foldl (fun s k=>wQ (k s) op 0) s)
 | [],b,i,s,_,_=>hG i _ s
 | k::ks,b,i,s,h,hr=>by
  obtain ⟨hw,hme⟩:=h.head;rw[xx,List.length_append] at hr;have hr:Room s (k.size+(yo ks).length):=hr;have hu:=(u7 (u:=u) k hw s);have hc:=uO k hw;have hr2:Room (wQ (em u k s) op 0) (yo ks).length:=hr.up ((hu.trans (vb (em u k s) op 0 16)).mono (by omega)) (by omega);have ih:=RO me F k0 t18 t19 op m u dims G hG ks (b+k.size) (i+1) (wQ (em u k s) op 0) h.tail hr2;unfold kps zb.l6.rg;have e:me ((emZ m).1,(emZ m).2.1,(emZ m).2.2.1,((emZ m).2.2.2.1.1,(emZ m).2.2.2.1.2.1,m.2.2.2.1.2.2.1,s.1,s.2.1,s.2.2),(emZ m).2.2.2.2) ((b:Int)+(k.size:Int)-1)=some ((),(emW m (em u k s),())):=hme s (hr.le (by omega));rw[e,zE];simp only;have hp:=VV F m (em u k s).1 (em u k s).2.1 (em u k s).2.2 op 0 (by have:=hr.2.2.1; have:=hu.Kn; omega);have hp':zr.sh F (emW m (em u k s)) op 0=some ((),(emW m (wQ (em u k s) op 0),())):=hp;rw[hp',zE];exact ih
theorem We (me:za.M) (F:Nat) (hF:16384<F) (m:EmM) (u:Int) (dims:Nat) {ks:List Tree} {b:Nat} {s:EmS} {n:zo.T} {op:Int} (h:KidsOK me m u dims b ks) (hr:Room s (yo ks).length) (h1:1<=ks.length) (hl:ks.length<=1024)
  (hop:(n.1=10/\op=9)\/(n.1≠10/\op=8)):zb.sh me F (emW m s) n (kps b ks)=some ((),(emW m (S2 op (ks.map (em u)) s),())):=by
 cases ks with
 | nil=>simp at h1
 | cons k ks =>
  have key:∀op:Int,zb.j4 me F (fun op5 t185 t195 t205 t215 m5 m_95 m_105 m_115 m_125=>(some ((()),((m5.1,m5.2.1,m5.2.2.1,(m5.2.2.2.1.1,m5.2.2.2.1.2.1,m_95,m_105,m_115,m_125),m5.2.2.2.2),())):Option zb.sg.R)) (kps b (k::ks)) op (emZ m) m.2.2.2.1.2.2.1 s.1 s.2.1 s.2.2 =
    some ((),(emW m (S2 op ((k::ks).map (em u)) s),())):=by
   intro op;obtain ⟨hw,hme⟩:=h.head;rw[xx,List.length_append] at hr;have hr:Room s (k.size+(yo ks).length):=hr;have hlen:(kps b (k::ks)).length=ks.length+1:=by rw[tT]; rfl
   have e:me ((emZ m).1,(emZ m).2.1,(emZ m).2.2.1,((emZ m).2.2.2.1.1,(emZ m).2.2.2.1.2.1,m.2.2.2.1.2.2.1,s.1,s.2.1,s.2.2),(emZ m).2.2.2.2) ((b:Int)+(k.size:Int)-1)=some ((),(emW m (em u k s),())):=hme s (hr.le (by omega));unfold zb.j4;rw[X0 (by omega),cond_true];rw[show get (.int .i64) (kps b (k::ks)) 0=(b:Int)+(k.size:Int)-1 from rfl,e,zE];have hb:zB (kps b (k::ks)).length (some 1) none=(true,1,(kps b (k::ks)).length):=tH (i:=1) (by omega);rw[hb];simp only[cond_true,List.take_length];rw[show (kps b (k::ks)).drop 1=kps (b+k.size) ks from rfl];simp only[List.length_cons] at hl;refine (zb.l6.rg_eq me F _ (kps (b+k.size) ks) _ rfl (WX (by omega)) (kps (b+k.size) ks) 0 F op _ _ _ _ _ rfl (by rw[tT]; omega)).trans ?_;exact RO me F _ (kps (b+k.size) ks) _ op m u dims (fun s=>some ((),(emW m s,()))) (fun _ _ _=>rfl) ks (b+k.size) 0 (em u k s) h.tail (Uu hw hr)
  unfold zb.sh;rcases hop with ⟨h2,rfl⟩ | ⟨h2,rfl⟩
  ·rw[h2]; exact key 9
  ·rw[show (n.1==10)=false from by simpa using h2]; exact key 8
theorem em_test (me:za.M) (F:Nat) (hF:16384<F) (m:EmM) (u:Int) (dims:Nat) {x y z:Tree} {b:Nat} {s:EmS} {n:zo.T} (h:KidsOK me m u dims b [x,y,z]) (hr:Room s (x.size+y.size+z.size+1)) (hN:0<=nN n) (hN2:nN n<=1000000000000) (ho:1<=nO n) (ho2:nO n<=6) :
  yj.sh me F (emW m s) n (kps b [x,y,z])=some ((),(emW m (Uh n ([x,y,z].map (em u)) s),())):=by
 obtain ⟨hw1,hme1⟩:=h.head;obtain ⟨hw2,hme2⟩:=h.tail.head;obtain ⟨hw3,hme3⟩:=h.tail.tail.head;have u1:=u7 (u:=u) x hw1 s;have c1:=uO x hw1;have c2:=uO y hw2;have c3:=uO z hw3;have r1:Room (em u x s) (1+(y.size+z.size)):=(hr.le (by omega):Room s (x.size+(1+(y.size+z.size)))).up u1 (by omega);have u2:=tK (em u x s) (15+nO n) (mk (nN n)) 16;have r2:Room (wN (em u x s) (15+nO n) (mk (nN n))) (y.size+z.size):=r1.up u2 (by omega);have u3:=u7 (u:=u) y hw2 (wN (em u x s) (15+nO n) (mk (nN n)));have hz:=vI z;have u4:=vb (em u y (wN (em u x s) (15+nO n) (mk (nN n)))) 15 0 16;have r4:Room (wQ (em u y (wN (em u x s) (15+nO n) (mk (nN n)))) 15 0) z.size:=r2.up ((u3.trans u4).mono (by omega)) (by omega);have r3:Room (em u y (wN (em u x s) (15+nO n) (mk (nN n)))) 1:=(r2.up u3 (by omega)).le hz;have u5:=u7 (u:=u) z hw3 (wQ (em u y (wN (em u x s) (15+nO n) (mk (nN n)))) 15 0);have r5:=(show Room (wQ (em u y (wN (em u x s) (15+nO n) (mk (nN n)))) 15 0) (z.size+0) from r4).up u5 (by omega);have k1:=u1.Kn; have k2:=u2.Kn; have k3:=u3.Kn; have k4:=u4.Kn; have k5:=u5.Kn;have b5:=r5.2.2.1;unfold yj.sh;rw[show (kps b [x,y,z]).length=3 from rfl,X0 (by omega),idx1 (by omega),show idx 2 3=true from rfl];simp only[cond_true];rw[show get (.int .i64) (kps b [x,y,z]) 0=(b:Int)+(x.size:Int)-1 from rfl,hme1 s (hr.le (by omega)),zE];rw[show yt.sh F n.2.1=some ((mk (nN n),()),()) from uF F (v:=nN n) (by omega) (by omega),zE];rw[show i64.wrap (15+n.2.2.1)=15+nO n from yR (n:=15+nO n) (by omega) (by omega)];simp only
 rw[Td F hF m (em u x s) (15+nO n) (mk (nN n)) _ (r1.le (by omega))];simp only;rw[show get (.int .i64) (kps b [x,y,z]) 1=((b+x.size:Nat):Int)+(y.size:Int)-1 from rfl,hme2 _ (r2.le (by omega)),zE];simp only;rw[UC F m _ 15 0 r3,zE];simp only;rw[show get (.int .i64) (kps b [x,y,z]) 2=((b+x.size+y.size:Nat):Int)+(z.size:Int)-1 from rfl,hme3 _ r4,zE];generalize hs1:em u x s=s1 at*;generalize hs3:em u y (wN s1 (15+nO n) (mk (nN n)))=s3 at*;generalize hs5:em u z (wQ s3 15 0)=s5 at*;have e2:Ui n ([x,y,z].map (em u)) s=s3:=by
  show em u y (wN (em u x s) (15+nO n) (mk (nN n)))=s3;rw[hs1,hs3]
 have e3:Vp n ([x,y,z].map (em u)) s=s5:=by
  show em u z (wQ (Ui n ([x,y,z].map (em u)) s) 15 0)=s5;rw[e2,hs5]
 have e1:kF ([x,y,z].map (em u)) 0 s=s1:=hs1;unfold Uh;rw[e3,e2,e1];simp only[show ∀s:EmS,(emW m s).2.2.2.1.2.2.2.2.2=s.2.2 from fun _=>rfl,List.length_set,Int.toNat_natCast];rw[xf (show s1.2.2.length<s5.2.2.length by omega),xf (show s3.2.2.length<s5.2.2.length by omega)];simp only[cond_true];rw[yR (n:=(s3.2.2.length:Int)-(s1.2.2.length:Int)) (by omega) (by omega),yR (n:=(s5.2.2.length:Int)-(s3.2.2.length:Int)) (by omega) (by omega),yR (n:=(s5.2.2.length:Int)-(s3.2.2.length:Int)-1) (by omega) (by omega)];rfl
def x8:List Nat:=[Ty.dflt .fnb,xR,xV,y9,y9,yB,yB,yB,yB,xg,xg,xF,xF,xi,xi,we,x9]
theorem T7 (me:za.M) (F:Nat) (m:EmM) (n:zo.T) (l:List Int):za.d50 me F xR (m,n,l,())=z6.sh F m n l:=rfl
theorem Ru (me:za.M) (F:Nat) (m:EmM) (n:zo.T) (l:List Int):za.d50 me F xV (m,n,l,())=ye.sh F m n l:=rfl
theorem Yl (me:za.M) (F:Nat) (m:EmM) (n:zo.T) (l:List Int):za.d50 me F y9 (m,n,l,())=zM.sh F m n l:=rfl
theorem qc (me:za.M) (F:Nat) (m:EmM) (n:zo.T) (l:List Int):za.d50 me F yB (m,n,l,())=zW.sh me F m n l:=rfl
theorem Y6 (me:za.M) (F:Nat) (m:EmM) (n:zo.T) (l:List Int):za.d50 me F xg (m,n,l,())=zb.sh me F m n l:=rfl
theorem SR (me:za.M) (F:Nat) (m:EmM) (n:zo.T) (l:List Int):za.d50 me F xF (m,n,l,())=yp.sh me F m n l:=rfl
theorem Wi (me:za.M) (F:Nat) (m:EmM) (n:zo.T) (l:List Int):za.d50 me F xi (m,n,l,())=zX.sh me F m n l:=rfl
theorem d50_off (me:za.M) (F:Nat) (m:EmM) (n:zo.T) (l:List Int):za.d50 me F we (m,n,l,())=yv.sh me F m n l:=rfl
theorem QG (me:za.M) (F:Nat) (m:EmM) (n:zo.T) (l:List Int):za.d50 me F x9 (m,n,l,())=yj.sh me F m n l:=rfl
theorem op_of {n:zo.T} (h:nK n=16) (ho:opB n=true):1<=nO n/\nO n<=6:=by
 unfold opB at ho;have e:qM n=get yE x6 16:=by unfold qM; rw[show (nK n).toNat=16 by rw[h]; rfl]
 rw[e] at ho;have ho:(decide (nO n>=1)&&decide (nO n<=6))=true:=ho;simpa using ho
theorem em_kind (me:za.M) (F:Nat) (hF:4194304<=F) (m:EmM) {u:Int} (hu:1<=u) (hu2:u<=1000000000000000000000000) (hm:m.2.2.1=mk u) {dims b:Nat} (hd:dims<=4) {n:zo.T} {ks:List Tree} {s:EmS} (hw:WF dims (.nd n ks)) (h:KidsOK me m u dims b ks) (hr:Room s ((yo ks).length+1)) :
  za.d50 me F (get .fnb x8 (nK n).toNat) (emW m s,n,kps b ks,())=some ((),(emW m (emN u n (ks.map (em u)) s),())):=by
 have hg:ue n=true:=hw.good.1;obtain ⟨_,hN,hN2,hkids,hop,_,_,_⟩:=x5 (uj.1 hw).1.2;have hN3:=Su hd hN2 hg;have har:=fun (k:Int) (h:nK n=k)=>hw.arK (k:=k) h
 have hlen:ks.length<=1024:=by
  have h1:=SY hg hkids;have h2:ks.length=ar n:=(uj.1 hw).1.1;omega
 have z:∀k:Int,nK n=k->(0:Nat)=(bif decide ((get yE x6 k.toNat).1>=0) then (get yE x6 k.toNat).1.toNat else (nC n).toNat)->ks=[]:=fun k h e=>by
  have:=har k h;exact List.eq_nil_of_length_eq_zero (this.trans e.symm)
 have hof:yt.sh F n.2.1=some ((mk (nN n),()),()):=uF F (v:=nN n) (by omega) (by omega);have hb4:4096<F:=by omega
 have hb16:16384<F:=by omega
 have hall:=em_all me F hb4 m u dims h (hr.le (by omega)) hlen;have hua:=Vo (l:=16) ks (fun k hk=>u7 (u:=u) (dims:=dims) k ((uj.1 hw).2 k hk)) s;have hcs:(ks.map cnt).sum<=2*(yo ks).length:=by
  have:∀l:List Tree,(∀k∈l,WF dims k)->(l.map cnt).sum<=2*(yo l).length:=by
   intro l;induction l with
   | nil=>intro _; simp
   | cons k l ih =>
    intro hl;have h1:=uO k (hl k (by simp));have h2:=ih fun x hx=>hl x (by simp[hx])
    rw[xx,List.length_append];unfold Tree.size at h1;simp only[List.map_cons,List.sum_cons];omega
  exact this ks fun k hk=>(uj.1 hw).2 k hk
 have ra:Room (tm (ks.map (em u)) s) 1:=hr.up hua hcs;have simp_:∀k:Int,nK n=k->5<=k->k<=8->lkI n.1 [(5,4),(6,5),(7,6),(8,7)]=k-1->zW.sh me F (emW m s) n (kps b ks)=some ((),(emW m (wQ (tm (ks.map (em u)) s) (k-1) 0),())):=by
  intro k hk _ _ hl;unfold zW.sh;rw[hall,zE,hl];simp only;rw[UC F m _ (k-1) 0 ra,zE]
 have hF16:(nT n).length<=16:=qu (uj.1 hw).1.2;rcases tU hg with hk | hk | hk | hk | hk | hk | hk | hk | hk | hk | hk | hk | hk | hk | hk | hk
 ·have:=z 1 hk rfl; subst this
  rw[show (nK n).toNat=1 by rw[hk]; rfl,show get .fnb x8 1=xR from rfl,T7,emN1 hk];unfold z6.sh;rw[hof,zE,Td F hb16 m s 1 (mk (nN n)) _ (hr.le (by omega))]
 ·have:=z 2 hk rfl; subst this
  rw[show (nK n).toNat=2 by rw[hk]; rfl,show get .fnb x8 2=xV from rfl,Ru,emN2 hk];have hi1:inR (nN n)=true:=by unfold inR; simp; omega
  have hi2:inR u=true:=by unfold inR; simp; omega
  unfold ye.sh;rw[hof,zE,show (emW m s).2.2.1=mk u from hm];simp only;rw[Vm F (wo hi1) (wo hi2),zE,wz,wz];simp only;rw[Td F hb16 m s 1 (vm (nN n*u)) _ (hr.le (by omega))]
 ·have:=z 3 hk rfl; subst this
  rw[show (nK n).toNat=3 by rw[hk]; rfl,show get .fnb x8 3=y9 from rfl,Yl,emN3 hk];unfold zM.sh;rw[show n.1=3 from hk,show ((3:Int)==4)=false from rfl,cond_false,UC F m s 2 n.2.1 (hr.le (by omega)),zE]
 ·have:=z 4 hk rfl; subst this
  rw[show (nK n).toNat=4 by rw[hk]; rfl,show get .fnb x8 4=y9 from rfl,Yl,emN4 hk];unfold zM.sh;rw[show n.1=4 from hk,show ((4:Int)==4)=true from rfl,cond_true,UC F m s 3 n.2.1 (hr.le (by omega)),zE]
 ·rw[show (nK n).toNat=5 by rw[hk]; rfl,show get .fnb x8 5=yB from rfl,qc,emN5 hk]
  exact simp_ 5 hk (by omega) (by omega) (by rw[show n.1=5 from hk]; rfl)
 ·rw[show (nK n).toNat=6 by rw[hk]; rfl,show get .fnb x8 6=yB from rfl,qc,emN6 hk]
  exact simp_ 6 hk (by omega) (by omega) (by rw[show n.1=6 from hk]; rfl)
 ·rw[show (nK n).toNat=7 by rw[hk]; rfl,show get .fnb x8 7=yB from rfl,qc,emN7 hk]
  exact simp_ 7 hk (by omega) (by omega) (by rw[show n.1=7 from hk]; rfl)
 ·rw[show (nK n).toNat=8 by rw[hk]; rfl,show get .fnb x8 8=yB from rfl,qc,emN8 hk]
  exact simp_ 8 hk (by omega) (by omega) (by rw[show n.1=8 from hk]; rfl)
 ·obtain ⟨h2,_,_⟩:=hw.several (.inl hk)
  have h2:2<=ks.length:=h2;rw[show (nK n).toNat=9 by rw[hk]; rfl,show get .fnb x8 9=xg from rfl,Y6,emN9 hk];exact We me F hb16 m u dims h (hr.le (by omega)) (by omega) hlen (.inr ⟨by rw[show n.1=9 from hk]; decide,rfl⟩)
 ·obtain ⟨h2,_,_⟩:=hw.several (.inr hk)
  have h2:2<=ks.length:=h2;rw[show (nK n).toNat=10 by rw[hk]; rfl,show get .fnb x8 10=xg from rfl,Y6,Qx hk];exact We me F hb16 m u dims h (hr.le (by omega)) (by omega) hlen (.inl ⟨hk,rfl⟩)
 ·rw[show (nK n).toNat=11 by rw[hk]; rfl,show get .fnb x8 11=xF from rfl,SR,Qw hk]
  unfold yp.sh;rw[hall,zE,show n.1=11 from hk,show ((11:Int)==12)=false from rfl,cond_false,hof,zE];simp only;rw[Td F hb16 m _ 10 (mk (nN n)) _ ra]
 ·rw[show (nK n).toNat=12 by rw[hk]; rfl,show get .fnb x8 12=xF from rfl,SR,Qv hk]
  unfold yp.sh;rw[hall,zE,show n.1=12 from hk,show ((12:Int)==12)=true from rfl,cond_true,hof,zE];simp only;rw[Td F hb16 m _ 11 (mk (nN n)) _ ra]
 ·rw[show (nK n).toNat=13 by rw[hk]; rfl,show get .fnb x8 13=xi from rfl,Wi,Qu hk]
  unfold zX.sh;rw[hall,zE,show n.1=13 from hk,show ((13:Int)==14)=false from rfl,cond_false];simp only;rw[scl_s F hF m _ 12 (nT n) _ ra hF16]
 ·rw[show (nK n).toNat=14 by rw[hk]; rfl,show get .fnb x8 14=xi from rfl,Wi,Qt hk]
  unfold zX.sh;rw[hall,zE,show n.1=14 from hk,show ((14:Int)==14)=true from rfl,cond_true];simp only;rw[scl_s F hF m _ 13 (nT n) _ ra hF16]
 ·rw[show (nK n).toNat=15 by rw[hk]; rfl,show get .fnb x8 15=we from rfl,d50_off,Qs hk]
  unfold yv.sh;rw[hall,zE];simp only;rw[UC F m _ 14 n.2.1 ra,zE]
 ·obtain ⟨x,y,w,rfl⟩:=three (show ks.length=3 from har 16 hk)
  obtain ⟨o1,o2⟩:=op_of hk hop;rw[show (nK n).toNat=16 by rw[hk]; rfl,show get .fnb x8 16=x9 from rfl,QG,Qr hk];rw[xx,xx,uz] at hr;exact em_test me F hb16 m u dims h (hr.le (by simp only[List.length_append]; unfold Tree.size; omega)) hN hN3 o1 o2
theorem Sr (F:Nat) (hF:4194304<=F) (m:EmM) {u:Int} (hu:1<=u) (hu2:u<=1000000000000000000000000) (hm:m.2.2.1=mk u) {T:Tree} (hT:T.size<=1024) (hp:m.1.2.2.2=T.flat) (hf:m.2.1=vG 0 T.subs) (ho:m.2.2.2.2=x8) {dims:Nat} (hd:dims<=4) :
  ∀(i:Nat) (t:Tree) (b:Nat) (s:EmS),t.size<=i->WF dims t->AtT T t b->Room s t.size->za.it F i (emW m s) ((b:Int)+(t.size:Int)-1)=some ((),(emW m (em u t s),()))
 | 0,t,b,s,hi,_,_,_=>by have:=vI t; omega
 | i+1,t,b,s,hi,hw,ha,hr=>by
  obtain ⟨n,ks⟩:=t;have hsz:(Tree.nd n ks).size=(yo ks).length+1:=uX n ks;rw[hsz] at hi hr;have hkids:KidsOK (za.it F i) m u dims b ks:=by
   intro pre k post e;have hwk:WF dims k:=(uj.1 hw).2 k (by rw[e]; simp);refine ⟨hwk,fun s' hs'=>?_⟩;have hak:AtT T k (b+(yo pre).length):=by rw[e] at ha; exact ha.kid
   have hki:k.size<=i:=by
    have:=U1 (ks:=ks) (k:=k) (by rw[e]; simp);omega
   exact Sr F hF m hu hu2 hm hT hp hf ho hd i k _ s' hki hwk hak hs'
  have hle:=ha.le;have hnode:=ha.node;rw[<-hp] at hnode;have hnl:=tw hnode;have hg:ue n=true:=hw.good.1;have hgk:=(uy.1 hg);show za.sh0 (za.it F i) F (emW m s) ((b:Int)+((Tree.nd n ks).size:Int)-1)=_;unfold za.sh0;have e1:(b:Int)+((Tree.nd n ks).size:Int)-1=((b+(Tree.nd n ks).size-1:Nat):Int):=by omega
  rw[yR (by omega) (by omega)];rw[show (b:Int)+((Tree.nd n ks).size:Int)-1-1=(b:Int)+((yo ks).length:Int)-1 by omega,e1];have hkl:ks.length<=1024:=by have:=vX ks; omega
  refine (kids_l2 (za.it F i) F _ m m.2.2.2.1.2.2.1 s.1 s.2.1 s.2.2 hT ha hf ks [] [] F (by simp; rfl) rfl (by omega) (by simp)).trans ?_;simp only[List.nil_append];rw[Tt F _ (by rw[List.length_reverse,tT]; omega) (by rw[List.length_reverse,tT]; omega),zE,List.reverse_reverse];have hget:get zo m.1.2.2.2 ((b+(Tree.nd n ks).size-1:Nat):Int).toNat=n:=by
   show m.1.2.2.2.getD (b+(Tree.nd n ks).size-1) _=n;rw[List.getD_eq_getElem?_getD,hnode]; rfl
  rw[show (emZ m).1.2.2.2=m.1.2.2.2 from rfl,xf hnl,hget,show (emZ m).2.2.2.2=x8 from ho,show idx n.1 x8.length=true from XZ (by show 0<=nK n; omega) (by show nK n<17; omega)];simp only[cond_true];have key:=em_kind (za.it F i) F hF m hu hu2 hm hd hw hkids hr;rw[Qq];have e9:(((emZ m).1,(emZ m).2.1,(emZ m).2.2.1,((emZ m).2.2.2.1.1,(emZ m).2.2.2.1.2.1,m.2.2.2.1.2.2.1,s.1,s.2.1,s.2.2),x8):EmM)=emW m s:=by rw[<-ho]; rfl
  rw[e9,key,zE]
theorem Uo (F:Nat) {R:Type} (k0:zJ.l10.K0 R) (L:List yZ.T) (N:Int) (p:zI.T) (r2:zD.T) (m:EmM) (G:List Int->Option R) (hG:∀i x sz,k0 L N i x p r2 (emZ m) sz [] [] []=G sz):∀(xs:List yZ.T) (i:Int) (sz:List Int),sz.length+xs.length<=4194000->
  zJ.l10.rg F k0 L N xs i p r2 (emZ m) sz [] [] []=G (sz++xs.map (·.2))
 | [],i,sz,_=>by
  show k0 L N i _ p r2 (emZ m) sz [] [] []=_;rw[hG]; simp
 | x::xs,i,sz,h=>by
  simp only[List.length_cons] at h;have ih:=Uo F k0 L N p r2 m G hG xs (i+1) (sz++[x.2]) (by simp; omega);unfold zJ.l10.rg;rw[vc (by simp; omega),cond_true];refine Eq.trans ih ?_;simp
def Wd (p:zI.T) (t:Tree):zD.T:=(p.2.2.1,w9 t,p.2.1.map (·.2),em (uW t) t ([],[],[]))
def tB (p:zI.T) (t:Tree):zD.T×Int×Int:=bif (ve p.2.1 t).2.2 != 0 then ((0,0,[],[],[],[]),(ve p.2.1 t).2.1,(ve p.2.1 t).2.2) else (Wd p t,0,0)
theorem Qo {p:zI.T} {t:Tree} (h:(ve p.2.1 t).2.2=0):tB p t=(Wd p t,0,0):=by
 unfold tB; rw[h]; rfl
theorem Q7 (F:Nat) (hF:4194304<=F) {p:zI.T} {t:Tree} (hg:Good p t) (hU:yX.sh F p=some (((ve p.2.1 t).1,(ve p.2.1 t).2.1,(ve p.2.1 t).2.2,()),())) :
  zJ.sh F p=some (((tB p t).1,(tB p t).2.1,(tB p t).2.2,()),()):=by
 have hFb:4096<F:=by omega
 unfold zJ.sh;rw[hU,zE];simp only;cases he:((ve p.2.1 t).2.2 != 0) with
 | true =>
  rw[cond_true];unfold tB;rw[he]; rfl
 | false =>
  have h0:(ve p.2.1 t).2.2=0:=by simpa using he
  obtain ⟨_,hdeep,_,hur⟩:=RK h0;have hu:=Ug hdeep;obtain ⟨hd1,hd2,_⟩:=tX hg.head;have hs:t.size<=1024:=by unfold Tree.size; rw[hg.flat]; exact hg.len
  rw[cond_false,Vi F hFb hg,zE];simp only;rw[show yd.sh F (p,vG 0 t.subs,(ve p.2.1 t).1,(0,0,[],[],[],[]),[])=some ((x8,()),((p,vG 0 t.subs,(ve p.2.1 t).1,(0,0,[],[],[],[]),[]),())) from rfl,zE,Tk F hFb hg,zE];simp only;refine (zJ.l10.rg_eq F _ p.2.1 _ rfl (by omega) p.2.1 0 F _ _ _ _ _ _ _ rfl (by omega)).trans ?_;refine (Uo F _ p.2.1 _ p (0,0,[],[],[],[]) (p,vG 0 t.subs,(ve p.2.1 t).1,(p.2.2.1,w9 t,[],[],[],[]),x8)
   (fun sz=>oB (za.sh F (p,vG 0 t.subs,(ve p.2.1 t).1,(p.2.2.1,w9 t,sz,[],[],[]),x8) (i64.wrap ((p.2.2.2.length:Int)-1))) fun c_6=>some ((c_6.2.1.2.2.2.1,0,0,()),())) (fun _ _ _=>rfl) p.2.1 0 [] (by simp; omega)).trans ?_
  rw[List.nil_append];have hpos:=vI t;have hsz:(p.2.2.2.length:Int)-1=((0:Nat):Int)+(t.size:Int)-1:=by unfold Tree.size; rw[hg.flat]; omega
  have hn:=Sr F hF (p,vG 0 t.subs,(ve p.2.1 t).1,(p.2.2.1,w9 t,p.2.1.map (·.2),[],[],[]),x8) hu.1 hu.2 (by rw[hur]) hs hg.flat.symm rfl rfl hd2 F t 0 ([],[],[]) (by omega) hg.wf (AtT.self t) ⟨by simp; omega,by simp; omega,by simp; omega,by simp⟩
  simp only;rw[hsz,yR (by omega) (by omega)];show oB (za.it F F (emW (p,vG 0 t.subs,(ve p.2.1 t).1,(p.2.2.1,w9 t,p.2.1.map (·.2),[],[],[]),x8) ([],[],[])) _) _=_
  rw[hn,zE,Qo h0];rfl
theorem Emit_eq {p:zI.T} {t:Tree} (hg:Good p t):zJ.sh FU p=some (((tB p t).1,(tB p t).2.1,(tB p t).2.2,()),()):=Q7 FU (by decide) hg (Unit_eq hg)
theorem Ue (F:Nat) {p:zI.T} (h:(xS p).2≠0) (hU:yX.sh F p=some (((0,0),(xS p).1,(xS p).2,()),())):zJ.sh F p=some (((0,0,[],[],[],[]),(xS p).1,(xS p).2,()),()):=by
 unfold zJ.sh;rw[hU,zE];simp only;rw[show ((xS p).2 != 0)=true by simpa using h]; rfl
theorem Q8 {p:zI.T} (h:(xS p).2≠0):zJ.sh FU p=some (((0,0,[],[],[],[]),(xS p).1,(xS p).2,()),()):=Ue FU h (Q5 h)
theorem QY:yr.sh FU=some ((true,()),()):=by kernel_rfl
abbrev iO (c:zK.T):Int:=c.1
abbrev iA (c:zK.T):Int:=c.2.1
abbrev iS (c:zK.T):Int:=c.2.2
def Wr (d nc ns:Nat) (c:zK.T):Prop :=
 ((iO c=1\/iO c=10\/iO c=11\/(16<=iO c/\iO c<=21))/\iA c<nc)\/((iO c=2\/iO c=3)/\iA c<d)\/((iO c=12\/iO c=13)/\iA c<ns)\/(iO c=14/\iA c<=10000)\/(((4<=iO c/\iO c<=9)\/iO c=15)/\iA c=0)
structure InsOK (d nc ns:Nat) (c:zK.T):Prop where
 a:0<=iA c
 s:0<=iS c
 b:Wr d nc ns c
 z:iO c<15->iS c=0
theorem InsOK.mono {d nc ns nc' ns':Nat} {c:zK.T} (h:InsOK d nc ns c) (h1:nc<=nc') (h2:ns<=ns'):InsOK d nc' ns' c:=by
 obtain ⟨a,s,b,z⟩:=h;refine ⟨a,s,?_,z⟩;unfold Wr at*;rcases b with ⟨x,y⟩ | ⟨x,y⟩ | ⟨x,y⟩ | ⟨x,y⟩ | ⟨x,y⟩
 ·exact .inl ⟨x,by omega⟩
 ·exact .inr (.inl ⟨x,y⟩)
 ·exact .inr (.inr (.inl ⟨x,by omega⟩))
 ·exact .inr (.inr (.inr (.inl ⟨x,y⟩)))
 ·exact .inr (.inr (.inr (.inr ⟨x,y⟩)))
def SegOK (d nc ns:Nat) (l:List zK.T):Prop:=∀(i:Nat) (c:zK.T),l[i]?=some c->InsOK d nc ns c/\iS c+(i:Int)+1<=(l.length:Int)
theorem SegOK.mono {d nc ns nc' ns':Nat} {l:List zK.T} (h:SegOK d nc ns l) (h1:nc<=nc') (h2:ns<=ns'):SegOK d nc' ns' l:=fun i c hc=>⟨(h i c hc).1.mono h1 h2,(h i c hc).2⟩
theorem SegOK.app {d nc ns:Nat} {l k:List zK.T} (h1:SegOK d nc ns l) (h2:SegOK d nc ns k):SegOK d nc ns (l++k):=by
 intro i c hc;rw[List.length_append];rw[List.getElem?_append] at hc;split at hc
 ·obtain ⟨a,b⟩:=h1 i c hc
  exact ⟨a,by omega⟩
 ·obtain ⟨a,b⟩:=h2 _ c hc
  exact ⟨a,by omega⟩
theorem SegOK.one {d nc ns:Nat} {op arg:Int} (ha:0<=arg) (hb:Wr d nc ns (op,arg,0)):SegOK d nc ns [(op,arg,0)]:=by
 intro i c hc;cases i with
 | zero=>simp at hc; subst hc; exact ⟨⟨ha,Int.le_refl 0,hb,fun _=>rfl⟩,by show (0:Int)+0+1<=1; omega⟩
 | succ i=>simp at hc
theorem SegOK.nil {d nc ns:Nat}:SegOK d nc ns []:=fun i c hc=>by simp at hc
theorem Ur {d nc ns:Nat} {l:List zK.T} {j:Nat} {c:zK.T} {v:Int} (h:SegOK d nc ns l) (hj:l[j]?=some c) (ho:15<=iO c) (hv:0<=v) (hv2:v+j+1<=l.length):SegOK d nc ns (uC l j v):=by
 have hg:get zK l j=c:=by
  show l.getD j _=c;rw[List.getD_eq_getElem?_getD,hj]; rfl
 intro i x hx;rw[qX];unfold uC at hx;rw[hg] at hx;by_cases e:j=i
 ·subst e
  rw[List.getElem?_set_self (tw hj)] at hx;simp at hx;subst hx;obtain ⟨⟨a,s,b,z⟩,_⟩:=h j c hj;exact ⟨⟨a,hv,b,fun hlt=>by have hlt:iO c<15:=hlt; omega⟩,hv2⟩
 ·rw[List.getElem?_set_ne e] at hx
  exact h i x hx
def Seg (d:Nat) (s s':EmS):Prop:=∃r,s'.2.2=s.2.2++r/\SegOK d s'.1.length s'.2.1.length r
theorem Seg.trans {d:Nat} {a b c:EmS} {x k l:Nat} (h1:Seg d a b) (h2:Seg d b c) (hu:Up b c x k l):Seg d a c:=by
 obtain ⟨r,e1,s1⟩:=h1;obtain ⟨q,e2,s2⟩:=h2;obtain ⟨y,hy⟩:=hu.C;obtain ⟨z,hz⟩:=hu.S;exact ⟨r++q,by rw[e2,e1,List.append_assoc],(s1.mono (by rw[hy]; simp) (by rw[hz]; simp)).app s2⟩
theorem uY {d:Nat} {s:EmS} {op arg:Int} (ha:0<=arg) (hb:Wr d s.1.length s.2.1.length (op,arg,0)):Seg d s (wQ s op arg):=⟨[(op,arg,0)],rfl,SegOK.one ha hb⟩
theorem ZY {d:Nat} {s:EmS} {op:Int} {w:zg.T} (ho:op=1\/op=10\/op=11\/(16<=op/\op<=21)):Seg d s (wN s op w) :=
 ⟨_,rfl,SegOK.one (Int.natCast_nonneg _) (.inl ⟨ho,by
  have:=(SS s.1 w).1;show ((Zp s.1 w).1:Int)<((Zp s.1 w).2.length:Int);omega⟩)⟩
theorem Sl {d:Nat} {s:EmS} {op:Int} {t:List zy.T} (ho:op=12\/op=13):Seg d s (Ws s op t) :=
 ⟨_,rfl,SegOK.one (Int.natCast_nonneg _) (.inr (.inr (.inl ⟨ho,by
  have:=(So s.2.1 t).1;show ((Zy s.2.1 t).1:Int)<((Zy s.2.1 t).2.length:Int);omega⟩)))⟩
theorem Seg.refl {d:Nat} {s:EmS}:Seg d s s:=⟨[],by simp,SegOK.nil⟩
theorem Sm {u:Int} {d dims:Nat}:∀(ks:List Tree),(∀k∈ks,WF dims k/\∀s,Seg d s (em u k s))->∀s,Seg d s (tm (ks.map (em u)) s)
 | [],_,s=>Seg.refl
 | k::r,h,s=>by
  have h1:=h k (by simp);have hr:∀x∈r,WF dims x/\∀s,Seg d s (em u x s):=fun x hx=>h x (by simp[hx])
  exact (h1.2 s).trans (Sm r hr (em u k s)) (Vo (l:=16) r (fun x hx=>u7 x (hr x hx).1) (em u k s))
theorem Vs {u:Int} {d dims:Nat} {op:Int} (ho:4<=op/\op<=9):∀(ks:List Tree),(∀k∈ks,WF dims k/\∀s,Seg d s (em u k s))->∀s,Seg d s ((ks.map (em u)).foldl (fun s k=>wQ (k s) op 0) s)
 | [],_,s=>Seg.refl
 | k::r,h,s=>by
  have h1:=h k (by simp);have hr:∀x∈r,WF dims x/\∀s,Seg d s (em u x s):=fun x hx=>h x (by simp[hx])
  have h2:Seg d s (wQ (em u k s) op 0):=(h1.2 s).trans (uY (Int.le_refl 0) (.inr (.inr (.inr (.inr ⟨.inl ho,rfl⟩))))) (vb _ op 0 16);exact h2.trans (Vs ho r hr _) (Yq (l:=16) r (fun x hx=>u7 x (hr x hx).1) _)
theorem seg_tst {u:Int} {d dims:Nat} {n:zo.T} {a b c:Tree} (ha:WF dims a/\∀s,Seg d s (em u a s)) (hb:WF dims b/\∀s,Seg d s (em u b s)) (hc:WF dims c/\∀s,Seg d s (em u c s)) (ho:1<=nO n/\nO n<=6) (s:EmS):Seg d s (Uh n ([a,b,c].map (em u)) s):=by
 have u1:=u7 (u:=u) a ha.1 s;have u2:=tK (em u a s) (15+nO n) (mk (nN n)) 16;have u3:=u7 (u:=u) b hb.1 (wN (em u a s) (15+nO n) (mk (nN n)));have u4:=vb (em u b (wN (em u a s) (15+nO n) (mk (nN n)))) 15 0 16;have u5:=u7 (u:=u) c hc.1 (wQ (em u b (wN (em u a s) (15+nO n) (mk (nN n)))) 15 0);obtain ⟨A,eA,sA⟩:=ha.2 s;obtain ⟨X,eX,sX⟩:=ZY (d:=d) (s:=em u a s) (op:=15+nO n) (w:=mk (nN n)) (.inr (.inr (.inr ⟨by omega,by omega⟩)));obtain ⟨B,eB,sB⟩:=hb.2 (wN (em u a s) (15+nO n) (mk (nN n)));obtain ⟨C,eC,sC⟩:=hc.2 (wQ (em u b (wN (em u a s) (15+nO n) (mk (nN n)))) 15 0);have eX':X=[(15+nO n,((Zp (em u a s).1 (mk (nN n))).1:Int),0)]:=(List.append_cancel_left (show (em u a s).2.2++[_]=(em u a s).2.2++X from eX)).symm;have e2:Ui n ([a,b,c].map (em u)) s=em u b (wN (em u a s) (15+nO n) (mk (nN n))):=rfl;have e3:Vp n ([a,b,c].map (em u)) s=em u c (wQ (em u b (wN (em u a s) (15+nO n) (mk (nN n)))) 15 0):=rfl;have e1:kF ([a,b,c].map (em u)) 0 s=em u a s:=rfl;obtain ⟨y1,c1⟩:=u1.C; obtain ⟨y2,c2⟩:=u2.C; obtain ⟨y3,c3⟩:=u3.C; obtain ⟨y5,c5⟩:=u5.C;obtain ⟨z1,t1⟩:=u1.S; obtain ⟨z2,t2⟩:=u2.S; obtain ⟨z3,t3⟩:=u3.S; obtain ⟨z5,t5⟩:=u5.S;have k2:=congrArg List.length c2; have k3:=congrArg List.length c3; have k5:=congrArg List.length c5;have l2:=congrArg List.length t2; have l3:=congrArg List.length t3; have l5:=congrArg List.length t5;simp only[List.length_append] at k2 k3 k5 l2 l3 l5;have p1:(wQ (em u b (wN (em u a s) (15+nO n) (mk (nN n)))) 15 0).1=(em u b (wN (em u a s) (15+nO n) (mk (nN n)))).1:=rfl
 have p2:(wQ (em u b (wN (em u a s) (15+nO n) (mk (nN n)))) 15 0).2.1=(em u b (wN (em u a s) (15+nO n) (mk (nN n)))).2.1:=rfl;have p3:(wQ (em u b (wN (em u a s) (15+nO n) (mk (nN n)))) 15 0).2.2=(em u b (wN (em u a s) (15+nO n) (mk (nN n)))).2.2++[(15,0,0)]:=rfl;rw[p1] at k5;rw[p2] at l5;rw[p3] at eC;unfold Uh;rw[e3,e2,e1];generalize hs5:em u c (wQ (em u b (wN (em u a s) (15+nO n) (mk (nN n)))) 15 0)=s5 at*;generalize hs3:em u b (wN (em u a s) (15+nO n) (mk (nN n)))=s3 at*;generalize hs2:wN (em u a s) (15+nO n) (mk (nN n))=s2 at*;generalize hs1:em u a s=s1 at*;have hK:s5.2.2=s.2.2++(A++(X++(B++([(15,0,0)]++C)))):=by
  rw[eC,eB,eX,eA]; simp
 have n1:s1.2.2.length=s.2.2.length+A.length:=by rw[eA]; simp
 have nX:X.length=1:=by rw[eX']; rfl
 have n3:s3.2.2.length=s.2.2.length+A.length+1+B.length:=by rw[eB,eX,eA]; simp[nX]; omega
 have n5:s5.2.2.length=s.2.2.length+A.length+1+B.length+1+C.length:=by rw[hK]; simp[nX]; omega
 have hseg:SegOK d s5.1.length s5.2.1.length (A++(X++(B++([(15,0,0)]++C)))):=by
  refine (sA.mono (by omega) (by omega)).app ((sX.mono (by omega) (by omega)).app ((sB.mono (by omega) (by omega)).app (SegOK.app (SegOK.one (Int.le_refl 0) (.inr (.inr (.inr (.inr ⟨.inr rfl,rfl⟩))))) sC)))
 refine ⟨uC (uC (A++(X++(B++([(15,0,0)]++C)))) A.length ((B.length:Int)+1)) (A.length+1+B.length) (C.length:Int),?_,?_⟩
 ·simp only
  rw[hK,qY (by omega),qY (by omega)];rw[show s1.2.2.length-s.2.2.length=A.length by omega,show s3.2.2.length-s.2.2.length=A.length+1+B.length by omega];rw[<-hK,show (s3.2.2.length:Int)-(s1.2.2.length:Int)=(B.length:Int)+1 by omega,show (s5.2.2.length:Int)-(s3.2.2.length:Int)-1=(C.length:Int) by omega]
 ·have hlen:(A++(X++(B++([(15,0,0)]++C)))).length=A.length+1+B.length+1+C.length:=by simp[nX]; omega
  have g1:(A++(X++(B++([(15,0,0)]++C))))[A.length]?=some (15+nO n,((Zp s1.1 (mk (nN n))).1:Int),0):=by
   rw[List.getElem?_append_right (Nat.le_refl _),Nat.sub_self,eX']; rfl
  have h1:=Ur (v:=(B.length:Int)+1) hseg g1 (by show 15<=15+nO n; omega) (by omega) (by rw[hlen]; omega);have g2:(uC (A++(X++(B++([(15,0,0)]++C)))) A.length ((B.length:Int)+1))[A.length+1+B.length]?=some (15,0,0):=by
   unfold uC;rw[List.getElem?_set_ne (by omega),List.getElem?_append_right (by omega),List.getElem?_append_right (by omega),List.getElem?_append_right (by omega)];rw[show A.length+1+B.length-A.length-X.length-B.length=0 by omega]; rfl
  exact Ur h1 g2 (by show (15:Int)<=15; omega) (by omega) (by rw[qX,hlen]; omega)
theorem em_seg {u:Int} {dims:Nat} (t:Tree):WF dims t->∀s,Seg dims s (em u t s):=by
 refine Tree.ind (P:=fun t=>WF dims t->∀s,Seg dims s (em u t s)) (fun n ks ih hw s=>?_) t;have hk:∀k∈ks,WF dims k/\∀s,Seg dims s (em u k s):=fun k hk=>⟨(uj.1 hw).2 k hk,ih k hk ((uj.1 hw).2 k hk)⟩
 have hg:ue n=true:=hw.good.1;have har:=fun (k:Int) (h:nK n=k)=>hw.arK (k:=k) h
 obtain ⟨_,hN,hN2,hkids,hop,_,_,_⟩:=x5 (uj.1 hw).1.2;have hall:=Sm ks hk s;rw[Qq];rcases tU hg with h | h | h | h | h | h | h | h | h | h | h | h | h | h | h | h
 ·rw[emN1 h]; exact ZY (.inl rfl)
 ·rw[emN2 h]; exact ZY (.inl rfl)
 ·rw[tS h] at hN2
  have hN2:nN n<=(dims:Int)-1:=hN2;rw[emN3 h]; exact uY hN (.inr (.inl ⟨.inl rfl,by show nN n<(dims:Int); omega⟩))
 ·rw[tS h] at hN2
  have hN2:nN n<=(dims:Int)-1:=hN2;rw[emN4 h]; exact uY hN (.inr (.inl ⟨.inr rfl,by show nN n<(dims:Int); omega⟩))
 ·rw[emN5 h]; exact hall.trans (uY (Int.le_refl 0) (.inr (.inr (.inr (.inr ⟨.inl (by show 4<=(4:Int)/\(4:Int)<=9; decide),rfl⟩))))) (vb _ _ _ 16)
 ·rw[emN6 h]; exact hall.trans (uY (Int.le_refl 0) (.inr (.inr (.inr (.inr ⟨.inl (by show 4<=(5:Int)/\(5:Int)<=9; decide),rfl⟩))))) (vb _ _ _ 16)
 ·rw[emN7 h]; exact hall.trans (uY (Int.le_refl 0) (.inr (.inr (.inr (.inr ⟨.inl (by show 4<=(6:Int)/\(6:Int)<=9; decide),rfl⟩))))) (vb _ _ _ 16)
 ·rw[emN8 h]; exact hall.trans (uY (Int.le_refl 0) (.inr (.inr (.inr (.inr ⟨.inl (by show 4<=(7:Int)/\(7:Int)<=9; decide),rfl⟩))))) (vb _ _ _ 16)
 ·rw[emN9 h]
  cases ks with
  | nil=>exact Seg.refl
  | cons k r =>
   have hr:∀x∈r,WF dims x/\∀s,Seg dims s (em u x s):=fun x hx=>hk x (by simp[hx])
   exact ((hk k (by simp)).2 s).trans (Vs (by decide) r hr _) (Yq (l:=16) r (fun x hx=>u7 x (hr x hx).1) _)
 ·rw[Qx h]
  cases ks with
  | nil=>exact Seg.refl
  | cons k r =>
   have hr:∀x∈r,WF dims x/\∀s,Seg dims s (em u x s):=fun x hx=>hk x (by simp[hx])
   exact ((hk k (by simp)).2 s).trans (Vs (by decide) r hr _) (Yq (l:=16) r (fun x hx=>u7 x (hr x hx).1) _)
 ·rw[Qw h]; exact hall.trans (ZY (.inr (.inl rfl))) (tK _ _ _ 16)
 ·rw[Qv h]; exact hall.trans (ZY (.inr (.inr (.inl rfl)))) (tK _ _ _ 16)
 ·rw[Qu h]; exact hall.trans (Sl (.inl rfl)) (Vn _ _ _ (qu (uj.1 hw).1.2))
 ·rw[Qt h]; exact hall.trans (Sl (.inr rfl)) (Vn _ _ _ (qu (uj.1 hw).1.2))
 ·rw[tS h] at hN2
  have hN2:nN n<=10000:=hN2;rw[Qs h]; exact hall.trans (uY hN (.inr (.inr (.inr (.inl ⟨rfl,hN2⟩))))) (vb _ _ _ 16)
 ·obtain ⟨a,b,c,rfl⟩:=three (show ks.length=3 from har 16 h)
  rw[Qr h]; exact seg_tst (hk a (by simp)) (hk b (by simp)) (hk c (by simp)) (op_of h hop) s
theorem cnt_pos {dims:Nat} (t:Tree):WF dims t->1<=cnt t:=by
 refine Tree.ind (P:=fun t=>WF dims t->1<=cnt t) (fun n ks ih hw=>?_) t;rw[T9];unfold V6;split
 ·rename_i h
  obtain ⟨h2,_,_⟩:=hw.several h;have h2:2<=ks.length:=h2;rw[List.length_map]; omega
 ·split<;>omega
theorem ops9 {op:Int} (x:op=1\/op=10\/op=11\/(16<=op/\op<=21)):op=1\/op=10\/op=11\/op=16\/op=17\/op=18\/op=19\/op=20\/op=21:=by omega
theorem ops7 {op:Int} (x:(4<=op/\op<=9)\/op=15):op=4\/op=5\/op=6\/op=7\/op=8\/op=9\/op=15:=by omega
theorem QX (F:Nat) (q:zD.T) {d:Nat} {c:zK.T} (hd:q.2.2.1.length=d) (h:Wr d q.2.2.2.1.length q.2.2.2.2.1.length c):ze.sh F q c=some ((true,()),()):=by
 obtain ⟨op,ar,sk⟩:=c;subst hd;rcases h with ⟨x,y⟩ | ⟨x,y⟩ | ⟨x,y⟩ | ⟨x,y⟩ | ⟨x,y⟩
 ·have y:=decide_eq_true y
  have e:=ops9 x;have k:∀op:Int,(op=1\/op=10\/op=11\/op=16\/op=17\/op=18\/op=19\/op=20\/op=21)->ze.sh F q (op,ar,sk)=some ((decide (ar<(q.2.2.2.1.length:Int)),()),()):=by
   intro op h;rcases h with rfl | rfl | rfl | rfl | rfl | rfl | rfl | rfl | rfl<;>rfl
  rw[k op e,show decide (ar<(q.2.2.2.1.length:Int))=true from y]
 ·have y:=decide_eq_true y
  have k:ze.sh F q (op,ar,sk)=some ((decide (ar<(q.2.2.1.length:Int)),()),()):=by
   rcases x with x | x<;>(have x:op=_:=x; subst x; rfl)
  rw[k,show decide (ar<(q.2.2.1.length:Int))=true from y]
 ·have y:=decide_eq_true y
  have k:ze.sh F q (op,ar,sk)=some ((decide (ar<(q.2.2.2.2.1.length:Int)),()),()):=by
   rcases x with x | x<;>(have x:op=_:=x; subst x; rfl)
  rw[k,show decide (ar<(q.2.2.2.2.1.length:Int))=true from y]
 ·have x:op=14:=x
  subst x;have y:=decide_eq_true y;rw[show ze.sh F q (14,ar,sk)=some ((decide (ar<=10000),()),()) from rfl,show decide (ar<=10000)=true from y]
 ·have y:ar=0:=y
  subst y;have k:∀op:Int,(op=4\/op=5\/op=6\/op=7\/op=8\/op=9\/op=15)->ze.sh F q (op,0,sk)=some ((true,()),()):=by
   intro op h;rcases h with rfl | rfl | rfl | rfl | rfl | rfl | rfl<;>rfl
  exact k _ (ops7 x)
theorem XH (F:Nat) {R:Type} (k0:Bool->Option R) (kk:zD.T->Option R) (q:zD.T) {d:Nat} (hd:q.2.2.1.length=d) (h:SegOK d q.2.2.2.1.length q.2.2.2.2.1.length q.2.2.2.2.2) (hl:q.2.2.2.2.2.length<=4194304):∀(n i fu:Nat),i+n=q.2.2.2.2.2.length->n<fu->
  zi.l7 F k0 (fun _ _ q=>kk q) fu (i:Int) q=kk q
 | _,_,0,_,h=>by omega
 | 0,i,fu+1,hi,hf=>by
  unfold zi.l7 zi.l7.body;rw[decide_eq_false (by omega)]; rfl
 | n+1,i,fu+1,hi,hf=>by
  have ih:=XH F k0 kk q hd h hl n (i+1) fu (by omega) (by omega);have hlt:i<q.2.2.2.2.2.length:=by omega
  obtain ⟨⟨a,s,b,z⟩,hs⟩:=h i q.2.2.2.2.2[i] (List.getElem?_eq_getElem hlt);have hget:get zK q.2.2.2.2.2 ((i:Int)).toNat=q.2.2.2.2.2[i]:=by
   show q.2.2.2.2.2.getD i _=_;rw[List.getD_eq_getElem?_getD,List.getElem?_eq_getElem hlt]; rfl
  unfold zi.l7 zi.l7.body;rw[decide_eq_true (show (i:Int)<(q.2.2.2.2.2.length:Int) by omega),xf hlt,hget];generalize q.2.2.2.2.2[i]=c at*;rw[show decide (c.2.1<0)=false from decide_eq_false (show ¬iA c<0 by omega),show decide (c.2.2<0)=false from decide_eq_false (show ¬iS c<0 by omega),QX F q hd b,zE];simp only[cond_true,cond_false,Bool.not_true];rw[yR (n:=(q.2.2.2.2.2.length:Int)-(i:Int)) (by omega) (by omega),yR (n:=(q.2.2.2.2.2.length:Int)-(i:Int)-1) (by omega) (by omega),yR (n:=(i:Int)+1) (by omega) (by omega)];rw[show decide (c.2.2>(q.2.2.2.2.2.length:Int)-(i:Int)-1)=false from decide_eq_false (show ¬iS c>(q.2.2.2.2.2.length:Int)-(i:Int)-1 by omega)];rw[xh] at ih;cases ho:decide (c.1<15) with
  | true =>
   have e:c.2.2=0:=z (of_decide_eq_true ho);simp only[cond_true,cond_false,e,bne_self_eq_false];exact ih
  | false=>exact ih
theorem Ra (F:Nat) (hF:4194304<=F) (hW:yr.sh F=some ((true,()),())) (p:zI.T) (hG:∀t,Good p t->zJ.sh F p=some (((tB p t).1,(tB p t).2.1,(tB p t).2.2,()),()))
  (hB:(xS p).2≠0->zJ.sh F p=some (((0,0,[],[],[],[]),(xS p).1,(xS p).2,()),())):zi.sh F p=some ((true,()),()):=by
 unfold zi.sh;rw[hW,zE];simp only[Bool.not_true,cond_false];by_cases hc:(xS p).2=0
 ·obtain ⟨t,hg⟩:=QL hc
  rw[hG t hg,zE];simp only;unfold tB;cases he:((ve p.2.1 t).2.2 != 0) with
  | true=>simp only[cond_true,he]; rfl
  | false =>
   simp only[cond_false,bne_self_eq_false];have hw:=hg.wf;have hs:t.size<=1024:=by unfold Tree.size; rw[hg.flat]; exact hg.len
   obtain ⟨r,e,hseg⟩:=em_seg (u:=uW t) t hw ([],[],[]);have hup:=u7 (u:=uW t) t hw ([],[],[]);have hcs:=uO t hw;have hcp:=cnt_pos t hw;have hkn:=hup.Kn;have hkn:(Wd p t).2.2.2.2.2.length=0+cnt t:=hkn;have e:(Wd p t).2.2.2.2.2=r:=by show (em (uW t) t ([],[],[])).2.2=r; rw[e]; rfl
   rw[<-e] at hseg;refine (XH F (fun r24=>(some ((r24,()),()):Option zi.sg.R)) (fun q5=>some ((decide ((q5.2.2.2.2.2.length:Int)>0),()),())) (Wd p t) (d:=p.2.1.length) (by simp[Wd]) hseg (by omega) (Wd p t).2.2.2.2.2.length 0 F (by omega) (by omega)).trans ?_;rw[decide_eq_true (by omega)]
 ·rw[hB hc,zE]
  simp only;rw[show ((xS p).2 != 0)=true by simpa using hc]; rfl
theorem S9 (p:zI.T):zi.sh FU p=some ((true,()),()):=Ra FU (by decide) QY p (fun _ h=>Emit_eq h) Q8
end Go.VS
