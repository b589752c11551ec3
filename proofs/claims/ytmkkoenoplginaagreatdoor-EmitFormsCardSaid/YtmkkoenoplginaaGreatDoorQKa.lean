/- Plain laws, joined from smaller texts. -/
import Derived.Test.YtmkkoenoplginaaGreatDoorQR1
set_option linter.unusedVariables false
set_option linter.unusedSimpArgs false
set_option linter.unusedSectionVars false
set_option maxRecDepth 100000
namespace Go.VS
open Go IntKind
def wfW (w:Int×Int):Prop:=-9223372036854775808<=w.1/\w.1<9223372036854775808/\0<=w.2/\w.2<18446744073709551616
def val (w:Int×Int):Int:=w.1*18446744073709551616+w.2
def mk (v:Int):Int×Int:=(v/18446744073709551616,v%18446744073709551616)
def inR (v:Int):Bool:=decide (-170141183460469231731687303715884105728<=v)&&decide (v<170141183460469231731687303715884105728)
def vz (v:Int):Int×Int:=bif inR v then mk v else (0,0)
def vG (v:Int):Int:=bif inR v then 0 else 10
theorem y7 {v:Int}:inR v=true↔-170141183460469231731687303715884105728<=v/\v<170141183460469231731687303715884105728:=by simp[inR]
theorem uY {v:Int}:inR v=false↔(v < -170141183460469231731687303715884105728\/170141183460469231731687303715884105728<=v):=by
 cases h:inR v with
 | true=>simp; have:=y7.1 h; omega
 | false =>
  simp;rcases Int.lt_or_le v (-170141183460469231731687303715884105728) with h' | h'
  ·exact .inl h'
  ·rcases Int.lt_or_le v 170141183460469231731687303715884105728 with h'' | h''
   ·rw[y7.2 ⟨h',h''⟩] at h; cases h
   ·exact .inr h''
theorem mk_val {w:Int×Int} (h:wfW w):mk (val w)=w:=by
 obtain ⟨a,b⟩:=w;obtain ⟨h1,h2,h3,h4⟩:=h;simp only[mk,val] at*;ext<;>simp only<;>omega
theorem wI {v:Int}:val (mk v)=v:=by simp only[val,mk]; omega
theorem wz {v:Int} (h:inR v=true):wfW (mk v):=by
 have:=y7.1 h;simp only[wfW,mk];omega
theorem Rb {w:Int×Int} (h:wfW w):inR (val w)=true:=by
 rw[y7];obtain ⟨h1,h2,h3,h4⟩:=h;simp only[val];omega
theorem Xw (v:Int):wfW (vz v):=by
 unfold vz;cases h:inR v with
 | true=>exact wz h
 | false=>simp[wfW]
theorem VK (n:Int):∃k,i64.wrap n=n+18446744073709551616*k/\-9223372036854775808<=i64.wrap n/\i64.wrap n<9223372036854775808:=by
 rw[Z5];split
 ·exact ⟨-(n/18446744073709551616)-1,by omega,by omega,by omega⟩
 ·exact ⟨-(n/18446744073709551616),by omega,by omega,by omega⟩
theorem uS (F:Nat) {v:Int} (h1:-9223372036854775808<=v) (h2:v<9223372036854775808):yy.sh F v=some ((mk v,()),()):=by
 unfold yy.sh;have e:(2^(min (63:Int).toNat IntKind.i64.bits):Int)=9223372036854775808:=by decide
 have e2:v.fdiv 9223372036854775808=v/18446744073709551616:=by rw[Int.fdiv_eq_ediv_of_nonneg _ (by omega)]; omega
 rw[e,e2,ve];rfl
theorem Zd (F:Nat) {x y c:Int} (h1:0<=x) (h2:0<=y) (h3:0<=c) (h4:c<=1):ye.sh F x y c=some (((x+y+c)%18446744073709551616,(x+y+c)/18446744073709551616,()),()):=by
 simp[ye.sh,h1,h2,h3,h4]
theorem Ya (F:Nat) {x y c:Int} (h1:0<=x) (h2:0<=y) (h2':y<18446744073709551616) (h3:0<=c) (h4:c<=1):zT.sh F x y c=some (((x-y-c)%18446744073709551616,(if x<y+c then 1 else 0),()),()):=by
 simp[zT.sh,h1,h2,h2',h3,h4]
theorem zaz (F:Nat) {a b:Int×Int} (ha:wfW a) (hb:wfW b):xF.sh F a b=some ((vz (val a+val b),vG (val a+val b),()),()):=by
 obtain ⟨a1,a2⟩:=a;obtain ⟨b1,b2⟩:=b;obtain ⟨h1,h2,h3,h4⟩:=ha;obtain ⟨g1,g2,g3,g4⟩:=hb;simp only at*;unfold xF.sh;simp only[ve];rw[Zd F (by omega) (by omega) (by omega) (by omega)];simp only[zD];rw[Zd F (by omega) (by omega) (by omega) (by omega)];simp only[zD,vz,vG,val,mk];obtain ⟨k,e1,e2,e3⟩:=VK ((a1%18446744073709551616+b1%18446744073709551616+(a2+b2+0)/18446744073709551616)%18446744073709551616);generalize i64.wrap ((a1%18446744073709551616+b1%18446744073709551616+(a2+b2+0)/18446744073709551616)%18446744073709551616)=r at*;cases hr:inR (a1*18446744073709551616+a2+(b1*18446744073709551616+b2)) with
 | true =>
  rw[y7] at hr;have q1:r=(a1*18446744073709551616+a2+(b1*18446744073709551616+b2))/18446744073709551616:=by omega
  have q2:(a2+b2+0)%18446744073709551616=(a1*18446744073709551616+a2+(b1*18446744073709551616+b2))%18446744073709551616:=by omega
  have hs:(decide (a1<0)==decide (b1<0)&&!(decide (r<0)==decide (a1<0)))=false:=by
   by_cases x1:a1<0<;>by_cases x2:b1<0<;>by_cases x3:r<0<;>simp[x1,x2,x3]<;>omega
  simp only[cond_true];rw[<-q1,<-q2];cases hx:(decide (a1<0)==decide (b1<0)) with
  | true =>
   rw[hx] at hs;simp only[Bool.true_and] at hs;simp only[hs,cond_true,cond_false]
  | false=>rfl
 | false =>
  rw[uY] at hr;have hs:(decide (a1<0)==decide (b1<0))=true/\(!(decide (r<0)==decide (a1<0)))=true:=by
   by_cases x1:a1<0<;>by_cases x2:b1<0<;>by_cases x3:r<0<;>simp[x1,x2,x3]<;>omega
  simp only[hs.1,hs.2,cond_true,cond_false]
theorem sub_eq (F:Nat) {a b:Int×Int} (ha:wfW a) (hb:wfW b):xE.sh F a b=some ((vz (val a-val b),vG (val a-val b),()),()):=by
 obtain ⟨a1,a2⟩:=a;obtain ⟨b1,b2⟩:=b;obtain ⟨h1,h2,h3,h4⟩:=ha;obtain ⟨g1,g2,g3,g4⟩:=hb;simp only at*;unfold xE.sh;simp only[ve];rw[Ya F (by omega) (by omega) (by omega) (by omega) (by omega)];simp only[zD];have hbo:(a2<b2/\(if a2<b2+0 then (1:Int) else 0)=1)\/(b2<=a2/\(if a2<b2+0 then (1:Int) else 0)=0):=by split<;>omega
 generalize (if a2<b2+0 then (1:Int) else 0)=bo at*;rw[Ya F (by omega) (by omega) (by omega) (by omega) (by omega)];simp only[zD,vz,vG,val,mk];obtain ⟨k,e1,e2,e3⟩:=VK ((a1%18446744073709551616-b1%18446744073709551616-bo)%18446744073709551616);generalize i64.wrap ((a1%18446744073709551616-b1%18446744073709551616-bo)%18446744073709551616)=r at*;cases hr:inR (a1*18446744073709551616+a2-(b1*18446744073709551616+b2)) with
 | true =>
  rw[y7] at hr;have q1:r=(a1*18446744073709551616+a2-(b1*18446744073709551616+b2))/18446744073709551616:=by omega
  have q2:(a2-b2-0)%18446744073709551616=(a1*18446744073709551616+a2-(b1*18446744073709551616+b2))%18446744073709551616:=by omega
  have hs:(!(decide (a1<0)==decide (b1<0))&&!(decide (r<0)==decide (a1<0)))=false:=by
   by_cases x1:a1<0<;>by_cases x2:b1<0<;>by_cases x3:r<0<;>simp[x1,x2,x3]<;>omega
  simp only[cond_true];rw[<-q1,<-q2];cases hx:(!(decide (a1<0)==decide (b1<0))) with
  | true =>
   rw[hx] at hs;simp only[Bool.true_and] at hs;simp only[hs,cond_true,cond_false]
  | false=>rfl
 | false =>
  rw[uY] at hr;have hs:(!(decide (a1<0)==decide (b1<0)))=true/\(!(decide (r<0)==decide (a1<0)))=true:=by
   by_cases x1:a1<0<;>by_cases x2:b1<0<;>by_cases x3:r<0<;>simp[x1,x2,x3]<;>omega
  simp only[hs.1,hs.2,cond_true,cond_false]
theorem wf_zero:wfW (0,0):=by simp[wfW]
theorem neg_eq (F:Nat) {a:Int×Int} (ha:wfW a):xP.sh F a=some ((vz (-val a),vG (-val a),()),()):=by
 unfold xP.sh;rw[sub_eq F wf_zero ha];have:val (0,0)-val a=-val a:=by simp[val]
 rw[this];rfl
def UA (x y:Int):Int:=if x<y then -1 else if x=y then 0 else 1
theorem Ry {x y:Int} (h:x<y):UA x y=-1:=by unfold UA; rw[if_pos h]
theorem cmpZ_eq {x y:Int} (h:x=y):UA x y=0:=by unfold UA; rw[if_neg (by omega),if_pos h]
theorem Rz {x y:Int} (h:y<x):UA x y=1:=by unfold UA; rw[if_neg (by omega),if_neg (by omega)]
theorem zae (F:Nat) {a b:Int×Int} (ha:wfW a) (hb:wfW b):xN.sh F a b=some ((UA (val a) (val b),()),()):=by
 obtain ⟨a1,a2⟩:=a;obtain ⟨b1,b2⟩:=b;obtain ⟨h1,h2,h3,h4⟩:=ha;obtain ⟨g1,g2,g3,g4⟩:=hb;simp only at*;unfold xN.sh;simp only[Bool.and_true];by_cases x1:a1<b1
 ·have y1:(a1==b1)=false:=by rw[beq_eq_false_iff_ne]; omega
  rw[Ry (by simp only[val]; omega)];simp[y1,x1]
 ·by_cases x2:a1=b1
  ·subst x2
   by_cases x3:a2=b2
   ·subst x3
    rw[cmpZ_eq rfl];simp
   ·have y3:(a2==b2)=false:=by rw[beq_eq_false_iff_ne]; exact x3
    by_cases x4:a2<b2
    ·rw[Ry (by simp only[val]; omega)]
     simp[y3,x4]
    ·rw[Rz (by simp only[val]; omega)]
     simp[y3,x4]
  ·have y1:(a1==b1)=false:=by rw[beq_eq_false_iff_ne]; omega
   rw[Rz (by simp only[val]; omega)];simp[y1,x1]
theorem Qx {a b a' b':Int} (h1:a=a') (h2:b=b'):(some ((a,b,()),()):Option ((Int×Int×Unit)×Unit))=some ((a',b',()),()):=by rw[h1,h2]
theorem UF (F:Nat) {a:Int×Int} (ha:wfW a):xg.sh F a=some ((((val a).natAbs:Int)/18446744073709551616,((val a).natAbs:Int)%18446744073709551616,()),()):=by
 obtain ⟨a1,a2⟩:=a;obtain ⟨h1,h2,h3,h4⟩:=ha;simp only at*;unfold xg.sh;simp only[ve];by_cases x:a1>=0
 ·have e:((val (a1,a2)).natAbs:Int)=a1*18446744073709551616+a2:=by simp only[val]; omega
  rw[e];simp only[x,decide_true,cond_true];exact Qx (by omega) (by omega)
 ·have e:((val (a1,a2)).natAbs:Int)=-(a1*18446744073709551616+a2):=by simp only[val]; omega
  rw[e];simp only[x,decide_false,cond_false];rw[Ya F (by omega) (by omega) (by omega) (by omega) (by omega)];simp only[zD];have hbo:(0<a2/\(if 0<a2+0 then (1:Int) else 0)=1)\/(a2=0/\(if 0<a2+0 then (1:Int) else 0)=0):=by split<;>omega
  generalize (if 0<a2+0 then (1:Int) else 0)=bo at*;rw[Ya F (by omega) (by omega) (by omega) (by omega) (by omega)];simp only[zD];exact Qx (by omega) (by omega)
theorem Ud (F:Nat) {b:Bool} {hi lo:Int} (h1:0<=hi) (h2:hi<18446744073709551616) (h3:0<=lo) (h4:lo<18446744073709551616) {v:Int} (hv:v=bif b then -(hi*18446744073709551616+lo) else hi*18446744073709551616+lo) :
  xj.sh F b hi lo=some ((vz v,vG v,()),()):=by
 unfold xj.sh;have e:(2^(min (63:Int).toNat IntKind.u64.bits):Int)=9223372036854775808:=by decide
 rw[e,Int.fdiv_eq_ediv_of_nonneg _ (by omega)];by_cases x:hi<9223372036854775808
 ·have e1:(hi/9223372036854775808==0)=true:=by rw[beq_iff_eq]; omega
  rw[e1,yT (by omega) (by omega)];have hw:wfW (hi,lo):=⟨by simp only; omega,x,h3,h4⟩;cases b with
  | true =>
   simp only[cond_true] at hv ⊢;rw[neg_eq F hw];simp only[zD];have:v=-val (hi,lo):=by rw[hv]; rfl
   rw[this]
  | false =>
   simp only[cond_true,cond_false] at hv ⊢;have:v=val (hi,lo):=by rw[hv]; rfl
   rw[this];simp only[vz,vG,Rb hw,cond_true,mk_val hw]
 ·have e1:(hi/9223372036854775808==0)=false:=by rw[beq_eq_false_iff_ne]; omega
  rw[e1];cases b with
  | true =>
   simp only[cond_true,cond_false] at hv ⊢;by_cases y:hi=9223372036854775808
   ·subst y
    by_cases z:lo=0
    ·subst z
     subst hv;rfl
    ·have e2:(lo==0)=false:=by rw[beq_eq_false_iff_ne]; exact z
     have hr:inR v=false:=by rw[uY]; omega
     simp only[vz,vG,hr,cond_false,e2,beq_self_eq_true,cond_true]
   ·have e2:(hi==9223372036854775808)=false:=by rw[beq_eq_false_iff_ne]; exact y
    have hr:inR v=false:=by rw[uY]; omega
    simp only[vz,vG,hr,cond_false,e2]
  | false =>
   simp only[cond_false] at hv ⊢;have hr:inR v=false:=by rw[uY]; omega
   simp only[vz,vG,hr,cond_false]
theorem Se {x:Int} (h1:0<=x) (h2:x<18446744073709551616):u64.wrap ((BitVec.ofInt IntKind.u64.bits x &&& BitVec.ofInt IntKind.u64.bits 4294967295).toNat:Int)=x%4294967296:=by
 obtain ⟨X,rfl⟩:=Int.eq_ofNat_of_zero_le h1;show u64.wrap ((BitVec.ofInt 64 (X:Int) &&& BitVec.ofInt 64 ((4294967295:Nat):Int)).toNat:Int)=_;rw[BitVec.ofInt_natCast,BitVec.ofInt_natCast,BitVec.toNat_and,BitVec.toNat_ofNat,BitVec.toNat_ofNat,Nat.mod_eq_of_lt (by omega:X<2^64),Nat.mod_eq_of_lt (by decide)];have:X &&& 4294967295=X%4294967296:=Nat.and_two_pow_sub_one_eq_mod X 32;rw[this,vk (by omega) (by omega)];omega
theorem SZ {x:Int} (h1:0<=x) (h2:x<18446744073709551616):u64.wrap ((BitVec.ofInt IntKind.u64.bits x ||| BitVec.ofInt IntKind.u64.bits 0).toNat:Int)=x:=by
 obtain ⟨X,rfl⟩:=Int.eq_ofNat_of_zero_le h1;show u64.wrap ((BitVec.ofInt 64 (X:Int) ||| BitVec.ofInt 64 ((0:Nat):Int)).toNat:Int)=_
 rw[BitVec.ofInt_natCast,BitVec.ofInt_natCast,BitVec.toNat_or,BitVec.toNat_ofNat,BitVec.toNat_ofNat,Nat.mod_eq_of_lt (by omega:X<2^64)];simp;rw[vk (by omega) (by omega)]
theorem zero_or {x:Int} (h1:0<=x) (h2:x<18446744073709551616):u64.wrap ((BitVec.ofInt IntKind.u64.bits 0 ||| BitVec.ofInt IntKind.u64.bits x).toNat:Int)=x:=by
 rw[BitVec.or_comm]; exact SZ h1 h2
theorem UQ {x:Int} (h:0<=x):x.fdiv (2^(min (32:Int).toNat IntKind.u64.bits))=x/4294967296:=by
 have e:(2^(min (32:Int).toNat IntKind.u64.bits):Int)=4294967296:=by decide
 rw[e,Int.fdiv_eq_ediv_of_nonneg _ (by omega)]
theorem ZS {a b m n:Int} (ha:0<=a) (ha':a<=m) (hb:0<=b) (hb':b<=n):0<=a*b/\a*b<=m*n :=
 ⟨Int.mul_nonneg ha hb,Int.mul_le_mul ha' hb' hb (by omega)⟩
theorem Yq (F:Nat) {x y:Int} (h1:0<=x) (h2:x<18446744073709551616) (h3:0<=y) (h4:y<18446744073709551616) :
  yE.sh F x y=some ((x*y/18446744073709551616,x*y%18446744073709551616,()),()):=by
 unfold yE.sh;rw[Se h1 h2,Se h3 h4,UQ h1,UQ h3];have hx:x=x/4294967296*4294967296+x%4294967296:=by omega
 have hy:y=y/4294967296*4294967296+y%4294967296:=by omega
 have bx1:0<=x/4294967296/\x/4294967296<=4294967295:=by omega
 have bx0:0<=x%4294967296/\x%4294967296<=4294967295:=by omega
 have by1:0<=y/4294967296/\y/4294967296<=4294967295:=by omega
 have by0:0<=y%4294967296/\y%4294967296<=4294967295:=by omega
 have hxy:x*y=(x/4294967296)*(y/4294967296)*18446744073709551616+((x/4294967296)*(y%4294967296)+(x%4294967296)*(y/4294967296))*4294967296+(x%4294967296)*(y%4294967296):=by
  generalize x/4294967296=x1 at*;generalize x%4294967296=x0 at*;generalize y/4294967296=y1 at*;generalize y%4294967296=y0 at*;rw[hx,hy];simp only[Int.add_mul,Int.mul_add];have r1:x1*4294967296*(y1*4294967296)=x1*y1*18446744073709551616:=by
   rw[Int.mul_assoc,Int.mul_left_comm 4294967296,<-Int.mul_assoc]; rfl
  have r2:x1*4294967296*y0=x1*y0*4294967296:=by rw[Int.mul_right_comm]
  have r3:x0*(y1*4294967296)=x0*y1*4294967296:=by rw[Int.mul_assoc]
  rw[r1,r2,r3];omega
 have A:=ZS bx1.1 bx1.2 by1.1 by1.2;have B:=ZS bx1.1 bx1.2 by0.1 by0.2;have C:=ZS bx0.1 bx0.2 by1.1 by1.2;have D:=ZS bx0.1 bx0.2 by0.1 by0.2;rw[hxy];generalize (x/4294967296)*(y/4294967296)=a at*;generalize (x/4294967296)*(y%4294967296)=b at*;generalize (x%4294967296)*(y/4294967296)=c at*;generalize (x%4294967296)*(y%4294967296)=d at*;clear hxy hx hy bx1 bx0 by1 by0;have w1:u64.wrap a=a:=vk (by omega) (by omega);have w2:u64.wrap b=b:=vk (by omega) (by omega);have w3:u64.wrap c=c:=vk (by omega) (by omega);have w4:u64.wrap d=d:=vk (by omega) (by omega);rw[w1,w2,w3,w4,UQ D.1];have w5:u64.wrap (b+d/4294967296)=b+d/4294967296:=vk (by omega) (by omega);rw[w5,Se (by omega) (by omega),UQ (by omega)];have w6:u64.wrap ((b+d/4294967296)%4294967296+c)=(b+d/4294967296)%4294967296+c:=vk (by omega) (by omega);rw[w6,UQ (by omega)];have w7:u64.wrap (a+(b+d/4294967296)/4294967296)=a+(b+d/4294967296)/4294967296:=vk (by omega) (by omega);rw[w7];have w8:u64.wrap (a+(b+d/4294967296)/4294967296+((b+d/4294967296)%4294967296+c)/4294967296)=a+(b+d/4294967296)/4294967296+((b+d/4294967296)%4294967296+c)/4294967296:=vk (by omega) (by omega);rw[w8,ve];exact Qx (by omega) (by omega)
theorem SP {a:Int×Int} (ha:wfW a):decide (a.1<0)=decide (val a<0):=by
 obtain ⟨a1,a2⟩:=a;obtain ⟨h1,h2,h3,h4⟩:=ha;have:a1<0↔val (a1,a2)<0:=by simp only[val] at*; omega
 simp[this]
theorem zaA {a:Int×Int} (ha:wfW a):0<=((val a).natAbs:Int)/\((val a).natAbs:Int)<=170141183460469231731687303715884105728:=by
 have:=y7.1 (Rb ha);omega
theorem W8 {x y m n:Int} (hm:m=x.natAbs) (hn:n=y.natAbs):x*y=bif !(decide (x<0)==decide (y<0)) then -(m*n) else m*n:=by
 subst hm hn;by_cases h1:x<0
 ·have e1:(x.natAbs:Int)=-x:=by omega
  by_cases h2:y<0
  ·have e2:(y.natAbs:Int)=-y:=by omega
   simp[h1,h2,e1,e2,Int.neg_mul_neg]
  ·have e2:(y.natAbs:Int)=y:=by omega
   simp[h1,h2,e1,e2,Int.neg_mul]
 ·have e1:(x.natAbs:Int)=x:=by omega
  by_cases h2:y<0
  ·have e2:(y.natAbs:Int)=-y:=by omega
   simp[h1,h2,e1,e2,Int.mul_neg]
  ·have e2:(y.natAbs:Int)=y:=by omega
   simp[h1,h2,e1,e2]
theorem wmul_j (F:Nat) {R:Type} (k:(Int×Int)->Int->Option R) {a b:Int×Int} (ha:wfW a) (hb:wfW b) (r:Int×Int) {ah al bh bl:Int}
  (h1:0<=ah/\ah<=9223372036854775808) (h2:0<=al/\al<18446744073709551616) (h3:0<=bh/\bh<=9223372036854775808) (h4:0<=bl/\bl<18446744073709551616)
  (hA:((val a).natAbs:Int)=ah*18446744073709551616+al) (hB:((val b).natAbs:Int)=bh*18446744073709551616+bl) (h0:ah=0\/bh=0) :
  yz.j5 F (fun e w=>k w e) (fun e w=>k w e) ah al bh bl a b r=k (vz (val a*val b)) (vG (val a*val b)):=by
 unfold yz.j5;rw[Yq F h2.1 h2.2 h4.1 h4.2];simp only[zD];have hp:xt.sh F (ah != 0) bl al=some ((if ah≠0 then bl else al,()),()):=by
  unfold xt.sh;by_cases h:ah=0
  ·simp[h]
  ·have:(ah != 0)=true:=by simp[h]
   simp[this,h]
 rw[hp];simp only[zD];obtain ⟨c,hc1,hc2,hc3⟩:∃c,c=ah*bl+bh*al/\yE.sh F (u64.wrap ((BitVec.ofInt IntKind.u64.bits ah ||| BitVec.ofInt IntKind.u64.bits bh).toNat:Int)) (if ah≠0 then bl else al) =
   some ((c/18446744073709551616,c%18446744073709551616,()),())/\0<=c:=by
  rcases h0 with rfl | rfl
  ·refine ⟨bh*al,by simp,?_,Int.mul_nonneg h3.1 h2.1⟩
   rw[zero_or h3.1 (by omega),if_neg (by simp),Yq F h3.1 (by omega) h2.1 h2.2]
  ·refine ⟨ah*bl,by simp,?_,Int.mul_nonneg h1.1 h4.1⟩
   rw[SZ h1.1 (by omega)];by_cases h:ah=0
   ·subst h
    rw[if_neg (by simp),Yq F (by omega) (by omega) h2.1 h2.2];simp
   ·rw[if_pos h,Yq F h1.1 (by omega) h4.1 h4.2]
 rw[hc2];simp only[zD];have hd:0<=al*bl:=Int.mul_nonneg h2.1 h4.1;have hd':al*bl<=340282366920938463426481119284349108225:=(ZS h2.1 (by omega:al<=18446744073709551615) h4.1 (by omega:bl<=18446744073709551615)).2;have hm:((val a).natAbs:Int)*((val b).natAbs:Int)=c*18446744073709551616+al*bl:=by
  rw[hA,hB,hc1];rcases h0 with rfl | rfl
  ·simp only[Int.zero_mul,Int.zero_add,Int.mul_add]
   have:al*(bh*18446744073709551616)=bh*al*18446744073709551616:=by rw[Int.mul_left_comm,<-Int.mul_assoc]
   omega
  ·simp only[Int.zero_mul,Int.zero_add,Int.add_zero,Int.add_mul]
   have:ah*18446744073709551616*bl=ah*bl*18446744073709551616:=by rw[Int.mul_right_comm]
   omega
 have hs:=W8 (x:=val a) (y:=val b) rfl rfl;rw[hm,<-SP ha,<-SP hb] at hs;generalize al*bl=d at*;generalize hsg:(!(decide (a.1<0)==decide (b.1<0)))=sg at*;rw[Zd F (by omega) (by omega) (by omega) (by omega)];simp only[zD];by_cases q1:c/18446744073709551616=0
 ·have e1:(c/18446744073709551616 != 0)=false:=by simp[q1]
  rw[e1];simp only[cond_false];by_cases q2:(d/18446744073709551616+c%18446744073709551616+0)/18446744073709551616=0
  ·have e2:((d/18446744073709551616+c%18446744073709551616+0)/18446744073709551616 != 0)=false:=by rw[q2]; rfl
   rw[e2];simp only[cond_false];rw[Ud F (v:=val a*val b) (by omega) (by omega) (by omega) (by omega) (by rw[hs]; cases sg<;>simp only[cond_true,cond_false]<;>omega)];simp only[zD]
  ·have e2:((d/18446744073709551616+c%18446744073709551616+0)/18446744073709551616 != 0)=true:=bne_iff_ne.2 q2
   rw[e2];simp only[cond_true];have hr:inR (val a*val b)=false:=by rw[uY,hs]; cases sg<;>simp only[cond_true,cond_false]<;>omega
   simp only[vz,vG,hr,cond_false]
 ·have e1:(c/18446744073709551616 != 0)=true:=by simp[q1]
  rw[e1];simp only[cond_true];have hr:inR (val a*val b)=false:=by rw[uY,hs]; cases sg<;>simp only[cond_true,cond_false]<;>omega
  simp only[vz,vG,hr,cond_false]
theorem VM (F:Nat) {a b:Int×Int} (ha:wfW a) (hb:wfW b):yz.sh F a b=some ((vz (val a*val b),vG (val a*val b),()),()):=by
 have ba:=zaA ha;have bb:=zaA hb;unfold yz.sh;rw[UF F ha,UF F hb];simp only[zD];have key:∀(h0:((val a).natAbs:Int)/18446744073709551616=0\/((val b).natAbs:Int)/18446744073709551616=0),yz.j5 F (fun e w=>some ((w,e,()),())) (fun e w=>some ((w,e,()),()))
   (((val a).natAbs:Int)/18446744073709551616) (((val a).natAbs:Int)%18446744073709551616) (((val b).natAbs:Int)/18446744073709551616) (((val b).natAbs:Int)%18446744073709551616) a b (0,0) =
   (some ((vz (val a*val b),vG (val a*val b),()),()):Option yz.sg.R):=fun h0 =>
  wmul_j F (fun w e=>some ((w,e,()),())) ha hb (0,0) (by omega) (by omega) (by omega) (by omega) (by omega) (by omega) h0
 by_cases q1:((val a).natAbs:Int)/18446744073709551616=0
 ·have e1:(((val a).natAbs:Int)/18446744073709551616 != 0)=false:=by simp[q1]
  rw[e1];simp only[cond_false];exact key (.inl q1)
 ·have e1:(((val a).natAbs:Int)/18446744073709551616 != 0)=true:=by simp[q1]
  rw[e1];simp only[cond_true];by_cases q2:((val b).natAbs:Int)/18446744073709551616=0
  ·have e2:(((val b).natAbs:Int)/18446744073709551616 != 0)=false:=by simp[q2]
   rw[e2];simp only[cond_false];exact key (.inr q2)
  ·have e2:(((val b).natAbs:Int)/18446744073709551616 != 0)=true:=by simp[q2]
   rw[e2];simp only[cond_true];have hs:=W8 (x:=val a) (y:=val b) rfl rfl;have hp:(18446744073709551616:Int)*18446744073709551616<=((val a).natAbs:Int)*((val b).natAbs:Int):=Int.mul_le_mul (by omega) (by omega) (by omega) (by omega);have hr:inR (val a*val b)=false:=by
    rw[uY,hs];generalize ((val a).natAbs:Int)*((val b).natAbs:Int)=m at*;cases (!(decide (val a<0)==decide (val b<0)))<;>simp only[cond_true,cond_false]<;>omega
   simp only[vz,vG,hr,cond_false]
def FU:Nat:=4194304
def TZ (l:List (Int×Int)):Int:=(l.map val).sum
theorem shr63 {x:Int} (h1:-9223372036854775808<=x) (h2:x<9223372036854775808):x.fdiv (2^(min (63:Int).toNat IntKind.i64.bits))=if x<0 then -1 else 0:=by
 have e:(2^(min (63:Int).toNat IntKind.i64.bits):Int)=9223372036854775808:=by decide
 rw[e,Int.fdiv_eq_ediv_of_nonneg _ (by omega)];split<;>omega
theorem pair2 {a b c d:Int} (h1:a=c) (h2:b=d):(a,b)=(c,d):=by rw[h1,h2]
theorem sum_rg (F:Nat) {R:Type} (k:Int->Int->Int->Option R) (l:List (Int×Int)) (N:Int) (xs:List (Int×Int)):∀(i lo hi top:Int) (r:Int×Int),(∀x∈xs,wfW x)->0<=lo->lo<18446744073709551616->0<=hi->hi<18446744073709551616->
  -4611686018427387904+xs.length<=top->top<=4611686018427387904-xs.length->
  ∃lo' hi' top',ym.l4.rg F (fun lo hi top _ _ _ _ _=>k lo hi top) l N xs i lo hi top r=k lo' hi' top'/\0<=lo'/\lo'<18446744073709551616/\0<=hi'/\hi'<18446744073709551616 /\
   -4611686018427387904<=top'/\top'<=4611686018427387904/\top'*340282366920938463463374607431768211456+hi'*18446744073709551616+lo'=top*340282366920938463463374607431768211456+hi*18446744073709551616+lo+TZ xs:=by
 induction xs with
 | nil =>
  intro i lo hi top r _ h1 h2 h3 h4 h5 h6;exact ⟨lo,hi,top,by simp only[ym.l4.rg],h1,h2,h3,h4,by simp at h5; omega,by simp at h6; omega,by simp[TZ]⟩
 | cons x xs ih =>
  intro i lo hi top r hw h1 h2 h3 h4 h5 h6;obtain ⟨x1,x2⟩:=x;obtain ⟨g1,g2,g3,g4⟩:=hw (x1,x2) (by simp);simp only at g1 g2 g3 g4;simp only[ym.l4.rg,ve];rw[Zd F h1 g3 (by omega) (by omega)];simp only[zD];rw[Zd F h3 (by omega) (by omega) (by omega)];simp only[zD];rw[shr63 g1 g2];obtain ⟨s,hs⟩:∃s:Int,s=(if x1<0 then -1 else 0)/\(x1<0/\s=-1\/0<=x1/\s=0):=⟨_,rfl,by split<;>omega⟩;rw[<-hs.1];simp only[List.length_cons] at h5 h6;rw[yT (n:=(hi+x1%18446744073709551616+(lo+x2+0)/18446744073709551616)/18446744073709551616) (by omega) (by omega)];rw[yT (n:=s+_) (by omega) (by omega),yT (n:=top+_) (by omega) (by omega)];obtain ⟨lo',hi',top',e1,e2,e3,e4,e5,e6,e7,e8⟩:=ih (i+1) ((lo+x2+0)%18446744073709551616) ((hi+x1%18446744073709551616+(lo+x2+0)/18446744073709551616)%18446744073709551616)
   (top+(s+(hi+x1%18446744073709551616+(lo+x2+0)/18446744073709551616)/18446744073709551616)) r (fun y hy=>hw y (by simp[hy])) (by omega) (by omega) (by omega) (by omega) (by omega) (by omega)
  refine ⟨lo',hi',top',e1,e2,e3,e4,e5,e6,e7,?_⟩;rw[e8];simp only[TZ,List.map_cons,List.sum_cons,val];omega
theorem wsum_eq (F:Nat) {l:List (Int×Int)} (hw:∀x∈l,wfW x) (hl:l.length<F) (hL:l.length<4611686018427387904):ym.sh F l=some ((vz (TZ l),vG (TZ l),()),()):=by
 unfold ym.sh;rw[show (0:Int)=((0:Nat):Int) from rfl,ym.l4.rg_eq F _ l _ rfl (by omega) l 0 F _ _ _ _ (by simp) hl];obtain ⟨lo,hi,top,e1,e2,e3,e4,e5,e6,e7,e8⟩:=sum_rg F (fun lo hi top=>bif (top != ((i64.wrap hi).fdiv (2^(min (63:Int).toNat IntKind.i64.bits)))) then (some (((0,0),10,()),()):Option ym.sg.R) else some (((i64.wrap hi,lo),0,()),()))
  l (l.length:Int) l 0 0 0 0 (0,0) hw (by omega) (by omega) (by omega) (by omega) (by omega) (by omega)
 refine e1.trans ?_;obtain ⟨k,f1,f2,f3⟩:=VK hi;rw[shr63 f2 f3];simp only[Int.zero_mul,Int.zero_add] at e8;rw[<-e8];generalize i64.wrap hi=r at*;by_cases hr:r<0
 ·rw[if_pos hr]
  by_cases ht:top=-1
  ·have hb:(top != -1)=false:=by rw[ht]; rfl
   have hin:inR (top*340282366920938463463374607431768211456+hi*18446744073709551616+lo)=true:=by rw[y7]; omega
   simp only[hb,cond_false,vz,vG,hin,cond_true,mk];rw[pair2 (a:=r) (b:=lo) (c:=(top*340282366920938463463374607431768211456+hi*18446744073709551616+lo)/18446744073709551616) (d:=(top*340282366920938463463374607431768211456+hi*18446744073709551616+lo)%18446744073709551616) (by omega) (by omega)]
  ·have hb:(top != -1)=true:=bne_iff_ne.2 ht
   have hin:inR (top*340282366920938463463374607431768211456+hi*18446744073709551616+lo)=false:=by rw[uY]; omega
   simp only[hb,cond_true,vz,vG,hin,cond_false]
 ·rw[if_neg hr]
  by_cases ht:top=0
  ·have hb:(top != 0)=false:=by rw[ht]; rfl
   have hin:inR (top*340282366920938463463374607431768211456+hi*18446744073709551616+lo)=true:=by rw[y7]; omega
   simp only[hb,cond_false,vz,vG,hin,cond_true,mk];rw[pair2 (a:=r) (b:=lo) (c:=(top*340282366920938463463374607431768211456+hi*18446744073709551616+lo)/18446744073709551616) (d:=(top*340282366920938463463374607431768211456+hi*18446744073709551616+lo)%18446744073709551616) (by omega) (by omega)]
  ·have hb:(top != 0)=true:=bne_iff_ne.2 ht
   have hin:inR (top*340282366920938463463374607431768211456+hi*18446744073709551616+lo)=false:=by rw[uY]; omega
   simp only[hb,cond_true,vz,vG,hin,cond_false]
theorem power_0:zP.sh FU 0=some ((mk (10000^(0:Int).toNat),0,()),()):=by kernel_rfl
theorem power_1:zP.sh FU 1=some ((mk (10000^(1:Int).toNat),0,()),()):=by kernel_rfl
theorem power_2:zP.sh FU 2=some ((mk (10000^(2:Int).toNat),0,()),()):=by kernel_rfl
theorem power_3:zP.sh FU 3=some ((mk (10000^(3:Int).toNat),0,()),()):=by kernel_rfl
theorem power_4:zP.sh FU 4=some ((mk (10000^(4:Int).toNat),0,()),()):=by kernel_rfl
theorem power_5:zP.sh FU 5=some ((mk (10000^(5:Int).toNat),0,()),()):=by kernel_rfl
theorem power_6:zP.sh FU 6=some ((mk (10000^(6:Int).toNat),0,()),()):=by kernel_rfl
theorem power_7:zP.sh FU 7=some ((mk (10000^(7:Int).toNat),0,()),()):=by kernel_rfl
theorem power_8:zP.sh FU 8=some ((mk (10000^(8:Int).toNat),0,()),()):=by kernel_rfl
theorem power_9:zP.sh FU 9=some ((mk (10000^(9:Int).toNat),0,()),()):=by kernel_rfl
theorem QL {k:Int} (h1:0<=k) (h2:k<=9):zP.sh FU k=some ((mk (10000^k.toNat),0,()),()):=by
 have:k=0\/k=1\/k=2\/k=3\/k=4\/k=5\/k=6\/k=7\/k=8\/k=9:=by omega
 rcases this with rfl | rfl | rfl | rfl | rfl | rfl | rfl | rfl | rfl | rfl
 ·exact power_0
 ·exact power_1
 ·exact power_2
 ·exact power_3
 ·exact power_4
 ·exact power_5
 ·exact power_6
 ·exact power_7
 ·exact power_8
 ·exact power_9
def ZK (a b:Int):Int:=a/b+if a%b=0 then 0 else 1
theorem za9 (F:Nat) {s:Int} (h1:1<=s) (h2:s<=1000000000000):xw.sh F (mk 1099511627776) (mk s) 1=some ((mk (ZK 1099511627776 s),0,()),()):=by
 have hq1:0<=1099511627776/s:=Int.ediv_nonneg (by omega) (by omega);have hq2:1099511627776/s<=1099511627776:=Int.ediv_le_self _ (by omega);have hr1:0<=1099511627776%s:=Int.emod_nonneg _ (by omega);have hr2:1099511627776%s<s:=Int.emod_lt_of_pos _ (by omega);have ms:mk s=(0,s):=by simp only[mk]; ext<;>simp only<;>omega
 have ma:mk 1099511627776=(0,1099511627776):=by rfl
 have mks:∀{v:Int},0<=v->v<18446744073709551616->mk v=(0,v):=fun h h'=>by simp only[mk]; ext<;>simp only<;>omega
 have hQ:yY.sh F (mk 1099511627776) (mk s)=some ((mk (1099511627776/s),mk (1099511627776%s),0,()),()):=by
  unfold yY.sh;have hb:(((mk s).1==0)&&(((mk s).2==0)&&true))=false:=by
   rw[ms]; simp; omega
  rw[hb];simp only[cond_false];rw[UF F (wz (by rw[y7]; omega)),UF F (wz (by rw[y7]; omega))];simp only[zD,wI];have n1:((1099511627776:Int).natAbs:Int)=1099511627776:=rfl;have n2:(s.natAbs:Int)=s:=by omega
  rw[n1,n2];have d1:(1099511627776:Int)/18446744073709551616=0:=by decide
  have d2:(1099511627776:Int)%18446744073709551616=1099511627776:=by decide
  have d3:s/18446744073709551616=0:=by omega
  have d4:s%18446744073709551616=s:=by omega
  rw[d1,d2,d3,d4];have hsne:(s != 0)=true:=bne_iff_ne.2 (by omega);have hs0:(s==0)=false:=by rw[beq_eq_false_iff_ne]; omega
  have hq:yd.sh F 0 1099511627776 0 s=some ((0,1099511627776/s,0,1099511627776%s,()),()):=by
   unfold yd.sh zl.sh;have e0:(0:Int).tmod s=0:=by simp
   have e1:(0:Int).tdiv s=0:=by simp
   have e2:(1099511627776:Int).tdiv s=1099511627776/s:=Int.tdiv_eq_ediv_of_nonneg (by omega);have e3:(1099511627776:Int).tmod s=1099511627776%s:=Int.tmod_eq_emod_of_nonneg (by omega);have e4:decide (s<=0)=false:=by simp; omega
   simp only[beq_self_eq_true,cond_true,hsne,e0,e1,hs0,cond_false,e4,zD,e2,e3];rw[vk (by omega) (by omega),vk (n:=1099511627776/s) (by omega) (by omega)]
  rw[hq];simp only[zD];have hng:(!(decide ((mk 1099511627776).1<0)==decide ((mk s).1<0)))=false:=by rw[ma,ms]; rfl
  rw[hng,Ud F (v:=1099511627776/s) (by omega) (by omega) (by omega) (by omega) (by simp)];simp only[zD];have i1:inR (1099511627776/s)=true:=by rw[y7]; omega
  have i2:inR (1099511627776%s)=true:=by rw[y7]; omega
  have hz:decide ((mk 1099511627776).1<0)=false:=by rw[ma]; rfl
  simp only[vG,vz,i1,cond_true,bne_self_eq_false,cond_false];rw[hz,Ud F (v:=1099511627776%s) (by omega) (by omega) (by omega) (by omega) (by simp)];simp only[zD,vG,vz,i2,cond_true]
 unfold xw.sh;rw[hQ];have c1:decide ((1:Int)<0)=false:=by decide
 have c2:decide ((1:Int)>4)=false:=by decide
 simp only[c1,c2,cond_false,zD,bne_self_eq_false];by_cases hz:1099511627776%s=0
 ·have e:(((mk (1099511627776%s)).1==0)&&(((mk (1099511627776%s)).2==0)&&true))=true:=by rw[hz]; rfl
  rw[e];simp only[cond_true,ZK,hz,if_true,Int.add_zero]
 ·have e:(((mk (1099511627776%s)).1==0)&&(((mk (1099511627776%s)).2==0)&&true))=false:=by
   rw[mks hr1 (by omega)]; simp; exact hz
  rw[e];simp only[cond_false];have ha:xk.sh F (mk (1099511627776/s)) (mk (1099511627776%s)) (mk s) 1=some ((true,()),()):=by
   unfold xk.sh;rw[mks hr1 (by omega),ms];rfl
  rw[ha];simp only[zD,Bool.not_true,cond_false];have hng:(!(decide ((mk 1099511627776).1<0)==decide ((mk s).1<0)))=false:=by rw[ma,ms]; rfl
  rw[hng];simp only[cond_false];rw[uS F (by omega) (by omega)];simp only[zD];rw[zaz F (wz (by rw[y7]; omega)) (wz (by rw[y7]; omega))];simp only[zD,wI];have i1:inR (1099511627776/s+1)=true:=by rw[y7]; omega
  simp only[vG,vz,i1,cond_true,ZK,hz,if_false]
def Wc (c:Int):Bool:=decide (c>=97)&&decide (c<=122)
def digB (c:Int):Bool:=decide (c>=48)&&decide (c<=57)
def Sk (c:Int):Bool:=Wc c||(digB c||c==95)
theorem YX (F:Nat) (c:Int):yQ.sh F c=some ((Wc c,()),()):=by
 unfold yQ.sh Wc;cases decide (c>=97)<;>rfl
theorem zaa (F:Nat) (c:Int):xu.sh F c=some ((digB c,()),()):=by
 unfold xu.sh digB;cases decide (c>=48)<;>rfl
theorem Q3 (F:Nat) (c:Int):xl.sh F c=some ((Sk c,()),()):=by
 unfold xl.sh Sk;rw[YX,zaa];simp only[zD];cases Wc c<;>cases digB c<;>rfl
def cI (c:UInt8):Int:=(c.toNat:Int)
theorem bt_at {s:ByteArray} {n:Nat} {c:UInt8} {r:List UInt8} (h:s.data.toList.drop n=c::r):bt s (n:Int)=cI c:=by
 have:s.data.toList[n]?=some c:=by
  have:=congrArg (·[0]?) h
  simpa using this
 simp only[bt,Int.toNat_natCast,List.getD_eq_getElem?_getD,this,Option.getD_some,cI]
theorem w9 (s:ByteArray):s.size=s.data.toList.length:=by rw[Array.length_toList]; rfl
theorem run_l2 (F:Nat) {R:Type} (k:Int->Option R) (s:ByteArray) (of:Nat) (p:Int->Bool) (hp:∀c,yf.d15 F of (c,())=some ((p c,()),())) (hs:s.size<4611686018427387904) :
  ∀(xs:List UInt8) (n fu:Nat),s.data.toList.drop n=xs->xs.length<fu->yf.l2 F (fun _ _ n _=>k n) fu s of (n:Int)=k ((n+(xs.takeWhile fun c=>p (cI c)).length:Nat):Int):=by
 intro xs;induction xs with
 | nil =>
  intro n fu h hf;obtain ⟨fu,rfl⟩:∃j,fu=j+1:=⟨fu-1,by simp at hf; omega⟩;have hn:s.size<=n:=by rw[w9]; simpa using h
  have e1:decide ((n:Int)<(s.size:Int))=false:=by simp; exact hn
  simp only[yf.l2,yf.l2.body,e1,cond_false,List.takeWhile_nil,List.length_nil,Nat.add_zero]
 | cons c xs ih =>
  intro n fu h hf;obtain ⟨fu,rfl⟩:∃j,fu=j+1:=⟨fu-1,by simp at hf; omega⟩;have hn:n<s.size:=by rw[w9]; exact xT h
  have e1:decide ((n:Int)<(s.size:Int))=true:=by simp; exact hn
  have e2:idx (n:Int) s.size=true:=yZ hn;simp only[yf.l2,yf.l2.body,e1,e2,cond_true,bt_at h,hp,zD];cases hc:p (cI c) with
  | true =>
   simp only[cond_true];rw[yT (by omega) (by omega),<-y4,ih (n+1) fu (xm h) (by simp at hf; omega)];simp only[List.takeWhile_cons,hc,if_true,List.length_cons];congr 2
   omega
  | false =>
   simp only[cond_false,List.takeWhile_cons,hc];simp
theorem QE (F:Nat) {s:ByteArray} {of:Nat} {p:Int->Bool} (hp:∀c,yf.d15 F of (c,())=some ((p c,()),())) (hs:s.size<4611686018427387904) (hF:s.size<F) :
  yf.sh F s of=some ((((s.data.toList.takeWhile fun c=>p (cI c)).length:Int),()),()):=by
 unfold yf.sh;have:=run_l2 F (fun n=>(some ((n,()),()):Option yf.sg.R)) s of p hp hs s.data.toList 0 F (by simp) (by rw[<-w9]; exact hF);simpa using this
theorem SG (F:Nat) (c:Int):yf.d15 F vc (c,())=some ((Wc c,()),()):=by
 unfold yf.d15;rw[show mkT yf.ds15 [(vm,xl.sp F),(vc,yQ.sp F)] vc (c,())=yQ.sh F c from rfl,YX]
theorem Qk (F:Nat) (c:Int):yf.d15 F vm (c,())=some ((Sk c,()),()):=by
 unfold yf.d15;rw[show mkT yf.ds15 [(vm,xl.sp F),(vc,yQ.sp F)] vm (c,())=xl.sh F c from rfl,Q3]
theorem vE {α:Type} {p:α->Bool}:∀{l:List α},((l.takeWhile p).length=l.length)↔l.all p=true
 | []=>by simp
 | a::l=>by
  simp only[List.takeWhile_cons,List.all_cons];cases h:p a with
  | true=>simp only[if_true,List.length_cons,Bool.true_and]; rw[<-vE (l:=l)]; omega
  | false=>simp
def wordsL:List UInt8:=[32,112,108,97,110,32,114,111,117,110,100,32,98,121,32,98,108,111,99,107,115,32,109,105,110,32,109,97,120,32,111,118,101,114,32,117,112,116,111,32,103,114,97,100,117,97,116,101,100,32,118,111,108,117,109,101,32,111,102,102,32,105,102,32,102,108,111,111,114,32,99,101,105,108,32,122,101,114,111,32,104,97,108,102,32,101,118,101,110,32]
def Qu (l:List UInt8):Bool:=!l.isEmpty&&(l.all (fun c=>Wc (cI c))&&Lib.contains wordsL ([32]++l++[32]))
def Yp (l:List UInt8):Bool:=!l.isEmpty&&(decide (l.length<=32)&&(Wc (cI (l.headD 0))&&(l.all (fun c=>Sk (cI c))&&!Qu l)))
theorem Tc (s:ByteArray):(!(s.toList==(⟨#[]⟩:ByteArray).toList))=!s.data.toList.isEmpty:=by
 rw[ByteArray.toList_eq,ByteArray.toList_eq];cases s.data.toList<;>rfl
theorem word_eq (F:Nat) {s:ByteArray} (hs:s.size<=1048576) (hF:s.size<F):xI.sh F s=some ((Qu s.data.toList,()),()):=by
 unfold xI.sh;rw[Tc,QE F (SG F) (by omega) hF];unfold Qu;cases hE:s.data.toList.isEmpty with
 | true=>rfl
 | false =>
  simp only[Bool.not_false,cond_true,zD,Bool.true_and];by_cases ha:s.data.toList.all (fun c=>Wc (cI c))=true
  ·have e1:(((s.data.toList.takeWhile fun c=>Wc (cI c)).length:Int)==(s.size:Int))=true:=by
    rw[vE.2 ha,<-w9]; simp
   have s1:(⟨#[32]⟩:ByteArray).size=1:=rfl;have s2:((⟨#[32]⟩:ByteArray)++s).size=1+s.size:=by rw[ByteArray.size_append]; rfl
   have e2:Nat.ble ((⟨#[32]⟩:ByteArray).size+s.size) xp=true:=by rw[s1,Nat.ble_eq]; unfold xp; omega
   have e3:Nat.ble (((⟨#[32]⟩:ByteArray)++s).size+(⟨#[32]⟩:ByteArray).size) xp=true:=by rw[s1,s2,Nat.ble_eq]; unfold xp; omega
   rw[e1,e2,e3,ha];simp only[cond_true,Bool.true_and];have hd:((⟨#[32]⟩:ByteArray)++s++(⟨#[32]⟩:ByteArray)).data.toList=[32]++s.data.toList++[32]:=by simp[ByteArray.data_append]
   unfold yK.sh;rw[hd];rfl
  ·have e1:(((s.data.toList.takeWhile fun c=>Wc (cI c)).length:Int)==(s.size:Int))=false:=by
    rw[beq_eq_false_iff_ne];intro h;apply ha;rw[<-vE];rw[w9] at h;exact_mod_cast h
   rw[e1];simp only[cond_false];rw[Bool.not_eq_true] at ha;rw[ha];rfl
theorem S1 (F:Nat) {s:ByteArray} (hF:64<F):xB.sh F s=some ((Yp s.data.toList,()),()):=by
 unfold xB.sh Yp;rw[Tc];cases hE:s.data.toList.isEmpty with
 | true=>rfl
 | false =>
  simp only[Bool.not_false,cond_true,Bool.true_and];by_cases hl:s.data.toList.length<=32
  ·have e1:decide ((s.size:Int)<=32)=true:=decide_eq_true (by have:=w9 s; omega)
   have hpos:0<s.size:=by rw[w9]; cases h:s.data.toList with | nil=>rw[h] at hE; cases hE | cons=>simp
   have e2:idx 0 s.size=true:=yZ (i:=0) hpos;have e3:bt s 0=cI (s.data.toList.headD 0):=by
    cases h:s.data.toList with
    | nil=>rw[h] at hE; cases hE
    | cons c r=>exact bt_at (n:=0) (r:=r) (by simpa using h)
   have hsz:s.size<=32:=by rw[w9]; exact hl
   rw[e1,e2,e3,YX,QE F (Qk F) (by omega) (by omega),word_eq F (by omega) (by omega)];simp only[cond_true,zD,hl,decide_true,Bool.true_and];cases Wc (cI (s.data.toList.headD 0)) with
   | false=>rfl
   | true =>
    simp only[cond_true,Bool.true_and];by_cases ha:s.data.toList.all (fun c=>Sk (cI c))=true
    ·have e4:(((s.data.toList.takeWhile fun c=>Sk (cI c)).length:Int)==(s.size:Int))=true:=by
      rw[vE.2 ha,<-w9]; simp
     rw[e4,ha];rfl
    ·have e4:(((s.data.toList.takeWhile fun c=>Sk (cI c)).length:Int)==(s.size:Int))=false:=by
      rw[beq_eq_false_iff_ne];intro h;apply ha;rw[<-vE];rw[w9] at h;exact_mod_cast h
     rw[e4];rw[Bool.not_eq_true] at ha;rw[ha];rfl
  ·have e1:decide ((s.size:Int)<=32)=false:=decide_eq_false (by have:=w9 s; omega)
   have e2:decide (s.data.toList.length<=32)=false:=decide_eq_false hl;rw[e1,e2];rfl
theorem Wi {n:Int} {len:Nat} (h1:0<=n) (h2:n<(len:Int)):idx n len=true:=by
 unfold idx; rw[decide_eq_true h1,decide_eq_true h2]; rfl
def qJ (a b:ByteArray):Bool:=a.toList==b.toList
theorem d16_eq (F:Nat) (e d:xd.T):zh.d16 F (wo+1) (e,d,())=some ((qJ e.1 d.1,()),()):=by
 unfold zh.d16;rw[show mkT zh.ds16 [(qB,y6.sp F)] (wo+1) (e,d,())=y6.sh F e d from rfl];rfl
theorem R4 (F:Nat) {R:Type} (k:Int->Option R) (k':Option R) (L:List xd.T) (N:Int) (d:xd.T):∀(xs:List xd.T) (i:Nat),
  zh.l2.rg F k (fun _ _ _ _ _=>k') L N xs (i:Int) (wo,d)=match xs.findIdx? (fun e=>qJ e.1 d.1) with | some j=>k ((i+j:Nat):Int) | none=>k':=by
 intro xs;induction xs with
 | nil=>intro i; rfl
 | cons x xs ih =>
  intro i;simp only[zh.l2.rg];rw[d16_eq];simp only[zD];cases h:qJ x.1 d.1 with
  | true=>simp[List.findIdx?_cons,h]
  | false =>
   simp only[cond_false];rw[<-y4,ih (i+1)];simp only[List.findIdx?_cons,h];cases hj:xs.findIdx? (fun e=>qJ e.1 d.1) with
   | none=>simp
   | some j=>simp; congr 1; omega
theorem Uz (F:Nat) {l:List xd.T} {d:xd.T} (hl:l.length<F) (hL:l.length<4611686018427387904):zS.sh F l (wo,d)=some ((l.any (fun e=>qJ e.1 d.1),()),()):=by
 unfold zS.sh zh.sh;have h1:=zh.l2.rg_eq F (fun r42=>(some ((r42,()),()):Option zh.sg.R)) (fun s3 f3 t73 t83 t93=>some (((-1),()),())) l (l.length:Int) rfl (by omega) l 0 F (wo,d) (by simp) hl;have h2:=R4 F (fun r=>(some ((r,()),()):Option zh.sg.R)) (some (((-1),()),())) l (l.length:Int) d l 0;have h3:=h1.trans h2;rw[show ((0:Nat):Int)=0 from rfl] at h3;rw[h3];cases h:l.findIdx? (fun e=>qJ e.1 d.1) with
 | none =>
  have:l.any (fun e=>qJ e.1 d.1)=false:=by
   rw[List.findIdx?_eq_none_iff] at h;rw[List.any_eq_false];intro x hx;simpa using h x hx
  simp only[zD,this];rfl
 | some j =>
  have:l.any (fun e=>qJ e.1 d.1)=true:=by
   rw[List.findIdx?_eq_some_iff_getElem] at h;obtain ⟨h1,h2,_⟩:=h;rw[List.any_eq_true];exact ⟨l[j],List.getElem_mem _,h2⟩
  simp only[zD,this];have:decide (((0+j:Nat):Int)>=0)=true:=decide_eq_true (by omega);rw[this]
abbrev dS (d:xd.T):Int:=d.2
def dE (pre:List xd.T):List xd.T->Int
 | []=>0
 | d::r=>bif !Yp d.1.data.toList then 61 else bif pre.any (fun e=>qJ e.1 d.1) then 61 else bif decide (dS d<1) then 50 else bif decide (dS d>1000000000000) then 50 else dE (pre++[d]) r
def qT (name:ByteArray) (dims:List xd.T) (mode:Int):Int :=
 bif !Yp name.data.toList then 61 else bif decide ((dims.length:Int)<1) then 100 else bif decide ((dims.length:Int)>4) then 100 else bif dE [] dims != 0 then dE [] dims else bif decide (mode<0) then 50 else bif decide (mode>4) then 50 else 0
theorem tW {n i:Nat} (h:i<=n):zG n none (some (i:Int))=(true,0,i):=by
 unfold zG;have e1:decide ((0:Int)<=((i:Nat):Int))=true:=decide_eq_true (by omega);have e2:decide (((i:Nat):Int)<=(n:Int))=true:=decide_eq_true (by omega);simp only[Option.getD_none,Option.getD_some,e1,e2,Int.toNat_natCast];rfl
theorem tV {n i:Nat} (h:i<=n):zG n (some (i:Int)) none=(true,i,n):=by
 unfold zG;have e1:decide ((0:Int)<=((i:Nat):Int))=true:=decide_eq_true (by omega);have e2:decide (((i:Nat):Int)<=(n:Int))=true:=decide_eq_true (by omega);have e3:decide ((n:Int)<=(n:Int))=true:=decide_eq_true (by omega);simp only[Option.getD_none,Option.getD_some,e1,e2,e3,Int.toNat_natCast];rfl
theorem head_rg (F:Nat) (hF:64<F) {R:Type} (k:Int->Option R) (k2:zI.T->Option R) (L:List xd.T) (N:Int) (p:zI.T) (hp:p.2.1=L) (hL:L.length<=32):∀(xs:List xd.T) (i:Nat),L.drop i=xs->
  zV.l6.rg F k k (fun _ _ _ _ p=>k2 p) L N xs (i:Int) p=bif dE (L.take i) xs != 0 then k (dE (L.take i) xs) else k2 p:=by
 intro xs;induction xs with
 | nil=>intro i h; rfl
 | cons d xs ih =>
  intro i h;have hi:=xT h;have hd:L[i]?=some d:=by have:=congrArg (·[0]?) h; simpa using this
  have htake:L.take (i+1)=L.take i++[d]:=by rw[List.take_add_one,hd]; rfl
  simp only[zV.l6.rg];rw[S1 F hF];simp only[zD,dE];rw[<-y4,ih (i+1) (xm h),htake];cases hn:Yp d.1.data.toList with
  | false=>rfl
  | true =>
   simp only[Bool.not_true,cond_false];rw[hp,tW (by omega)];simp only[cond_true,List.drop_zero];rw[Uz F (by simp; omega) (by simp; omega)];simp only[zD];cases hc:(L.take i).any (fun e=>qJ e.1 d.1) with
   | true=>rfl
   | false =>
    simp only[cond_false];cases decide (dS d<1) with
    | true=>rfl
    | false =>
     cases decide (dS d>1000000000000) with
     | true=>rfl
     | false=>rfl
theorem head_eq (F:Nat) (hF:64<F) (p:zI.T):zV.sh F p=some ((qT p.1 p.2.1 p.2.2.1,()),()):=by
 unfold zV.sh qT;rw[S1 F hF];simp only[zD];cases hn:Yp p.1.data.toList with
 | false=>rfl
 | true =>
  simp only[Bool.not_true,cond_false];cases h1:decide ((p.2.1.length:Int)<1) with
  | true=>rfl
  | false =>
   cases h2:decide ((p.2.1.length:Int)>4) with
   | true=>rfl
   | false =>
    have h2:=of_decide_eq_false h2;simp only[cond_false];refine Eq.trans (zV.l6.rg_eq F _ _ _ p.2.1 _ rfl (by omega) p.2.1 0 F _ (by simp) (by omega)) ?_;refine (head_rg F hF (fun r=>(some ((r,()),()):Option zV.sg.R)) (fun p=>bif decide (p.2.2.1<0) then some ((50,()),()) else bif decide (p.2.2.1>4) then some ((50,()),()) else some ((0,()),())) p.2.1 (p.2.1.length:Int) p rfl (by omega) p.2.1 0 (by simp)).trans ?_;simp only[List.take_zero];cases (dE [] p.2.1 != 0) with
    | true=>rfl
    | false =>
     cases decide (p.2.2.1<0) with
     | true=>rfl
     | false=>cases decide (p.2.2.1>4)<;>rfl
abbrev nK (n:zr.T):Int:=n.1
abbrev nN (n:zr.T):Int:=n.2.1
abbrev nO (n:zr.T):Int:=n.2.2.1
abbrev nC (n:zr.T):Int:=n.2.2.2.1
abbrev nT (n:zr.T):List zo.T:=n.2.2.2.2.1
abbrev qD (n:zr.T):Int×Int×Bool×Bool:=get yG we (nK n).toNat
abbrev aK (n:zr.T):Int:=(qD n).1
def ar (n:zr.T):Nat:=bif decide (aK n>=0) then (aK n).toNat else (nC n).toNat
def ub (n:zr.T):Bool:=decide (1<=nK n)&&decide (nK n<=16)
def ua (n:zr.T):Bool:=bif decide (aK n<0) then decide (nC n>=2)&&decide (nC n<=16) else nC n==0
theorem uL {n:zr.T}:ub n=true↔1<=nK n/\nK n<=16:=by simp[ub]
theorem Z7 (F:Nat) {n:zr.T} (h:ub n=true) (hk:ua n=true):yJ.sh F n=some (((ar n:Int),()),()):=by
 unfold yJ.sh;have hg:=uL.1 h;have e1:idx (nK n) 17=true:=Wi (by omega) (by omega);unfold ar;unfold ua at hk;rw[show idx n.1 17=true from e1];simp only[cond_true];cases ha:decide (aK n>=0) with
 | true =>
  have ha':=of_decide_eq_true ha;simp only[cond_true];have:(((aK n).toNat:Nat):Int)=aK n:=by omega
  rw[this]
 | false =>
  have ha':=of_decide_eq_false ha;simp only[cond_false];rw[decide_eq_true (show aK n<0 by omega)] at hk;simp at hk;have:(((nC n).toNat:Nat):Int)=nC n:=by omega
  rw[this]
abbrev tF (x:zo.T):Int:=x.1
abbrev tR (x:zo.T):Int:=x.2
def V5 (l:List zo.T) (i:Nat) (x:zo.T):Bool:=(decide (i=0)||!decide (tF x<=tF (l.getD (i-1) (0,0))))&&(!decide (tF x>1000000000000)&&(!decide (tR x < -1000000000000)&&!decide (tR x>1000000000000)))
def vJ (l:List zo.T):List zo.T->Nat->Bool
 | [],_=>true
 | x::r,i=>V5 l i x&&vJ l r (i+1)
def tI (l:List zo.T):Bool:=decide (1<=l.length)&&(decide (l.length<=16)&&(decide (tF (l.getD 0 (0,0))=0)&&vJ l l 0))
theorem RP (F:Nat) {R:Type} (k:Bool->Option R) (k1:Option R) (l:List zo.T) (N:Int) (hl:l.length<=32):∀(xs:List zo.T) (i:Nat),l.drop i=xs->
  zH.l4.rg F k (fun _ _ _ _ _=>k1) l N xs (i:Int) l=bif vJ l xs i then k1 else k false:=by
 intro xs;induction xs with
 | nil=>intro i h; simp[zH.l4.rg,vJ]
 | cons x xs ih =>
  intro i h;have hi:=xT h;have ih:=ih (i+1) (xm h);rw[y4] at ih;simp only[zH.l4.rg,vJ,V5];by_cases h0:i=0
  ·subst h0
   have e1:decide (((0:Nat):Int)>0)=false:=rfl;simp only[e1,cond_false,decide_true,Bool.true_or,Bool.true_and];cases decide (tF x>1000000000000)<;>cases decide (tR x < -1000000000000)<;>cases decide (tR x>1000000000000)<;>first | rfl | exact ih
  ·have e1:decide (((i:Nat):Int)>0)=true:=decide_eq_true (by omega)
   have e2:i64.wrap ((i:Int)-1)=((i-1:Nat):Int):=by rw[yT (by omega) (by omega)]; omega
   have e3:idx ((i-1:Nat):Int) l.length=true:=yZ (by omega);have e4:get zo l (((i-1:Nat):Int).toNat)=l.getD (i-1) (0,0):=rfl;have e5:decide (i=0)=false:=decide_eq_false h0;simp only[e1,e2,e3,e4,e5,cond_true,Bool.false_or];cases decide (tF x<=tF (l.getD (i-1) (0,0)))<;>cases decide (tF x>1000000000000)<;>cases decide (tR x < -1000000000000)<;>cases decide (tR x>1000000000000)<;>first | rfl | exact ih
theorem RQ (F:Nat) (hF:64<F) (l:List zo.T):zH.sh F l=some ((tI l,()),()):=by
 unfold zH.sh tI;by_cases h1:1<=l.length
 ·have e1:decide ((l.length:Int)<1)=false:=decide_eq_false (by omega)
  by_cases h2:l.length<=16
  ·have e2:decide ((l.length:Int)>16)=false:=decide_eq_false (by omega)
   have e3:idx 0 l.length=true:=yZ (i:=0) (by omega);simp only[e1,e2,e3,cond_false,cond_true,h1,h2,decide_true,Bool.true_and];have e4:get zo l 0=l.getD 0 (0,0):=rfl;rw[e4];by_cases h3:tF (l.getD 0 (0,0))=0
   ·have e5:(tF (l.getD 0 (0,0)) != 0)=false:=by rw[h3]; rfl
    rw[e5,h3];simp only[cond_false,decide_true,Bool.true_and];refine Eq.trans (zH.l4.rg_eq F _ _ l _ rfl (by omega) l 0 F _ (by simp) (by omega)) ?_;refine Eq.trans (RP F (fun r=>(some ((r,()),()):Option zH.sg.R)) (some ((true,()),())) l (l.length:Int) (by omega) l 0 (by simp)) ?_;cases vJ l l 0<;>rfl
   ·have e5:(tF (l.getD 0 (0,0)) != 0)=true:=bne_iff_ne.2 h3
    have e6:decide (tF (l.getD 0 (0,0))=0)=false:=decide_eq_false h3;rw[e5,e6];rfl
  ·have e2:decide ((l.length:Int)>16)=true:=decide_eq_true (by omega)
   have e3:decide (l.length<=16)=false:=decide_eq_false h2;rw[e1,e2,e3];simp
 ·have e1:decide ((l.length:Int)<1)=true:=decide_eq_true (by omega)
  have e3:decide (1<=l.length)=false:=decide_eq_false h1;rw[e1,e3];rfl
def X5 (n:zr.T) (dims:Nat):Int:=bif decide ((qD n).2.1<0) then (dims:Int)-1 else (qD n).2.1
def opB (n:zr.T):Bool:=bif (qD n).2.2.2 then decide (nO n>=1)&&decide (nO n<=6) else nO n==0
def uo (n:zr.T):Bool:=(qD n).2.2.1
def vp (dims:Nat) (n:zr.T) (pile:Nat):Int :=
 bif !ub n then 50 else bif decide (nN n<0) then 50 else bif decide (nN n>X5 n dims) then 50 else bif !ua n then 50 else bif !opB n then 50
 else bif !uo n&&decide (((nT n).length:Int)>0) then 50 else bif decide ((pile:Int)<(ar n:Int)) then 50 else bif uo n&&!tI (nT n) then 51 else 0
theorem QU (F:Nat) (hF:64<F) {R:Type} (k:Int->Option R) {n:zr.T} (hg:ub n=true) (pile:Nat) (most:Int) (kids op:Bool) (hk:kids=true->ua n=true) (a:yG.T) :
  zR.j13 F k k k (pile:Int) most kids op n a=k (bif decide (nN n<0) then 50 else bif decide (nN n>most) then 50 else bif !kids then 50 else bif !op then 50
 else bif !a.2.2.1&&decide (((nT n).length:Int)>0) then 50 else bif decide ((pile:Int)<(ar n:Int)) then 50 else bif a.2.2.1&&!tI (nT n) then 51 else 0):=by
 unfold zR.j13;cases h1:decide (nN n<0) with
 | true=>rfl
 | false =>
  cases h2:decide (nN n>most) with
  | true=>rfl
  | false =>
   cases kids with
   | false=>rfl
   | true =>
    cases op with
    | false=>rfl
    | true =>
     simp only[Bool.not_true,cond_false];rw[Z7 F hg (hk rfl)];simp only[zD];rw[RQ F hF];simp only[zD];cases h3:a.2.2.1 with
     | false =>
      simp only[Bool.not_false,cond_true,Bool.true_and,cond_false,Bool.false_and];cases decide (((nT n).length:Int)>0) with
      | true=>rfl
      | false=>cases decide ((pile:Int)<(ar n:Int))<;>rfl
     | true =>
      simp only[Bool.not_true,cond_true,Bool.true_and,cond_false,Bool.false_and];cases decide ((pile:Int)<(ar n:Int)) with
      | true=>rfl
      | false=>cases tI (nT n)<;>rfl
theorem node_eq (F:Nat) (hF:64<F) (n:zr.T) {dims:Nat} (hd:dims<4611686018427387904) (pile:Nat):zR.sh F n (dims:Int) (pile:Int)=some ((vp dims n pile,()),()):=by
 unfold zR.sh vp;cases hg:ub n with
 | false =>
  have:decide ((n.1:Int)<1)=true\/decide ((n.1:Int)>16)=true:=by
   rcases Int.lt_or_le (nK n) 1 with h | h
   ·exact .inl (decide_eq_true h)
   ·rcases Int.lt_or_le 16 (nK n) with h' | h'
    ·exact .inr (decide_eq_true h')
    ·rw[uL.2 ⟨h,h'⟩] at hg; cases hg
  rcases this with h | h
  ·rw[h]; rfl
  ·rw[h]; cases decide ((n.1:Int)<1)<;>rfl
 | true =>
  have hg':=uL.1 hg;have e1:decide ((nK n:Int)<1)=false:=decide_eq_false (by omega);have e2:decide ((nK n:Int)>16)=false:=decide_eq_false (by omega);have e3:idx (nK n) 17=true:=Wi (by omega) (by omega);rw[show decide (n.1<1)=false from e1,show decide (n.1>16)=false from e2,show idx n.1 17=true from e3];simp only[cond_false,cond_true,Bool.not_true];have hw:i64.wrap ((dims:Int)-1)=(dims:Int)-1:=yT (by omega) (by omega);rw[hw];have key:∀most:Int,zR.j7 F (fun r=>(some ((r,()),()):Option zR.sg.R)) (fun r=>some ((r,()),())) (fun r=>some ((r,()),())) (pile:Int) most n (qD n) =
   some ((bif decide (nN n<0) then 50 else bif decide (nN n>most) then 50 else bif !ua n then 50 else bif !opB n then 50
    else bif !uo n&&decide (((nT n).length:Int)>0) then 50 else bif decide ((pile:Int)<(ar n:Int)) then 50 else bif uo n&&!tI (nT n) then 51 else 0,()),()):=by
   intro most;have k10:∀kids:Bool,kids=ua n->zR.j10 F (fun r=>(some ((r,()),()):Option zR.sg.R)) (fun r=>some ((r,()),())) (fun r=>some ((r,()),())) (pile:Int) most kids n (qD n) =
    some ((bif decide (nN n<0) then 50 else bif decide (nN n>most) then 50 else bif !ua n then 50 else bif !opB n then 50
     else bif !uo n&&decide (((nT n).length:Int)>0) then 50 else bif decide ((pile:Int)<(ar n:Int)) then 50 else bif uo n&&!tI (nT n) then 51 else 0,()),()):=by
    intro kids hkk;have k13:=fun op:Bool=>QU F hF (fun r=>(some ((r,()),()):Option zR.sg.R)) hg pile most kids op (fun h=>by rw[<-hkk,h]) (qD n)
    unfold zR.j10;rw[show (fun r=>(some ((r,()),()):Option zR.sg.R))=(fun r=>some ((r,()),())) from rfl] at k13;rw[k13,k13,k13,hkk];unfold opB uo;cases (qD n).2.2.2 with
    | false=>rfl
    | true=>cases decide (nO n>=1)<;>rfl
   unfold zR.j7;cases ha:decide (aK n<0) with
   | true =>
    cases hc:decide (nC n>=2) with
    | true=>exact k10 _ (by unfold ua; rw[ha,hc]; rfl)
    | false=>exact k10 _ (by unfold ua; rw[ha,hc]; rfl)
   | false=>exact k10 _ (by unfold ua; rw[ha]; rfl)
  unfold X5;cases hm:decide ((qD n).2.1<0) with
  | true=>exact key _
  | false=>exact key _
def Xv (dims:Nat):List zr.T->Nat->Nat->Option (Nat×Int)
 | [],_,_=>none
 | n::r,pile,i=>bif vp dims n pile != 0 then some (i,vp dims n pile) else Xv dims r (pile-ar n+1) (i+1)
def W0:List zr.T->Nat->Nat
 | [],pile=>pile
 | n::r,pile=>W0 r (pile-ar n+1)
theorem wb {dims:Nat} {n:zr.T} {pile:Nat} (h:vp dims n pile=0) :
  ub n=true/\0<=nN n/\nN n<=X5 n dims/\ua n=true/\opB n=true/\(uo n=false->nT n=[])/\ar n<=pile/\(uo n=true->tI (nT n)=true):=by
 unfold vp at h;cases h1:ub n with
 | false=>rw[h1] at h; exact absurd (show (50:Int)=0 from h) (by decide)
 | true =>
 rw[h1] at h;cases h2:decide (nN n<0) with
 | true=>rw[h2] at h; exact absurd (show (50:Int)=0 from h) (by decide)
 | false =>
 rw[h2] at h;cases h3:decide (nN n>X5 n dims) with
 | true=>rw[h3] at h; exact absurd (show (50:Int)=0 from h) (by decide)
 | false =>
 rw[h3] at h;cases h4:ua n with
 | false=>rw[h4] at h; exact absurd (show (50:Int)=0 from h) (by decide)
 | true =>
 rw[h4] at h;cases h5:opB n with
 | false=>rw[h5] at h; exact absurd (show (50:Int)=0 from h) (by decide)
 | true =>
 rw[h5] at h;cases h6:(!uo n&&decide (((nT n).length:Int)>0)) with
 | true=>rw[h6] at h; exact absurd (show (50:Int)=0 from h) (by decide)
 | false =>
 rw[h6] at h;cases h7:decide ((pile:Int)<(ar n:Int)) with
 | true=>rw[h7] at h; exact absurd (show (50:Int)=0 from h) (by decide)
 | false =>
 rw[h7] at h;cases h8:(uo n&&!tI (nT n)) with
 | true=>rw[h8] at h; exact absurd (show (51:Int)=0 from h) (by decide)
 | false =>
 have h2:=of_decide_eq_false h2;have h3:=of_decide_eq_false h3;have h7:=of_decide_eq_false h7;refine ⟨rfl,by omega,by omega,rfl,rfl,fun ht=>?_,by omega,fun ht=>?_⟩
 ·rw[ht] at h6
  simp only[Bool.not_false,Bool.true_and] at h6;have h6:=of_decide_eq_false h6;exact List.eq_nil_of_length_eq_zero (by omega)
 ·rw[ht] at h8
  simp only[Bool.true_and] at h8;cases hr:tI (nT n) with
  | true=>rfl
  | false=>rw[hr] at h8; cases h8
theorem RI {n:zr.T} (hg:ub n=true) (hk:ua n=true):ar n<=16:=by
 unfold ar;unfold ua at hk;cases h:decide (aK n<0) with
 | true =>
  have h':=of_decide_eq_true h;rw[h] at hk;simp at hk;rw[decide_eq_false (show ¬aK n>=0 by omega)];simp only[cond_false];omega
 | false =>
  have h':=of_decide_eq_false h;rw[decide_eq_true (show aK n>=0 by omega)];simp only[cond_true];have hg:=uL.1 hg;have:∀i:Nat,(get yG we i).1<=(16:Int):=by
   intro i;rcases Nat.lt_or_ge i 17 with hi | hi
   ·have:∀j:Fin 17,(get yG we j.1).1<=(16:Int):=by decide
    exact this ⟨i,hi⟩
   ·have:get yG we i=Ty.dflt yG:=by
     unfold get;rw[List.getD_eq_getElem?_getD,List.getElem?_eq_none (by exact hi)];rfl
    rw[this]; decide
  have:aK n<=(16:Int):=this _;omega
theorem zah (F:Nat) (hF:64<F) {R:Type} (k0:Int->Int->Option R) (k1:Int->zI.T->Option R) (L:List zr.T) (N:Int) (p:zI.T) (hp:p.2.1.length<=32):∀(xs:List zr.T) (i pile:Nat),pile+xs.length<4611686018427387904->
  zJ.l8.rg F k0 (fun pile _ _ _ _ p=>k1 pile p) L N xs (i:Int) (pile:Int) p=match Xv p.2.1.length xs pile i with | some (j,e)=>k0 (j:Int) e | none=>k1 (W0 xs pile:Int) p:=by
 intro xs;induction xs with
 | nil=>intro i pile h; rfl
 | cons n xs ih =>
  intro i pile h;simp only[List.length_cons] at h;simp only[zJ.l8.rg];rw[node_eq F hF n (by omega)];simp only[zD,Xv,W0];cases he:(vp p.2.1.length n pile != 0) with
  | true=>rfl
  | false =>
   simp only[cond_false];have he:vp p.2.1.length n pile=0:=by simpa using he
   obtain ⟨h1,h2,h3,h4,h5,h6,h7,h8⟩:=wb he;have ha:=RI h1 h4;rw[Z7 F h1 h4];simp only[zD];rw[yT (n:=1-(ar n:Int)) (by omega) (by omega),yT (by omega) (by omega)];rw[show (pile:Int)+(1-(ar n:Int))=((pile-ar n+1:Nat):Int) by omega];have:=ih (i+1) (pile-ar n+1) (by omega);rw[y4] at this;exact this
def xO (p:zI.T):Int×Int :=
 bif qT p.1 p.2.1 p.2.2.1 != 0 then (-1,qT p.1 p.2.1 p.2.2.1) else bif decide ((p.2.2.2.length:Int)>1024) then (1024,2) else
 match Xv p.2.1.length p.2.2.2 0 0 with
 | some (j,e)=>((j:Int),e)
 | none=>bif ((W0 p.2.2.2 0:Int) != 1) then ((p.2.2.2.length:Int),50) else (0,0)
theorem ug {name:ByteArray} {dims:List xd.T} {mode:Int} (h:qT name dims mode=0):1<=dims.length/\dims.length<=4/\dE [] dims=0/\Yp name.data.toList=true/\0<=mode/\mode<=4:=by
 unfold qT at h;cases h0:Yp name.data.toList with
 | false=>rw[h0] at h; exact absurd (show (61:Int)=0 from h) (by decide)
 | true =>
 rw[h0] at h;cases h1:decide ((dims.length:Int)<1) with
 | true=>rw[h1] at h; exact absurd (show (100:Int)=0 from h) (by decide)
 | false =>
 rw[h1] at h;cases h2:decide ((dims.length:Int)>4) with
 | true=>rw[h2] at h; exact absurd (show (100:Int)=0 from h) (by decide)
 | false =>
 rw[h2] at h;cases h3:(dE [] dims != 0) with
 | true=>rw[h3] at h; simp only[Bool.not_true,cond_false,cond_true] at h; rw[h] at h3; exact absurd h3 (by decide)
 | false =>
 rw[h3] at h;cases h4:decide (mode<0) with
 | true=>rw[h4] at h; exact absurd (show (50:Int)=0 from h) (by decide)
 | false =>
 rw[h4] at h;cases h5:decide (mode>4) with
 | true=>rw[h5] at h; exact absurd (show (50:Int)=0 from h) (by decide)
 | false =>
 have h1:=of_decide_eq_false h1;have h2:=of_decide_eq_false h2;have h4:=of_decide_eq_false h4;have h5:=of_decide_eq_false h5;refine ⟨by omega,by omega,by simpa using h3,rfl,by omega,by omega⟩
theorem YB (F:Nat) (hF:2048<F) (p:zI.T):zJ.sh F p=some (((xO p).1,(xO p).2,()),()):=by
 unfold zJ.sh xO;rw[head_eq F (by omega)];simp only[zD];cases h:(qT p.1 p.2.1 p.2.2.1 != 0) with
 | true=>rfl
 | false =>
  have hh:=ug (show qT p.1 p.2.1 p.2.2.1=0 by simpa using h);cases h1:decide ((p.2.2.2.length:Int)>1024) with
  | true=>rfl
  | false =>
   have h1:=of_decide_eq_false h1;simp only[cond_false];refine Eq.trans (zJ.l8.rg_eq F _ _ p.2.2.2 _ rfl (by omega) p.2.2.2 0 F _ _ (by simp) (by omega)) ?_;refine (zah F (by omega) (fun r24 r34=>(some ((r24,r34,()),()):Option zJ.sg.R)) (fun pile5 p5=>bif (pile5 != 1) then some (((p5.2.2.2.length:Int),50,()),()) else some ((0,0,()),())) p.2.2.2 (p.2.2.2.length:Int) p (by omega) p.2.2.2 0 0 (by omega)).trans ?_;cases Xv p.2.1.length p.2.2.2 0 0 with
   | some x=>rfl
   | none=>cases hc:((W0 p.2.2.2 0:Int) != 1)<;>simp only[cond_true,cond_false,hc]
inductive Tree:Type
 | nd:zr.T->List Tree->Tree
mutual
def Tree.fold {α:Type} (f:zr.T->List α->α):Tree->α
 | .nd n ks=>f n (Tree.foldL f ks)
def Tree.foldL {α:Type} (f:zr.T->List α->α):List Tree->List α
 | []=>[]
 | t::r=>Tree.fold f t::Tree.foldL f r
end
theorem Tree.foldL_map {α:Type} (f:zr.T->List α->α):∀l:List Tree,Tree.foldL f l=l.map (Tree.fold f)
 | []=>rfl
 | t::r=>by rw[Tree.foldL,Tree.foldL_map f r]; rfl
theorem Tree.fold_nd {α:Type} (f:zr.T->List α->α) (n:zr.T) (ks:List Tree):Tree.fold f (.nd n ks)=f n (ks.map (Tree.fold f)):=by
 rw[Tree.fold,Tree.foldL_map]
theorem Tree.ind {P:Tree->Prop} (h:∀n ks,(∀k∈ks,P k)->P (.nd n ks)) (t:Tree):P t :=
 Tree.rec (motive_1:=P) (motive_2:=fun l=>∀k∈l,P k) (fun n ks ih=>h n ks ih) (by simp) (fun t r h1 h2 k hk=>by
  rcases List.mem_cons.1 hk with rfl | hk
  ·exact h1
  ·exact h2 k hk) t
def Tree.root:Tree->zr.T | .nd n _=>n
def Tree.kids:Tree->List Tree | .nd _ ks=>ks
def Tree.flat:Tree->List zr.T:=Tree.fold (fun n ks=>ks.flatten++[n])
def yt (l:List Tree):List zr.T:=(l.map Tree.flat).flatten
theorem XD (n:zr.T) (ks:List Tree):Tree.flat (.nd n ks)=yt ks++[n]:=Tree.fold_nd _ n ks
def Tree.size (t:Tree):Nat:=t.flat.length
def Z9:Tree->Tree×List Tree:=Tree.fold (fun n ks=>(.nd n (ks.map (·.1)),(ks.map (·.2)).flatten++[.nd n (ks.map (·.1))]))
theorem RM (t:Tree):(Z9 t).1=t:=by
 refine Tree.ind (P:=fun t=>(Z9 t).1=t) (fun n ks ih=>?_) t;unfold Z9 at*;rw[Tree.fold_nd];simp only[List.map_map];congr 1
 exact (List.map_congr_left ih).trans (List.map_id' ks)
def Tree.subs (t:Tree):List Tree:=(Z9 t).2
def vd (l:List Tree):List Tree:=(l.map Tree.subs).flatten
theorem Zh (n:zr.T) (ks:List Tree):Tree.subs (.nd n ks)=vd ks++[.nd n ks]:=by
 have:(ks.map (fun k=>(Z9 k).1))=ks:=(List.map_congr_left (fun k _=>RM k)).trans (List.map_id' ks);unfold Tree.subs vd;rw[Z9,Tree.fold_nd,<-Z9];simp only[List.map_map];rw[show ((fun x:Tree×List Tree=>x.1) ∘ Z9)=(fun k=>(Z9 k).1) from rfl,this];rfl
theorem Z8 (t:Tree):t.subs.length=t.flat.length:=by
 refine Tree.ind (P:=fun t=>t.subs.length=t.flat.length) (fun n ks ih=>?_) t;rw[Zh,XD];simp only[List.length_append,List.length_cons,List.length_nil,vd,yt,List.length_flatten,List.map_map];congr 2
 exact List.map_congr_left (fun k hk=>ih k hk)
def wC (st:List Tree) (n:zr.T):Tree:=.nd n (st.drop (st.length-ar n))
def wA (st:List Tree) (n:zr.T):List Tree:=st.take (st.length-ar n)++[wC st n]
def news:List Tree->List zr.T->List Tree
 | _,[]=>[]
 | st,n::r=>wC st n::news (wA st n) r
def qo:List Tree->List zr.T->List Tree
 | st,[]=>st
 | st,n::r=>qo (wA st n) r
def okS (dims:Nat):List Tree->List zr.T->Prop
 | _,[]=>True
 | st,n::r=>vp dims n st.length=0/\okS dims (wA st n) r
theorem W4 {st:List Tree} {n:zr.T} (h:ar n<=st.length):(wA st n).length=st.length-ar n+1:=by
 simp[wA]
theorem zag (dims:Nat):∀(xs:List zr.T) (st:List Tree) (i:Nat),Xv dims xs st.length i=none->okS dims st xs/\(qo st xs).length=W0 xs st.length
 | [],st,i,h=>⟨trivial,rfl⟩
 | n::r,st,i,h=>by
  simp only[Xv] at h;cases he:(vp dims n st.length != 0) with
  | true=>rw[he] at h; cases h
  | false =>
   rw[he] at h;have he:vp dims n st.length=0:=by simpa using he
   have hl:=W4 (wb he).2.2.2.2.2.2.1;simp only[cond_false] at h;rw[<-hl] at h;have:=zag dims r (wA st n) (i+1) h;refine ⟨⟨he,this.1⟩,?_⟩;rw[qo,this.2,hl];rfl
theorem QR (dims:Nat):∀(xs:List zr.T) (st:List Tree) (i:Nat),okS dims st xs->Xv dims xs st.length i=none/\W0 xs st.length=(qo st xs).length
 | [],st,i,h=>⟨rfl,rfl⟩
 | n::r,st,i,h=>by
  have hl:=W4 (wb h.1).2.2.2.2.2.2.1;have:=QR dims r (wA st n) (i+1) h.2;rw[hl] at this;simp only[Xv,h.1,W0,qo];exact this
theorem uN (a b:List Tree):yt (a++b)=yt a++yt b:=by simp[yt]
theorem uM (t:Tree):yt [t]=t.flat:=by simp[yt]
theorem vt (st:List Tree) (n:zr.T):yt (wA st n)=yt st++[n]:=by
 unfold wA wC;rw[uN,uM,XD,<-List.append_assoc,<-uN,List.take_append_drop]
theorem Vt:∀(xs:List zr.T) (st:List Tree),yt (qo st xs)=yt st++xs
 | [],st=>by simp[qo]
 | n::r,st=>by rw[qo,Vt r,vt]; simp
theorem YI (a b:List Tree):vd (a++b)=vd a++vd b:=by simp[vd]
theorem W2 (t:Tree):vd [t]=t.subs:=by simp[vd]
theorem T0 (st:List Tree) (n:zr.T):vd (wA st n)=vd st++[wC st n]:=by
 unfold wA;rw[YI,W2,wC,Zh,<-List.append_assoc,<-YI,List.take_append_drop]
theorem W3:∀(xs:List zr.T) (st:List Tree),vd (qo st xs)=vd st++news st xs
 | [],st=>by simp[qo,news]
 | n::r,st=>by rw[qo,W3 r,T0,news]; simp
theorem T1 {b st:List Tree} {n:zr.T} (h:ar n<=st.length):wC (b++st) n=wC st n/\wA (b++st) n=b++wA st n:=by
 have e:(b++st).length-ar n=b.length+(st.length-ar n):=by simp; omega
 have e1:wC (b++st) n=wC st n:=by
  unfold wC;rw[e,List.drop_append];simp
 refine ⟨e1,?_⟩;unfold wA;rw[e1,e,List.take_append,List.take_of_length_le (by omega)];simp
theorem Sc {dims:Nat} {n:zr.T} {p q:Nat} (h:vp dims n p=0) (hq:p<=q):vp dims n q=0:=by
 have hh:=wb h;have h7:decide ((p:Int)<(ar n:Int))=false:=decide_eq_false (by have:=hh.2.2.2.2.2.2.1; omega);have h7':decide ((q:Int)<(ar n:Int))=false:=decide_eq_false (by have:=hh.2.2.2.2.2.2.1; omega);unfold vp at*;rw[h7] at h;rw[h7'];exact h
theorem frame (dims:Nat) (b:List Tree):∀(xs:List zr.T) (st:List Tree),okS dims st xs->okS dims (b++st) xs/\news (b++st) xs=news st xs/\qo (b++st) xs=b++qo st xs
 | [],st,h=>⟨trivial,rfl,rfl⟩
 | n::r,st,h=>by
  have hf:=T1 (b:=b) (wb h.1).2.2.2.2.2.2.1;have:=frame dims b r (wA st n) h.2;simp only[okS,news,qo,hf.1,hf.2];refine ⟨⟨Sc h.1 (by simp),this.1⟩,?_,this.2.2⟩;rw[this.2.1]
theorem tl (n:zr.T) (ks:List Tree):Tree.size (.nd n ks)=(yt ks).length+1:=by simp[Tree.size,XD]
theorem vU (t:Tree):1<=t.size:=by
 cases t with
 | nd n ks=>rw[tl]; omega
theorem xD (t:Tree) (l:List Tree):yt (t::l)=t.flat++yt l:=by simp[yt]
theorem uf:∀st:List Tree,st.length<=(yt st).length
 | []=>by simp
 | t::r=>by
  have:=uf r;have:=vU t;rw[xD];simp only[List.length_append,List.length_cons];unfold Tree.size at this;omega
theorem wU {a:Nat} (h:a<=4194304):Nat.ble a xp=true:=by rw[Nat.ble_eq]; exact Nat.le_trans h (by decide)
theorem Z4 {a b:Nat} (h:b<=a) (ha:a<4611686018427387904):i64.wrap ((a:Int)-(b:Int))=((a-b:Nat):Int):=by
 rw[yT (by omega) (by omega)]; omega
theorem XR {st:List Tree} {n:zr.T}:(wC st n).size+(yt (st.take (st.length-ar n))).length=(yt st).length+1:=by
 unfold wC;rw[tl];have:yt st=yt (st.take (st.length-ar n))++yt (st.drop (st.length-ar n)):=by rw[<-uN,List.take_append_drop]
 have:=congrArg List.length this;simp only[List.length_append] at this;omega
def wu:Nat->List Tree->List Int
 | _,[]=>[]
 | b,t::r=>(b:Int)::wu (b+t.size) r
def vS:Nat->List Tree->List Int
 | _,[]=>[]
 | i,t::r=>((i+1-t.size:Nat):Int)::vS (i+1) r
theorem vq:∀(l:List Tree) (b:Nat),(wu b l).length=l.length
 | [],b=>rfl
 | t::r,b=>by simp[wu,vq r]
theorem Wm:∀(l:List Tree) (b:Nat),(vS b l).length=l.length
 | [],b=>rfl
 | t::r,b=>by simp[vS,Wm r]
theorem tZ:∀(a c:List Tree) (b:Nat),wu b (a++c)=wu b a++wu (b+(yt a).length) c
 | [],c,b=>by simp[wu,yt]
 | t::r,c,b=>by
  simp only[List.cons_append,wu,tZ r c,xD,List.length_append];rw[show b+t.size+(yt r).length=b+(t.flat.length+(yt r).length) by unfold Tree.size; omega]
theorem UL (a:List Tree) (b m:Nat):(wu b a).take m=wu b (a.take m):=by
 have:wu b a=wu b (a.take m++a.drop m):=by rw[List.take_append_drop]
 rw[this,tZ,List.take_append];simp only[vq,List.length_take];rcases Nat.le_total m a.length with h | h
 ·rw[Nat.min_eq_left h,Nat.sub_self,List.take_zero,List.append_nil,List.take_of_length_le (by rw[vq,List.length_take]; omega)]
 ·rw[List.drop_of_length_le h]
  simp only[wu,List.take_nil,List.append_nil];rw[List.take_of_length_le (by rw[vq,List.length_take]; omega)]
theorem UM (st:List Tree) (n:zr.T):wu 0 (wA st n)=(wu 0 st).take (st.length-ar n)++[(((yt (st.take (st.length-ar n))).length:Nat):Int)]:=by
 unfold wA;rw[tZ,UL];simp only[wu,Nat.zero_add]
theorem T3 {st:List Tree} {m:Nat} (h:m<st.length):(wu 0 st).getD m 0=(((yt (st.take m)).length:Nat):Int):=by
 have e:st=st.take m++st.drop m:=by rw[List.take_append_drop]
 have:wu 0 st=wu 0 (st.take m)++wu (0+(yt (st.take m)).length) (st.drop m):=by rw[<-tZ,List.take_append_drop]
 have hl:(wu 0 (st.take m)).length=m:=by rw[vq,List.length_take]; omega
 rw[List.getD_eq_getElem?_getD,this,List.getElem?_append_right (by omega),hl,Nat.sub_self];cases hd:st.drop m with
 | nil =>
  have:=congrArg List.length hd;simp at this;omega
 | cons t r=>simp[wu]
theorem Qa (F:Nat) {R:Type} (dims:Nat) (k:List Int->Option R) (L:List zr.T) (N:Int):∀(xs:List zr.T) (st:List Tree) (list:List Int),okS dims st xs->(yt st).length+xs.length<=2048->list.length<=(yt st).length->
  zA.l3.rg F (fun _ _ _ _ list _=>k list) L N xs ((yt st).length:Int) list (wu 0 st)=k (list++vS (yt st).length (news st xs)):=by
 intro xs;induction xs with
 | nil=>intro st list h h2 h3; simp[zA.l3.rg,news,vS]
 | cons n xs ih =>
  intro st list h h2 h3;obtain ⟨g1,g2,g3,g4,g5,g6,g7,g8⟩:=wb h.1;have hst:=uf st;have hfs:=congrArg List.length (vt st n);have hts:=XR (st:=st) (n:=n);have htp:=vU (wC st n);simp only[List.length_cons,List.length_append,List.length_nil] at h2 hfs;have IH:=ih (wA st n) (list++[(((yt st).length+1-(wC st n).size:Nat):Int)]) h.2 (by omega) (by simp; omega);have e1:(yt st).length+1-(wC st n).size=(yt (st.take (st.length-ar n))).length:=by omega
  rw[hfs,UM,<-e1] at IH;simp only[zA.l3.rg];rw[Z7 F g1 g4];simp only[zD,vq];rw[Z4 g7 (by omega)];rw[tW (by omega)];simp only[news,vS,Int.toNat_natCast];simp only[Nat.zero_add,List.append_assoc,List.singleton_append] at IH;rw[y4] at IH;cases hk:decide ((ar n:Int)>0) with
  | true =>
   have hk:=of_decide_eq_true hk;have hm:st.length-ar n<st.length:=by omega
   have e2:get (.int .i64) (wu 0 st) (st.length-ar n)=(((yt st).length+1-(wC st n).size:Nat):Int):=by rw[e1]; exact T3 hm
   rw[yZ hm,e2];simp only[cond_true];rw[wU (by simp[vq]; omega),wU (by simp; omega)];simp only[cond_true];exact IH
  | false =>
   have hk:=of_decide_eq_false hk;have hk0:ar n=0:=by omega
   have e2:(yt st).length+1-(wC st n).size=(yt st).length:=by
    rw[e1,hk0,Nat.sub_zero,List.take_length]
   simp only[cond_false];rw[wU (by simp; omega),wU (by simp; omega)];simp only[cond_true];rw[hk0,Nat.sub_zero,List.take_of_length_le (by rw[vq]; omega),e2] at IH;rw[e2];exact IH
def isQ (n:zr.T):Bool:=nK n==3||nK n==4
def noQ (t:Tree):Bool:=t.flat.all fun n=>!isQ n
def uU:List zr.T->Int×Int->Int×Int
 | [],s=>s
 | n::r,s=>uU r (s.1+1,bif isQ n then s.1 else s.2)
theorem Zn:∀(a b:List zr.T) (s:Int×Int),uU (a++b) s=uU b (uU a s)
 | [],b,s=>rfl
 | n::r,b,s=>Zn r b _
theorem YY:∀(a:List zr.T) (s:Int×Int),(uU a s).1=s.1+a.length
 | [],s=>by simp[uU]
 | n::r,s=>by rw[uU,YY r]; simp; omega
theorem Tm:∀(c:List zr.T) (s:Int×Int) (b:Int),b<=s.1->(decide ((uU c s).2<b)=((c.all fun n=>!isQ n)&&decide (s.2<b)))
 | [],s,b,h=>by rw[List.all_nil,Bool.true_and]; rfl
 | n::r,s,b,h=>by
  rw[uU,Tm r _ b (by simp; omega)];simp only[List.all_cons];cases hq:isQ n with
  | true =>
   have:decide (s.1<b)=false:=decide_eq_false (by omega);simp[this]
  | false=>simp
theorem Tn:∀(a:List zr.T) (s:Int×Int),s.2<s.1->(uU a s).2<(uU a s).1
 | [],s,h=>h
 | n::r,s,h=>by
  rw[uU];refine Tn r _ ?_;cases isQ n with
  | true=>simp only[cond_true]; omega
  | false=>simp only[cond_false]; omega
theorem noQ_top (st:List Tree) (n:zr.T):decide ((uU (yt st++[n]) (0,-1)).2<(((yt st).length+1-(wC st n).size:Nat):Int))=noQ (wC st n):=by
 have hts:=XR (st:=st) (n:=n);have e1:(yt st).length+1-(wC st n).size=(yt (st.take (st.length-ar n))).length:=by omega
 have e2:yt st++[n]=yt (st.take (st.length-ar n))++(wC st n).flat:=by
  rw[<-vt]; unfold wA; rw[uN,uM]
 rw[e1,e2,Zn];have h1:=YY (yt (st.take (st.length-ar n))) (0,-1);rw[Tm _ _ _ (by rw[h1]; simp)];have h2:=Tn (yt (st.take (st.length-ar n))) (0,-1) (by decide);rw[h1] at h2;simp only[Int.zero_add] at h2;rw[decide_eq_true h2,Bool.and_true];rfl
theorem TJ (F:Nat) {R:Type} (dims:Nat) (k:List Bool->Option R) (L:List zr.T) (N:Int) (list:List Int):∀(xs:List zr.T) (st:List Tree) (pre:List Int) (out:List Bool),okS dims st xs->(yt st).length+xs.length<=2048->
  list=pre++vS (yt st).length (news st xs)->pre.length=(yt st).length->out.length=(yt st).length->
  zv.l7.rg F (fun _ _ _ _ _ _ out=>k out) L N xs ((yt st).length:Int) list (uU (yt st) (0,-1)).2 (out++List.replicate xs.length false)=k (out++(news st xs).map noQ):=by
 intro xs;induction xs with
 | nil=>intro st pre out h h2 h3 h4 h5; simp[zv.l7.rg,news]
 | cons n xs ih =>
  intro st pre out h h2 h3 h4 h5;have hfs:=congrArg List.length (vt st n);simp only[List.length_cons,List.length_append,List.length_nil] at h2 hfs;simp only[news,vS] at h3;have IH:=ih (wA st n) (pre++[(((yt st).length+1-(wC st n).size:Nat):Int)]) (out++[noQ (wC st n)]) h.2 (by omega) (by rw[h3,hfs]; simp) (by simp; omega) (by simp; omega);have hq:=noQ_top st n;rw[Zn] at hq;have hl:=YY (yt st) (0,-1);simp only[Int.zero_add] at hl;rw[hfs,y4,vt,Zn] at IH;simp only[uU,hl] at IH hq;have hg:get (.int .i64) list (Int.toNat ((yt st).length:Int))=(((yt st).length+1-(wC st n).size:Nat):Int):=by
   rw[Int.toNat_natCast,get,h3,List.getD_eq_getElem?_getD,List.getElem?_append_right (by omega),h4,Nat.sub_self];rfl
  have hi1:idx ((yt st).length:Int) list.length=true:=yZ (by rw[h3]; simp; omega);have hi2:idx ((yt st).length:Int) (out++List.replicate (n::xs).length false).length=true:=yZ (by simp; omega);have hset:∀b:Bool,(out++List.replicate (n::xs).length false).set (Int.toNat ((yt st).length:Int)) b=(out++[b])++List.replicate xs.length false:=by
   intro b;rw[Int.toNat_natCast,List.set_append_right _ _ (by omega),h5,Nat.sub_self];simp[List.replicate_succ]
  simp only[zv.l7.rg,hi1,hi2,hset,cond_true,hg];simp only[news,List.map_cons];simp only[List.append_assoc,List.singleton_append] at IH ⊢;cases h3':(nK n==3) with
  | true =>
   have hqq:isQ n=true:=by unfold isQ; rw[h3']; rfl
   rw[hqq] at IH hq;simp only[cond_true] at IH hq;rw[hq];exact IH
  | false =>
   cases h4':(nK n==4) with
   | true =>
    have hqq:isQ n=true:=by unfold isQ; rw[h3',h4']; rfl
    rw[hqq] at IH hq;simp only[cond_true] at IH hq;rw[hq];exact IH
   | false =>
    have hqq:isQ n=false:=by unfold isQ; rw[h3',h4']; rfl
    rw[hqq] at IH hq;simp only[cond_false] at IH hq;rw[hq];exact IH
def V7 (m:Int) (l:List Int):Int:=l.foldl (fun m x=>if x>m then x else m) m
def X7:List Int->Int
 | []=>0
 | a::r=>V7 a r
def vg:Tree->Int:=Tree.fold (fun n ks=>X7 ks+bif nK n==15 then 1 else 0)
theorem Rr (n:zr.T) (ks:List Tree):vg (.nd n ks)=X7 (ks.map vg)+bif nK n==15 then 1 else 0:=Tree.fold_nd _ n ks
theorem S5 {b:Int}:∀(l:List Int) (m:Int),m<=b->(∀x∈l,x<=b)->V7 m l<=b
 | [],m,h,_=>h
 | x::r,m,h,hl=>by
  show V7 (if x>m then x else m) r<=b;refine S5 r _ ?_ (fun y hy=>hl y (by simp[hy]));have:=hl x (by simp);split<;>omega
theorem S6:∀(l:List Int) (m:Int),m<=V7 m l/\∀x∈l,x<=V7 m l
 | [],m=>⟨by simp[V7],by simp⟩
 | x::r,m=>by
  have h:=S6 r (if x>m then x else m);have e:V7 m (x::r)=V7 (if x>m then x else m) r:=rfl;rw[e];have h0:m<=(if x>m then x else m)/\x<=(if x>m then x else m):=by split<;>omega
  refine ⟨by omega,fun y hy=>?_⟩;rcases List.mem_cons.1 hy with rfl | hy
  ·omega
  ·exact h.2 y hy
theorem maxL_le {b:Int} {l:List Int} (hb:0<=b) (h:∀x∈l,x<=b):X7 l<=b:=by
 cases l with
 | nil=>exact hb
 | cons a r=>exact S5 r a (h a (by simp)) (fun x hx=>h x (by simp[hx]))
theorem maxL_ge {l:List Int} (h0:∀x∈l,0<=x):0<=X7 l/\∀x∈l,x<=X7 l:=by
 cases l with
 | nil=>simp[X7]
 | cons a r =>
  have:=S6 r a;refine ⟨by have:=h0 a (by simp); simp only[X7]; omega,fun x hx=>?_⟩;rcases List.mem_cons.1 hx with rfl | hx
  ·exact this.1
  ·exact this.2 x hx
theorem Tt {ks:List Tree} {k:Tree} (h:k∈ks):k.size<=(yt ks).length:=by
 obtain ⟨a,b,rfl⟩:=List.append_of_mem h;rw[uN,xD];simp only[List.length_append,Tree.size];omega
theorem XH (t:Tree):0<=vg t/\vg t<=t.size:=by
 refine Tree.ind (P:=fun t=>0<=vg t/\vg t<=t.size) (fun n ks ih=>?_) t;rw[Rr,tl];have h1:0<=X7 (ks.map vg):=(maxL_ge (by simp only[List.mem_map]; rintro x ⟨k,hk,rfl⟩; exact (ih k hk).1)).1;have h2:X7 (ks.map vg)<=(yt ks).length:=maxL_le (by omega) (by
  simp only[List.mem_map];rintro x ⟨k,hk,rfl⟩
  have:=(ih k hk).2;have:=Tt hk;omega)
 cases nK n==15<;>simp only[cond_true,cond_false]<;>omega
theorem QZ (F:Nat) {R:Type} (k:Int->Option R) (X:List Int):∀(xs:List Int) (i m:Int),zB.l5.rg F (fun _ m _ _=>k m) X xs i m=k (V7 m xs)
 | [],i,m=>rfl
 | x::r,i,m=>by
  rw[zB.l5.rg,QZ F k X r];rfl
theorem max_eq (F:Nat) {l:List Int} (h:1<=l.length) (hF:l.length<F) (hL:l.length<4611686018427387904):zB.sh F l=some ((X7 l,()),()):=by
 unfold zB.sh;rw[decide_eq_false (show ¬(l.length:Int)<1 by omega),show idx 0 l.length=true from yZ (i:=0) (by omega)];simp only[cond_false,cond_true];cases l with
 | nil=>simp at h
 | cons a r =>
  refine Eq.trans (zB.l5.rg_eq F _ (a::r) (by omega) r 1 F _ (by simp) (by simp at hF; omega)) ?_;exact QZ F (fun m=>(some ((m,()),()):Option zB.sg.R)) (a::r) r _ _
theorem QB (F:Nat) (hF:4096<F) {R:Type} (dims:Nat) (k:List Int->Option R) (L:List zr.T) (N:Int):∀(xs:List zr.T) (st:List Tree) (i:Int),okS dims st xs->(yt st).length+xs.length<=2048->
  zE.l6.rg F (fun _ _ _ _ pile=>k pile) L N xs i (st.map vg)=k ((qo st xs).map vg):=by
 intro xs;induction xs with
 | nil=>intro st i h h2; rfl
 | cons n xs ih =>
  intro st i h h2;obtain ⟨g1,g2,g3,g4,g5,g6,g7,g8⟩:=wb h.1;have hst:=uf st;have hfs:=congrArg List.length (vt st n);simp only[List.length_cons,List.length_append,List.length_nil] at h2 hfs;have IH:=ih (wA st n) (i+1) h.2 (by omega);have hbd:=XH (wC st n);have hts:=XR (st:=st) (n:=n);have hstep:(wA st n).map vg=(st.map vg).take (st.length-ar n)++[vg (wC st n)]:=by
   unfold wA; simp[List.map_take]
  have hd:vg (wC st n)=X7 ((st.map vg).drop (st.length-ar n))+bif nK n==15 then 1 else 0:=by
   unfold wC; rw[Rr,List.map_drop]
  rw[hstep] at IH;simp only[zE.l6.rg];rw[Z7 F g1 g4];simp only[zD];have hlen:(st.map vg).length=st.length:=by simp
  rw[hlen,Z4 g7 (by omega),tW (by omega),tV (by omega)];simp only[cond_true];rw[List.take_of_length_le (by rw[hlen]; omega:(st.map vg).length<=st.length)];cases hk:decide ((ar n:Int)>0) with
  | true =>
   have hk:=of_decide_eq_true hk;simp only[cond_true];rw[max_eq F (by rw[List.length_drop,hlen]; omega) (by rw[List.length_drop,hlen]; omega) (by rw[List.length_drop,hlen]; omega)];simp only[zD];cases h15:(nK n==15) with
   | true =>
    rw[h15] at hd;simp only[cond_true] at hd;simp only[cond_true];rw[yT (by omega) (by omega),<-hd,wU (by simp; omega)];exact IH
   | false =>
    rw[h15] at hd;simp only[cond_false,Int.add_zero] at hd;simp only[cond_false];rw[<-hd,wU (by simp; omega)];exact IH
  | false =>
   have hk:=of_decide_eq_false hk;have hk0:ar n=0:=by omega
   simp only[cond_false];rw[hk0,Nat.sub_zero,List.drop_of_length_le (by rw[hlen]; omega)] at hd;rw[hk0,Nat.sub_zero,List.take_of_length_le (by rw[hlen]; omega)] at IH;cases h15:(nK n==15) with
   | true =>
    rw[h15] at hd;simp only[cond_true];rw[wU (by simp; omega)];simp only[cond_true];rw[show i64.wrap (0+1)=vg (wC st n) by rw[hd]; rfl];exact IH
   | false =>
    rw[h15] at hd;simp only[cond_false];rw[wU (by simp; omega)];simp only[cond_true];rw[hd] at IH;exact IH
structure Good (p:zI.T) (t:Tree):Prop where
 head:qT p.1 p.2.1 p.2.2.1=0
 len:p.2.2.2.length<=1024
 ok:okS p.2.1.length [] p.2.2.2
 eq:qo [] p.2.2.2=[t]
theorem Good.flat {p:zI.T} {t:Tree} (h:Good p t):t.flat=p.2.2.2:=by
 have:=Vt p.2.2.2 [];rw[h.eq,uM] at this;simpa [yt] using this
theorem Good.subs {p:zI.T} {t:Tree} (h:Good p t):news [] p.2.2.2=t.subs:=by
 have:=W3 p.2.2.2 [];rw[h.eq,W2] at this;simpa [vd] using this.symm
theorem zai {p:zI.T} (h:(xO p).2=0):∃t,Good p t:=by
 unfold xO at h;cases h1:(qT p.1 p.2.1 p.2.2.1 != 0) with
 | true =>
  rw[h1] at h;simp only[cond_true] at h;rw[h] at h1;cases h1
 | false =>
  rw[h1] at h;have h1:qT p.1 p.2.1 p.2.2.1=0:=by simpa using h1
  cases h2:decide ((p.2.2.2.length:Int)>1024) with
  | true=>rw[h2] at h; exact absurd (show (2:Int)=0 from h) (by decide)
  | false =>
   rw[h2] at h;have h2:=of_decide_eq_false h2;simp only[cond_false] at h;cases h3:Xv p.2.1.length p.2.2.2 0 0 with
   | some x =>
    rw[h3] at h;have hne:∀(xs:List zr.T) (pile i:Nat),Xv p.2.1.length xs pile i=some x->x.2≠0:=by
     intro xs;induction xs with
     | nil=>intro pile i h; cases h
     | cons n r ih =>
      intro pile i h;simp only[Xv] at h;cases he:(vp p.2.1.length n pile != 0) with
      | true =>
       rw[he] at h;simp only[cond_true,Option.some.injEq] at h;rw[<-h];simpa using he
      | false=>rw[he] at h; exact ih _ _ h
    exact absurd h (hne _ _ _ h3)
   | none =>
    rw[h3] at h;have:=zag p.2.1.length p.2.2.2 [] 0 h3;cases h4:((W0 p.2.2.2 0:Int) != 1) with
    | true=>rw[h4] at h; exact absurd (show (50:Int)=0 from h) (by decide)
    | false =>
     have h4:(W0 p.2.2.2 0:Int)=1:=by simpa using h4
     have hl:(qo [] p.2.2.2).length=1:=by rw[this.2]; simp only[List.length_nil]; omega
     obtain ⟨t,ht⟩:=List.length_eq_one_iff.1 hl;exact ⟨t,h1,by omega,this.1,ht⟩
theorem Good.check {p:zI.T} {t:Tree} (h:Good p t):xO p=(0,0):=by
 unfold xO;have:=QR p.2.1.length p.2.2.2 [] 0 h.ok;rw[h.eq] at this;simp only[List.length_nil,List.length_cons] at this;rw[h.head,this.1,this.2,decide_eq_false (by have:=h.len; omega)];rfl
theorem VI (F:Nat) (hF:4096<F) {p:zI.T} {t:Tree} (h:Good p t):yX.sh F p=some ((vS 0 t.subs,0,()),()):=by
 unfold yX.sh zA.sh;rw[YB F (by omega),h.check];have hl:=h.len;have e:=Eq.trans (zA.l3.rg_eq F (fun _ _ _ _ list2 _=>zA.j13 F (fun r23=>(some ((r23,()),()):Option zA.sg.R)) list2) p.2.2.2 _ rfl (by omega) p.2.2.2 0 F [] [] (by simp) (by omega))
  (Qa F p.2.1.length (fun list=>some ((list,()),())) p.2.2.2 (p.2.2.2.length:Int) p.2.2.2 [] [] h.ok (by simp[yt]; omega) (by simp))
 rw[h.subs] at e;have e:zA.l3 F (fun _ _ _ _ list2 _=>zA.j13 F (fun r23=>(some ((r23,()),()):Option zA.sg.R)) list2) F p.2.2.2 (p.2.2.2.length:Int) 0 [] []=some ((vS 0 t.subs,()),()):=e;rw[e];rfl
theorem TX (F:Nat) (hF:4096<F) {p:zI.T} {t:Tree} (h:Good p t):zv.sh F p=some ((t.subs.map noQ,0,()),()):=by
 unfold zv.sh;rw[VI F hF h];simp only[zD,bne_self_eq_false,cond_false];have hl:=h.len;have hn:t.subs.length=p.2.2.2.length:=by rw[Z8,h.flat]
 have hz:(decide (0<=((vS 0 t.subs).length:Int))&&decide (((vS 0 t.subs).length:Int)<=((vS 0 t.subs).length:Int))&&decide (((vS 0 t.subs).length:Int)<=(xp:Int)))=true:=by
  have:xp=1099511627776:=rfl;rw[Wm,this];simp;omega
 rw[hz];simp only[cond_true];have e:=Eq.trans (zv.l7.rg_eq F (fun _ _ _ _ _ _ out2=>zv.j13 F (fun r23 r33=>(some ((r23,r33,()),()):Option zv.sg.R)) out2) p.2.2.2 _ rfl (by omega) p.2.2.2 0 F (vS 0 t.subs) (-1) (qE .bool p.2.2.2.length) (by simp) (by omega))
  (TJ F p.2.1.length (fun out=>some ((out,0,()),())) p.2.2.2 (p.2.2.2.length:Int) (vS 0 t.subs) p.2.2.2 [] [] [] h.ok (by simp[yt]; omega) (by rw[h.subs]; rfl) rfl rfl)
 rw[h.subs] at e;rw[show ((vS 0 t.subs).length:Int).toNat=p.2.2.2.length by rw[Wm,hn]; rfl];exact e
theorem WN (F:Nat) (hF:4096<F) {p:zI.T} {t:Tree} (h:Good p t):zE.sh F p=some ((vg t,0,()),()):=by
 unfold zE.sh;rw[YB F (by omega),h.check];have hl:=h.len;have e:=Eq.trans (zE.l6.rg_eq F (fun _ _ _ _ pile4=>zE.j17 F (fun r25 r35=>(some ((r25,r35,()),()):Option zE.sg.R)) pile4) p.2.2.2 _ rfl (by omega) p.2.2.2 0 F [] (by simp) (by omega))
  (QB F hF p.2.1.length (fun pile=>zE.j17 F (fun r25 r35=>(some ((r25,r35,()),()):Option zE.sg.R)) pile) p.2.2.2 (p.2.2.2.length:Int) p.2.2.2 [] 0 h.ok (by simp[yt]; omega))
 rw[h.eq] at e;exact e
def Xu (t:Int):Bool:=decide (t>=2)
def RX:List Int->Int
 | []=>-1
 | a::r=>bif r.all (fun x=>x==a) then a else -1
def QK (a b:Int):Int :=
 bif a==0 then b else bif b==0 then a else bif Xu a&&b==1 then 1 else bif Xu b&&a==1 then 1 else -1
def tyN (n:zr.T) (ks:List Int):Int :=
 bif nK n==1 then 0 else bif nK n==2 then 1 else bif nK n==3 then 2+2*nN n else bif nK n==4 then 3+2*nN n
 else bif nK n==8 then QK (ks.getD 0 0) (ks.getD 1 0)
 else bif nK n==11||nK n==12 then (bif Xu (ks.getD 0 0) then ks.getD 0 0 else -1)
 else bif nK n==13||nK n==14 then (bif Xu (ks.getD 0 0) then 1 else -1)
 else bif nK n==15 then (bif ks.getD 0 0==1 then 1 else -1)
 else bif nK n==16 then (bif Xu (ks.getD 0 0) then RX (ks.drop 1) else -1)
 else RX ks
def ty:Tree->Int:=Tree.fold tyN
theorem ty_nd (n:zr.T) (ks:List Tree):ty (.nd n ks)=tyN n (ks.map ty):=Tree.fold_nd _ n ks
def linE (n:zr.T) (fs:List Bool):Bool:=nK n==8&&(!fs.getD 0 false&&!fs.getD 1 false)
def tyE (t:Tree):Int:=bif ty t == -1 then 80 else bif linE t.root (t.kids.map noQ) then 81 else 0
def uZ (E:Tree->Int):List Tree->Nat->Option (Nat×Int)
 | [],_=>none
 | t::r,i=>bif E t != 0 then some (i,E t) else uZ E r (i+1)
theorem QP {a:Int}:∀(r:List Int),(a::r).all (fun x=>x==a)=r.all (fun x=>x==a):=by intro r; simp
theorem QN (F:Nat) {R:Type} (k:Int->Option R) (k1:Int->yq.T->Option R) (L:List Int) (N:Int) (n:yq.T) (fr:Nat) (a:Int) (hfr:fr<n.2.1.length) (ha:get (.int .i64) n.2.1 fr=a):∀(xs:List Int) (i:Int),
  zz.l2.rg F k (fun fr _ _ _ _ n=>k1 fr n) L N xs i (fr:Int) n=bif xs.all (fun x=>x==a) then k1 fr n else k (-1)
 | [],i=>rfl
 | x::r,i=>by
  rw[zz.l2.rg,QN F k k1 L N n fr a hfr ha r,yZ hfr,Int.toNat_natCast,ha];simp only[cond_true,List.all_cons];cases hx:(x==a) with
  | true=>simp only[bne,hx,Bool.not_true,cond_false,Bool.true_and]
  | false=>simp only[bne,hx,Bool.not_false,cond_true,Bool.false_and,cond_false]
theorem QO (F:Nat) (hF:64<F) (n:zr.T) (ks:List Int) (fx:List Bool) {fr:Nat} (h:fr<ks.length) (hl:ks.length<=32):zz.sh F (n,ks,fx) (fr:Int)=some ((RX (ks.drop fr),()),()):=by
 unfold zz.sh;simp only[];rw[tV (by omega)];simp only[cond_true];rw[List.take_length];refine Eq.trans (zz.l2.rg_eq F _ _ (ks.drop fr) _ rfl (by simp; omega) (ks.drop fr) 0 F _ _ (by simp) (by simp; omega)) ?_;refine (QN F (fun r41=>(some ((r41,()),()):Option zz.sg.R)) (fun fr n2=>bif idx fr n2.2.1.length then some ((get (.int .i64) n2.2.1 fr.toNat,()),()) else none) (ks.drop fr) _ (n,ks,fx) fr (get (.int .i64) ks fr) h rfl (ks.drop fr) _).trans ?_;simp only[];rw[yZ h,Int.toNat_natCast];have hd:ks.drop fr=get (.int .i64) ks fr::ks.drop (fr+1):=by
  rw[List.drop_eq_getElem_cons h];congr 1
  unfold get;rw[List.getD_eq_getElem?_getD,List.getElem?_eq_getElem h];rfl
 rw[hd,QP];simp only[RX];cases (ks.drop (fr+1)).all (fun x=>x==get (.int .i64) ks fr)<;>rfl
theorem Wj {n:Nat} (h:1<=n):idx 0 n=true:=yZ (i:=0) (by omega)
theorem idx1 {n:Nat} (h:2<=n):idx 1 n=true:=yZ (i:=1) (by omega)
theorem Zb (F:Nat) (hF:64<F) (n:zr.T) (ks:List Int) (fx:List Bool) (h:1<=ks.length) (hl:ks.length<=32):yk.sh F (n,ks,fx)=some ((RX ks,()),()):=by
 unfold yk.sh;rw[show (0:Int)=((0:Nat):Int) from rfl,QO F hF n ks fx (by omega) hl];rfl
theorem T9 (F:Nat) (n:zr.T) (ks:List Int) (fx:List Bool) (h:2<=ks.length):yo.sh F (n,ks,fx)=some ((QK (ks.getD 0 0) (ks.getD 1 0),()),()):=by
 unfold yo.sh yC.sh QK Xu;simp only[zD];rw[Wj (by omega),idx1 (by omega)];simp only[cond_true];rw[show get (.int .i64) ks 0=ks.getD 0 0 from rfl,show get (.int .i64) ks 1=ks.getD 1 0 from rfl];cases (ks.getD 0 0==0) with
 | true=>rfl
 | false =>
  cases (ks.getD 1 0==0) with
  | true=>rfl
  | false=>cases decide (ks.getD 0 0>=2)<;>cases decide (ks.getD 1 0>=2)<;>cases (ks.getD 0 0==1)<;>cases (ks.getD 1 0==1)<;>rfl
theorem WH (F:Nat) (n:zr.T) (ks:List Int) (fx:List Bool) (h:1<=ks.length):yg.sh F (n,ks,fx)=some ((bif Xu (ks.getD 0 0) then ks.getD 0 0 else -1,()),()):=by
 unfold yg.sh yC.sh Xu;simp only[zD];rw[Wj (by omega)];simp only[cond_true];rw[show get (.int .i64) ks 0=ks.getD 0 0 from rfl];cases decide (ks.getD 0 0>=2)<;>rfl
theorem W9 (F:Nat) (n:zr.T) (ks:List Int) (fx:List Bool) (h:1<=ks.length):yr.sh F (n,ks,fx)=some ((bif Xu (ks.getD 0 0) then 1 else -1,()),()):=by
 unfold yr.sh yC.sh Xu;simp only[zD];rw[Wj (by omega)];simp only[cond_true];rw[show get (.int .i64) ks 0=ks.getD 0 0 from rfl];cases decide (ks.getD 0 0>=2)<;>rfl
theorem off_eq (F:Nat) (n:zr.T) (ks:List Int) (fx:List Bool) (h:1<=ks.length):yL.sh F (n,ks,fx)=some ((bif ks.getD 0 0==1 then 1 else -1,()),()):=by
 unfold yL.sh;rw[Wj (by omega)];simp only[cond_true];rw[show get (.int .i64) ks 0=ks.getD 0 0 from rfl];cases (ks.getD 0 0==1)<;>rfl
theorem test_eq (F:Nat) (hF:64<F) (n:zr.T) (ks:List Int) (fx:List Bool) (h:2<=ks.length) (hl:ks.length<=32):yD.sh F (n,ks,fx)=some ((bif Xu (ks.getD 0 0) then RX (ks.drop 1) else -1,()),()):=by
 unfold yD.sh yC.sh Xu;simp only[zD];rw[Wj (by omega)];simp only[cond_true];rw[show get (.int .i64) ks 0=ks.getD 0 0 from rfl];have:=QO F hF n ks fx (fr:=1) (by omega) hl;rw[show (((1:Nat):Int))=1 from rfl] at this;rw[this];cases decide (ks.getD 0 0>=2)<;>rfl
theorem tu {n:zr.T} (h:ub n=true):nK n=1\/nK n=2\/nK n=3\/nK n=4\/nK n=5\/nK n=6\/nK n=7\/nK n=8\/nK n=9\/nK n=10\/nK n=11\/nK n=12\/nK n=13\/nK n=14\/nK n=15\/nK n=16:=by
 have:=uL.1 h;omega
theorem x8 {n:zr.T} {k:Int} (h:nK n=k):ar n=bif decide ((get yG we k.toNat).1>=0) then (get yG we k.toNat).1.toNat else (nC n).toNat:=by
 unfold ar aK qD;rw[h]
theorem Ys {n:zr.T} {k:Int} (h:nK n=k):ua n=bif decide ((get yG we k.toNat).1<0) then decide (nC n>=2)&&decide (nC n<=16) else nC n==0:=by
 unfold ua aK qD;rw[h]
theorem qg {n:zr.T} {k:Int} (h:nK n=k) (dims:Nat):X5 n dims=bif decide ((get yG we k.toNat).2.1<0) then (dims:Int)-1 else (get yG we k.toNat).2.1:=by
 unfold X5 qD;rw[h]
theorem rule_eq (F:Nat) (hF:64<F) {dims:Nat} (hd:dims<=4) {n:zr.T} {pile:Nat} (h:vp dims n pile=0) :
  ∃r c,xh.sh F (nK n)=some ((r,c,()),())/\(bif decide (c<0) then nC n else c)=(ar n:Int) /\
   ∀(ks:List Int) (fx:List Bool),ks.length=ar n->zj.d63 F r ((n,ks,fx),())=some ((tyN n ks,()),()):=by
 obtain ⟨g1,g2,g3,g4,g5,g6,g7,g8⟩:=wb h;have ha:=RI g1 g4;rcases tu g1 with h | h | h | h | h | h | h | h | h | h | h | h | h | h | h | h
 ·exact ⟨xX,0,by rw[h]; rfl,by rw[x8 h]; rfl,fun ks fx hk=>by unfold tyN; rw[h]; rfl⟩
 ·exact ⟨x9,0,by rw[h]; rfl,by rw[x8 h]; rfl,fun ks fx hk=>by unfold tyN; rw[h]; rfl⟩
 ·rw[qg h] at g3
  have g3:nN n<=(dims:Int)-1:=g3;refine ⟨xG,0,by rw[h]; rfl,by rw[x8 h]; rfl,fun ks fx hk=>?_⟩;refine Eq.trans (show zj.d63 F xG ((n,ks,fx),())=yl.sh F (n,ks,fx) from rfl) ?_;unfold yl.sh tyN;rw[h,yT (n:=2*nN n) (by omega) (by omega),yT (n:=2+2*nN n) (by omega) (by omega)];rfl
 ·rw[qg h] at g3
  have g3:nN n<=(dims:Int)-1:=g3;refine ⟨xQ,0,by rw[h]; rfl,by rw[x8 h]; rfl,fun ks fx hk=>?_⟩;refine Eq.trans (show zj.d63 F xQ ((n,ks,fx),())=yB.sh F (n,ks,fx) from rfl) ?_;unfold yB.sh tyN;rw[h,yT (n:=2*nN n) (by omega) (by omega),yT (n:=3+2*nN n) (by omega) (by omega)];rfl
 ·have e:ar n=1:=by rw[x8 h]; rfl
  refine ⟨zK,1,by rw[h]; rfl,by rw[e]; rfl,fun ks fx hk=>?_⟩;refine Eq.trans (show zj.d63 F zK ((n,ks,fx),())=yk.sh F (n,ks,fx) from rfl) ?_;rw[Zb F hF n ks fx (by omega) (by omega)];unfold tyN; rw[h]; rfl
 ·have e:ar n=2:=by rw[x8 h]; rfl
  refine ⟨zK,2,by rw[h]; rfl,by rw[e]; rfl,fun ks fx hk=>?_⟩;refine Eq.trans (show zj.d63 F zK ((n,ks,fx),())=yk.sh F (n,ks,fx) from rfl) ?_;rw[Zb F hF n ks fx (by omega) (by omega)];unfold tyN; rw[h]; rfl
 ·have e:ar n=2:=by rw[x8 h]; rfl
  refine ⟨zK,2,by rw[h]; rfl,by rw[e]; rfl,fun ks fx hk=>?_⟩;refine Eq.trans (show zj.d63 F zK ((n,ks,fx),())=yk.sh F (n,ks,fx) from rfl) ?_;rw[Zb F hF n ks fx (by omega) (by omega)];unfold tyN; rw[h]; rfl
 ·have e:ar n=2:=by rw[x8 h]; rfl
  refine ⟨xM,2,by rw[h]; rfl,by rw[e]; rfl,fun ks fx hk=>?_⟩;refine Eq.trans (show zj.d63 F xM ((n,ks,fx),())=yo.sh F (n,ks,fx) from rfl) ?_;rw[T9 F n ks fx (by omega)];unfold tyN; rw[h]; rfl
 ·rw[Ys h] at g4
  have g4:(decide (nC n>=2)&&decide (nC n<=16))=true:=g4;simp at g4;have e:ar n=(nC n).toNat:=by rw[x8 h]; rfl
  refine ⟨zK,-1,by rw[h]; rfl,?_,fun ks fx hk=>?_⟩
  ·rw[e]; rw[decide_eq_true (show (-1:Int)<0 by omega)]; simp only[cond_true]; omega
  refine Eq.trans (show zj.d63 F zK ((n,ks,fx),())=yk.sh F (n,ks,fx) from rfl) ?_;rw[Zb F hF n ks fx (by omega) (by omega)];unfold tyN; rw[h]; rfl
 ·rw[Ys h] at g4
  have g4:(decide (nC n>=2)&&decide (nC n<=16))=true:=g4;simp at g4;have e:ar n=(nC n).toNat:=by rw[x8 h]; rfl
  refine ⟨zK,-1,by rw[h]; rfl,?_,fun ks fx hk=>?_⟩
  ·rw[e]; rw[decide_eq_true (show (-1:Int)<0 by omega)]; simp only[cond_true]; omega
  refine Eq.trans (show zj.d63 F zK ((n,ks,fx),())=yk.sh F (n,ks,fx) from rfl) ?_;rw[Zb F hF n ks fx (by omega) (by omega)];unfold tyN; rw[h]; rfl
 ·have e:ar n=1:=by rw[x8 h]; rfl
  refine ⟨yS,1,by rw[h]; rfl,by rw[e]; rfl,fun ks fx hk=>?_⟩;refine Eq.trans (show zj.d63 F yS ((n,ks,fx),())=yg.sh F (n,ks,fx) from rfl) ?_;rw[WH F n ks fx (by omega)];unfold tyN; rw[h]; rfl
 ·have e:ar n=1:=by rw[x8 h]; rfl
  refine ⟨yS,1,by rw[h]; rfl,by rw[e]; rfl,fun ks fx hk=>?_⟩;refine Eq.trans (show zj.d63 F yS ((n,ks,fx),())=yg.sh F (n,ks,fx) from rfl) ?_;rw[WH F n ks fx (by omega)];unfold tyN; rw[h]; rfl
 ·have e:ar n=1:=by rw[x8 h]; rfl
  refine ⟨yU,1,by rw[h]; rfl,by rw[e]; rfl,fun ks fx hk=>?_⟩;refine Eq.trans (show zj.d63 F yU ((n,ks,fx),())=yr.sh F (n,ks,fx) from rfl) ?_;rw[W9 F n ks fx (by omega)];unfold tyN; rw[h]; rfl
 ·have e:ar n=1:=by rw[x8 h]; rfl
  refine ⟨yU,1,by rw[h]; rfl,by rw[e]; rfl,fun ks fx hk=>?_⟩;refine Eq.trans (show zj.d63 F yU ((n,ks,fx),())=yr.sh F (n,ks,fx) from rfl) ?_;rw[W9 F n ks fx (by omega)];unfold tyN; rw[h]; rfl
 ·have e:ar n=1:=by rw[x8 h]; rfl
  refine ⟨xZ,1,by rw[h]; rfl,by rw[e]; rfl,fun ks fx hk=>?_⟩;refine Eq.trans (show zj.d63 F xZ ((n,ks,fx),())=yL.sh F (n,ks,fx) from rfl) ?_;rw[off_eq F n ks fx (by omega)];unfold tyN; rw[h]; rfl
 ·have e:ar n=3:=by rw[x8 h]; rfl
  refine ⟨xW,3,by rw[h]; rfl,by rw[e]; rfl,fun ks fx hk=>?_⟩;refine Eq.trans (show zj.d63 F xW ((n,ks,fx),())=yD.sh F (n,ks,fx) from rfl) ?_;rw[test_eq F hF n ks fx (by omega) (by omega)];unfold tyN; rw[h]; rfl
theorem Xy {α β:Type} {f:α->β} {d:β} {l:List α} {m j:Nat}:(l.map f).getD (m+j) d=((l.drop m).map f).getD j d:=by
 rw[List.map_drop,List.getD_eq_getElem?_getD,List.getD_eq_getElem?_getD,List.getElem?_drop]
theorem Qw (F:Nat) (hF:64<F) {R:Type} {dims:Nat} (hd:dims<=4) (kE:List Int->Int->Int->Option R) (kO:List Int->List Int->Option R) (L:List zr.T) (N:Int) (fixed:List Bool):∀(xs:List zr.T) (st:List Tree) (pre:List Bool) (types:List Int),
  okS dims st xs->(yt st).length+xs.length<=2048->fixed=pre++(news st xs).map noQ->pre.length=(yt st).length->types.length=(yt st).length->
  zj.l8.rg F kE kE (fun _ _ _ _ _ types pile _=>kO types pile) L N xs ((yt st).length:Int) fixed types (st.map ty) (st.map noQ) =
   match uZ tyE (news st xs) (yt st).length with
   | some (j,e)=>kE [] (j:Int) e
   | none=>kO (types++(news st xs).map ty) ((qo st xs).map ty):=by
 intro xs;induction xs with
 | nil=>intro st pre types h h2 h3 h4 h5; simp[zj.l8.rg,news,uZ,qo]
 | cons n xs ih =>
  intro st pre types h h2 h3 h4 h5;obtain ⟨g1,g2,g3,g4,g5,g6,g7,g8⟩:=wb h.1;have hst:=uf st;have hfs:=congrArg List.length (vt st n);simp only[List.length_cons,List.length_append,List.length_nil] at h2 hfs;simp only[news,List.map_cons] at h3;have IH:=ih (wA st n) (pre++[noQ (wC st n)]) (types++[ty (wC st n)]) h.2 (by omega) (by rw[h3]; simp) (by simp; omega) (by simp; omega);have hst1:(wA st n).map ty=(st.map ty).take (st.length-ar n)++[ty (wC st n)]:=by unfold wA; simp[List.map_take]
  have hst2:(wA st n).map noQ=(st.map noQ).take (st.length-ar n)++[noQ (wC st n)]:=by unfold wA; simp[List.map_take]
  rw[hst1,hst2,hfs] at IH;obtain ⟨r,c,q1,q2,q3⟩:=rule_eq F hF hd h.1;have hl1:(st.map ty).length=st.length:=by simp
  have hl2:(st.map noQ).length=st.length:=by simp
  have hgf:get .bool fixed (Int.toNat ((yt st).length:Int))=noQ (wC st n):=by
   rw[Int.toNat_natCast,get,h3,List.getD_eq_getElem?_getD,List.getElem?_append_right (by omega),h4,Nat.sub_self];rfl
  have hif:idx ((yt st).length:Int) fixed.length=true:=yZ (by rw[h3]; simp; omega);have ht:=q3 ((st.map ty).drop (st.length-ar n)) ((st.map noQ).drop (st.length-ar n)) (by simp; omega);have hty:tyN n ((st.map ty).drop (st.length-ar n))=ty (wC st n):=by unfold wC; rw[ty_nd,List.map_drop]
  rw[hty] at ht;have hE:tyE (wC st n)=bif ty (wC st n) == -1 then 80 else bif linE n ((st.map noQ).drop (st.length-ar n)) then 81 else 0:=by
   rw[<-List.map_drop]; rfl
  have hm:st.length-ar n<=st.length:=by omega
  have hb1:=tV hm;have hb2:=tW hm;have ew:=Z4 g7 (by omega);have htk1:(st.map ty).take st.length=st.map ty:=List.take_of_length_le (by omega);have htk2:(st.map noQ).take st.length=st.map noQ:=List.take_of_length_le (by omega);have hbl1:∀y,Nat.ble (types.length+([y]:List Int).length) xp=true:=fun y=>wU (by simp; omega)
  have hbl2:∀y,Nat.ble (st.length-ar n+([y]:List Int).length) xp=true:=fun y=>wU (by simp; omega)
  have hbl3:∀y,Nat.ble (st.length-ar n+([y]:List Bool).length) xp=true:=fun y=>wU (by simp; omega)
  simp only[List.append_assoc,List.singleton_append] at IH;rw[y4] at IH;have h8a:(nK n==8)=true->ar n=2:=fun h=>by rw[x8 (by simpa using h)]; rfl
  simp only[zj.l8.rg];rw[q1];simp only[zD];simp only[news,uZ,hE];generalize ar n=a at*;cases hc:decide (c<0) with
  | true =>
   rw[hc] at q2;have q2:n.2.2.2.1=(a:Int):=q2;simp only[cond_true,q2,hl1,hl2,ew,hb1,hb2,htk1,htk2];rw[ht];simp only[zD];cases hn:(ty (wC st n) == -1) with
   | true=>rfl
   | false =>
    simp only[cond_false,hbl1,hbl2,hbl3,hif,hgf,cond_true,linE];cases h8:(nK n==8) with
    | true =>
     have h8:=h8a h8;have hi1:idx ((st.length-a:Nat):Int) st.length=true:=yZ (by omega);have hi2:idx ((st.length-a+1:Nat):Int) st.length=true:=yZ (by omega);have ew2:i64.wrap (((st.length-a:Nat):Int)+1)=((st.length-a+1:Nat):Int):=by rw[yT (by omega) (by omega)]; omega
     have hg0:get .bool (st.map noQ) (st.length-a)=((st.map noQ).drop (st.length-a)).getD 0 false:=by rw[<-List.map_drop]; exact Xy (j:=0)
     have hg1:get .bool (st.map noQ) (st.length-a+1)=((st.map noQ).drop (st.length-a)).getD 1 false:=by rw[<-List.map_drop]; exact Xy (j:=1)
     simp only[hi1,hi2,ew2,cond_true,Int.toNat_natCast,hg0,hg1,Bool.true_and];cases ((st.map noQ).drop (st.length-a)).getD 0 false with
     | true=>exact IH
     | false =>
      cases ((st.map noQ).drop (st.length-a)).getD 1 false with
      | true=>exact IH
      | false=>rfl
    | false=>exact IH
  | false =>
   rw[hc] at q2;have q2:c=(a:Int):=q2;simp only[cond_false,cond_true,q2,hl1,hl2,ew,hb1,hb2,htk1,htk2];rw[ht];simp only[zD];cases hn:(ty (wC st n) == -1) with
   | true=>rfl
   | false =>
    simp only[cond_false,hbl1,hbl2,hbl3,hif,hgf,cond_true,linE];cases h8:(nK n==8) with
    | true =>
     have h8:=h8a h8;have hi1:idx ((st.length-a:Nat):Int) st.length=true:=yZ (by omega);have hi2:idx ((st.length-a+1:Nat):Int) st.length=true:=yZ (by omega);have ew2:i64.wrap (((st.length-a:Nat):Int)+1)=((st.length-a+1:Nat):Int):=by rw[yT (by omega) (by omega)]; omega
     have hg0:get .bool (st.map noQ) (st.length-a)=((st.map noQ).drop (st.length-a)).getD 0 false:=by rw[<-List.map_drop]; exact Xy (j:=0)
     have hg1:get .bool (st.map noQ) (st.length-a+1)=((st.map noQ).drop (st.length-a)).getD 1 false:=by rw[<-List.map_drop]; exact Xy (j:=1)
     simp only[hi1,hi2,ew2,cond_true,Int.toNat_natCast,hg0,hg1,Bool.true_and];cases ((st.map noQ).drop (st.length-a)).getD 0 false with
     | true=>exact IH
     | false =>
      cases ((st.map noQ).drop (st.length-a)).getD 1 false with
      | true=>exact IH
      | false=>rfl
    | false=>exact IH
def uO (t:Tree):List Int×Int×Int :=
 match uZ tyE t.subs 0 with
 | some (j,e)=>([],(j:Int),e)
 | none=>bif ty t != 1 then ([],(t.size:Int)-1,80) else (t.subs.map ty,0,0)
theorem zaC (F:Nat) (hF:4096<F) {p:zI.T} {t:Tree} (h:Good p t):zj.sh F p=some (((uO t).1,(uO t).2.1,(uO t).2.2,()),()):=by
 unfold zj.sh;rw[YB F (by omega),h.check,TX F hF h];simp only[zD,bne_self_eq_false,cond_false];have hl:=h.len;have hn:t.subs.length=p.2.2.2.length:=by rw[Z8,h.flat]
 have hs:t.size=p.2.2.2.length:=by rw[Tree.size,h.flat]
 have hp:=vU t;refine Eq.trans (zj.l8.rg_eq F _ _ _ p.2.2.2 _ rfl (by omega) p.2.2.2 0 F _ [] [] [] (by simp) (by omega)) ?_;refine (Qw F (by omega) (ug h.head).2.1 (fun r26 r36 r46=>(some ((r26,r36,r46,()),()):Option zj.sg.R)) (fun types8 pile8=>zj.j23 F (fun r29 r39 r49=>some ((r29,r39,r49,()),())) (fun r210 r310 r410=>some ((r210,r310,r410,()),())) types8 pile8) p.2.2.2 _ (t.subs.map noQ) p.2.2.2 [] [] [] h.ok (by simp[yt]; omega) (by rw[h.subs]; rfl) rfl rfl).trans ?_;rw[h.subs,h.eq];unfold uO;rw[show (yt []).length=0 from rfl];cases uZ tyE t.subs 0 with
 | some x=>rfl
 | none =>
  simp only[List.nil_append,List.map_cons,List.map_nil];unfold zj.j23;rw[show idx 0 [ty t].length=true from rfl,show get (.int .i64) [ty t] 0=ty t from rfl,List.length_map,hn,hs,yT (by omega) (by omega)];cases (ty t != 1)<;>rfl
theorem Qp (F:Nat) (hF:4096<F) {p:zI.T} (h:(xO p).2≠0):zj.sh F p=some (([],(xO p).1,(xO p).2,()),()):=by
 unfold zj.sh;rw[YB F (by omega)];simp only[zD];rw[show ((xO p).2 != 0)=true by simpa using h];rfl
theorem XB (F:Nat) (u:zf.T) (o:Bool) (w:zf.T) (e:Int):zY.sh F (u,o) w e=some ((w,()),((u,o||e != 0),())):=by
 unfold zY.sh;cases o<;>rfl
theorem Zm (F:Nat) (u:zf.T) (o:Bool) {a b:zf.T} (ha:wfW a) (hb:wfW b):zW.sh F (u,o) a b=some ((vz (val a*val b),()),((u,o||vG (val a*val b) != 0),())):=by
 unfold zW.sh;rw[VM F ha hb];simp only[zD];rw[XB];rfl
theorem Xz (F:Nat) (u:zf.T) (o:Bool) {a b:zf.T} (ha:wfW a) (hb:wfW b):z7.sh F (u,o) a b=some ((vz (val a+val b),()),((u,o||vG (val a+val b) != 0),())):=by
 unfold z7.sh;rw[zaz F ha hb];simp only[zD];rw[XB];rfl
theorem wv {v:Int} (h:inR v=true):vz v=mk v/\(vG v != 0)=false:=by
 unfold vz vG;rw[h];exact ⟨rfl,rfl⟩
theorem Yg {v:Int} (h:inR v=false):(vG v != 0)=true:=by
 unfold vG;rw[h];rfl
def Sm:Int->List zo.T->Prop
 | _,[]=>True
 | lo,x::r=>lo<tF x/\tF x<=1000000000000/\-1000000000000<=tR x/\tR x<=1000000000000/\Sm (tF x) r
theorem Xd (L:List zo.T):∀(xs:List zo.T) (i:Nat) (lo:Int),L.drop i=xs->vJ L xs i=true->(i=0->∀x,xs.head?=some x->lo<tF x)->(i≠0->tF (L.getD (i-1) (0,0))=lo)->Sm lo xs
 | [],i,lo,h,ho,h0,h1=>trivial
 | x::r,i,lo,h,ho,h0,h1=>by
  simp only[vJ,V5,Bool.and_eq_true,Bool.or_eq_true,Bool.not_eq_true',decide_eq_true_eq,decide_eq_false_iff_not] at ho;obtain ⟨⟨a1,a2,a3,a4⟩,a5⟩:=ho;have hx:L.getD i (0,0)=x:=by
   have:=congrArg (·[0]?) h
   rw[List.getD_eq_getElem?_getD];simp at this;rw[this]; rfl
  refine ⟨?_,by omega,by omega,by omega,Xd L r (i+1) (tF x) (xm h) a5 (by omega) (fun _=>by simp only[Nat.add_sub_cancel]; rw[hx])⟩;by_cases hi:i=0
  ·exact h0 hi x rfl
  ·rcases a1 with a1 | a1
   ·exact absurd a1 hi
   ·rw[h1 hi] at a1
    omega
theorem XW {l:List zo.T} (h:tI l=true):1<=l.length/\l.length<=16/\Sm (-1) l:=by
 simp only[tI,Bool.and_eq_true,decide_eq_true_eq] at h;obtain ⟨a1,a2,a3,a4⟩:=h;refine ⟨a1,a2,Xd l l 0 (-1) (by simp) a4 (fun _ x hx=>?_) (fun h=>absurd rfl h)⟩;cases l with
 | nil=>cases hx
 | cons y r =>
  simp only[List.head?_cons,Option.some.injEq] at hx;subst hx;have a3:tF y=0:=a3;omega
def tP (v:Int):Int:=if 0-v>v then 0-v else v
theorem Uk {v:Int} (h1:-1000000000000<=v) (h2:v<=1000000000000):0<=tP v/\tP v<=1000000000000:=by unfold tP; split<;>omega
theorem far_eq (F:Nat) {v:Int} (h1:-1000000000000<=v) (h2:v<=1000000000000):xx.sh F v=some ((tP v,()),()):=by
 unfold xx.sh tP;rw[yT (n:=0-v) (by omega) (by omega)]
def qF:List zo.T->Int
 | a::b::r=>tP (tR a)*(tF b-tF a)+qF (b::r)
 | _=>0
def XY (r0:Int) (l:List zo.T):Int:=l.foldl (fun r t=>if tP (tR t)>r then tP (tR t) else r) r0
theorem UH:∀(l:List zo.T) (lo:Int),-1<=lo->Sm lo l->0<=qF l/\qF l<=l.length*1000000000000000000000000
 | [],lo,_,h=>by simp[qF]
 | [a],lo,_,h=>by simp[qF]
 | a::b::r,lo,hlo,h=>by
  obtain ⟨a1,a2,a3,a4,a5⟩:=h;have ih:=UH (b::r) (tF a) (by omega) a5;obtain ⟨b1,b2,b3,b4,b5⟩:=a5;have hf:=Uk (v:=tR a) (by omega) (by omega);have:=ZS hf.1 hf.2 (show 0<=tF b-tF a by omega) (show tF b-tF a<=1000000000000 by omega);have e:(1000000000000:Int)*1000000000000=1000000000000000000000000:=by decide
  rw[e] at this;simp only[qF,List.length_cons] at ih ⊢;push_cast at ih ⊢;omega
theorem U1:∀(l:List zo.T) (r0 lo:Int),0<=r0->r0<=1000000000000->Sm lo l->0<=XY r0 l/\XY r0 l<=1000000000000
 | [],r0,lo,h1,h2,h=>⟨h1,h2⟩
 | a::r,r0,lo,h1,h2,h=>by
  obtain ⟨a1,a2,a3,a4,a5⟩:=h;have hf:=Uk (v:=tR a) (by omega) (by omega);exact U1 r _ (tF a) (show 0<=(if tP (tR a)>r0 then tP (tR a) else r0) by split<;>omega) (show (if tP (tR a)>r0 then tP (tR a) else r0)<=1000000000000 by split<;>omega) a5
theorem YM (F:Nat) {R:Type} (k:List zo.T->Int->yv.T->zf.T->zf.T->Option R) (L:List zo.T) (N:Int) (u x:zf.T) (r6:zf.T) (hL:L.length<=16):∀(xs:List zo.T) (i:Nat) (rate w lo:Int),L.drop i=xs->-1<=lo->Sm lo xs->0<=w->w+xs.length*1000000000000000000000000<=20000000000000000000000000->
  zp.l3.rg F (fun tiers rate _ _ _ _ m x _ ways=>k tiers rate m x ways) L N xs (i:Int) L rate (u,false) x r6 (mk w)=k L (XY rate xs) (u,false) x (mk (w+qF xs))
 | [],i,rate,w,lo,h,hlo,hi,hw,hw2=>by simp only[zp.l3.rg,XY,qF,List.foldl_nil,Int.add_zero]
 | a::r,i,rate,w,lo,h,hlo,hi,hw,hw2=>by
  have ⟨a1,a2,a3,a4,a5⟩:=hi;have h0:=xT h;simp only[List.length_cons] at hw2;push_cast at hw2;have hf:=Uk (v:=tR a) (by omega) (by omega);have hlen:=congrArg List.length h;simp only[List.length_drop,List.length_cons] at hlen;simp only[zp.l3.rg];rw[far_eq F (by omega) (by omega),yT (n:=(i:Int)+1) (by omega) (by omega)];simp only[zD];cases r with
  | nil =>
   simp only[List.length_nil] at hlen;rw[decide_eq_false (show ¬((i:Int)+1<(L.length:Int)) by omega)];simp only[cond_false];have:=YM F k L N u x r6 hL [] (i+1) (if tP (tR a)>rate then tP (tR a) else rate) w (tF a) (xm h) (by omega) trivial hw (by simp; omega);rw[y4] at this;rw[this];rfl
  | cons b r =>
   simp only[List.length_cons] at hlen;rw[decide_eq_true (show ((i:Int)+1<(L.length:Int)) by omega)];obtain ⟨b1,b2,b3,b4,b5⟩:=a5;have hg:get zo L (Int.toNat ((i:Int)+1))=b:=by
    rw[<-y4]; exact xY (xm h)
   have hid:idx ((i:Int)+1) L.length=true:=Wi (by omega) (by omega);have hp:=ZS hf.1 hf.2 (show 0<=tF b-tF a by omega) (show tF b-tF a<=1000000000000 by omega);rw[show (1000000000000:Int)*1000000000000=1000000000000000000000000 by decide] at hp;simp only[cond_true];rw[uS F (v:=tP (tR a)) (by omega) (by omega),hid,hg,yT (n:=tF b-tF a) (by omega) (by omega),uS F (v:=tF b-tF a) (by omega) (by omega)];simp only[zD,cond_true];rw[Zm F u false (wz (by rw[y7]; omega)) (wz (by rw[y7]; omega))];simp only[zD,wI];have hin:inR (tP (tR a)*(tF b-tF a))=true:=by rw[y7]; omega
   rw[(wv hin).1,(wv hin).2];rw[Xz F u _ (wz (by rw[y7]; omega)) (wz hin)];simp only[zD,wI];have hin2:inR (w+tP (tR a)*(tF b-tF a))=true:=by rw[y7]; omega
   rw[(wv hin2).1,(wv hin2).2];simp only[beq_self_eq_true,Bool.and_true,Bool.or_false,cond_true];have:=YM F k L N u x r6 hL (b::r) (i+1) (if tP (tR a)>rate then tP (tR a) else rate) (w+tP (tR a)*(tF b-tF a)) (tF a) (xm h) (by omega) ⟨b1,b2,b3,b4,b5⟩ (by omega) (by simp only[List.length_cons]; push_cast; simp only[List.length_cons] at hw2; push_cast at hw2; omega);rw[y4] at this;rw[this,Int.add_assoc];rfl
def ZH:List zo.T->Int
 | []=>0
 | [a]=>tF a
 | _::b::r=>ZH (b::r)
theorem Vi:∀(l:List zo.T),1<=l.length->tF (l.getD (l.length-1) (0,0))=ZH l
 | [],h=>by simp at h
 | [a],h=>rfl
 | a::b::r,h=>by
  have:=Vi (b::r) (by simp);simp only[ZH,<-this];rfl
theorem To:∀(l:List zo.T) (lo:Int),-1<=lo->Sm lo l->0<=ZH l/\ZH l<=1000000000000
 | [],lo,h1,h=>by simp[ZH]
 | [a],lo,h1,h=>by
  obtain ⟨a1,a2,a3,a4,a5⟩:=h;simp only[ZH]; omega
 | a::b::r,lo,h1,h=>by
  obtain ⟨a1,a2,a3,a4,a5⟩:=h;exact To (b::r) (tF a) (by omega) a5
def tA (u x:Int) (l:List zo.T):Int:=u*(XY 0 l*(x+ZH l)+qF l)
def BND:Int:=1329227995784915872903807060280344576
theorem mul_ge {a b:Int} (ha:1<=a) (hb:0<=b):b<=a*b:=by
 have:=Int.mul_le_mul_of_nonneg_right ha hb;omega
def T4 (F:Nat) (tiers7:List zo.T) (rate7:Int) (m7:yv.T) (x7 ways7:zf.T):Option zp.sg.R :=
 bif idx (i64.wrap ((tiers7.length:Int)-1)) tiers7.length then oB (yy.sh F (get zo tiers7 ((i64.wrap ((tiers7.length:Int)-1)).toNat)).1) fun c_8 =>
  oB (z7.sh F m7 x7 c_8.1.1) fun c_9 =>
  bif (((m7.1.1==c_9.2.1.1.1)&&((m7.1.2==c_9.2.1.1.2)&&true))&&true) then oB (yy.sh F rate7) fun c_10 =>
   oB (zW.sh F c_9.2.1 c_10.1.1 c_9.1.1) fun c_11 =>
   bif (((c_9.2.1.1.1==c_11.2.1.1.1)&&((c_9.2.1.1.2==c_11.2.1.1.2)&&true))&&true) then oB (z7.sh F c_11.2.1 c_11.1.1 ways7) fun c_12 =>
    bif (((c_11.2.1.1.1==c_12.2.1.1.1)&&((c_11.2.1.1.2==c_12.2.1.1.2)&&true))&&true) then oB (zW.sh F c_12.2.1 c_9.2.1.1 c_12.1.1) fun c_13 =>
     bif (((c_12.2.1.1.1==c_13.2.1.1.1)&&((c_12.2.1.1.2==c_13.2.1.1.2)&&true))&&true) then some ((c_13.1.1,()),(c_13.2.1,()))
     else none
    else none
   else none
  else none
 else none
theorem Yu {v:Int} (h:0<=v):(inR v=true/\v<170141183460469231731687303715884105728)\/(inR v=false/\170141183460469231731687303715884105728<=v):=by
 rcases Int.lt_or_le v 170141183460469231731687303715884105728 with h' | h'
 ·exact .inl ⟨by rw[y7]; omega,h'⟩
 ·exact .inr ⟨by rw[uY]; omega,h'⟩
theorem US (F:Nat) (hF:64<F) {u x:Int} (hu:1<=u) (hu2:u<=1000000000000000000000000) (hx:0<=x) (hx2:x<=BND) {l:List zo.T} (hl:tI l=true) :
  ∃w o,zp.sh F (mk u,false) (mk x) l=some ((w,()),((mk u,o),()))/\wfW w/\0<=tA u x l/\((o=true/\BND<tA u x l)\/(o=false/\w=mk (tA u x l)/\tA u x l<170141183460469231731687303715884105728)):=by
 obtain ⟨l1,l2,l3⟩:=XW hl;have hBND:BND=1329227995784915872903807060280344576:=rfl;have hlast:=To l (-1) (by omega) l3;have hrate:=U1 l 0 (-1) (by omega) (by omega) l3;have hways:=UH l (-1) (by omega) l3;have hX:zp.sh F (mk u,false) (mk x) l=T4 F l (XY 0 l) (mk u,false) (mk x) (mk (0+qF l)):=by
  refine Eq.trans (zp.l3.rg_eq F _ l _ rfl (by omega) l 0 F l 0 (mk u,false) (mk x) (0,0) (0,0) (by simp) (by omega)) ?_;exact YM F (T4 F) l _ (mk u) (mk x) (0,0) l2 l 0 0 0 (-1) (by simp) (by omega) l3 (by omega) (by omega)
 rw[hX];unfold T4;rw[yT (n:=(l.length:Int)-1) (by omega) (by omega),show ((l.length:Int)-1)=((l.length-1:Nat):Int) by omega,yZ (by omega),Int.toNat_natCast,show (get zo l (l.length-1)).1=ZH l from Vi l l1];simp only[cond_true,Int.zero_add];unfold tA;generalize ZH l=lf at*;generalize XY 0 l=rt at*;generalize qF l=ws at*;have iu:inR u=true:=by rw[y7]; omega
 have iws:inR ws=true:=by rw[y7]; omega
 have iR:inR (x+lf)=true:=by rw[y7]; omega
 rw[uS F (by omega) (by omega)];simp only[zD];rw[Xz F _ _ (wz (by rw[y7]; omega)) (wz (by rw[y7]; omega))];simp only[zD,wI];rw[uS F (v:=rt) (by omega) (by omega),(wv iR).1,(wv iR).2];simp only[zD,beq_self_eq_true,Bool.and_true,Bool.or_false,cond_true];rw[Zm F _ _ (wz (by rw[y7]; omega)) (wz iR)];simp only[zD,wI,beq_self_eq_true,Bool.and_true,cond_true,Bool.false_or];have hp0:0<=rt*(x+lf):=Int.mul_nonneg hrate.1 (by omega);have hs0:0<=rt*(x+lf)+ws:=by omega
 have hg:=mul_ge hu hs0;generalize rt*(x+lf)=p at*;rw[Xz F _ _ (Xw p) (wz iws)];simp only[zD,beq_self_eq_true,Bool.and_true,cond_true];rw[Zm F _ _ (wz iu) (Xw _)];simp only[zD,beq_self_eq_true,Bool.and_true,cond_true,wI];refine ⟨_,_,rfl,Xw _,by omega,?_⟩;rcases Yu hp0 with ⟨i1,b1⟩ | ⟨i1,b1⟩
 ·rw[(wv i1).1,(wv i1).2,wI]
  rcases Yu hs0 with ⟨i2,b2⟩ | ⟨i2,b2⟩
  ·rw[(wv i2).1,(wv i2).2,wI]
   rcases Yu (v:=u*(p+ws)) (by omega) with ⟨i3,b3⟩ | ⟨i3,b3⟩
   ·rw[(wv i3).1,(wv i3).2]
    exact .inr ⟨rfl,rfl,b3⟩
   ·rw[Yg i3]
    exact .inl ⟨by simp,by omega⟩
  ·rw[Yg i2]
   exact .inl ⟨by simp,by omega⟩
 ·rw[Yg i1]
  exact .inl ⟨by simp,by omega⟩
def Zz (l:List Int):Int:=l.sum
def ur (u:Int) (D:List xd.T) (n:zr.T) (vs:List Int):Int :=
 bif nK n==1 then nN n else bif nK n==2 then nN n*u else bif nK n==3 then 1099511627776
 else bif nK n==4 then ZK 1099511627776 (dS (D.getD (nN n).toNat (ByteArray.empty,0)))
 else bif nK n==8 then vs.getD 0 0*vs.getD 1 0
 else bif nK n==13||nK n==14 then tA u (vs.getD 0 0) (nT n)
 else bif nK n==15 then vs.getD 0 0
 else bif nK n==11||(nK n==12||nK n==16) then Zz vs+nN n
 else Zz vs
def qV (n:zr.T) (v:Int):Int:=bif nK n==15 then v*10000 else v
def mag (u:Int) (D:List xd.T):Tree->Int:=Tree.fold (ur u D)
theorem mag_nd (u:Int) (D:List xd.T) (n:zr.T) (ks:List Tree):mag u D (.nd n ks)=ur u D n (ks.map (mag u D)):=Tree.fold_nd _ n ks
def magE (u:Int) (D:List xd.T) (t:Tree):Int:=bif decide (qV t.root (mag u D t)>BND) then 90 else 0
theorem WE:∀(l pre:List xd.T),dE pre l=0->∀d∈l,1<=dS d/\dS d<=1000000000000
 | [],pre,h,d,hd=>by simp at hd
 | x::r,pre,h,d,hd=>by
  simp only[dE] at h;cases h1:Yp x.1.data.toList with
  | false=>rw[h1] at h; exact absurd (show (61:Int)=0 from h) (by decide)
  | true =>
  rw[h1] at h;cases h2:pre.any (fun e=>qJ e.1 x.1) with
  | true=>rw[h2] at h; exact absurd (show (61:Int)=0 from h) (by decide)
  | false =>
  rw[h2] at h;cases h3:decide (dS x<1) with
  | true=>rw[h3] at h; exact absurd (show (50:Int)=0 from h) (by decide)
  | false =>
  rw[h3] at h;cases h4:decide (dS x>1000000000000) with
  | true=>rw[h4] at h; exact absurd (show (50:Int)=0 from h) (by decide)
  | false =>
  rw[h4] at h;have h3:=of_decide_eq_false h3;have h4:=of_decide_eq_false h4;rcases List.mem_cons.1 hd with rfl | hd
  ·exact ⟨by omega,by omega⟩
  ·exact WE r _ h d hd
theorem SQ:∀(l:List Int),TZ (l.map mk)=Zz l
 | []=>rfl
 | x::r=>by
  have:=SQ r;simp only[TZ,Zz,List.map_cons,List.sum_cons,wI] at*;rw[this]
theorem VQ {b:Int}:∀(l:List Int),(∀v∈l,0<=v/\v<=b)->0<=Zz l/\Zz l<=l.length*b
 | [],h=>by simp[Zz]
 | x::r,h=>by
  have ih:=VQ r (fun v hv=>h v (by simp[hv]));have hx:=h x (by simp);simp only[Zz,List.sum_cons,List.length_cons] at*;push_cast;rw[Int.add_mul];omega
theorem Yw {b:Int} {l:List Int} (h:∀v∈l,0<=v/\v<=b) {i:Nat} (hi:i<l.length):0<=l.getD i 0/\l.getD i 0<=b:=by
 rw[List.getD_eq_getElem?_getD,List.getElem?_eq_getElem hi];exact h _ (List.getElem_mem _)
theorem Yv {l:List Int} {i:Nat} (hi:i<l.length):get zf (l.map mk) i=mk (l.getD i 0):=by
 unfold get;rw[List.getD_eq_getElem?_getD,List.getD_eq_getElem?_getD,List.getElem?_map,List.getElem?_eq_getElem hi];rfl
theorem zak {s:Int} (h1:1<=s):0<=ZK 1099511627776 s/\ZK 1099511627776 s<=1099511627777:=by
 have hq1:0<=1099511627776/s:=Int.ediv_nonneg (by omega) (by omega);have hq2:1099511627776/s<=1099511627776:=Int.ediv_le_self _ (by omega);unfold ZK;split<;>omega
def NodeR (u:Int) (D:List xd.T) (n:zr.T) (vs:List Int) (r:Option zy.sg.R):Prop :=
 ∃w o,r=some ((w,()),((mk u,o),()))/\wfW w/\0<=ur u D n vs/\((o=true/\BND<qV n (ur u D n vs))\/(o=false/\w=mk (ur u D n vs)/\qV n (ur u D n vs)<170141183460469231731687303715884105728))
theorem NodeR.of {u:Int} {D:List xd.T} {n:zr.T} {vs:List Int} {v:Int} (hm:ur u D n vs=v) (hf:(nK n==15)=false) (h0:0<=v) {r:Option zy.sg.R} (o:Bool)
  (hr:r=some ((vz v,()),((mk u,o||vG v != 0),()))) (ho:o=false):NodeR u D n vs r:=by
 subst ho;refine ⟨_,_,hr,Xw _,by rw[hm]; exact h0,?_⟩;have hBND:BND=1329227995784915872903807060280344576:=rfl;unfold qV;rw[hm,hf];simp only[cond_false,Bool.false_or];rcases Yu h0 with ⟨i,b⟩ | ⟨i,b⟩
 ·rw[(wv i).1,(wv i).2]; exact .inr ⟨rfl,rfl,b⟩
 ·rw[Yg i]; exact .inl ⟨rfl,by omega⟩
theorem Zf:BND=1329227995784915872903807060280344576:=rfl
theorem j18_eq (F:Nat) (hF:64<F) {u:Int} {n:zr.T} {vs:List Int} (hv:∀v∈vs,0<=v/\v<=BND) (hl:vs.length<=16) (hN:0<=nN n) (hN2:nN n<=1000000000000) :
  zy.j18 F (fun m r=>(some ((r,()),(m,())):Option zy.sg.R)) (vs.map mk) (mk u,false) n (0,0) =
   some ((mk (bif nK n==11||(nK n==12||nK n==16) then Zz vs+nN n else Zz vs),()),((mk u,false),())):=by
 have hs:=VQ vs hv;have hsb:Zz vs<=21267647932558653966460912964485513216:=by
  have:(vs.length:Int)*BND<=16*BND:=Int.mul_le_mul_of_nonneg_right (by omega) (by rw[Zf]; omega);rw[Zf] at this hs;omega
 have i1:inR (Zz vs)=true:=by rw[y7]; omega
 have i2:inR (Zz vs+nN n)=true:=by rw[y7]; omega
 unfold zy.j18;rw[wsum_eq F (by
  intro x hx;obtain ⟨v,hv',rfl⟩:=List.mem_map.1 hx;have:=hv v hv';rw[Zf] at this;exact wz (by rw[y7]; omega)) (by simp; omega) (by simp; omega)]
 simp only[zD,SQ];rw[XB,(wv i1).1,(wv i1).2];simp only[zD];rw[uS F (v:=nN n) (by omega) (by omega)];simp only[zD,Bool.or_false];rw[Xz F _ _ (wz i1) (wz (by rw[y7]; omega))];simp only[zD,wI];rw[(wv i2).1,(wv i2).2];cases (nK n==11)<;>cases (nK n==12)<;>cases (nK n==16)<;>rfl
theorem S2 {n:zr.T} {dims:Nat} (hd:dims<=4) (h:nN n<=X5 n dims) (hg:ub n=true):nN n<=1000000000000:=by
 rcases tu hg with h' | h' | h' | h' | h' | h' | h' | h' | h' | h' | h' | h' | h' | h' | h' | h'<;>rw[qg h'] at h
 ·exact h
 ·exact h
 ·have h:nN n<=(dims:Int)-1:=h; omega
 ·have h:nN n<=(dims:Int)-1:=h; omega
 ·have h:nN n<=0:=h; omega
 ·have h:nN n<=0:=h; omega
 ·have h:nN n<=0:=h; omega
 ·have h:nN n<=0:=h; omega
 ·have h:nN n<=0:=h; omega
 ·have h:nN n<=0:=h; omega
 ·exact h
 ·exact h
 ·have h:nN n<=0:=h; omega
 ·have h:nN n<=0:=h; omega
 ·have h:nN n<=10000:=h; omega
 ·exact h
theorem uq (F:Nat) (hF:64<F) {u:Int} (p:zI.T) {n:zr.T} {vs:List Int} {D:List xd.T} (hv:∀v∈vs,0<=v/\v<=BND) (hl:vs.length<=16) (hN:0<=nN n) (hN2:nN n<=1000000000000) {k:Int} (h:nK n=k)
  (hk:k=5\/k=6\/k=7\/k=9\/k=10\/k=11\/k=12\/k=16):NodeR u D n vs (zy.sh F (mk u,false) p n (vs.map mk)):=by
 have hj:=j18_eq F hF (u:=u) (n:=n) hv hl hN hN2;have hs:=VQ vs hv;have hsb:Zz vs<=21267647932558653966460912964485513216:=by
  have:(vs.length:Int)*BND<=16*BND:=Int.mul_le_mul_of_nonneg_right (by omega) (by rw[Zf]; omega);rw[Zf] at this hs;omega
 have hm:ur u D n vs=bif nK n==11||(nK n==12||nK n==16) then Zz vs+nN n else Zz vs:=by
  unfold ur;rw[h];rcases hk with rfl | rfl | rfl | rfl | rfl | rfl | rfl | rfl<;>rfl
 have he:zy.sh F (mk u,false) p n (vs.map mk)=zy.j18 F (fun m r=>(some ((r,()),(m,())):Option zy.sg.R)) (vs.map mk) (mk u,false) n (0,0):=by
  unfold zy.sh;have h':n.1=k:=h;rw[h'];rcases hk with rfl | rfl | rfl | rfl | rfl | rfl | rfl | rfl<;>rfl
 have hf:(nK n==15)=false:=by rw[h]; rcases hk with rfl | rfl | rfl | rfl | rfl | rfl | rfl | rfl<;>rfl
 rw[he,hj];have hb:0<=ur u D n vs/\ur u D n vs<170141183460469231731687303715884105728:=by
  rw[hm];cases (nK n==11||(nK n==12||nK n==16))<;>simp only[cond_true,cond_false]<;>omega
 rw[<-hm];refine ⟨_,_,rfl,wz (by rw[y7]; omega),hb.1,.inr ⟨rfl,rfl,?_⟩⟩;unfold qV;rw[hf];exact hb.2
theorem QV (F:Nat) (hF:64<F) {u:Int} (hu:1<=u) (hu2:u<=1000000000000000000000000) {p:zI.T} (hD:dE [] p.2.1=0) (hd4:p.2.1.length<=4) {n:zr.T} {pile:Nat} (hn:vp p.2.1.length n pile=0)
  {vs:List Int} (hl:vs.length=ar n) (hv:∀v∈vs,0<=v/\v<=BND):NodeR u p.2.1 n vs (zy.sh F (mk u,false) p n (vs.map mk)):=by
 obtain ⟨g1,g2,g3,g4,g5,g6,g7,g8⟩:=wb hn;have ha:=RI g1 g4;have hN2:=S2 hd4 g3 g1;have iu:inR u=true:=by rw[y7]; omega
 have iN:inR (nN n)=true:=by rw[y7]; omega
 rcases tu g1 with h | h | h | h | h | h | h | h | h | h | h | h | h | h | h | h
 ·refine NodeR.of (v:=nN n) (by unfold ur; rw[h]; rfl) (by rw[h]; rfl) g2 false ?_ rfl
  unfold zy.sh;have h':n.1=1:=h;rw[h',uS F (v:=nN n) (by omega) (by omega),(wv iN).1,(wv iN).2];rfl
 ·refine NodeR.of (v:=nN n*u) (by unfold ur; rw[h]; rfl) (by rw[h]; rfl) (Int.mul_nonneg g2 (by omega)) false ?_ rfl
  unfold zy.sh;have h':n.1=2:=h;rw[h',uS F (v:=nN n) (by omega) (by omega)];have e:=Zm F (mk u) false (wz iN) (wz iu);rw[wI,wI] at e;exact (congrArg (fun x=>oB x fun c_3=>(some ((c_3.1.1,()),(c_3.2.1,())):Option zy.sg.R)) e).trans rfl
 ·refine NodeR.of (v:=1099511627776) (by unfold ur; rw[h]; rfl) (by rw[h]; rfl) (by decide) false ?_ rfl
  unfold zy.sh;have h':n.1=3:=h;rw[h',uS F (v:=1099511627776) (by omega) (by omega)];rfl
 ·have hNd:nN n<=(p.2.1.length:Int)-1:=by have:=g3; rw[qg h] at this; exact this
  have hi:(nN n).toNat<p.2.1.length:=by omega
  have hsz:1<=dS (p.2.1.getD (nN n).toNat (ByteArray.empty,0))/\dS (p.2.1.getD (nN n).toNat (ByteArray.empty,0))<=1000000000000:=by
   rw[List.getD_eq_getElem?_getD,List.getElem?_eq_getElem hi];exact WE p.2.1 [] hD _ (List.getElem_mem _)
  have hc:=zak hsz.1;have ic:inR (ZK 1099511627776 (dS (p.2.1.getD (nN n).toNat (ByteArray.empty,0))))=true:=by rw[y7]; omega
  refine NodeR.of (v:=ZK 1099511627776 (dS (p.2.1.getD (nN n).toNat (ByteArray.empty,0)))) (by unfold ur; rw[h]; rfl) (by rw[h]; rfl) hc.1 false ?_ rfl;unfold zy.sh;have h':n.1=4:=h;have hid:idx (nN n) p.2.1.length=true:=Wi (by omega) (by omega);have hof:=uS F (v:=dS (p.2.1.getD (nN n).toNat (ByteArray.empty,0))) (by omega) (by omega);have e:=za9 F hsz.1 hsz.2;have e2:=XB F (mk u) false (mk (ZK 1099511627776 (dS (p.2.1.getD (nN n).toNat (ByteArray.empty,0))))) 0;rw[h',uS F (v:=1099511627776) (by omega) (by omega),show idx n.2.1 p.2.1.length=true from hid,show yy.sh F (get xd p.2.1 n.2.1.toNat).2=_ from hof];rw[(wv ic).1,(wv ic).2];show (oB (xw.sh F (mk 1099511627776) (mk _) 1) fun c_7=>oB (zY.sh F (mk u,false) c_7.1.1 c_7.1.2.1) fun c_8=>some ((c_8.1.1,()),(c_8.2.1,())))=_;rw[e];simp only[zD];rw[e2];rfl
 ·exact uq F hF p hv (by omega) g2 hN2 h (by decide)
 ·exact uq F hF p hv (by omega) g2 hN2 h (by decide)
 ·exact uq F hF p hv (by omega) g2 hN2 h (by decide)
 ·have ea:ar n=2:=by rw[x8 h]; rfl
  have b0:=Yw hv (i:=0) (by omega);have b1:=Yw hv (i:=1) (by omega);rw[Zf] at b0 b1;refine NodeR.of (v:=vs.getD 0 0*vs.getD 1 0) (by unfold ur; rw[h]; rfl) (by rw[h]; rfl) (Int.mul_nonneg b0.1 b1.1) false ?_ rfl;unfold zy.sh;have h':n.1=8:=h;have e:=Zm F (mk u) false (wz (v:=vs.getD 0 0) (by rw[y7]; omega)) (wz (v:=vs.getD 1 0) (by rw[y7]; omega));rw[wI,wI] at e;rw[h',Wj (n:=(vs.map mk).length) (by simp; omega),idx1 (n:=(vs.map mk).length) (by simp; omega),Yv (i:=0) (by omega),Yv (i:=1) (by omega)];exact (congrArg (fun x=>oB x fun c_3=>(some ((c_3.1.1,()),(c_3.2.1,())):Option zy.sg.R)) e).trans rfl
 ·exact uq F hF p hv (by omega) g2 hN2 h (by decide)
 ·exact uq F hF p hv (by omega) g2 hN2 h (by decide)
 ·exact uq F hF p hv (by omega) g2 hN2 h (by decide)
 ·exact uq F hF p hv (by omega) g2 hN2 h (by decide)
 ·have ea:ar n=1:=by rw[x8 h]; rfl
  have b0:=Yw hv (i:=0) (by omega);have ht:uo n=true:=by unfold uo qD; rw[h]; rfl
  obtain ⟨w,o,q1,q2,q3,q4⟩:=US F hF hu hu2 b0.1 b0.2 (g8 ht);have hm:ur u p.2.1 n vs=tA u (vs.getD 0 0) (nT n):=by unfold ur; rw[h]; rfl
  have hf:qV n (ur u p.2.1 n vs)=tA u (vs.getD 0 0) (nT n):=by unfold qV; rw[h,hm]; rfl
  refine ⟨w,o,?_,q2,by rw[hm]; exact q3,by rw[hf,hm]; exact q4⟩;unfold zy.sh;have h':n.1=13:=h;rw[h',Wj (n:=(vs.map mk).length) (by simp; omega),Yv (i:=0) (by omega)];exact (congrArg (fun x=>oB x fun c_3=>(some ((c_3.1.1,()),(c_3.2.1,())):Option zy.sg.R)) q1).trans rfl
 ·have ea:ar n=1:=by rw[x8 h]; rfl
  have b0:=Yw hv (i:=0) (by omega);have ht:uo n=true:=by unfold uo qD; rw[h]; rfl
  obtain ⟨w,o,q1,q2,q3,q4⟩:=US F hF hu hu2 b0.1 b0.2 (g8 ht);have hm:ur u p.2.1 n vs=tA u (vs.getD 0 0) (nT n):=by unfold ur; rw[h]; rfl
  have hf:qV n (ur u p.2.1 n vs)=tA u (vs.getD 0 0) (nT n):=by unfold qV; rw[h,hm]; rfl
  refine ⟨w,o,?_,q2,by rw[hm]; exact q3,by rw[hf,hm]; exact q4⟩;unfold zy.sh;have h':n.1=14:=h;rw[h',Wj (n:=(vs.map mk).length) (by simp; omega),Yv (i:=0) (by omega)];exact (congrArg (fun x=>oB x fun c_3=>(some ((c_3.1.1,()),(c_3.2.1,())):Option zy.sg.R)) q1).trans rfl
 ·have ea:ar n=1:=by rw[x8 h]; rfl
  have b0:=Yw hv (i:=0) (by omega);rw[Zf] at b0;have hm:ur u p.2.1 n vs=vs.getD 0 0:=by unfold ur; rw[h]; rfl
  have hf:qV n (ur u p.2.1 n vs)=vs.getD 0 0*10000:=by unfold qV; rw[h,hm]; rfl
  have h':n.1=15:=h;have e:=Zm F (mk u) false (wz (v:=vs.getD 0 0) (by rw[y7]; omega)) (wz (v:=10000) (by rw[y7]; omega));rw[wI,wI] at e;refine ⟨mk (vs.getD 0 0),vG (vs.getD 0 0*10000) != 0,?_,wz (by rw[y7]; omega),by rw[hm]; exact b0.1,?_⟩
  ·unfold zy.sh
   rw[h',Wj (n:=(vs.map mk).length) (by simp; omega),Yv (i:=0) (by omega),uS F (v:=10000) (by omega) (by omega)];exact (congrArg (fun x=>oB x fun c_3=>(some ((mk (vs.getD 0 0),()),(c_3.2.1,())):Option zy.sg.R)) e).trans rfl
  ·rw[hf,hm]
   rcases Yu (v:=vs.getD 0 0*10000) (by omega) with ⟨i,b⟩ | ⟨i,b⟩
   ·rw[(wv i).2]; exact .inr ⟨rfl,rfl,b⟩
   ·rw[Yg i]; exact .inl ⟨rfl,by rw[Zf]; omega⟩
 ·exact uq F hF p hv (by omega) g2 hN2 h (by decide)
theorem zaB (F:Nat) {n:zr.T} {v:Int} (h0:0<=v) (h:qV n v<170141183460469231731687303715884105728):y9.sh F n (mk v)=some ((decide (qV n v>BND),()),()):=by
 have hB:val (72057594037927936,0)=BND:=rfl;have wB:wfW (72057594037927936,0):=by simp[wfW]
 have hc:∀x:Int,decide (UA x BND>0)=decide (x>BND):=by
  intro x;unfold UA;rcases Int.lt_trichotomy x BND with h | h | h
  ·rw[if_pos h,decide_eq_false (by omega),decide_eq_false (by omega)]
  ·rw[if_neg (by omega),if_pos h,decide_eq_false (by omega),decide_eq_false (by omega)]
  ·rw[if_neg (by omega),if_neg (by omega),decide_eq_true (by omega),decide_eq_true (by omega)]
 unfold y9.sh qV at*;cases h15:(nK n==15) with
 | true =>
  rw[h15] at h;simp only[cond_true] at h ⊢;have iv:inR v=true:=by rw[y7]; omega
  have i2:inR (v*10000)=true:=by rw[y7]; omega
  rw[uS F (v:=10000) (by omega) (by omega)];simp only[zD];rw[VM F (wz iv) (wz (v:=10000) (by rw[y7]; omega))];simp only[zD,wI];rw[(wv i2).1,zae F (wz i2) wB];simp only[zD,wI,hB,hc]
 | false =>
  rw[h15] at h;simp only[cond_false] at h ⊢;have iv:inR v=true:=by rw[y7]; omega
  rw[zae F (wz iv) wB];simp only[zD,wI,hB,hc]
theorem Qm (F:Nat) {n:zr.T} (hg:ub n=true) (hk:ua n=true):zQ.sh F n=some (((ar n:Int),()),()):=by
 have h9:∀k:Int,(nK n=k)->(k=9\/k=10)->(ar n:Int)=nC n:=by
  intro k h hkk;rw[Ys h] at hk;have hk:(decide (nC n>=2)&&decide (nC n<=16))=true:=by rcases hkk with rfl | rfl<;>exact hk
  simp at hk;have:ar n=(nC n).toNat:=by rw[x8 h]; rcases hkk with rfl | rfl<;>rfl
  omega
 unfold zQ.sh;rcases tu hg with h | h | h | h | h | h | h | h | h | h | h | h | h | h | h | h<;>rw[show n.1=_ from h]
 ·rw[x8 h]; rfl
 ·rw[x8 h]; rfl
 ·rw[x8 h]; rfl
 ·rw[x8 h]; rfl
 ·rw[x8 h]; rfl
 ·rw[x8 h]; rfl
 ·rw[x8 h]; rfl
 ·rw[x8 h]; rfl
 ·rw[h9 9 h (.inl rfl)]; rfl
 ·rw[h9 10 h (.inr rfl)]; rfl
 ·rw[x8 h]; rfl
 ·rw[x8 h]; rfl
 ·rw[x8 h]; rfl
 ·rw[x8 h]; rfl
 ·rw[x8 h]; rfl
 ·rw[x8 h]; rfl
theorem Tf (F:Nat) (hF:64<F) {R:Type} {u:Int} (hu:1<=u) (hu2:u<=1000000000000000000000000) {p:zI.T} (hD:dE [] p.2.1=0) (hd4:p.2.1.length<=4) (kE:List zf.T->Int->Option R) (kO:List zf.T->Option R) (L:List zr.T) (N:Int):∀(xs:List zr.T) (st:List Tree) (i:Nat) (mags:List zf.T),
  okS p.2.1.length st xs->(yt st).length+xs.length<=2048->mags.length<=(yt st).length->(∀t∈st,0<=mag u p.2.1 t/\mag u p.2.1 t<=BND)->
  zk.l4.rg F kE (fun _ _ _ _ _ _ mags _=>kO mags) L N xs (i:Int) p (mk u,false) mags (st.map fun t=>mk (mag u p.2.1 t)) =
   match uZ (magE u p.2.1) (news st xs) i with
   | some (j,e)=>kE [] (j:Int)
   | none=>kO (mags++(news st xs).map fun t=>mk (mag u p.2.1 t)):=by
 intro xs;induction xs with
 | nil=>intro st i mags h h2 h3 h4; simp[zk.l4.rg,news,uZ]
 | cons n xs ih =>
  intro st i mags h h2 h3 h4;obtain ⟨g1,g2,g3,g4,g5,g6,g7,g8⟩:=wb h.1;have hst:=uf st;have hfs:=congrArg List.length (vt st n);simp only[List.length_cons,List.length_append,List.length_nil] at h2 hfs;have hdr:∀t∈st.drop (st.length-ar n),0<=mag u p.2.1 t/\mag u p.2.1 t<=BND:=fun t ht=>h4 t (List.mem_of_mem_drop ht)
  have hmm:mag u p.2.1 (wC st n)=ur u p.2.1 n ((st.drop (st.length-ar n)).map (mag u p.2.1)):=by unfold wC; rw[mag_nd]
  have hnode:=QV F hF hu hu2 hD hd4 h.1 (vs:=(st.drop (st.length-ar n)).map (mag u p.2.1)) (by simp; omega) (by
   intro v hv;obtain ⟨t,ht,rfl⟩:=List.mem_map.1 hv;exact hdr t ht)
  obtain ⟨w,o,q1,q2,q3,q4⟩:=hnode;rw[<-hmm] at q3 q4;have hl:(st.map fun t=>mk (mag u p.2.1 t)).length=st.length:=by simp
  have hE:magE u p.2.1 (wC st n)=bif decide (qV n (mag u p.2.1 (wC st n))>BND) then 90 else 0:=rfl
  have hdm:(st.map fun t=>mk (mag u p.2.1 t)).drop (st.length-ar n)=((st.drop (st.length-ar n)).map (mag u p.2.1)).map mk:=by
   rw[<-List.map_drop,List.map_map]; rfl
  have ew:=Z4 g7 (by omega);have hb1:=tV (show st.length-ar n<=st.length by omega);have hb2:=tW (show st.length-ar n<=st.length by omega);have htk:(st.map fun t=>mk (mag u p.2.1 t)).take st.length=st.map fun t=>mk (mag u p.2.1 t):=List.take_of_length_le (by omega)
  have hbl1:∀y,Nat.ble (mags.length+([y]:List zf.T).length) xp=true:=fun y=>wU (by simp; omega)
  have hbl2:∀y,Nat.ble (st.length-ar n+([y]:List zf.T).length) xp=true:=fun y=>wU (by simp; omega)
  simp only[zk.l4.rg];rw[Qm F g1 g4];simp only[zD,hl,ew,hb1,hb2,htk,cond_true,hdm];rw[q1];simp only[zD,news,uZ,hE];rcases q4 with ⟨rfl,hbig⟩ | ⟨rfl,rfl,hsm⟩
  ·rw[decide_eq_true hbig]
   rfl
  ·rw[zaB F q3 hsm]
   simp only[zD,cond_false];cases hfar:decide (qV n (mag u p.2.1 (wC st n))>BND) with
   | true=>rfl
   | false =>
    have hfar:=of_decide_eq_false hfar;have hle:mag u p.2.1 (wC st n)<=BND:=by
     unfold qV at hfar;cases h15:(nK n==15) with
     | true=>rw[h15] at hfar; simp only[cond_true] at hfar; omega
     | false=>rw[h15] at hfar; simp only[cond_false] at hfar; omega
    have hstep:(wA st n).map (fun t=>mk (mag u p.2.1 t))=(st.map fun t=>mk (mag u p.2.1 t)).take (st.length-ar n)++[mk (mag u p.2.1 (wC st n))]:=by
     unfold wA; simp[List.map_take]
    have IH:=ih (wA st n) (i+1) (mags++[mk (mag u p.2.1 (wC st n))]) h.2 (by omega) (by simp; omega) (by
     intro t ht;rcases List.mem_append.1 ht with ht | ht
     ·exact h4 t (List.mem_of_mem_take ht)
     ·rw[List.mem_singleton.1 ht]; exact ⟨q3,hle⟩)
    rw[hstep,y4] at IH;simp only[hbl1,hbl2,cond_true,cond_false];refine IH.trans ?_;simp only[List.append_assoc,List.singleton_append,List.map_cons];rfl
def ZG (u:Int) (D:List xd.T) (t:Tree):List zf.T×Int :=
 match uZ (magE u D) t.subs 0 with
 | some (j,e)=>([],(j:Int))
 | none=>(t.subs.map fun t=>mk (mag u D t),-1)
theorem Xf (F:Nat) (hF:4096<F) {u:Int} (hu:1<=u) (hu2:u<=1000000000000000000000000) {p:zI.T} {t:Tree} (h:Good p t):zk.sh F p (mk u)=some (((ZG u p.2.1 t).1,(ZG u p.2.1 t).2,()),()):=by
 unfold zk.sh;have hl:=h.len;have hh:=ug h.head;refine Eq.trans (zk.l4.rg_eq F _ _ p.2.2.2 _ rfl (by omega) p.2.2.2 0 F _ _ _ _ (by simp) (by omega)) ?_;refine (Tf F (by omega) hu hu2 hh.2.2.1 hh.2.1 (fun r44 r54=>(some ((r44,r54,()),()):Option zk.sg.R)) (fun mags=>zk.j13 F (fun r46 r56=>some ((r46,r56,()),())) mags) p.2.2.2 _ p.2.2.2 [] 0 [] h.ok (by simp[yt]; omega) (by simp) (by simp)).trans ?_;rw[h.subs];unfold ZG;cases uZ (magE u p.2.1) t.subs 0 with
 | some x=>rfl
 | none=>rfl
def un (t:Tree):Int:=10000^(vg t).toNat
theorem XM {t:Tree} (h:vg t<=6):1<=un t/\un t<=1000000000000000000000000:=by
 have:=(XH t).1;unfold un;have:(vg t).toNat=0\/(vg t).toNat=1\/(vg t).toNat=2\/(vg t).toNat=3\/(vg t).toNat=4\/(vg t).toNat=5\/(vg t).toNat=6:=by omega
 rcases this with h | h | h | h | h | h | h<;>rw[h]<;>decide
def wG (D:List xd.T) (t:Tree):zf.T×Int×Int :=
 bif (uO t).2.2 != 0 then ((0,0),(uO t).2.1,(uO t).2.2)
 else bif decide (vg t>6) then ((0,0),(t.size:Int)-1,90)
 else bif decide ((ZG (un t) D t).2>=0) then ((0,0),(ZG (un t) D t).2,90)
 else (mk (un t),0,0)
def Xg (D:List xd.T) (t:Tree):List zf.T×Int×Int :=
 bif (wG D t).2.2 != 0 then ([],(wG D t).2.1,(wG D t).2.2)
 else ((ZG (un t) D t).1,0,0)
theorem WQ:4096<FU:=by decide
theorem RJ {p:zI.T} {t:Tree} (h:Good p t):yV.sh FU p=some (((wG p.2.1 t).1,(wG p.2.1 t).2.1,(wG p.2.1 t).2.2,()),()):=by
 have hl:=h.len;have hs:t.size=p.2.2.2.length:=by rw[Tree.size,h.flat]
 have hp:=vU t;unfold yV.sh wG;rw[zaC FU WQ h];simp only[zD];cases h1:((uO t).2.2 != 0) with
 | true=>rfl
 | false =>
  simp only[cond_false];rw[WN FU WQ h];simp only[zD];rw[<-hs,yT (n:=(t.size:Int)-1) (by omega) (by omega)];cases h2:decide (vg t>6) with
  | true=>rfl
  | false =>
   have h2:=of_decide_eq_false h2;have hd:=(XH t).1;have hu:=XM (t:=t) (by omega);simp only[cond_false];rw[QL hd (by omega)];simp only[zD];have:=Xf FU WQ hu.1 hu.2 h;unfold un at*;rw[this];simp only[zD];cases decide ((ZG (10000^(vg t).toNat) p.2.1 t).2>=0)<;>rfl
theorem TW {p:zI.T} (h:(xO p).2≠0):yV.sh FU p=some (((0,0),(xO p).1,(xO p).2,()),()):=by
 unfold yV.sh;rw[Qp FU WQ h];simp only[zD];rw[show ((xO p).2 != 0)=true by simpa using h];rfl
theorem XN {D:List xd.T} {t:Tree} (h:(wG D t).2.2=0):(uO t).2.2=0/\vg t<=6/\(ZG (un t) D t).2<0/\wG D t=(mk (un t),0,0):=by
 unfold wG at*;cases h1:((uO t).2.2 != 0) with
 | true =>
  rw[h1] at h;have h:(uO t).2.2=0:=h;rw[h] at h1;exact absurd h1 (by decide)
 | false =>
  rw[h1] at h;cases h2:decide (vg t>6) with
  | true=>rw[h2] at h; exact absurd (show (90:Int)=0 from h) (by decide)
  | false =>
   rw[h2] at h;cases h3:decide ((ZG (un t) D t).2>=0) with
   | true=>rw[h3] at h; exact absurd (show (90:Int)=0 from h) (by decide)
   | false =>
    have h2:=of_decide_eq_false h2;have h3:=of_decide_eq_false h3;exact ⟨by simpa using h1,by omega,by omega,rfl⟩
def ZQ {α:Type} (p:α->Bool):List α->Nat->Option Nat
 | [],_=>none
 | x::r,i=>bif p x then some i else ZQ p r (i+1)
theorem YQ {α:Type} {p:α->Bool}:∀{l:List α} {i j:Nat},ZQ p l i=some j->i<=j/\j<i+l.length/\∃x,l[j-i]?=some x/\p x=true
 | [],_,_,h=>by cases h
 | x::r,i,j,h=>by
  unfold ZQ at h;cases hp:p x with
  | true =>
   rw[hp] at h;cases h
   exact ⟨Nat.le_refl _,by simp,x,by simp,hp⟩
  | false =>
   rw[hp] at h;obtain ⟨h1,h2,y,h3,h4⟩:=YQ (l:=r) h;refine ⟨by omega,by simp only[List.length_cons]; omega,y,?_,h4⟩;rw[show j-i=(j-(i+1))+1 by omega];simpa using h3
def Xr (o:Option Nat):Int:=match o with
 | some j=>(j:Int)
 | none=>-1
def eqW (v x:zf.T):Bool:=(v.1==x.1)&&((v.2==x.2)&&true)
theorem Vp (F:Nat) {R:Type} (k:Int->Option R) (k1:Option R) (L:List zf.T) (N:Int) (v:zf.T):∀(xs:List zf.T) (i:Nat),
  zq.l2.rg F k (fun _ _ _ _ _=>k1) L N xs (i:Int) v=match ZQ (eqW v) xs i with
   | some j=>k (j:Int)
   | none=>k1
 | [],i=>rfl
 | x::xs,i=>by
  have ih:=Vp F k k1 L N v xs (i+1);rw[y4] at ih;unfold zq.l2.rg ZQ;show (bif eqW v x then _ else _)=_;cases eqW v x with
  | true=>rfl
  | false=>exact ih
theorem R2 (F:Nat) (l:List zf.T) (v:zf.T) (hF:l.length<F) (hL:l.length<4611686018427387904):zq.sh F l v=some ((Xr (ZQ (eqW v) l 0),()),()):=by
 have e:=zq.l2.rg_eq F (fun r41=>(some ((r41,()),()):Option zq.sg.R)) (fun s2 t72 t82 t92 v2=>some (((-1),()),())) l (l.length:Int) rfl (by omega) l 0 F v rfl hF;unfold zq.sh;refine e.trans ((Vp F _ _ l _ v l 0).trans ?_);cases ZQ (eqW v) l 0<;>rfl
theorem Vx (F:Nat) {R:Type} (k0:Bool->Option R) (k1:Option R) (L:List zo.T) (N:Int) (s2:List zo.T):∀(xs ys:List zo.T) (i:Nat),s2.drop i=ys->xs.length=ys.length->
  zu.l4.rg F k0 (fun _ _ _ _ _=>k1) L N xs (i:Int) s2=bif decide (xs=ys) then k1 else k0 false
 | [],[],i,h,hl=>rfl
 | [],_::_,i,h,hl=>by simp at hl
 | _::_,[],i,h,hl=>by simp at hl
 | x::xs,y::ys,i,h,hl=>by
  have ih:=Vx F k0 k1 L N s2 xs ys (i+1) (xm h) (by simpa using hl);rw[y4] at ih;unfold zu.l4.rg;rw[yZ (xT h),xY (t:=zo) h,cond_true];obtain ⟨a,b⟩:=x;obtain ⟨c,d⟩:=y;cases hb:((a==c)&&((b==d)&&true)) with
  | true =>
   simp only[hb,Bool.not_true,cond_false];rw[ih];simp only[Bool.and_eq_true,Bool.and_true,beq_iff_eq] at hb;obtain ⟨rfl,rfl⟩:=hb;simp only[List.cons.injEq,true_and]
  | false =>
   simp only[hb,Bool.not_false,cond_true];rw[decide_eq_false,cond_false];intro e;rw[List.cons.injEq,Prod.mk.injEq] at e;obtain ⟨⟨rfl,rfl⟩,_⟩:=e;simp at hb
theorem Qb (F:Nat) (a b:List zo.T) (hF:a.length<F) (hL:a.length<4611686018427387904):zu.sh F a b=some ((decide (a=b),()),()):=by
 unfold zu.sh;cases hb:((a.length:Int) != (b.length:Int)) with
 | true =>
  rw[cond_true,decide_eq_false];intro e;subst e;simp at hb
 | false =>
  rw[cond_false];have h0:(a.length:Int)=(b.length:Int):=by simpa using hb
  have hl:a.length=b.length:=by omega
  refine (zu.l4.rg_eq F _ _ a (a.length:Int) rfl (by omega) a 0 F b rfl hF).trans ?_;refine (Vx F (fun r41=>(some ((r41,()),()):Option zu.sg.R)) (some ((true,()),())) a _ b a b 0 rfl hl).trans ?_;cases decide (a=b)<;>rfl
theorem d16T_eq (F:Nat) (l t:List zo.T) (hF:l.length<F) (hL:l.length<4611686018427387904):zg.d16 F (xV+1) (l,t,())=some ((decide (l=t),()),()):=by
 show yj.sh F l t=_;unfold yj.sh;rw[Qb F l t hF hL,zD]
theorem Vq (F:Nat) {R:Type} (k:Int->Option R) (k1:Option R) (L:List (List zo.T)) (N:Int) (t:List zo.T):∀(xs:List (List zo.T)) (i:Nat),(∀l∈xs,l.length<F/\l.length<4611686018427387904)->
  zg.l2.rg F k (fun _ _ _ _ _=>k1) L N xs (i:Int) (xV,t)=match ZQ (fun l=>decide (l=t)) xs i with
   | some j=>k (j:Int)
   | none=>k1
 | [],i,h=>rfl
 | x::xs,i,h=>by
  have ih:=Vq F k k1 L N t xs (i+1) fun l hl=>h l (by simp[hl])
  rw[y4] at ih;obtain ⟨h1,h2⟩:=h x (by simp);unfold zg.l2.rg ZQ;simp only;rw[d16T_eq F x t h1 h2,zD];cases decide (x=t) with
  | true=>rfl
  | false=>exact ih
theorem R3 (F:Nat) (S:List (List zo.T)) (t:List zo.T) (hS:∀l∈S,l.length<F/\l.length<4611686018427387904) (hF:S.length<F) (hL:S.length<4611686018427387904) :
  zg.sh F S (xV,t)=some ((Xr (ZQ (fun l=>decide (l=t)) S 0),()),()):=by
 have e:=zg.l2.rg_eq F (fun r42=>(some ((r42,()),()):Option zg.sg.R)) (fun s3 f3 t73 t83 t93=>some (((-1),()),())) S (S.length:Int) rfl (by omega) S 0 F (xV,t) rfl hF;unfold zg.sh;refine e.trans ((Vq F _ _ S _ t S 0 hS).trans ?_);cases ZQ (fun l=>decide (l=t)) S 0<;>rfl
abbrev EmM:Type:=zI.T×(List Int)×zf.T×zi.T×List Nat
abbrev EmS:Type:=List zf.T×List (List zo.T)×List zM.T
def emW (m:EmM) (s:EmS):EmM:=(m.1,m.2.1,m.2.2.1,(m.2.2.2.1.1,m.2.2.2.1.2.1,m.2.2.2.1.2.2.1,s.1,s.2.1,s.2.2),m.2.2.2.2)
def ZE (C:List zf.T) (w:zf.T):Nat×List zf.T:=match ZQ (eqW w) C 0 with
 | some j=>(j,C)
 | none=>(C.length,C++[w])
def ZA (S:List (List zo.T)) (t:List zo.T):Nat×List (List zo.T):=match ZQ (fun l=>decide (l=t)) S 0 with
 | some j=>(j,S)
 | none=>(S.length,S++[t])
theorem Rx (C:List zf.T) (w:zf.T):(ZE C w).1<(ZE C w).2.length/\(ZE C w).2.length<=C.length+1/\∃r,(ZE C w).2=C++r:=by
 unfold ZE;split
 ·rename_i j h
  obtain ⟨_,h2,_⟩:=YQ h;exact ⟨by simpa using h2,by simp,[],by simp⟩
 ·exact ⟨by simp,by simp,[w],rfl⟩
theorem VU (S:List (List zo.T)) (t:List zo.T):(ZA S t).1<(ZA S t).2.length/\(ZA S t).2.length<=S.length+1/\∃r,(ZA S t).2=S++r/\∀x∈r,x=t:=by
 unfold ZA;split
 ·rename_i j h
  obtain ⟨_,h2,_⟩:=YQ h;exact ⟨by simpa using h2,by simp,[],by simp,by simp⟩
 ·exact ⟨by simp,by simp,[t],rfl,by simp⟩
theorem TB (F:Nat) (m:EmM) (C:List zf.T) (S:List (List zo.T)) (K:List zM.T) (w:zf.T) (hF:C.length<F) (hC:C.length<=4194000) :
  zF.sh F (emW m (C,S,K)) w=some ((((ZE C w).1:Int),()),(emW m ((ZE C w).2,S,K),())):=by
 unfold zF.sh;rw[show (emW m (C,S,K)).2.2.2.1.2.2.2.1=C from rfl,R2 F C w hF (by omega),zD];unfold ZE;cases hp:ZQ (eqW w) C 0 with
 | some j =>
  show (bif decide (Xr (some j)>=0) then _ else _)=_;rw[decide_eq_true (show Xr (some j)>=0 from Int.natCast_nonneg j),cond_true]; rfl
 | none =>
  show (bif decide (Xr none>=0) then _ else _)=_;rw[decide_eq_false (show ¬Xr none>=0 by simp[Xr]),cond_false,wU (by simp; omega),cond_true,yT (by simp<;>omega) (by simp; omega)];simp only[List.length_append,List.length_cons,List.length_nil];rw[show (((C.length+(0+1):Nat):Int)-1)=(C.length:Int) by omega];rfl
theorem za3 (F:Nat) (m:EmM) (C:List zf.T) (S:List (List zo.T)) (K:List zM.T) (t:List zo.T) (hS:∀l∈S,l.length<=64) (hF:4194000<F) (hC:S.length<=4194000) (ht:t.length<=64) :
  zX.sh F (emW m (C,S,K)) t=some ((((ZA S t).1:Int),()),(emW m (C,(ZA S t).2,K),())):=by
 unfold zX.sh;rw[show (emW m (C,S,K)).2.2.2.1.2.2.2.2.1=S from rfl,R3 F S t (fun l hl=>by have:=hS l hl; omega) (by omega) (by omega),zD];unfold ZA;cases hp:ZQ (fun l=>decide (l=t)) S 0 with
 | some j =>
  show (bif decide (Xr (some j)>=0) then _ else _)=_;rw[decide_eq_true (show Xr (some j)>=0 from Int.natCast_nonneg j),cond_true]; rfl
 | none =>
  show (bif decide (Xr none>=0) then _ else _)=_;have hc:yP.sh F t=some ((t,()),()):=by
   unfold yP.sh XJ;rw[show Nat.ble t.length 1099511627776=true by rw[Nat.ble_eq]; omega]; rfl
  rw[decide_eq_false (show ¬Xr none>=0 by simp[Xr]),cond_false,hc,zD,wU (by simp; omega),cond_true,yT (by simp<;>omega) (by simp; omega)];simp only[List.length_append,List.length_cons,List.length_nil];rw[show (((S.length+(0+1):Nat):Int)-1)=(S.length:Int) by omega];rfl
theorem Uq (F:Nat) (m:EmM) (C:List zf.T) (S:List (List zo.T)) (K:List zM.T) (op arg:Int) (hK:K.length<=4194000) :
  zw.sh F (emW m (C,S,K)) op arg=some ((),(emW m (C,S,K++[(op,arg,0)]),())):=by
 unfold zw.sh;rw[show (emW m (C,S,K)).2.2.2.1.2.2.2.2.2=K from rfl,wU (by simp; omega)];rfl
def WF (dims:Nat) (t:Tree):Prop:=∀s∈t.subs,s.kids.length=ar s.root/\vp dims s.root (ar s.root)=0
theorem Vg {s:Tree} {l:List Tree}:s∈vd l↔∃k∈l,s∈k.subs:=by
 unfold vd;simp only[List.mem_flatten,List.mem_map];constructor
 ·rintro ⟨_,⟨k,hk,rfl⟩,hs⟩; exact ⟨k,hk,hs⟩
 ·rintro ⟨k,hk,hs⟩; exact ⟨_,⟨k,hk,rfl⟩,hs⟩
theorem all_nd {P:Tree->Prop} {n:zr.T} {ks:List Tree}:(∀s∈Tree.subs (.nd n ks),P s)↔P (.nd n ks)/\∀k∈ks,∀s∈k.subs,P s:=by
 rw[Zh];constructor
 ·intro h
  exact ⟨h _ (by simp),fun k hk s hs=>h s (List.mem_append_left _ (Vg.2 ⟨k,hk,hs⟩))⟩
 ·rintro ⟨h1,h2⟩ s hs
  rcases List.mem_append.1 hs with hs | hs
  ·obtain ⟨k,hk,hs⟩:=Vg.1 hs; exact h2 k hk s hs
  ·simp at hs; subst hs; exact h1
theorem v8 {dims:Nat} {n:zr.T} {ks:List Tree}:WF dims (.nd n ks)↔(ks.length=ar n/\vp dims n (ar n)=0)/\∀k∈ks,WF dims k:=all_nd
theorem XL {dims:Nat}:∀(xs:List zr.T) (st:List Tree),okS dims st xs->∀s∈news st xs,s.kids.length=ar s.root/\vp dims s.root (ar s.root)=0
 | [],st,_,s,hs=>by simp[news] at hs
 | n::r,st,h,s,hs=>by
  have ha:=(wb h.1).2.2.2.2.2.2.1;rcases List.mem_cons.1 hs with rfl | hs
  ·refine ⟨?_,?_⟩
   ·show (st.drop (st.length-ar n)).length=ar n
    rw[List.length_drop]; omega
   ·have h7:decide ((ar n:Int)<(ar n:Int))=false:=decide_eq_false (by omega)
    have h7':decide ((st.length:Int)<(ar n:Int))=false:=decide_eq_false (by omega);have h1:=h.1;show vp dims n (ar n)=0;unfold vp at h1 ⊢;rw[h7'] at h1;rw[h7];exact h1
  ·exact XL r (wA st n) h.2 s hs
theorem Good.wf {p:zI.T} {t:Tree} (h:Good p t):WF p.2.1.length t:=by
 intro s hs;rw[<-h.subs] at hs;exact XL _ _ h.ok s hs
theorem WF.len {dims:Nat} {t:Tree} (h:WF dims t):t.kids.length=ar t.root:=by
 cases t with
 | nd n ks=>exact (v8.1 h).1.1
theorem WF.node {dims:Nat} {t:Tree} (h:WF dims t):vp dims t.root (ar t.root)=0:=by
 cases t with
 | nd n ks=>exact (v8.1 h).1.2
theorem WF.good {dims:Nat} {t:Tree} (h:WF dims t):ub t.root=true/\ua t.root=true:=⟨(wb h.node).1,(wb h.node).2.2.2.1⟩
theorem WF.arK {dims:Nat} {t:Tree} (h:WF dims t) {k:Int} (hk:nK t.root=k):t.kids.length=bif decide ((get yG we k.toNat).1>=0) then (get yG we k.toNat).1.toNat else (nC t.root).toNat:=by rw[h.len,x8 hk]
theorem WF.several {dims:Nat} {t:Tree} (h:WF dims t) (hk:nK t.root=9\/nK t.root=10):2<=t.kids.length/\t.kids.length<=16/\(t.kids.length:Int)=nC t.root:=by
 have hg:=h.good;have hl:=h.len;rcases hk with hk | hk
 ·have h2:=hg.2
  rw[Ys hk] at h2;have h2:(decide (nC t.root>=2)&&decide (nC t.root<=16))=true:=h2;simp at h2;rw[x8 hk] at hl;have hl:t.kids.length=(nC t.root).toNat:=hl;omega
 ·have h2:=hg.2
  rw[Ys hk] at h2;have h2:(decide (nC t.root>=2)&&decide (nC t.root<=16))=true:=h2;simp at h2;rw[x8 hk] at hl;have hl:t.kids.length=(nC t.root).toNat:=hl;omega
def wP (s:EmS) (op arg:Int):EmS:=(s.1,s.2.1,s.2.2++[(op,arg,0)])
def wY (s:EmS) (op:Int) (w:zf.T):EmS:=((ZE s.1 w).2,s.2.1,s.2.2++[(op,((ZE s.1 w).1:Int),0)])
def XV (s:EmS) (op:Int) (t:List zo.T):EmS:=(s.1,(ZA s.2.1 t).2,s.2.2++[(op,((ZA s.2.1 t).1:Int),0)])
def tk (ks:List (EmS->EmS)) (s:EmS):EmS:=ks.foldl (fun s k=>k s) s
def RN (op:Int):List (EmS->EmS)->EmS->EmS
 | [],s=>s
 | k::r,s=>r.foldl (fun s k=>wP (k s) op 0) (k s)
def uP (K:List zM.T) (i:Nat) (v:Int):List zM.T:=K.set i ((get zM K i).1,(get zM K i).2.1,v)
def kF (ks:List (EmS->EmS)) (i:Nat):EmS->EmS:=ks.getD i id
def UJ (n:zr.T) (ks:List (EmS->EmS)) (s:EmS):EmS:=kF ks 1 (wY (kF ks 0 s) (15+nO n) (mk (nN n)))
def VP (n:zr.T) (ks:List (EmS->EmS)) (s:EmS):EmS:=kF ks 2 (wP (UJ n ks s) 15 0)
def UI (n:zr.T) (ks:List (EmS->EmS)) (s:EmS):EmS :=
 ((VP n ks s).1,(VP n ks s).2.1,uP (uP (VP n ks s).2.2 (kF ks 0 s).2.2.length (((UJ n ks s).2.2.length:Int)-((kF ks 0 s).2.2.length:Int)))
  (UJ n ks s).2.2.length (((VP n ks s).2.2.length:Int)-((UJ n ks s).2.2.length:Int)-1))
def emN (u:Int) (n:zr.T) (ks:List (EmS->EmS)) (s:EmS):EmS :=
 if nK n=1 then wY s 1 (mk (nN n))
 else if nK n=2 then wY s 1 (vz (nN n*u))
 else if nK n=3 then wP s 2 (nN n)
 else if nK n=4 then wP s 3 (nN n)
 else if nK n<=8 then wP (tk ks s) (nK n-1) 0
 else if nK n=9 then RN 8 ks s
 else if nK n=10 then RN 9 ks s
 else if nK n=11 then wY (tk ks s) 10 (mk (nN n))
 else if nK n=12 then wY (tk ks s) 11 (mk (nN n))
 else if nK n=13 then XV (tk ks s) 12 (nT n)
 else if nK n=14 then XV (tk ks s) 13 (nT n)
 else if nK n=15 then wP (tk ks s) 14 (nN n)
 else UI n ks s
def em (u:Int):Tree->EmS->EmS:=Tree.fold (emN u)
theorem Rj (u:Int) (n:zr.T) (ks:List Tree):em u (.nd n ks)=emN u n (ks.map (em u)):=Tree.fold_nd _ n ks
def TM (n:zr.T) (cs:List Nat):Nat:=if nK n=9\/nK n=10 then cs.sum+(cs.length-1) else if nK n=16 then cs.sum+2 else cs.sum+1
def cnt:Tree->Nat:=Tree.fold TM
theorem zad (n:zr.T) (ks:List Tree):cnt (.nd n ks)=TM n (ks.map cnt):=Tree.fold_nd _ n ks
theorem emN1 {u:Int} {n:zr.T} {ks:List (EmS->EmS)} {s:EmS} (h:nK n=1):emN u n ks s=wY s 1 (mk (nN n)):=by
 unfold emN;rw[if_pos (show nK n=1 by omega)]
theorem emN2 {u:Int} {n:zr.T} {ks:List (EmS->EmS)} {s:EmS} (h:nK n=2):emN u n ks s=wY s 1 (vz (nN n*u)):=by
 unfold emN;rw[if_neg (show ¬nK n=1 by omega),if_pos (show nK n=2 by omega)]
theorem emN3 {u:Int} {n:zr.T} {ks:List (EmS->EmS)} {s:EmS} (h:nK n=3):emN u n ks s=wP s 2 (nN n):=by
 unfold emN;rw[if_neg (show ¬nK n=1 by omega),if_neg (show ¬nK n=2 by omega),if_pos (show nK n=3 by omega)]
theorem emN4 {u:Int} {n:zr.T} {ks:List (EmS->EmS)} {s:EmS} (h:nK n=4):emN u n ks s=wP s 3 (nN n):=by
 unfold emN;rw[if_neg (show ¬nK n=1 by omega),if_neg (show ¬nK n=2 by omega),if_neg (show ¬nK n=3 by omega),if_pos (show nK n=4 by omega)]
theorem emN5 {u:Int} {n:zr.T} {ks:List (EmS->EmS)} {s:EmS} (h:nK n=5):emN u n ks s=wP (tk ks s) 4 0:=by
 unfold emN;rw[if_neg (show ¬nK n=1 by omega),if_neg (show ¬nK n=2 by omega),if_neg (show ¬nK n=3 by omega),if_neg (show ¬nK n=4 by omega),if_pos (show nK n<=8 by omega)];rw[h]; rfl
theorem emN6 {u:Int} {n:zr.T} {ks:List (EmS->EmS)} {s:EmS} (h:nK n=6):emN u n ks s=wP (tk ks s) 5 0:=by
 unfold emN;rw[if_neg (show ¬nK n=1 by omega),if_neg (show ¬nK n=2 by omega),if_neg (show ¬nK n=3 by omega),if_neg (show ¬nK n=4 by omega),if_pos (show nK n<=8 by omega)];rw[h]; rfl
theorem emN7 {u:Int} {n:zr.T} {ks:List (EmS->EmS)} {s:EmS} (h:nK n=7):emN u n ks s=wP (tk ks s) 6 0:=by
 unfold emN;rw[if_neg (show ¬nK n=1 by omega),if_neg (show ¬nK n=2 by omega),if_neg (show ¬nK n=3 by omega),if_neg (show ¬nK n=4 by omega),if_pos (show nK n<=8 by omega)];rw[h]; rfl
theorem emN8 {u:Int} {n:zr.T} {ks:List (EmS->EmS)} {s:EmS} (h:nK n=8):emN u n ks s=wP (tk ks s) 7 0:=by
 unfold emN;rw[if_neg (show ¬nK n=1 by omega),if_neg (show ¬nK n=2 by omega),if_neg (show ¬nK n=3 by omega),if_neg (show ¬nK n=4 by omega),if_pos (show nK n<=8 by omega)];rw[h]; rfl
theorem emN9 {u:Int} {n:zr.T} {ks:List (EmS->EmS)} {s:EmS} (h:nK n=9):emN u n ks s=RN 8 ks s:=by
 unfold emN;rw[if_neg (show ¬nK n=1 by omega),if_neg (show ¬nK n=2 by omega),if_neg (show ¬nK n=3 by omega),if_neg (show ¬nK n=4 by omega),if_neg (show ¬nK n<=8 by omega),if_pos (show nK n=9 by omega)]
theorem Rq {u:Int} {n:zr.T} {ks:List (EmS->EmS)} {s:EmS} (h:nK n=10):emN u n ks s=RN 9 ks s:=by
 unfold emN;rw[if_neg (show ¬nK n=1 by omega),if_neg (show ¬nK n=2 by omega),if_neg (show ¬nK n=3 by omega),if_neg (show ¬nK n=4 by omega),if_neg (show ¬nK n<=8 by omega),if_neg (show ¬nK n=9 by omega),if_pos (show nK n=10 by omega)]
theorem Rp {u:Int} {n:zr.T} {ks:List (EmS->EmS)} {s:EmS} (h:nK n=11):emN u n ks s=wY (tk ks s) 10 (mk (nN n)):=by
 unfold emN;rw[if_neg (show ¬nK n=1 by omega),if_neg (show ¬nK n=2 by omega),if_neg (show ¬nK n=3 by omega),if_neg (show ¬nK n=4 by omega),if_neg (show ¬nK n<=8 by omega),if_neg (show ¬nK n=9 by omega),if_neg (show ¬nK n=10 by omega),if_pos (show nK n=11 by omega)]
theorem Ro {u:Int} {n:zr.T} {ks:List (EmS->EmS)} {s:EmS} (h:nK n=12):emN u n ks s=wY (tk ks s) 11 (mk (nN n)):=by
 unfold emN;rw[if_neg (show ¬nK n=1 by omega),if_neg (show ¬nK n=2 by omega),if_neg (show ¬nK n=3 by omega),if_neg (show ¬nK n=4 by omega),if_neg (show ¬nK n<=8 by omega),if_neg (show ¬nK n=9 by omega),if_neg (show ¬nK n=10 by omega),if_neg (show ¬nK n=11 by omega),if_pos (show nK n=12 by omega)]
theorem Rn {u:Int} {n:zr.T} {ks:List (EmS->EmS)} {s:EmS} (h:nK n=13):emN u n ks s=XV (tk ks s) 12 (nT n):=by
 unfold emN;rw[if_neg (show ¬nK n=1 by omega),if_neg (show ¬nK n=2 by omega),if_neg (show ¬nK n=3 by omega),if_neg (show ¬nK n=4 by omega),if_neg (show ¬nK n<=8 by omega),if_neg (show ¬nK n=9 by omega),if_neg (show ¬nK n=10 by omega),if_neg (show ¬nK n=11 by omega),if_neg (show ¬nK n=12 by omega),if_pos (show nK n=13 by omega)]
theorem Rm {u:Int} {n:zr.T} {ks:List (EmS->EmS)} {s:EmS} (h:nK n=14):emN u n ks s=XV (tk ks s) 13 (nT n):=by
 unfold emN;rw[if_neg (show ¬nK n=1 by omega),if_neg (show ¬nK n=2 by omega),if_neg (show ¬nK n=3 by omega),if_neg (show ¬nK n=4 by omega),if_neg (show ¬nK n<=8 by omega),if_neg (show ¬nK n=9 by omega),if_neg (show ¬nK n=10 by omega),if_neg (show ¬nK n=11 by omega),if_neg (show ¬nK n=12 by omega),if_neg (show ¬nK n=13 by omega),if_pos (show nK n=14 by omega)]
theorem Rl {u:Int} {n:zr.T} {ks:List (EmS->EmS)} {s:EmS} (h:nK n=15):emN u n ks s=wP (tk ks s) 14 (nN n):=by
 unfold emN;rw[if_neg (show ¬nK n=1 by omega),if_neg (show ¬nK n=2 by omega),if_neg (show ¬nK n=3 by omega),if_neg (show ¬nK n=4 by omega),if_neg (show ¬nK n<=8 by omega),if_neg (show ¬nK n=9 by omega),if_neg (show ¬nK n=10 by omega),if_neg (show ¬nK n=11 by omega),if_neg (show ¬nK n=12 by omega),if_neg (show ¬nK n=13 by omega),if_neg (show ¬nK n=14 by omega),if_pos (show nK n=15 by omega)]
theorem Rk {u:Int} {n:zr.T} {ks:List (EmS->EmS)} {s:EmS} (h:nK n=16):emN u n ks s=UI n ks s:=by
 unfold emN;rw[if_neg (show ¬nK n=1 by omega),if_neg (show ¬nK n=2 by omega),if_neg (show ¬nK n=3 by omega),if_neg (show ¬nK n=4 by omega),if_neg (show ¬nK n<=8 by omega),if_neg (show ¬nK n=9 by omega),if_neg (show ¬nK n=10 by omega),if_neg (show ¬nK n=11 by omega),if_neg (show ¬nK n=12 by omega),if_neg (show ¬nK n=13 by omega),if_neg (show ¬nK n=14 by omega),if_neg (show ¬nK n=15 by omega)]
theorem cntN9 {n:zr.T} {cs:List Nat} (h:nK n=9\/nK n=10):TM n cs=cs.sum+(cs.length-1):=if_pos h
theorem cntN16 {n:zr.T} {cs:List Nat} (h:nK n=16):TM n cs=cs.sum+2:=by
 unfold TM;rw[if_neg (show ¬(nK n=9\/nK n=10) by omega),if_pos h]
theorem tT {n:zr.T} {cs:List Nat} (h:nK n≠9) (h1:nK n≠10) (h2:nK n≠16):TM n cs=cs.sum+1:=by
 unfold TM;rw[if_neg (show ¬(nK n=9\/nK n=10) by omega),if_neg h2]
structure Up (s s':EmS) (c k l:Nat):Prop where
 C:∃r,s'.1=s.1++r
 Cn:s'.1.length<=s.1.length+c
 S:∃r,s'.2.1=s.2.1++r
 Sn:s'.2.1.length<=s.2.1.length+c
 K:∃r,s'.2.2=s.2.2++r
 Kn:s'.2.2.length=s.2.2.length+k
 T:(∀x∈s.2.1,x.length<=l)->∀x∈s'.2.1,x.length<=l
theorem Up.refl (s:EmS) (l:Nat):Up s s 0 0 l:=⟨⟨[],by simp⟩,Nat.le_refl _,⟨[],by simp⟩,Nat.le_refl _,⟨[],by simp⟩,rfl,fun h=>h⟩
theorem Up.trans {a b c:EmS} {x y k m l:Nat} (h1:Up a b x k l) (h2:Up b c y m l):Up a c (x+y) (k+m) l:=by
 obtain ⟨⟨r1,e1⟩,n1,⟨r2,e2⟩,n2,⟨r3,e3⟩,n3,t1⟩:=h1;obtain ⟨⟨q1,f1⟩,m1,⟨q2,f2⟩,m2,⟨q3,f3⟩,m3,t2⟩:=h2;exact ⟨⟨r1++q1,by rw[f1,e1,List.append_assoc]⟩,by omega,⟨r2++q2,by rw[f2,e2,List.append_assoc]⟩,by omega,⟨r3++q3,by rw[f3,e3,List.append_assoc]⟩,by omega,fun h=>t2 (t1 h)⟩
theorem Up.mono {a b:EmS} {x y k l:Nat} (h:Up a b x k l) (hx:x<=y):Up a b y k l:=⟨h.C,by have:=h.Cn; omega,h.S,by have:=h.Sn; omega,h.K,h.Kn,h.T⟩
theorem vn (s:EmS) (op arg:Int) (l:Nat):Up s (wP s op arg) 0 1 l:=⟨⟨[],by simp[wP]⟩,Nat.le_refl _,⟨[],by simp[wP]⟩,Nat.le_refl _,⟨[(op,arg,0)],rfl⟩,by simp[wP],fun h=>h⟩
theorem tY (s:EmS) (op:Int) (w:zf.T) (l:Nat):Up s (wY s op w) 1 1 l:=by
 obtain ⟨_,h2,h3⟩:=Rx s.1 w;exact ⟨h3,h2,⟨[],by simp[wY]⟩,by simp[wY],⟨_,rfl⟩,by simp[wY],fun h=>h⟩
theorem VN (s:EmS) (op:Int) (t:List zo.T) {l:Nat} (ht:t.length<=l):Up s (XV s op t) 1 1 l:=by
 obtain ⟨_,h2,r,h3,h4⟩:=VU s.2.1 t;refine ⟨⟨[],by simp[XV]⟩,by simp[XV],⟨r,h3⟩,h2,⟨_,rfl⟩,by simp[XV],fun h x hx=>?_⟩;have hx:x∈(ZA s.2.1 t).2:=hx;rw[h3] at hx;rcases List.mem_append.1 hx with hx | hx
 ·exact h x hx
 ·rw[h4 x hx]; exact ht
theorem VO {u:Int} {l:Nat}:∀(ks:List Tree),(∀k∈ks,∀s,Up s (em u k s) k.size (cnt k) l)->∀s,Up s (tk (ks.map (em u)) s) (yt ks).length ((ks.map cnt).sum) l
 | [],_,s=>Up.refl s l
 | k::r,h,s=>by
  have h1:=h k (by simp) s;have h2:=VO r (fun x hx=>h x (by simp[hx])) (em u k s);have:=h1.trans h2;rw[xD,List.length_append];exact this
theorem YF {u:Int} {l:Nat} {op:Int}:∀(ks:List Tree),(∀k∈ks,∀s,Up s (em u k s) k.size (cnt k) l)->∀s,Up s ((ks.map (em u)).foldl (fun s k=>wP (k s) op 0) s) (yt ks).length ((ks.map cnt).sum+ks.length) l
 | [],_,s=>Up.refl s l
 | k::r,h,s=>by
  have h1:=(h k (by simp) s).trans (vn _ op 0 l);have h2:=YF (op:=op) r (fun x hx=>h x (by simp[hx])) (wP (em u k s) op 0);have:=h1.trans h2;rw[xD,List.length_append];simp only[List.map_cons,List.foldl_cons,List.sum_cons,List.length_cons];rw[show cnt k+(List.map cnt r).sum+(r.length+1)=cnt k+1+((List.map cnt r).sum+r.length) by omega];exact this.mono (by unfold Tree.size; omega)
theorem Zi (K:List zM.T) (i:Nat) (v:Int):(uP K i v).length=K.length:=by simp[uP]
theorem Zj {A B:List zM.T} {i:Nat} {v:Int} (h:A.length<=i):uP (A++B) i v=A++uP B (i-A.length) v:=by
 unfold uP;rw[List.set_append_right _ _ h];congr 3<;>(unfold get; rw[List.getD_eq_getElem?_getD,List.getD_eq_getElem?_getD,List.getElem?_append_right h])
theorem three {ks:List Tree} (h:ks.length=3):∃a b c,ks=[a,b,c]:=by
 match ks,h with
 | [a,b,c],_=>exact ⟨a,b,c,rfl⟩
theorem up_tst {u:Int} {l:Nat} {n:zr.T} {a b c:Tree} (ha:∀s,Up s (em u a s) a.size (cnt a) l) (hb:∀s,Up s (em u b s) b.size (cnt b) l) (hc:∀s,Up s (em u c s) c.size (cnt c) l) (s:EmS) :
  Up s (UI n ([a,b,c].map (em u)) s) (a.size+b.size+c.size+1) (cnt a+cnt b+cnt c+2) l:=by
 have h1:=ha s;have h2:=(h1.trans (tY _ (15+nO n) (mk (nN n)) l)).trans (hb _);have h3:=(h2.trans (vn _ 15 0 l)).trans (hc _);have e2:UJ n ([a,b,c].map (em u)) s=em u b (wY (em u a s) (15+nO n) (mk (nN n))):=rfl;have e3:VP n ([a,b,c].map (em u)) s=em u c (wP (em u b (wY (em u a s) (15+nO n) (mk (nN n)))) 15 0):=rfl;refine ⟨h3.C,by have:=h3.Cn; show (VP n _ s).1.length<=_; rw[e3]; omega,h3.S,by have:=h3.Sn; show (VP n _ s).2.1.length<=_; rw[e3]; omega,?_,?_,h3.T⟩
 ·obtain ⟨r,e⟩:=h3.K
  unfold UI;rw[e3,e2];simp only;rw[e,Zj (by have:=h1.Kn; show s.2.2.length<=(em u a s).2.2.length; omega),Zj (by have:=h2.Kn; omega)];exact ⟨_,rfl⟩
 ·show (uP (uP _ _ _) _ _).length=_
  rw[Zi,Zi,e3,h3.Kn]; omega
theorem qI {dims:Nat} {n:zr.T} {pile:Nat} (h:vp dims n pile=0):(nT n).length<=16:=by
 obtain ⟨_,_,_,_,_,h6,_,h8⟩:=wb h;cases ht:uo n with
 | false=>rw[h6 ht]; simp
 | true=>exact (XW (h8 ht)).2.1
theorem uy {dims:Nat} (t:Tree):WF dims t->cnt t+1<=2*t.size:=by
 refine Tree.ind (P:=fun t=>WF dims t->cnt t+1<=2*t.size) (fun n ks ih hw=>?_) t;have hk:∀l:List Tree,(∀k∈l,cnt k+1<=2*k.size)->(l.map cnt).sum+l.length<=2*(yt l).length:=by
  intro l;induction l with
  | nil=>intro _; simp[yt]
  | cons k l ihl =>
   intro h;have h1:=h k (by simp);have h2:=ihl fun x hx=>h x (by simp[hx])
   rw[xD,List.length_append];unfold Tree.size at h1;simp only[List.map_cons,List.sum_cons,List.length_cons];omega
 have h:=hk ks fun k hk=>ih k hk ((v8.1 hw).2 k hk)
 rw[zad,tl];unfold TM;rw[List.length_map];split
 ·omega
 ·rename_i h9
  split
  ·rename_i h16
   have h3:ks.length=3:=by
    have:=hw.arK (k:=16) h16;exact this
   omega
  ·omega
theorem u6 {u:Int} {dims:Nat} (t:Tree):WF dims t->∀s,Up s (em u t s) t.size (cnt t) 16:=by
 refine Tree.ind (P:=fun t=>WF dims t->∀s,Up s (em u t s) t.size (cnt t) 16) (fun n ks ih hw s=>?_) t;have hk:∀k∈ks,∀s,Up s (em u k s) k.size (cnt k) 16:=fun k hk=>ih k hk ((v8.1 hw).2 k hk)
 have hg:ub n=true:=hw.good.1;have har:=fun (k:Int) (h:nK n=k)=>hw.arK (k:=k) h
 have hall:=VO ks hk s;have hnode:=(v8.1 hw).1.2;have z:∀k:Int,nK n=k->(0:Nat)=(bif decide ((get yG we k.toNat).1>=0) then (get yG we k.toNat).1.toNat else (nC n).toNat)->ks=[]:=fun k h e=>by
  have:=har k h;exact List.eq_nil_of_length_eq_zero (this.trans e.symm)
 rw[Rj,tl,zad];rcases tu hg with h | h | h | h | h | h | h | h | h | h | h | h | h | h | h | h
 ·have:=z 1 h rfl; subst this
  rw[emN1 h,tT (by omega) (by omega) (by omega)]; exact (tY s 1 _ 16).mono (by simp[yt])
 ·have:=z 2 h rfl; subst this
  rw[emN2 h,tT (by omega) (by omega) (by omega)]; exact (tY s 1 _ 16).mono (by simp[yt])
 ·have:=z 3 h rfl; subst this
  rw[emN3 h,tT (by omega) (by omega) (by omega)]; exact (vn s 2 _ 16).mono (by simp[yt])
 ·have:=z 4 h rfl; subst this
  rw[emN4 h,tT (by omega) (by omega) (by omega)]; exact (vn s 3 _ 16).mono (by simp[yt])
 ·rw[emN5 h,tT (by omega) (by omega) (by omega)]; exact (hall.trans (vn _ _ 0 16)).mono (by omega)
 ·rw[emN6 h,tT (by omega) (by omega) (by omega)]; exact (hall.trans (vn _ _ 0 16)).mono (by omega)
 ·rw[emN7 h,tT (by omega) (by omega) (by omega)]; exact (hall.trans (vn _ _ 0 16)).mono (by omega)
 ·rw[emN8 h,tT (by omega) (by omega) (by omega)]; exact (hall.trans (vn _ _ 0 16)).mono (by omega)
 ·obtain ⟨h2,_,_⟩:=hw.several (.inl h)
  have h2:2<=ks.length:=h2;cases ks with
  | nil=>simp at h2
  | cons k r =>
   have hu:=(hk k (by simp) s).trans (YF (op:=8) r (fun x hx=>hk x (by simp[hx])) (em u k s));rw[emN9 h,cntN9 (.inl h),xD,show (List.map cnt (k::r)).sum+((List.map cnt (k::r)).length-1)=cnt k+((List.map cnt r).sum+r.length) by simp; omega];exact hu.mono (by simp only[List.length_append]; unfold Tree.size; omega)
 ·obtain ⟨h2,_,_⟩:=hw.several (.inr h)
  have h2:2<=ks.length:=h2;cases ks with
  | nil=>simp at h2
  | cons k r =>
   have hu:=(hk k (by simp) s).trans (YF (op:=9) r (fun x hx=>hk x (by simp[hx])) (em u k s));rw[Rq h,cntN9 (.inr h),xD,show (List.map cnt (k::r)).sum+((List.map cnt (k::r)).length-1)=cnt k+((List.map cnt r).sum+r.length) by simp; omega];exact hu.mono (by simp only[List.length_append]; unfold Tree.size; omega)
 ·rw[Rp h,tT (by omega) (by omega) (by omega)]; exact (hall.trans (tY _ _ _ 16)).mono (by omega)
 ·rw[Ro h,tT (by omega) (by omega) (by omega)]; exact (hall.trans (tY _ _ _ 16)).mono (by omega)
 ·rw[Rn h,tT (by omega) (by omega) (by omega)]; exact (hall.trans (VN _ _ _ (qI hnode))).mono (by omega)
 ·rw[Rm h,tT (by omega) (by omega) (by omega)]; exact (hall.trans (VN _ _ _ (qI hnode))).mono (by omega)
 ·rw[Rl h,tT (by omega) (by omega) (by omega)]; exact (hall.trans (vn _ _ _ 16)).mono (by omega)
 ·obtain ⟨a,b,c,rfl⟩:=three (show ks.length=3 from har 16 h)
  have hu:=up_tst (n:=n) (hk a (by simp)) (hk b (by simp)) (hk c (by simp)) s;rw[Rk h,cntN16 h,xD,xD,uM,show (List.map cnt [a,b,c]).sum=cnt a+cnt b+cnt c by simp; omega];exact hu.mono (by simp only[List.length_append]; unfold Tree.size; omega)
def AtT (T s:Tree) (b:Nat):Prop:=∃x y,T.subs=x++s.subs++y/\x.length=b
theorem AtT.self (T:Tree):AtT T T 0:=⟨[],[],by simp,rfl⟩
theorem ZL (k:Tree) (l:List Tree):vd (k::l)=k.subs++vd l:=by simp[vd]
theorem YH:∀l:List Tree,(vd l).length=(yt l).length
 | []=>rfl
 | k::l=>by rw[ZL,xD,List.length_append,List.length_append,Z8,YH l]
theorem AtT.kid {T:Tree} {n:zr.T} {pre post:List Tree} {k:Tree} {b:Nat} (h:AtT T (.nd n (pre++k::post)) b):AtT T k (b+(yt pre).length):=by
 obtain ⟨x,y,e,rfl⟩:=h;rw[Zh,YI,ZL] at e;exact ⟨x++vd pre,vd post++[.nd n (pre++k::post)]++y,by rw[e]; simp,by rw[List.length_append,YH]⟩
theorem AtT.le {T s:Tree} {b:Nat} (h:AtT T s b):b+s.size<=T.size:=by
 obtain ⟨x,y,e,rfl⟩:=h;have:=congrArg List.length e;simp only[List.length_append,Z8] at this;unfold Tree.size;omega
theorem AtT.last {T s:Tree} {b:Nat} (h:AtT T s b):T.subs[b+s.size-1]?=some s:=by
 obtain ⟨x,y,e,rfl⟩:=h;obtain ⟨n,ks⟩:=s;have h1:(Tree.nd n ks).size=(vd ks).length+1:=by rw[tl,YH]
 rw[e,h1,Zh,List.append_assoc,List.getElem?_append_right (by omega),List.append_assoc,List.getElem?_append_right (by omega)];rw[show x.length+((vd ks).length+1)-1-x.length-(vd ks).length=0 by omega];rfl
theorem RL (t:Tree):t.subs.map Tree.root=t.flat:=by
 refine Tree.ind (P:=fun t=>t.subs.map Tree.root=t.flat) (fun n ks ih=>?_) t;rw[Zh,XD,List.map_append];congr 1
 have:∀l:List Tree,(∀k∈l,k.subs.map Tree.root=k.flat)->(vd l).map Tree.root=yt l:=by
  intro l;induction l with
  | nil=>intro _; rfl
  | cons k l ihl=>intro h; rw[ZL,xD,List.map_append,h k (by simp),ihl fun x hx=>h x (by simp[hx])]
 exact this ks ih
theorem AtT.node {T s:Tree} {b:Nat} (h:AtT T s b):T.flat[b+s.size-1]?=some s.root:=by
 rw[<-RL,List.getElem?_map,h.last]; rfl
theorem Ts:∀(l:List Tree) (i j:Nat) (t:Tree),l[j]?=some t->(vS i l)[j]?=some ((i+j+1-t.size:Nat):Int)
 | [],i,j,t,h=>by simp at h
 | x::l,i,0,t,h=>by
  simp at h; subst h; rfl
 | x::l,i,j+1,t,h=>by
  have:=Ts l (i+1) j t (by simpa using h);rw[show i+1+j+1=i+(j+1)+1 by omega] at this;simpa [vS] using this
theorem AtT.first {T s:Tree} {b:Nat} (h:AtT T s b):(vS 0 T.subs)[b+s.size-1]?=some (b:Int):=by
 have hp:=vU s;rw[Ts T.subs 0 _ s h.last];congr 2; omega
theorem Ug {l:List Int} {i:Nat} {v:Int} (h:l[i]?=some v):get (.int .i64) l ((i:Int)).toNat=v:=by
 show l.getD i _=v;rw[List.getD_eq_getElem?_getD,h]; rfl
theorem tN {α:Type} {l:List α} {i:Nat} {v:α} (h:l[i]?=some v):i<l.length:=(List.getElem?_eq_some_iff.1 h).1
def kps:Nat->List Tree->List Int
 | _,[]=>[]
 | b,k::r=>((b:Int)+(k.size:Int)-1)::kps (b+k.size) r
theorem S8:∀(a c:List Tree) (b:Nat),kps b (a++c)=kps b a++kps (b+(yt a).length) c
 | [],c,b=>by simp[kps,yt]
 | k::r,c,b=>by
  simp only[List.cons_append,kps,S8 r c,xD,List.length_append];rw[show b+k.size+(yt r).length=b+(k.flat.length+(yt r).length) by unfold Tree.size; omega]
theorem qh:∀(l:List Tree) (b:Nat),(kps b l).length=l.length
 | [],b=>rfl
 | k::r,b=>by simp[kps,qh r]
theorem get_i {l:List Int} {i:Nat} (h:i<l.length):get (.int .i64) l i=l[i]:=by
 show l.getD i _=_;rw[List.getD_eq_getElem?_getD,List.getElem?_eq_getElem h]; rfl
theorem UW (F:Nat) {R:Type} (kk:List Int->Option R):∀(d i fu:Nat) (s:List Int),i+d<=s.length->d<fu->s.length<=4194304->
  ∃s',zx.l1 F (fun _ _ _ s=>kk s) fu (i:Int) ((i:Int)+(d:Int)-1) s=kk s'/\s'.length=s.length/\∀k,s'[k]?=if i<=k/\k<i+d then s[i+(i+d-1-k)]? else s[k]?
 | d,i,0,s,_,h,_=>by omega
 | 0,i,fu+1,s,h1,h2,h3=>by
  refine ⟨s,?_,rfl,fun k=>by rw[if_neg (by omega)]⟩;unfold zx.l1 zx.l1.body;rw[decide_eq_false (by omega)]; rfl
 | 1,i,fu+1,s,h1,h2,h3=>by
  refine ⟨s,?_,rfl,fun k=>?_⟩
  ·unfold zx.l1 zx.l1.body
   rw[decide_eq_false (by omega)]; rfl
  ·split
   ·rename_i h
    rw[show i+(i+1-1-k)=k by omega]
   ·rfl
 | d+2,i,fu+1,s,h1,h2,h3=>by
  obtain ⟨s',e,hl,hs⟩:=UW F kk d (i+1) fu ((s.set i (s[i+d+1]'(by omega))).set (i+d+1) (s[i]'(by omega))) (by simp; omega) (by omega) (by simpa using h3);simp only[List.length_set] at hl;refine ⟨s',?_,hl,fun k=>?_⟩
  ·unfold zx.l1 zx.l1.body
   have ej:(i:Int)+((d+2:Nat):Int)-1=((i+d+1:Nat):Int):=by omega
   rw[ej,decide_eq_true (show (i:Int)<((i+d+1:Nat):Int) by omega)];simp only[cond_true,Int.toNat_natCast,List.length_set];rw[yZ (show i+d+1<s.length by omega),yZ (show i<s.length by omega)];simp only[cond_true];rw[get_i (show i+d+1<s.length by omega),get_i (show i<s.length by omega),yT (by omega) (by omega),yT (by omega) (by omega)];rw[show (i:Int)+1=((i+1:Nat):Int) by omega,show ((i+d+1:Nat):Int)-1=((i+1:Nat):Int)+(d:Int)-1 by omega];exact e
  ·rw[hs k]
   by_cases h1':i+1<=k/\k<i+1+d
   ·rw[if_pos h1',if_pos (by omega)]
    rw[List.getElem?_set_ne (by omega),List.getElem?_set_ne (by omega)];congr 1; omega
   ·rw[if_neg h1']
    by_cases hk:k=i
    ·subst hk
     rw[if_pos (by omega),List.getElem?_set_ne (by omega),List.getElem?_set_self (by omega)];rw[show k+(k+(d+2)-1-k)=k+d+1 by omega,List.getElem?_eq_getElem (by omega)]
    ·by_cases hk2:k=i+d+1
     ·subst hk2
      rw[if_pos (by omega),List.getElem?_set_self (by simp; omega)];rw[show i+(i+(d+2)-1-(i+d+1))=i by omega,List.getElem?_eq_getElem (by omega)]
     ·rw[if_neg (by omega),List.getElem?_set_ne (by omega),List.getElem?_set_ne (by omega)]
theorem T6 (F:Nat) (s:List Int) (hF:s.length<F) (hl:s.length<=4194304):zx.sh F s=some ((),(s.reverse,())):=by
 obtain ⟨s',e,h1,h2⟩:=UW F (fun s1=>(some ((),(s1,())):Option zx.sg.R)) s.length 0 F s (by omega) hF hl;have:s'=s.reverse:=by
  apply List.ext_getElem?;intro k;rw[h2 k];by_cases hk:k<s.length
  ·rw[if_pos (by omega),List.getElem?_reverse (by omega)]
   congr 1; omega
  ·rw[if_neg (by omega),List.getElem?_eq_none (by omega),List.getElem?_eq_none (by simp; omega)]
 subst this;unfold zx.sh;rw[yT (by omega) (by omega)];rw[show ((0:Nat):Int)+(s.length:Int)-1=(s.length:Int)-1 by omega] at e;exact e
def emZ (m:EmM):EmM:=(m.1,m.2.1,m.2.2.1,(m.2.2.2.1.1,m.2.2.2.1.2.1,[],[],[],[]),m.2.2.2.2)
theorem kids_l2 (me:za.M) (F:Nat) {R:Type} (k0:za.l2.K0 R) (m:EmM) (sz:List Int) (C:List zf.T) (S:List (List zo.T)) (K:List zM.T) {T t:Tree} {b:Nat} (hT:T.size<=1024) (ht:AtT T t b) (hf:m.2.1=vS 0 T.subs) :
  ∀(a c:List Tree) (out:List Int) (fu:Nat),t.kids=a++c->out.length=c.length->a.length<fu->c.length<=1024->
   za.l2 me F k0 fu ((b+t.size-1:Nat):Int) ((b:Int)+((yt a).length:Int)-1) (emZ m) out sz C S K=k0 ((b+t.size-1:Nat):Int) ((b:Int)-1) false (emZ m) (out++(kps b a).reverse) sz C S K:=by
 intro a;induction hn:a.length generalizing a with
 | zero =>
  intro c out fu he ho hfu hc;have:a=[]:=List.eq_nil_of_length_eq_zero hn;subst this;obtain ⟨fu,rfl⟩:∃k,fu=k+1:=⟨fu-1,by omega⟩;have hfirst:=ht.first;have hlt:=tN hfirst;unfold za.l2 za.l2.body;rw[show (emZ m).2.1=vS 0 T.subs from hf,yZ hlt,Ug hfirst,cond_true];rw[show ((yt ([]:List Tree)).length:Int)=0 from rfl,Int.add_zero,decide_eq_false (show ¬((b:Int)-1>=(b:Int)) by omega)];simp only[cond_false,kps,List.reverse_nil,List.append_nil];rw[<-hf]; rfl
 | succ d ih =>
  intro c out fu he ho hfu hc;obtain ⟨fu,rfl⟩:∃k,fu=k+1:=⟨fu-1,by omega⟩;obtain ⟨init,k,rfl⟩:∃init k,a=init++[k]:=by
   rcases List.eq_nil_or_concat a with h | ⟨i,k,h⟩
   ·rw[h] at hn; simp at hn
   ·exact ⟨i,k,by rw[h,List.concat_eq_append]⟩
  have hn:init.length=d:=by simpa using hn
  have hk:AtT T k (b+(yt init).length):=by
   obtain ⟨n,ks⟩:=t;have he:ks=init++[k]++c:=he;rw[he,List.append_assoc] at ht;exact ht.kid
  have hfirst:=ht.first;have hlt:=tN hfirst;have hkf:=hk.first;have hklt:=tN hkf;have hkp:=vU k;have hle:=hk.le;have ih:=ih init hn (k::c) (out++[((b:Int)+((yt init).length:Int)+(k.size:Int)-1)]) fu (by rw[he]; simp) (by simp; omega) (by simp at hfu; omega) (by
   have h1:=ht.le;have h2:t.kids.length<=t.size:=by
    obtain ⟨n,ks⟩:=t;rw[tl]; have:=uf ks; show ks.length<=_; omega
   rw[he] at h2; simp at h2 ⊢; omega)
  unfold za.l2 za.l2.body;rw[show (emZ m).2.1=vS 0 T.subs from hf,yZ hlt,Ug hfirst,cond_true];rw[uN,uM,List.length_append];have e1:(b:Int)+(((yt init).length+k.flat.length:Nat):Int)-1=((b+(yt init).length+k.size-1:Nat):Int):=by unfold Tree.size at hkp ⊢; omega
  rw[e1,decide_eq_true (show ((b+(yt init).length+k.size-1:Nat):Int)>=(b:Int) by omega),wU (by simp; omega),yZ hklt,Ug hkf];simp only[cond_true];rw[yT (by omega) (by omega)];have e2:(((b+(yt init).length:Nat):Int)-1)=(b:Int)+((yt init).length:Int)-1:=by omega
  rw[e2];have e3:((b+(yt init).length+k.size-1:Nat):Int)=(b:Int)+((yt init).length:Int)+(k.size:Int)-1:=by omega
  rw[e3,<-hf];refine Eq.trans ih ?_;rw[S8,List.reverse_append];simp only[kps,List.reverse_cons,List.reverse_nil,List.nil_append,List.append_assoc,List.cons_append];rw[show ((b+(yt init).length:Nat):Int)+(k.size:Int)-1=(b:Int)+((yt init).length:Int)+(k.size:Int)-1 by omega]
def Room (s:EmS) (n:Nat):Prop:=s.1.length+n<=8192/\s.2.1.length+n<=8192/\s.2.2.length+2*n<=16384/\∀x∈s.2.1,x.length<=16
theorem Room.up {s s':EmS} {a c k:Nat} (h:Room s (a+c)) (hu:Up s s' a k 16) (hk:k<=2*a):Room s' c:=by
 obtain ⟨h1,h2,h3,h4⟩:=h;have a1:=hu.Cn; have a2:=hu.Sn; have a3:=hu.Kn;exact ⟨by omega,by omega,by omega,hu.T h4⟩
theorem Room.le {s:EmS} {a b:Nat} (h:Room s b) (hab:a<=b):Room s a:=⟨by have:=h.1; omega,by have:=h.2.1; omega,by have:=h.2.2.1; omega,h.2.2.2⟩
def KidsOK (me:za.M) (m:EmM) (u:Int) (dims b:Nat) (ks:List Tree):Prop :=
 ∀pre k post,ks=pre++k::post->WF dims k/\∀s,Room s k.size->me (emW m s) (((b+(yt pre).length:Nat):Int)+(k.size:Int)-1)=some ((),(emW m (em u k s),()))
theorem KidsOK.tail {me:za.M} {m:EmM} {u:Int} {dims b:Nat} {k:Tree} {ks:List Tree} (h:KidsOK me m u dims b (k::ks)):KidsOK me m u dims (b+k.size) ks:=by
 intro pre x post e;obtain ⟨h1,h2⟩:=h (k::pre) x post (by rw[e]; rfl);refine ⟨h1,fun s hs=>?_⟩;rw[xD,List.length_append] at h2;have:=h2 s hs;rwa [show b+(k.flat.length+(yt pre).length)=b+k.size+(yt pre).length by unfold Tree.size; omega] at this
theorem KidsOK.head {me:za.M} {m:EmM} {u:Int} {dims b:Nat} {k:Tree} {ks:List Tree} (h:KidsOK me m u dims b (k::ks)):WF dims k/\∀s,Room s k.size->me (emW m s) ((b:Int)+(k.size:Int)-1)=some ((),(emW m (em u k s),())):=h [] k ks rfl
theorem UV {u:Int} {dims:Nat} {k:Tree} {s:EmS} {c:Nat} (hw:WF dims k) (h:Room s (k.size+c)):Room (em u k s) c:=by
 have h1:=u6 (u:=u) k hw s;have h2:=uy k hw;exact h.up h1 (by omega)
theorem zay (me:za.M) (F:Nat) {R:Type} (k0:zn.l1.K0 R) (t6:List Int) (t7:Int) (m:EmM) (u:Int) (dims:Nat) (G:EmS->Option R) (hG:∀i x s,k0 t6 t7 i x (emZ m) m.2.2.2.1.2.2.1 s.1 s.2.1 s.2.2=G s) :
  ∀(ks:List Tree) (b:Nat) (i:Int) (s:EmS),KidsOK me m u dims b ks->Room s ((yt ks).length)->
   zn.l1.rg me F k0 t6 t7 (kps b ks) i (emZ m) m.2.2.2.1.2.2.1 s.1 s.2.1 s.2.2=G (tk (ks.map (em u)) s)
 | [],b,i,s,_,_=>hG i _ s
 | k::ks,b,i,s,h,hr=>by
  obtain ⟨hw,hme⟩:=h.head;rw[xD,List.length_append] at hr;have hr:Room s (k.size+(yt ks).length):=hr;have ih:=zay me F k0 t6 t7 m u dims G hG ks (b+k.size) (i+1) (em u k s) h.tail (UV hw hr);unfold kps zn.l1.rg;have e:me ((emZ m).1,(emZ m).2.1,(emZ m).2.2.1,((emZ m).2.2.2.1.1,(emZ m).2.2.2.1.2.1,m.2.2.2.1.2.2.1,s.1,s.2.1,s.2.2),(emZ m).2.2.2.2) ((b:Int)+(k.size:Int)-1)=some ((),(emW m (em u k s),())):=hme s (hr.le (by omega));rw[e,zD];exact ih
theorem Vj {ks:List Tree} {b:Nat} (h:ks.length<=1024):(kps b ks).length<9223372036854775807:=by rw[qh]; omega
theorem em_all (me:za.M) (F:Nat) (hF:4096<F) (m:EmM) (u:Int) (dims:Nat) {ks:List Tree} {b:Nat} {s:EmS} (h:KidsOK me m u dims b ks) (hr:Room s (yt ks).length) (hl:ks.length<=1024) :
  zn.sh me F (emW m s) (kps b ks)=some ((),(emW m (tk (ks.map (em u)) s),())):=by
 unfold zn.sh;refine (zn.l1.rg_eq me F _ (kps b ks) _ rfl (Vj hl) (kps b ks) 0 F _ _ _ _ _ rfl (by rw[qh]; omega)).trans ?_;exact zay me F (fun t62 t72 t82 t92 m2 m_92 m_102 m_112 m_122=>some ((()),((m2.1,m2.2.1,m2.2.2.1,(m2.2.2.2.1.1,m2.2.2.2.1.2.1,m_92,m_102,m_112,m_122),m2.2.2.2.2),()))) (kps b ks) _ m u dims
  (fun s=>some ((),(emW m s,()))) (fun _ _ _=>rfl) ks b 0 s h hr
theorem U2 (F:Nat) (m:EmM) (s:EmS) (op arg:Int) (h:Room s 1):zw.sh F (emW m s) op arg=some ((),(emW m (wP s op arg),())):=Uq F m s.1 s.2.1 s.2.2 op arg (by have:=h.2.2.1; omega)
theorem TL (F:Nat) (hF:16384<F) (m:EmM) (s:EmS) (op:Int) (w:zf.T) {R:Type} (K:zw.sg.R->Option R) (h:Room s 1) :
  (oB (zF.sh F (emW m s) w) fun c=>oB (zw.sh F c.2.1 op c.1.1) K)=K ((),(emW m (wY s op w),())):=by
 have h1:=h.1; have h2:=h.2.2.1;rw[TB F m s.1 s.2.1 s.2.2 w (by omega) (by omega),zD];have:=Uq F m (ZE s.1 w).2 s.2.1 s.2.2 op ((ZE s.1 w).1:Int) (by omega);rw[this,zD]; rfl
theorem scl_s (F:Nat) (hF:4194304<=F) (m:EmM) (s:EmS) (op:Int) (t:List zo.T) {R:Type} (K:zw.sg.R->Option R) (h:Room s 1) (ht:t.length<=16) :
  (oB (zX.sh F (emW m s) t) fun c=>oB (zw.sh F c.2.1 op c.1.1) K)=K ((),(emW m (XV s op t),())):=by
 have h1:=h.2.1; have h2:=h.2.2.1;rw[za3 F m s.1 s.2.1 s.2.2 t (fun l hl=>by have:=h.2.2.2 l hl; omega) (by omega) (by omega) (by omega),zD];have:=Uq F m s.1 (ZA s.2.1 t).2 s.2.2 op ((ZA s.2.1 t).1:Int) (by omega);rw[this,zD]; rfl
theorem Qz (me:za.M) (F:Nat) {R:Type} (k0:ze.l6.K0 R) (t18:List Int) (t19:Int) (op:Int) (m:EmM) (u:Int) (dims:Nat) (G:EmS->Option R) (hG:∀i x s,k0 op t18 t19 i x (emZ m) m.2.2.2.1.2.2.1 s.1 s.2.1 s.2.2=G s) :
  ∀(ks:List Tree) (b:Nat) (i:Int) (s:EmS),KidsOK me m u dims b ks->Room s ((yt ks).length)->
   ze.l6.rg me F k0 t18 t19 (kps b ks) i op (emZ m) m.2.2.2.1.2.2.1 s.1 s.2.1 s.2.2=G ((ks.map (em u)).foldl (fun s k=>wP (k s) op 0) s)
 | [],b,i,s,_,_=>hG i _ s
 | k::ks,b,i,s,h,hr=>by
  obtain ⟨hw,hme⟩:=h.head;rw[xD,List.length_append] at hr;have hr:Room s (k.size+(yt ks).length):=hr;have hu:=(u6 (u:=u) k hw s);have hc:=uy k hw;have hr2:Room (wP (em u k s) op 0) (yt ks).length:=hr.up ((hu.trans (vn (em u k s) op 0 16)).mono (by omega)) (by omega);have ih:=Qz me F k0 t18 t19 op m u dims G hG ks (b+k.size) (i+1) (wP (em u k s) op 0) h.tail hr2;unfold kps ze.l6.rg;have e:me ((emZ m).1,(emZ m).2.1,(emZ m).2.2.1,((emZ m).2.2.2.1.1,(emZ m).2.2.2.1.2.1,m.2.2.2.1.2.2.1,s.1,s.2.1,s.2.2),(emZ m).2.2.2.2) ((b:Int)+(k.size:Int)-1)=some ((),(emW m (em u k s),())):=hme s (hr.le (by omega));rw[e,zD];simp only;have hp:=Uq F m (em u k s).1 (em u k s).2.1 (em u k s).2.2 op 0 (by have:=hr.2.2.1; have:=hu.Kn; omega);have hp':zw.sh F (emW m (em u k s)) op 0=some ((),(emW m (wP (em u k s) op 0),())):=hp;rw[hp',zD];exact ih
theorem WA (me:za.M) (F:Nat) (hF:16384<F) (m:EmM) (u:Int) (dims:Nat) {ks:List Tree} {b:Nat} {s:EmS} {n:zr.T} {op:Int} (h:KidsOK me m u dims b ks) (hr:Room s (yt ks).length) (h1:1<=ks.length) (hl:ks.length<=1024)
  (hop:(n.1=10/\op=9)\/(n.1≠10/\op=8)):ze.sh me F (emW m s) n (kps b ks)=some ((),(emW m (RN op (ks.map (em u)) s),())):=by
 cases ks with
 | nil=>simp at h1
 | cons k ks =>
  have key:∀op:Int,ze.j4 me F (fun op5 t185 t195 t205 t215 m5 m_95 m_105 m_115 m_125=>(some ((()),((m5.1,m5.2.1,m5.2.2.1,(m5.2.2.2.1.1,m5.2.2.2.1.2.1,m_95,m_105,m_115,m_125),m5.2.2.2.2),())):Option ze.sg.R)) (kps b (k::ks)) op (emZ m) m.2.2.2.1.2.2.1 s.1 s.2.1 s.2.2 =
    some ((),(emW m (RN op ((k::ks).map (em u)) s),())):=by
   intro op;obtain ⟨hw,hme⟩:=h.head;rw[xD,List.length_append] at hr;have hr:Room s (k.size+(yt ks).length):=hr;have hlen:(kps b (k::ks)).length=ks.length+1:=by rw[qh]; rfl
   have e:me ((emZ m).1,(emZ m).2.1,(emZ m).2.2.1,((emZ m).2.2.2.1.1,(emZ m).2.2.2.1.2.1,m.2.2.2.1.2.2.1,s.1,s.2.1,s.2.2),(emZ m).2.2.2.2) ((b:Int)+(k.size:Int)-1)=some ((),(emW m (em u k s),())):=hme s (hr.le (by omega));unfold ze.j4;rw[Wj (by omega),cond_true];rw[show get (.int .i64) (kps b (k::ks)) 0=(b:Int)+(k.size:Int)-1 from rfl,e,zD];have hb:zG (kps b (k::ks)).length (some 1) none=(true,1,(kps b (k::ks)).length):=tV (i:=1) (by omega);rw[hb];simp only[cond_true,List.take_length];rw[show (kps b (k::ks)).drop 1=kps (b+k.size) ks from rfl];simp only[List.length_cons] at hl;refine (ze.l6.rg_eq me F _ (kps (b+k.size) ks) _ rfl (Vj (by omega)) (kps (b+k.size) ks) 0 F op _ _ _ _ _ rfl (by rw[qh]; omega)).trans ?_;exact Qz me F _ (kps (b+k.size) ks) _ op m u dims (fun s=>some ((),(emW m s,()))) (fun _ _ _=>rfl) ks (b+k.size) 0 (em u k s) h.tail (UV hw hr)
  unfold ze.sh;rcases hop with ⟨h2,rfl⟩ | ⟨h2,rfl⟩
  ·rw[h2]; exact key 9
  ·rw[show (n.1==10)=false from by simpa using h2]; exact key 8
theorem em_test (me:za.M) (F:Nat) (hF:16384<F) (m:EmM) (u:Int) (dims:Nat) {x y z:Tree} {b:Nat} {s:EmS} {n:zr.T} (h:KidsOK me m u dims b [x,y,z]) (hr:Room s (x.size+y.size+z.size+1)) (hN:0<=nN n) (hN2:nN n<=1000000000000) (ho:1<=nO n) (ho2:nO n<=6) :
  yn.sh me F (emW m s) n (kps b [x,y,z])=some ((),(emW m (UI n ([x,y,z].map (em u)) s),())):=by
 obtain ⟨hw1,hme1⟩:=h.head;obtain ⟨hw2,hme2⟩:=h.tail.head;obtain ⟨hw3,hme3⟩:=h.tail.tail.head;have u1:=u6 (u:=u) x hw1 s;have c1:=uy x hw1;have c2:=uy y hw2;have c3:=uy z hw3;have r1:Room (em u x s) (1+(y.size+z.size)):=(hr.le (by omega):Room s (x.size+(1+(y.size+z.size)))).up u1 (by omega);have u2:=tY (em u x s) (15+nO n) (mk (nN n)) 16;have r2:Room (wY (em u x s) (15+nO n) (mk (nN n))) (y.size+z.size):=r1.up u2 (by omega);have u3:=u6 (u:=u) y hw2 (wY (em u x s) (15+nO n) (mk (nN n)));have hz:=vU z;have u4:=vn (em u y (wY (em u x s) (15+nO n) (mk (nN n)))) 15 0 16;have r4:Room (wP (em u y (wY (em u x s) (15+nO n) (mk (nN n)))) 15 0) z.size:=r2.up ((u3.trans u4).mono (by omega)) (by omega);have r3:Room (em u y (wY (em u x s) (15+nO n) (mk (nN n)))) 1:=(r2.up u3 (by omega)).le hz;have u5:=u6 (u:=u) z hw3 (wP (em u y (wY (em u x s) (15+nO n) (mk (nN n)))) 15 0);have r5:=(show Room (wP (em u y (wY (em u x s) (15+nO n) (mk (nN n)))) 15 0) (z.size+0) from r4).up u5 (by omega);have k1:=u1.Kn; have k2:=u2.Kn; have k3:=u3.Kn; have k4:=u4.Kn; have k5:=u5.Kn;have b5:=r5.2.2.1;unfold yn.sh;rw[show (kps b [x,y,z]).length=3 from rfl,Wj (by omega),idx1 (by omega),show idx 2 3=true from rfl];simp only[cond_true];rw[show get (.int .i64) (kps b [x,y,z]) 0=(b:Int)+(x.size:Int)-1 from rfl,hme1 s (hr.le (by omega)),zD];rw[show yy.sh F n.2.1=some ((mk (nN n),()),()) from uS F (v:=nN n) (by omega) (by omega),zD];rw[show i64.wrap (15+n.2.2.1)=15+nO n from yT (n:=15+nO n) (by omega) (by omega)];simp only
 rw[TL F hF m (em u x s) (15+nO n) (mk (nN n)) _ (r1.le (by omega))];simp only;rw[show get (.int .i64) (kps b [x,y,z]) 1=((b+x.size:Nat):Int)+(y.size:Int)-1 from rfl,hme2 _ (r2.le (by omega)),zD];simp only;rw[U2 F m _ 15 0 r3,zD];simp only;rw[show get (.int .i64) (kps b [x,y,z]) 2=((b+x.size+y.size:Nat):Int)+(z.size:Int)-1 from rfl,hme3 _ r4,zD];generalize hs1:em u x s=s1 at*;generalize hs3:em u y (wY s1 (15+nO n) (mk (nN n)))=s3 at*;generalize hs5:em u z (wP s3 15 0)=s5 at*;have e2:UJ n ([x,y,z].map (em u)) s=s3:=by
  show em u y (wY (em u x s) (15+nO n) (mk (nN n)))=s3;rw[hs1,hs3]
 have e3:VP n ([x,y,z].map (em u)) s=s5:=by
  show em u z (wP (UJ n ([x,y,z].map (em u)) s) 15 0)=s5;rw[e2,hs5]
 have e1:kF ([x,y,z].map (em u)) 0 s=s1:=hs1;unfold UI;rw[e3,e2,e1];simp only[show ∀s:EmS,(emW m s).2.2.2.1.2.2.2.2.2=s.2.2 from fun _=>rfl,List.length_set,Int.toNat_natCast];rw[yZ (show s1.2.2.length<s5.2.2.length by omega),yZ (show s3.2.2.length<s5.2.2.length by omega)];simp only[cond_true];rw[yT (n:=(s3.2.2.length:Int)-(s1.2.2.length:Int)) (by omega) (by omega),yT (n:=(s5.2.2.length:Int)-(s3.2.2.length:Int)) (by omega) (by omega),yT (n:=(s5.2.2.length:Int)-(s3.2.2.length:Int)-1) (by omega) (by omega)];rfl
def wj:List Nat:=[Ty.dflt .fnb,x5,wd,xi,xi,yH,yH,yH,yH,xn,xn,xL,xL,xq,xq,wq,wk]
theorem SF (me:za.M) (F:Nat) (m:EmM) (n:zr.T) (l:List Int):za.d50 me F x5 (m,n,l,())=yb.sh F m n l:=rfl
theorem Qj (me:za.M) (F:Nat) (m:EmM) (n:zr.T) (l:List Int):za.d50 me F wd (m,n,l,())=yi.sh F m n l:=rfl
theorem YA (me:za.M) (F:Nat) (m:EmM) (n:zr.T) (l:List Int):za.d50 me F xi (m,n,l,())=zO.sh F m n l:=rfl
theorem qp (me:za.M) (F:Nat) (m:EmM) (n:zr.T) (l:List Int):za.d50 me F yH (m,n,l,())=zZ.sh me F m n l:=rfl
theorem Xl (me:za.M) (F:Nat) (m:EmM) (n:zr.T) (l:List Int):za.d50 me F xn (m,n,l,())=ze.sh me F m n l:=rfl
theorem Rw (me:za.M) (F:Nat) (m:EmM) (n:zr.T) (l:List Int):za.d50 me F xL (m,n,l,())=yu.sh me F m n l:=rfl
theorem WG (me:za.M) (F:Nat) (m:EmM) (n:zr.T) (l:List Int):za.d50 me F xq (m,n,l,())=z6.sh me F m n l:=rfl
theorem d50_off (me:za.M) (F:Nat) (m:EmM) (n:zr.T) (l:List Int):za.d50 me F wq (m,n,l,())=yA.sh me F m n l:=rfl
theorem zac (me:za.M) (F:Nat) (m:EmM) (n:zr.T) (l:List Int):za.d50 me F wk (m,n,l,())=yn.sh me F m n l:=rfl
theorem op_of {n:zr.T} (h:nK n=16) (ho:opB n=true):1<=nO n/\nO n<=6:=by
 unfold opB at ho;have e:qD n=get yG we 16:=by unfold qD; rw[show (nK n).toNat=16 by rw[h]; rfl]
 rw[e] at ho;have ho:(decide (nO n>=1)&&decide (nO n<=6))=true:=ho;simpa using ho
theorem em_kind (me:za.M) (F:Nat) (hF:4194304<=F) (m:EmM) {u:Int} (hu:1<=u) (hu2:u<=1000000000000000000000000) (hm:m.2.2.1=mk u) {dims b:Nat} (hd:dims<=4) {n:zr.T} {ks:List Tree} {s:EmS} (hw:WF dims (.nd n ks)) (h:KidsOK me m u dims b ks) (hr:Room s ((yt ks).length+1)) :
  za.d50 me F (get .fnb wj (nK n).toNat) (emW m s,n,kps b ks,())=some ((),(emW m (emN u n (ks.map (em u)) s),())):=by
 have hg:ub n=true:=hw.good.1;obtain ⟨_,hN,hN2,hkids,hop,_,_,_⟩:=wb (v8.1 hw).1.2;have hN3:=S2 hd hN2 hg;have har:=fun (k:Int) (h:nK n=k)=>hw.arK (k:=k) h
 have hlen:ks.length<=1024:=by
  have h1:=RI hg hkids;have h2:ks.length=ar n:=(v8.1 hw).1.1;omega
 have z:∀k:Int,nK n=k->(0:Nat)=(bif decide ((get yG we k.toNat).1>=0) then (get yG we k.toNat).1.toNat else (nC n).toNat)->ks=[]:=fun k h e=>by
  have:=har k h;exact List.eq_nil_of_length_eq_zero (this.trans e.symm)
 have hof:yy.sh F n.2.1=some ((mk (nN n),()),()):=uS F (v:=nN n) (by omega) (by omega);have hb4:4096<F:=by omega
 have hb16:16384<F:=by omega
 have hall:=em_all me F hb4 m u dims h (hr.le (by omega)) hlen;have hua:=VO (l:=16) ks (fun k hk=>u6 (u:=u) (dims:=dims) k ((v8.1 hw).2 k hk)) s;have hcs:(ks.map cnt).sum<=2*(yt ks).length:=by
  have:∀l:List Tree,(∀k∈l,WF dims k)->(l.map cnt).sum<=2*(yt l).length:=by
   intro l;induction l with
   | nil=>intro _; simp
   | cons k l ih =>
    intro hl;have h1:=uy k (hl k (by simp));have h2:=ih fun x hx=>hl x (by simp[hx])
    rw[xD,List.length_append];unfold Tree.size at h1;simp only[List.map_cons,List.sum_cons];omega
  exact this ks fun k hk=>(v8.1 hw).2 k hk
 have ra:Room (tk (ks.map (em u)) s) 1:=hr.up hua hcs;have simp_:∀k:Int,nK n=k->5<=k->k<=8->lkI n.1 [(5,4),(6,5),(7,6),(8,7)]=k-1->zZ.sh me F (emW m s) n (kps b ks)=some ((),(emW m (wP (tk (ks.map (em u)) s) (k-1) 0),())):=by
  intro k hk _ _ hl;unfold zZ.sh;rw[hall,zD,hl];simp only;rw[U2 F m _ (k-1) 0 ra,zD]
 have hF16:(nT n).length<=16:=qI (v8.1 hw).1.2;rcases tu hg with hk | hk | hk | hk | hk | hk | hk | hk | hk | hk | hk | hk | hk | hk | hk | hk
 ·have:=z 1 hk rfl; subst this
  rw[show (nK n).toNat=1 by rw[hk]; rfl,show get .fnb wj 1=x5 from rfl,SF,emN1 hk];unfold yb.sh;rw[hof,zD,TL F hb16 m s 1 (mk (nN n)) _ (hr.le (by omega))]
 ·have:=z 2 hk rfl; subst this
  rw[show (nK n).toNat=2 by rw[hk]; rfl,show get .fnb wj 2=wd from rfl,Qj,emN2 hk];have hi1:inR (nN n)=true:=by unfold inR; simp; omega
  have hi2:inR u=true:=by unfold inR; simp; omega
  unfold yi.sh;rw[hof,zD,show (emW m s).2.2.1=mk u from hm];simp only;rw[VM F (wz hi1) (wz hi2),zD,wI,wI];simp only;rw[TL F hb16 m s 1 (vz (nN n*u)) _ (hr.le (by omega))]
 ·have:=z 3 hk rfl; subst this
  rw[show (nK n).toNat=3 by rw[hk]; rfl,show get .fnb wj 3=xi from rfl,YA,emN3 hk];unfold zO.sh;rw[show n.1=3 from hk,show ((3:Int)==4)=false from rfl,cond_false,U2 F m s 2 n.2.1 (hr.le (by omega)),zD]
 ·have:=z 4 hk rfl; subst this
  rw[show (nK n).toNat=4 by rw[hk]; rfl,show get .fnb wj 4=xi from rfl,YA,emN4 hk];unfold zO.sh;rw[show n.1=4 from hk,show ((4:Int)==4)=true from rfl,cond_true,U2 F m s 3 n.2.1 (hr.le (by omega)),zD]
 ·rw[show (nK n).toNat=5 by rw[hk]; rfl,show get .fnb wj 5=yH from rfl,qp,emN5 hk]
  exact simp_ 5 hk (by omega) (by omega) (by rw[show n.1=5 from hk]; rfl)
 ·rw[show (nK n).toNat=6 by rw[hk]; rfl,show get .fnb wj 6=yH from rfl,qp,emN6 hk]
  exact simp_ 6 hk (by omega) (by omega) (by rw[show n.1=6 from hk]; rfl)
 ·rw[show (nK n).toNat=7 by rw[hk]; rfl,show get .fnb wj 7=yH from rfl,qp,emN7 hk]
  exact simp_ 7 hk (by omega) (by omega) (by rw[show n.1=7 from hk]; rfl)
 ·rw[show (nK n).toNat=8 by rw[hk]; rfl,show get .fnb wj 8=yH from rfl,qp,emN8 hk]
  exact simp_ 8 hk (by omega) (by omega) (by rw[show n.1=8 from hk]; rfl)
 ·obtain ⟨h2,_,_⟩:=hw.several (.inl hk)
  have h2:2<=ks.length:=h2;rw[show (nK n).toNat=9 by rw[hk]; rfl,show get .fnb wj 9=xn from rfl,Xl,emN9 hk];exact WA me F hb16 m u dims h (hr.le (by omega)) (by omega) hlen (.inr ⟨by rw[show n.1=9 from hk]; decide,rfl⟩)
 ·obtain ⟨h2,_,_⟩:=hw.several (.inr hk)
  have h2:2<=ks.length:=h2;rw[show (nK n).toNat=10 by rw[hk]; rfl,show get .fnb wj 10=xn from rfl,Xl,Rq hk];exact WA me F hb16 m u dims h (hr.le (by omega)) (by omega) hlen (.inl ⟨hk,rfl⟩)
 ·rw[show (nK n).toNat=11 by rw[hk]; rfl,show get .fnb wj 11=xL from rfl,Rw,Rp hk]
  unfold yu.sh;rw[hall,zD,show n.1=11 from hk,show ((11:Int)==12)=false from rfl,cond_false,hof,zD];simp only;rw[TL F hb16 m _ 10 (mk (nN n)) _ ra]
 ·rw[show (nK n).toNat=12 by rw[hk]; rfl,show get .fnb wj 12=xL from rfl,Rw,Ro hk]
  unfold yu.sh;rw[hall,zD,show n.1=12 from hk,show ((12:Int)==12)=true from rfl,cond_true,hof,zD];simp only;rw[TL F hb16 m _ 11 (mk (nN n)) _ ra]
 ·rw[show (nK n).toNat=13 by rw[hk]; rfl,show get .fnb wj 13=xq from rfl,WG,Rn hk]
  unfold z6.sh;rw[hall,zD,show n.1=13 from hk,show ((13:Int)==14)=false from rfl,cond_false];simp only;rw[scl_s F hF m _ 12 (nT n) _ ra hF16]
 ·rw[show (nK n).toNat=14 by rw[hk]; rfl,show get .fnb wj 14=xq from rfl,WG,Rm hk]
  unfold z6.sh;rw[hall,zD,show n.1=14 from hk,show ((14:Int)==14)=true from rfl,cond_true];simp only;rw[scl_s F hF m _ 13 (nT n) _ ra hF16]
 ·rw[show (nK n).toNat=15 by rw[hk]; rfl,show get .fnb wj 15=wq from rfl,d50_off,Rl hk]
  unfold yA.sh;rw[hall,zD];simp only;rw[U2 F m _ 14 n.2.1 ra,zD]
 ·obtain ⟨x,y,w,rfl⟩:=three (show ks.length=3 from har 16 hk)
  obtain ⟨o1,o2⟩:=op_of hk hop;rw[show (nK n).toNat=16 by rw[hk]; rfl,show get .fnb wj 16=wk from rfl,zac,Rk hk];rw[xD,xD,uM] at hr;exact em_test me F hb16 m u dims h (hr.le (by simp only[List.length_append]; unfold Tree.size; omega)) hN hN3 o1 o2
theorem S0 (F:Nat) (hF:4194304<=F) (m:EmM) {u:Int} (hu:1<=u) (hu2:u<=1000000000000000000000000) (hm:m.2.2.1=mk u) {T:Tree} (hT:T.size<=1024) (hp:m.1.2.2.2=T.flat) (hf:m.2.1=vS 0 T.subs) (ho:m.2.2.2.2=wj) {dims:Nat} (hd:dims<=4) :
  ∀(i:Nat) (t:Tree) (b:Nat) (s:EmS),t.size<=i->WF dims t->AtT T t b->Room s t.size->za.it F i (emW m s) ((b:Int)+(t.size:Int)-1)=some ((),(emW m (em u t s),()))
 | 0,t,b,s,hi,_,_,_=>by have:=vU t; omega
 | i+1,t,b,s,hi,hw,ha,hr=>by
  obtain ⟨n,ks⟩:=t;have hsz:(Tree.nd n ks).size=(yt ks).length+1:=tl n ks;rw[hsz] at hi hr;have hkids:KidsOK (za.it F i) m u dims b ks:=by
   intro pre k post e;have hwk:WF dims k:=(v8.1 hw).2 k (by rw[e]; simp);refine ⟨hwk,fun s' hs'=>?_⟩;have hak:AtT T k (b+(yt pre).length):=by rw[e] at ha; exact ha.kid
   have hki:k.size<=i:=by
    have:=Tt (ks:=ks) (k:=k) (by rw[e]; simp);omega
   exact S0 F hF m hu hu2 hm hT hp hf ho hd i k _ s' hki hwk hak hs'
  have hle:=ha.le;have hnode:=ha.node;rw[<-hp] at hnode;have hnl:=tN hnode;have hg:ub n=true:=hw.good.1;have hgk:=(uL.1 hg);show za.sh0 (za.it F i) F (emW m s) ((b:Int)+((Tree.nd n ks).size:Int)-1)=_;unfold za.sh0;have e1:(b:Int)+((Tree.nd n ks).size:Int)-1=((b+(Tree.nd n ks).size-1:Nat):Int):=by omega
  rw[yT (by omega) (by omega)];rw[show (b:Int)+((Tree.nd n ks).size:Int)-1-1=(b:Int)+((yt ks).length:Int)-1 by omega,e1];have hkl:ks.length<=1024:=by have:=uf ks; omega
  refine (kids_l2 (za.it F i) F _ m m.2.2.2.1.2.2.1 s.1 s.2.1 s.2.2 hT ha hf ks [] [] F (by simp; rfl) rfl (by omega) (by simp)).trans ?_;simp only[List.nil_append];rw[T6 F _ (by rw[List.length_reverse,qh]; omega) (by rw[List.length_reverse,qh]; omega),zD,List.reverse_reverse];have hget:get zr m.1.2.2.2 ((b+(Tree.nd n ks).size-1:Nat):Int).toNat=n:=by
   show m.1.2.2.2.getD (b+(Tree.nd n ks).size-1) _=n;rw[List.getD_eq_getElem?_getD,hnode]; rfl
  rw[show (emZ m).1.2.2.2=m.1.2.2.2 from rfl,yZ hnl,hget,show (emZ m).2.2.2.2=wj from ho,show idx n.1 wj.length=true from Wi (by show 0<=nK n; omega) (by show nK n<17; omega)];simp only[cond_true];have key:=em_kind (za.it F i) F hF m hu hu2 hm hd hw hkids hr;rw[Rj];have e9:(((emZ m).1,(emZ m).2.1,(emZ m).2.2.1,((emZ m).2.2.2.1.1,(emZ m).2.2.2.1.2.1,m.2.2.2.1.2.2.1,s.1,s.2.1,s.2.2),wj):EmM)=emW m s:=by rw[<-ho]; rfl
  rw[e9,key,zD]
theorem UP (F:Nat) {R:Type} (k0:zL.l10.K0 R) (L:List xd.T) (N:Int) (p:zI.T) (r2:zi.T) (m:EmM) (G:List Int->Option R) (hG:∀i x sz,k0 L N i x p r2 (emZ m) sz [] [] []=G sz):∀(xs:List xd.T) (i:Int) (sz:List Int),sz.length+xs.length<=4194000->
  zL.l10.rg F k0 L N xs i p r2 (emZ m) sz [] [] []=G (sz++xs.map (·.2))
 | [],i,sz,_=>by
  show k0 L N i _ p r2 (emZ m) sz [] [] []=_;rw[hG]; simp
 | x::xs,i,sz,h=>by
  simp only[List.length_cons] at h;have ih:=UP F k0 L N p r2 m G hG xs (i+1) (sz++[x.2]) (by simp; omega);unfold zL.l10.rg;rw[wU (by simp; omega),cond_true];refine Eq.trans ih ?_;simp
def uB (p:zI.T) (t:Tree):zi.T:=(p.2.2.1,vg t,p.2.1.map (·.2),em (un t) t ([],[],[]))
def tQ (p:zI.T) (t:Tree):zi.T×Int×Int:=bif (wG p.2.1 t).2.2 != 0 then ((0,0,[],[],[],[]),(wG p.2.1 t).2.1,(wG p.2.1 t).2.2) else (uB p t,0,0)
theorem Tz {p:zI.T} {t:Tree} (h:(wG p.2.1 t).2.2=0):tQ p t=(uB p t,0,0):=by
 unfold tQ; rw[h]; rfl
theorem zaE (F:Nat) (hF:4194304<=F) {p:zI.T} {t:Tree} (hg:Good p t) (hU:yV.sh F p=some (((wG p.2.1 t).1,(wG p.2.1 t).2.1,(wG p.2.1 t).2.2,()),())) :
  zL.sh F p=some (((tQ p t).1,(tQ p t).2.1,(tQ p t).2.2,()),()):=by
 have hFb:4096<F:=by omega
 unfold zL.sh;rw[hU,zD];simp only;cases he:((wG p.2.1 t).2.2 != 0) with
 | true =>
  rw[cond_true];unfold tQ;rw[he]; rfl
 | false =>
  have h0:(wG p.2.1 t).2.2=0:=by simpa using he
  obtain ⟨_,hdeep,_,hur⟩:=XN h0;have hu:=XM hdeep;obtain ⟨hd1,hd2,_⟩:=ug hg.head;have hs:t.size<=1024:=by unfold Tree.size; rw[hg.flat]; exact hg.len
  rw[cond_false,VI F hFb hg,zD];simp only;rw[show yh.sh F (p,vS 0 t.subs,(wG p.2.1 t).1,(0,0,[],[],[],[]),[])=some ((wj,()),((p,vS 0 t.subs,(wG p.2.1 t).1,(0,0,[],[],[],[]),[]),())) from rfl,zD,WN F hFb hg,zD];simp only;refine (zL.l10.rg_eq F _ p.2.1 _ rfl (by omega) p.2.1 0 F _ _ _ _ _ _ _ rfl (by omega)).trans ?_;refine (UP F _ p.2.1 _ p (0,0,[],[],[],[]) (p,vS 0 t.subs,(wG p.2.1 t).1,(p.2.2.1,vg t,[],[],[],[]),wj)
   (fun sz=>oB (za.sh F (p,vS 0 t.subs,(wG p.2.1 t).1,(p.2.2.1,vg t,sz,[],[],[]),wj) (i64.wrap ((p.2.2.2.length:Int)-1))) fun c_6=>some ((c_6.2.1.2.2.2.1,0,0,()),())) (fun _ _ _=>rfl) p.2.1 0 [] (by simp; omega)).trans ?_
  rw[List.nil_append];have hpos:=vU t;have hsz:(p.2.2.2.length:Int)-1=((0:Nat):Int)+(t.size:Int)-1:=by unfold Tree.size; rw[hg.flat]; omega
  have hn:=S0 F hF (p,vS 0 t.subs,(wG p.2.1 t).1,(p.2.2.1,vg t,p.2.1.map (·.2),[],[],[]),wj) hu.1 hu.2 (by rw[hur]) hs hg.flat.symm rfl rfl hd2 F t 0 ([],[],[]) (by omega) hg.wf (AtT.self t) ⟨by simp; omega,by simp; omega,by simp; omega,by simp⟩
  simp only;rw[hsz,yT (by omega) (by omega)];show oB (za.it F F (emW (p,vS 0 t.subs,(wG p.2.1 t).1,(p.2.2.1,vg t,p.2.1.map (·.2),[],[],[]),wj) ([],[],[])) _) _=_
  rw[hn,zD,Tz h0];rfl
theorem Emit_eq {p:zI.T} {t:Tree} (hg:Good p t):zL.sh FU p=some (((tQ p t).1,(tQ p t).2.1,(tQ p t).2.2,()),()):=zaE FU (by decide) hg (RJ hg)
theorem UG (F:Nat) {p:zI.T} (h:(xO p).2≠0) (hU:yV.sh F p=some (((0,0),(xO p).1,(xO p).2,()),())):zL.sh F p=some (((0,0,[],[],[],[]),(xO p).1,(xO p).2,()),()):=by
 unfold zL.sh;rw[hU,zD];simp only;rw[show ((xO p).2 != 0)=true by simpa using h]; rfl
theorem zaF {p:zI.T} (h:(xO p).2≠0):zL.sh FU p=some (((0,0,[],[],[],[]),(xO p).1,(xO p).2,()),()):=UG FU h (TW h)
abbrev iO (c:zM.T):Int:=c.1
abbrev iA (c:zM.T):Int:=c.2.1
abbrev iS (c:zM.T):Int:=c.2.2
def WR (d nc ns:Nat) (c:zM.T):Prop :=
 ((iO c=1\/iO c=10\/iO c=11\/(16<=iO c/\iO c<=21))/\iA c<nc)\/((iO c=2\/iO c=3)/\iA c<d)\/((iO c=12\/iO c=13)/\iA c<ns)\/(iO c=14/\iA c<=10000)\/(((4<=iO c/\iO c<=9)\/iO c=15)/\iA c=0)
structure InsOK (d nc ns:Nat) (c:zM.T):Prop where
 a:0<=iA c
 s:0<=iS c
 b:WR d nc ns c
 z:iO c<15->iS c=0
theorem InsOK.mono {d nc ns nc' ns':Nat} {c:zM.T} (h:InsOK d nc ns c) (h1:nc<=nc') (h2:ns<=ns'):InsOK d nc' ns' c:=by
 obtain ⟨a,s,b,z⟩:=h;refine ⟨a,s,?_,z⟩;unfold WR at*;rcases b with ⟨x,y⟩ | ⟨x,y⟩ | ⟨x,y⟩ | ⟨x,y⟩ | ⟨x,y⟩
 ·exact .inl ⟨x,by omega⟩
 ·exact .inr (.inl ⟨x,y⟩)
 ·exact .inr (.inr (.inl ⟨x,by omega⟩))
 ·exact .inr (.inr (.inr (.inl ⟨x,y⟩)))
 ·exact .inr (.inr (.inr (.inr ⟨x,y⟩)))
def SegOK (d nc ns:Nat) (l:List zM.T):Prop:=∀(i:Nat) (c:zM.T),l[i]?=some c->InsOK d nc ns c/\iS c+(i:Int)+1<=(l.length:Int)
theorem SegOK.mono {d nc ns nc' ns':Nat} {l:List zM.T} (h:SegOK d nc ns l) (h1:nc<=nc') (h2:ns<=ns'):SegOK d nc' ns' l:=fun i c hc=>⟨(h i c hc).1.mono h1 h2,(h i c hc).2⟩
theorem SegOK.app {d nc ns:Nat} {l k:List zM.T} (h1:SegOK d nc ns l) (h2:SegOK d nc ns k):SegOK d nc ns (l++k):=by
 intro i c hc;rw[List.length_append];rw[List.getElem?_append] at hc;split at hc
 ·obtain ⟨a,b⟩:=h1 i c hc
  exact ⟨a,by omega⟩
 ·obtain ⟨a,b⟩:=h2 _ c hc
  exact ⟨a,by omega⟩
theorem SegOK.one {d nc ns:Nat} {op arg:Int} (ha:0<=arg) (hb:WR d nc ns (op,arg,0)):SegOK d nc ns [(op,arg,0)]:=by
 intro i c hc;cases i with
 | zero=>simp at hc; subst hc; exact ⟨⟨ha,Int.le_refl 0,hb,fun _=>rfl⟩,by show (0:Int)+0+1<=1; omega⟩
 | succ i=>simp at hc
theorem SegOK.nil {d nc ns:Nat}:SegOK d nc ns []:=fun i c hc=>by simp at hc
theorem UR {d nc ns:Nat} {l:List zM.T} {j:Nat} {c:zM.T} {v:Int} (h:SegOK d nc ns l) (hj:l[j]?=some c) (ho:15<=iO c) (hv:0<=v) (hv2:v+j+1<=l.length):SegOK d nc ns (uP l j v):=by
 have hg:get zM l j=c:=by
  show l.getD j _=c;rw[List.getD_eq_getElem?_getD,hj]; rfl
 intro i x hx;rw[Zi];unfold uP at hx;rw[hg] at hx;by_cases e:j=i
 ·subst e
  rw[List.getElem?_set_self (tN hj)] at hx;simp at hx;subst hx;obtain ⟨⟨a,s,b,z⟩,_⟩:=h j c hj;exact ⟨⟨a,hv,b,fun hlt=>by have hlt:iO c<15:=hlt; omega⟩,hv2⟩
 ·rw[List.getElem?_set_ne e] at hx
  exact h i x hx
def Seg (d:Nat) (s s':EmS):Prop:=∃r,s'.2.2=s.2.2++r/\SegOK d s'.1.length s'.2.1.length r
theorem Seg.trans {d:Nat} {a b c:EmS} {x k l:Nat} (h1:Seg d a b) (h2:Seg d b c) (hu:Up b c x k l):Seg d a c:=by
 obtain ⟨r,e1,s1⟩:=h1;obtain ⟨q,e2,s2⟩:=h2;obtain ⟨y,hy⟩:=hu.C;obtain ⟨z,hz⟩:=hu.S;exact ⟨r++q,by rw[e2,e1,List.append_assoc],(s1.mono (by rw[hy]; simp) (by rw[hz]; simp)).app s2⟩
theorem tm {d:Nat} {s:EmS} {op arg:Int} (ha:0<=arg) (hb:WR d s.1.length s.2.1.length (op,arg,0)):Seg d s (wP s op arg):=⟨[(op,arg,0)],rfl,SegOK.one ha hb⟩
theorem Yc {d:Nat} {s:EmS} {op:Int} {w:zf.T} (ho:op=1\/op=10\/op=11\/(16<=op/\op<=21)):Seg d s (wY s op w) :=
 ⟨_,rfl,SegOK.one (Int.natCast_nonneg _) (.inl ⟨ho,by
  have:=(Rx s.1 w).1;show ((ZE s.1 w).1:Int)<((ZE s.1 w).2.length:Int);omega⟩)⟩
theorem SU {d:Nat} {s:EmS} {op:Int} {t:List zo.T} (ho:op=12\/op=13):Seg d s (XV s op t) :=
 ⟨_,rfl,SegOK.one (Int.natCast_nonneg _) (.inr (.inr (.inl ⟨ho,by
  have:=(VU s.2.1 t).1;show ((ZA s.2.1 t).1:Int)<((ZA s.2.1 t).2.length:Int);omega⟩)))⟩
theorem Seg.refl {d:Nat} {s:EmS}:Seg d s s:=⟨[],by simp,SegOK.nil⟩
theorem SV {u:Int} {d dims:Nat}:∀(ks:List Tree),(∀k∈ks,WF dims k/\∀s,Seg d s (em u k s))->∀s,Seg d s (tk (ks.map (em u)) s)
 | [],_,s=>Seg.refl
 | k::r,h,s=>by
  have h1:=h k (by simp);have hr:∀x∈r,WF dims x/\∀s,Seg d s (em u x s):=fun x hx=>h x (by simp[hx])
  exact (h1.2 s).trans (SV r hr (em u k s)) (VO (l:=16) r (fun x hx=>u6 x (hr x hx).1) (em u k s))
theorem VT {u:Int} {d dims:Nat} {op:Int} (ho:4<=op/\op<=9):∀(ks:List Tree),(∀k∈ks,WF dims k/\∀s,Seg d s (em u k s))->∀s,Seg d s ((ks.map (em u)).foldl (fun s k=>wP (k s) op 0) s)
 | [],_,s=>Seg.refl
 | k::r,h,s=>by
  have h1:=h k (by simp);have hr:∀x∈r,WF dims x/\∀s,Seg d s (em u x s):=fun x hx=>h x (by simp[hx])
  have h2:Seg d s (wP (em u k s) op 0):=(h1.2 s).trans (tm (Int.le_refl 0) (.inr (.inr (.inr (.inr ⟨.inl ho,rfl⟩))))) (vn _ op 0 16);exact h2.trans (VT ho r hr _) (YF (l:=16) r (fun x hx=>u6 x (hr x hx).1) _)
theorem seg_tst {u:Int} {d dims:Nat} {n:zr.T} {a b c:Tree} (ha:WF dims a/\∀s,Seg d s (em u a s)) (hb:WF dims b/\∀s,Seg d s (em u b s)) (hc:WF dims c/\∀s,Seg d s (em u c s)) (ho:1<=nO n/\nO n<=6) (s:EmS):Seg d s (UI n ([a,b,c].map (em u)) s):=by
 have u1:=u6 (u:=u) a ha.1 s;have u2:=tY (em u a s) (15+nO n) (mk (nN n)) 16;have u3:=u6 (u:=u) b hb.1 (wY (em u a s) (15+nO n) (mk (nN n)));have u4:=vn (em u b (wY (em u a s) (15+nO n) (mk (nN n)))) 15 0 16;have u5:=u6 (u:=u) c hc.1 (wP (em u b (wY (em u a s) (15+nO n) (mk (nN n)))) 15 0);obtain ⟨A,eA,sA⟩:=ha.2 s;obtain ⟨X,eX,sX⟩:=Yc (d:=d) (s:=em u a s) (op:=15+nO n) (w:=mk (nN n)) (.inr (.inr (.inr ⟨by omega,by omega⟩)));obtain ⟨B,eB,sB⟩:=hb.2 (wY (em u a s) (15+nO n) (mk (nN n)));obtain ⟨C,eC,sC⟩:=hc.2 (wP (em u b (wY (em u a s) (15+nO n) (mk (nN n)))) 15 0);have eX':X=[(15+nO n,((ZE (em u a s).1 (mk (nN n))).1:Int),0)]:=(List.append_cancel_left (show (em u a s).2.2++[_]=(em u a s).2.2++X from eX)).symm;have e2:UJ n ([a,b,c].map (em u)) s=em u b (wY (em u a s) (15+nO n) (mk (nN n))):=rfl;have e3:VP n ([a,b,c].map (em u)) s=em u c (wP (em u b (wY (em u a s) (15+nO n) (mk (nN n)))) 15 0):=rfl;have e1:kF ([a,b,c].map (em u)) 0 s=em u a s:=rfl;obtain ⟨y1,c1⟩:=u1.C; obtain ⟨y2,c2⟩:=u2.C; obtain ⟨y3,c3⟩:=u3.C; obtain ⟨y5,c5⟩:=u5.C;obtain ⟨z1,t1⟩:=u1.S; obtain ⟨z2,t2⟩:=u2.S; obtain ⟨z3,t3⟩:=u3.S; obtain ⟨z5,t5⟩:=u5.S;have k2:=congrArg List.length c2; have k3:=congrArg List.length c3; have k5:=congrArg List.length c5;have l2:=congrArg List.length t2; have l3:=congrArg List.length t3; have l5:=congrArg List.length t5;simp only[List.length_append] at k2 k3 k5 l2 l3 l5;have p1:(wP (em u b (wY (em u a s) (15+nO n) (mk (nN n)))) 15 0).1=(em u b (wY (em u a s) (15+nO n) (mk (nN n)))).1:=rfl
 have p2:(wP (em u b (wY (em u a s) (15+nO n) (mk (nN n)))) 15 0).2.1=(em u b (wY (em u a s) (15+nO n) (mk (nN n)))).2.1:=rfl;have p3:(wP (em u b (wY (em u a s) (15+nO n) (mk (nN n)))) 15 0).2.2=(em u b (wY (em u a s) (15+nO n) (mk (nN n)))).2.2++[(15,0,0)]:=rfl;rw[p1] at k5;rw[p2] at l5;rw[p3] at eC;unfold UI;rw[e3,e2,e1];generalize hs5:em u c (wP (em u b (wY (em u a s) (15+nO n) (mk (nN n)))) 15 0)=s5 at*;generalize hs3:em u b (wY (em u a s) (15+nO n) (mk (nN n)))=s3 at*;generalize hs2:wY (em u a s) (15+nO n) (mk (nN n))=s2 at*;generalize hs1:em u a s=s1 at*;have hK:s5.2.2=s.2.2++(A++(X++(B++([(15,0,0)]++C)))):=by
  rw[eC,eB,eX,eA]; simp
 have n1:s1.2.2.length=s.2.2.length+A.length:=by rw[eA]; simp
 have nX:X.length=1:=by rw[eX']; rfl
 have n3:s3.2.2.length=s.2.2.length+A.length+1+B.length:=by rw[eB,eX,eA]; simp[nX]; omega
 have n5:s5.2.2.length=s.2.2.length+A.length+1+B.length+1+C.length:=by rw[hK]; simp[nX]; omega
 have hseg:SegOK d s5.1.length s5.2.1.length (A++(X++(B++([(15,0,0)]++C)))):=by
  refine (sA.mono (by omega) (by omega)).app ((sX.mono (by omega) (by omega)).app ((sB.mono (by omega) (by omega)).app (SegOK.app (SegOK.one (Int.le_refl 0) (.inr (.inr (.inr (.inr ⟨.inr rfl,rfl⟩))))) sC)))
 refine ⟨uP (uP (A++(X++(B++([(15,0,0)]++C)))) A.length ((B.length:Int)+1)) (A.length+1+B.length) (C.length:Int),?_,?_⟩
 ·simp only
  rw[hK,Zj (by omega),Zj (by omega)];rw[show s1.2.2.length-s.2.2.length=A.length by omega,show s3.2.2.length-s.2.2.length=A.length+1+B.length by omega];rw[<-hK,show (s3.2.2.length:Int)-(s1.2.2.length:Int)=(B.length:Int)+1 by omega,show (s5.2.2.length:Int)-(s3.2.2.length:Int)-1=(C.length:Int) by omega]
 ·have hlen:(A++(X++(B++([(15,0,0)]++C)))).length=A.length+1+B.length+1+C.length:=by simp[nX]; omega
  have g1:(A++(X++(B++([(15,0,0)]++C))))[A.length]?=some (15+nO n,((ZE s1.1 (mk (nN n))).1:Int),0):=by
   rw[List.getElem?_append_right (Nat.le_refl _),Nat.sub_self,eX']; rfl
  have h1:=UR (v:=(B.length:Int)+1) hseg g1 (by show 15<=15+nO n; omega) (by omega) (by rw[hlen]; omega);have g2:(uP (A++(X++(B++([(15,0,0)]++C)))) A.length ((B.length:Int)+1))[A.length+1+B.length]?=some (15,0,0):=by
   unfold uP;rw[List.getElem?_set_ne (by omega),List.getElem?_append_right (by omega),List.getElem?_append_right (by omega),List.getElem?_append_right (by omega)];rw[show A.length+1+B.length-A.length-X.length-B.length=0 by omega]; rfl
  exact UR h1 g2 (by show (15:Int)<=15; omega) (by omega) (by rw[Zi,hlen]; omega)
theorem em_seg {u:Int} {dims:Nat} (t:Tree):WF dims t->∀s,Seg dims s (em u t s):=by
 refine Tree.ind (P:=fun t=>WF dims t->∀s,Seg dims s (em u t s)) (fun n ks ih hw s=>?_) t;have hk:∀k∈ks,WF dims k/\∀s,Seg dims s (em u k s):=fun k hk=>⟨(v8.1 hw).2 k hk,ih k hk ((v8.1 hw).2 k hk)⟩
 have hg:ub n=true:=hw.good.1;have har:=fun (k:Int) (h:nK n=k)=>hw.arK (k:=k) h
 obtain ⟨_,hN,hN2,hkids,hop,_,_,_⟩:=wb (v8.1 hw).1.2;have hall:=SV ks hk s;rw[Rj];rcases tu hg with h | h | h | h | h | h | h | h | h | h | h | h | h | h | h | h
 ·rw[emN1 h]; exact Yc (.inl rfl)
 ·rw[emN2 h]; exact Yc (.inl rfl)
 ·rw[qg h] at hN2
  have hN2:nN n<=(dims:Int)-1:=hN2;rw[emN3 h]; exact tm hN (.inr (.inl ⟨.inl rfl,by show nN n<(dims:Int); omega⟩))
 ·rw[qg h] at hN2
  have hN2:nN n<=(dims:Int)-1:=hN2;rw[emN4 h]; exact tm hN (.inr (.inl ⟨.inr rfl,by show nN n<(dims:Int); omega⟩))
 ·rw[emN5 h]; exact hall.trans (tm (Int.le_refl 0) (.inr (.inr (.inr (.inr ⟨.inl (by show 4<=(4:Int)/\(4:Int)<=9; decide),rfl⟩))))) (vn _ _ _ 16)
 ·rw[emN6 h]; exact hall.trans (tm (Int.le_refl 0) (.inr (.inr (.inr (.inr ⟨.inl (by show 4<=(5:Int)/\(5:Int)<=9; decide),rfl⟩))))) (vn _ _ _ 16)
 ·rw[emN7 h]; exact hall.trans (tm (Int.le_refl 0) (.inr (.inr (.inr (.inr ⟨.inl (by show 4<=(6:Int)/\(6:Int)<=9; decide),rfl⟩))))) (vn _ _ _ 16)
 ·rw[emN8 h]; exact hall.trans (tm (Int.le_refl 0) (.inr (.inr (.inr (.inr ⟨.inl (by show 4<=(7:Int)/\(7:Int)<=9; decide),rfl⟩))))) (vn _ _ _ 16)
 ·rw[emN9 h]
  cases ks with
  | nil=>exact Seg.refl
  | cons k r =>
   have hr:∀x∈r,WF dims x/\∀s,Seg dims s (em u x s):=fun x hx=>hk x (by simp[hx])
   exact ((hk k (by simp)).2 s).trans (VT (by decide) r hr _) (YF (l:=16) r (fun x hx=>u6 x (hr x hx).1) _)
 ·rw[Rq h]
  cases ks with
  | nil=>exact Seg.refl
  | cons k r =>
   have hr:∀x∈r,WF dims x/\∀s,Seg dims s (em u x s):=fun x hx=>hk x (by simp[hx])
   exact ((hk k (by simp)).2 s).trans (VT (by decide) r hr _) (YF (l:=16) r (fun x hx=>u6 x (hr x hx).1) _)
 ·rw[Rp h]; exact hall.trans (Yc (.inr (.inl rfl))) (tY _ _ _ 16)
 ·rw[Ro h]; exact hall.trans (Yc (.inr (.inr (.inl rfl)))) (tY _ _ _ 16)
 ·rw[Rn h]; exact hall.trans (SU (.inl rfl)) (VN _ _ _ (qI (v8.1 hw).1.2))
 ·rw[Rm h]; exact hall.trans (SU (.inr rfl)) (VN _ _ _ (qI (v8.1 hw).1.2))
 ·rw[qg h] at hN2
  have hN2:nN n<=10000:=hN2;rw[Rl h]; exact hall.trans (tm hN (.inr (.inr (.inr (.inl ⟨rfl,hN2⟩))))) (vn _ _ _ 16)
 ·obtain ⟨a,b,c,rfl⟩:=three (show ks.length=3 from har 16 h)
  rw[Rk h]; exact seg_tst (hk a (by simp)) (hk b (by simp)) (hk c (by simp)) (op_of h hop) s
end Go.VS
