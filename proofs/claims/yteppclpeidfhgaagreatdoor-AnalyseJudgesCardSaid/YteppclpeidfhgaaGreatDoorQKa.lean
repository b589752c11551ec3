/- Plain laws, joined from smaller texts. -/
import Derived.Test.YteppclpeidfhgaaGreatDoorQR1
set_option linter.unusedVariables false
set_option linter.unusedSimpArgs false
set_option linter.unusedSectionVars false
set_option maxRecDepth 100000
namespace Go.VS
open Go IntKind
def wfW (w:Int×Int):Prop:=-9223372036854775808<=w.1/\w.1<9223372036854775808/\0<=w.2/\w.2<18446744073709551616
def val (w:Int×Int):Int:=w.1*18446744073709551616+w.2
def mk (v:Int):Int×Int:=(v/18446744073709551616,v%18446744073709551616)
def inR (v:Int):Bool:=decide (-170141183460469231731687303715884105728<=v)&&decide (v<170141183460469231731687303715884105728)
def wE (v:Int):Int×Int:=bif inR v then mk v else (0,0)
def wu (v:Int):Int:=bif inR v then 0 else 10
theorem vZ {v:Int}:inR v=true↔-170141183460469231731687303715884105728<=v/\v<170141183460469231731687303715884105728:=by simp[inR]
theorem uH {v:Int}:inR v=false↔(v < -170141183460469231731687303715884105728\/170141183460469231731687303715884105728<=v):=by
 cases h:inR v with
 | true=>simp; have:=vZ.1 h; omega
 | false =>
  simp;rcases Int.lt_or_le v (-170141183460469231731687303715884105728) with h' | h'
  ·exact .inl h'
  ·rcases Int.lt_or_le v 170141183460469231731687303715884105728 with h'' | h''
   ·rw[vZ.2 ⟨h',h''⟩] at h; cases h
   ·exact .inr h''
theorem ZW {w:Int×Int} (h:wfW w):mk (val w)=w:=by
 obtain ⟨a,b⟩:=w;obtain ⟨h1,h2,h3,h4⟩:=h;simp only[mk,val] at*;ext<;>simp only<;>omega
theorem wN {v:Int}:val (mk v)=v:=by simp only[val,mk]; omega
theorem vm {v:Int} (h:inR v=true):wfW (mk v):=by
 have:=vZ.1 h;simp only[wfW,mk];omega
theorem Yv {w:Int×Int} (h:wfW w):inR (val w)=true:=by
 rw[vZ];obtain ⟨h1,h2,h3,h4⟩:=h;simp only[val];omega
theorem wf_resW (v:Int):wfW (wE v):=by
 unfold wE;cases h:inR v with
 | true=>exact vm h
 | false=>simp[wfW]
theorem Uf (n:Int):∃k,i64.wrap n=n+18446744073709551616*k/\-9223372036854775808<=i64.wrap n/\i64.wrap n<9223372036854775808:=by
 rw[uN];split
 ·exact ⟨-(n/18446744073709551616)-1,by omega,by omega,by omega⟩
 ·exact ⟨-(n/18446744073709551616),by omega,by omega,by omega⟩
theorem of_eq (F:Nat) {v:Int} (h1:-9223372036854775808<=v) (h2:v<9223372036854775808):z8.sh F v=some ((mk v,()),()):=by
 unfold z8.sh;have e:(2^(min (63:Int).toNat IntKind.i64.bits):Int)=9223372036854775808:=by decide
 have e2:v.fdiv 9223372036854775808=v/18446744073709551616:=by rw[Int.fdiv_eq_ediv_of_nonneg _ (by omega)]; omega
 rw[e,e2,wF];rfl
theorem Yw {v:Int} (h1:-9223372036854775808<=v) (h2:v<9223372036854775808):inR v=true:=by rw[vZ]; omega
theorem Xl (F:Nat) {x y c:Int} (h1:0<=x) (h2:0<=y) (h3:0<=c) (h4:c<=1):yq.sh F x y c=some (((x+y+c)%18446744073709551616,(x+y+c)/18446744073709551616,()),()):=by
 simp[yq.sh,h1,h2,h3,h4]
theorem Zf (F:Nat) {x y c:Int} (h1:0<=x) (h2:0<=y) (h2':y<18446744073709551616) (h3:0<=c) (h4:c<=1):zW.sh F x y c=some (((x-y-c)%18446744073709551616,(if x<y+c then 1 else 0),()),()):=by
 simp[zW.sh,h1,h2,h2',h3,h4]
theorem Uc (F:Nat) {a b:Int×Int} (ha:wfW a) (hb:wfW b):y7.sh F a b=some ((wE (val a+val b),wu (val a+val b),()),()):=by
 obtain ⟨a1,a2⟩:=a;obtain ⟨b1,b2⟩:=b;obtain ⟨h1,h2,h3,h4⟩:=ha;obtain ⟨g1,g2,g3,g4⟩:=hb;simp only at*;unfold y7.sh;simp only[wF];rw[Xl F (by omega) (by omega) (by omega) (by omega)];simp only[zQ];rw[Xl F (by omega) (by omega) (by omega) (by omega)];simp only[zQ,wE,wu,val,mk];obtain ⟨k,e1,e2,e3⟩:=Uf ((a1%18446744073709551616+b1%18446744073709551616+(a2+b2+0)/18446744073709551616)%18446744073709551616);generalize i64.wrap ((a1%18446744073709551616+b1%18446744073709551616+(a2+b2+0)/18446744073709551616)%18446744073709551616)=r at*;cases hr:inR (a1*18446744073709551616+a2+(b1*18446744073709551616+b2)) with
 | true =>
  rw[vZ] at hr;have q1:r=(a1*18446744073709551616+a2+(b1*18446744073709551616+b2))/18446744073709551616:=by omega
  have q2:(a2+b2+0)%18446744073709551616=(a1*18446744073709551616+a2+(b1*18446744073709551616+b2))%18446744073709551616:=by omega
  have hs:(decide (a1<0)==decide (b1<0)&&!(decide (r<0)==decide (a1<0)))=false:=by
   by_cases x1:a1<0<;>by_cases x2:b1<0<;>by_cases x3:r<0<;>simp[x1,x2,x3]<;>omega
  simp only[cond_true];rw[<-q1,<-q2];cases hx:(decide (a1<0)==decide (b1<0)) with
  | true =>
   rw[hx] at hs;simp only[Bool.true_and] at hs;simp only[hs,cond_true,cond_false]
  | false=>rfl
 | false =>
  rw[uH] at hr;have hs:(decide (a1<0)==decide (b1<0))=true/\(!(decide (r<0)==decide (a1<0)))=true:=by
   by_cases x1:a1<0<;>by_cases x2:b1<0<;>by_cases x3:r<0<;>simp[x1,x2,x3]<;>omega
  simp only[hs.1,hs.2,cond_true,cond_false]
theorem sub_eq (F:Nat) {a b:Int×Int} (ha:wfW a) (hb:wfW b):xW.sh F a b=some ((wE (val a-val b),wu (val a-val b),()),()):=by
 obtain ⟨a1,a2⟩:=a;obtain ⟨b1,b2⟩:=b;obtain ⟨h1,h2,h3,h4⟩:=ha;obtain ⟨g1,g2,g3,g4⟩:=hb;simp only at*;unfold xW.sh;simp only[wF];rw[Zf F (by omega) (by omega) (by omega) (by omega) (by omega)];simp only[zQ];have hbo:(a2<b2/\(if a2<b2+0 then (1:Int) else 0)=1)\/(b2<=a2/\(if a2<b2+0 then (1:Int) else 0)=0):=by split<;>omega
 generalize (if a2<b2+0 then (1:Int) else 0)=bo at*;rw[Zf F (by omega) (by omega) (by omega) (by omega) (by omega)];simp only[zQ,wE,wu,val,mk];obtain ⟨k,e1,e2,e3⟩:=Uf ((a1%18446744073709551616-b1%18446744073709551616-bo)%18446744073709551616);generalize i64.wrap ((a1%18446744073709551616-b1%18446744073709551616-bo)%18446744073709551616)=r at*;cases hr:inR (a1*18446744073709551616+a2-(b1*18446744073709551616+b2)) with
 | true =>
  rw[vZ] at hr;have q1:r=(a1*18446744073709551616+a2-(b1*18446744073709551616+b2))/18446744073709551616:=by omega
  have q2:(a2-b2-0)%18446744073709551616=(a1*18446744073709551616+a2-(b1*18446744073709551616+b2))%18446744073709551616:=by omega
  have hs:(!(decide (a1<0)==decide (b1<0))&&!(decide (r<0)==decide (a1<0)))=false:=by
   by_cases x1:a1<0<;>by_cases x2:b1<0<;>by_cases x3:r<0<;>simp[x1,x2,x3]<;>omega
  simp only[cond_true];rw[<-q1,<-q2];cases hx:(!(decide (a1<0)==decide (b1<0))) with
  | true =>
   rw[hx] at hs;simp only[Bool.true_and] at hs;simp only[hs,cond_true,cond_false]
  | false=>rfl
 | false =>
  rw[uH] at hr;have hs:(!(decide (a1<0)==decide (b1<0)))=true/\(!(decide (r<0)==decide (a1<0)))=true:=by
   by_cases x1:a1<0<;>by_cases x2:b1<0<;>by_cases x3:r<0<;>simp[x1,x2,x3]<;>omega
  simp only[hs.1,hs.2,cond_true,cond_false]
theorem wf_zero:wfW (0,0):=by simp[wfW]
theorem TQ (F:Nat) {a:Int×Int} (ha:wfW a):x8.sh F a=some ((wE (-val a),wu (-val a),()),()):=by
 unfold x8.sh;rw[sub_eq F wf_zero ha];have:val (0,0)-val a=-val a:=by simp[val]
 rw[this];rfl
def ZA (x y:Int):Int:=if x<y then -1 else if x=y then 0 else 1
theorem Wv {x y:Int} (h:x<y):ZA x y=-1:=by unfold ZA; rw[if_pos h]
theorem UK {x y:Int} (h:x=y):ZA x y=0:=by unfold ZA; rw[if_neg (by omega),if_pos h]
theorem Ww {x y:Int} (h:y<x):ZA x y=1:=by unfold ZA; rw[if_neg (by omega),if_neg (by omega)]
theorem V9 (F:Nat) {a b:Int×Int} (ha:wfW a) (hb:wfW b):xF.sh F a b=some ((ZA (val a) (val b),()),()):=by
 obtain ⟨a1,a2⟩:=a;obtain ⟨b1,b2⟩:=b;obtain ⟨h1,h2,h3,h4⟩:=ha;obtain ⟨g1,g2,g3,g4⟩:=hb;simp only at*;unfold xF.sh;simp only[Bool.and_true];by_cases x1:a1<b1
 ·have y1:(a1==b1)=false:=by rw[beq_eq_false_iff_ne]; omega
  rw[Wv (by simp only[val]; omega)];simp[y1,x1]
 ·by_cases x2:a1=b1
  ·subst x2
   by_cases x3:a2=b2
   ·subst x3
    rw[UK rfl];simp
   ·have y3:(a2==b2)=false:=by rw[beq_eq_false_iff_ne]; exact x3
    by_cases x4:a2<b2
    ·rw[Wv (by simp only[val]; omega)]
     simp[y3,x4]
    ·rw[Ww (by simp only[val]; omega)]
     simp[y3,x4]
  ·have y1:(a1==b1)=false:=by rw[beq_eq_false_iff_ne]; omega
   rw[Ww (by simp only[val]; omega)];simp[y1,x1]
theorem Tn {a b a' b':Int} (h1:a=a') (h2:b=b'):(some ((a,b,()),()):Option ((Int×Int×Unit)×Unit))=some ((a',b',()),()):=by rw[h1,h2]
theorem SK (F:Nat) {a:Int×Int} (ha:wfW a):xR.sh F a=some ((((val a).natAbs:Int)/18446744073709551616,((val a).natAbs:Int)%18446744073709551616,()),()):=by
 obtain ⟨a1,a2⟩:=a;obtain ⟨h1,h2,h3,h4⟩:=ha;simp only at*;unfold xR.sh;simp only[wF];by_cases x:a1>=0
 ·have e:((val (a1,a2)).natAbs:Int)=a1*18446744073709551616+a2:=by simp only[val]; omega
  rw[e];simp only[x,decide_true,cond_true];exact Tn (by omega) (by omega)
 ·have e:((val (a1,a2)).natAbs:Int)=-(a1*18446744073709551616+a2):=by simp only[val]; omega
  rw[e];simp only[x,decide_false,cond_false];rw[Zf F (by omega) (by omega) (by omega) (by omega) (by omega)];simp only[zQ];have hbo:(0<a2/\(if 0<a2+0 then (1:Int) else 0)=1)\/(a2=0/\(if 0<a2+0 then (1:Int) else 0)=0):=by split<;>omega
  generalize (if 0<a2+0 then (1:Int) else 0)=bo at*;rw[Zf F (by omega) (by omega) (by omega) (by omega) (by omega)];simp only[zQ];exact Tn (by omega) (by omega)
theorem join_eq (F:Nat) {b:Bool} {hi lo:Int} (h1:0<=hi) (h2:hi<18446744073709551616) (h3:0<=lo) (h4:lo<18446744073709551616) {v:Int} (hv:v=bif b then -(hi*18446744073709551616+lo) else hi*18446744073709551616+lo) :
  xU.sh F b hi lo=some ((wE v,wu v,()),()):=by
 unfold xU.sh;have e:(2^(min (63:Int).toNat IntKind.u64.bits):Int)=9223372036854775808:=by decide
 rw[e,Int.fdiv_eq_ediv_of_nonneg _ (by omega)];by_cases x:hi<9223372036854775808
 ·have e1:(hi/9223372036854775808==0)=true:=by rw[beq_iff_eq]; omega
  rw[e1,yX (by omega) (by omega)];have hw:wfW (hi,lo):=⟨by simp only; omega,x,h3,h4⟩;cases b with
  | true =>
   simp only[cond_true] at hv ⊢;rw[TQ F hw];simp only[zQ];have:v=-val (hi,lo):=by rw[hv]; rfl
   rw[this]
  | false =>
   simp only[cond_true,cond_false] at hv ⊢;have:v=val (hi,lo):=by rw[hv]; rfl
   rw[this];simp only[wE,wu,Yv hw,cond_true,ZW hw]
 ·have e1:(hi/9223372036854775808==0)=false:=by rw[beq_eq_false_iff_ne]; omega
  rw[e1];cases b with
  | true =>
   simp only[cond_true,cond_false] at hv ⊢;by_cases y:hi=9223372036854775808
   ·subst y
    by_cases z:lo=0
    ·subst z
     subst hv;rfl
    ·have e2:(lo==0)=false:=by rw[beq_eq_false_iff_ne]; exact z
     have hr:inR v=false:=by rw[uH]; omega
     simp only[wE,wu,hr,cond_false,e2,beq_self_eq_true,cond_true]
   ·have e2:(hi==9223372036854775808)=false:=by rw[beq_eq_false_iff_ne]; exact y
    have hr:inR v=false:=by rw[uH]; omega
    simp only[wE,wu,hr,cond_false,e2]
  | false =>
   simp only[cond_false] at hv ⊢;have hr:inR v=false:=by rw[uH]; omega
   simp only[wE,wu,hr,cond_false]
theorem VC {x:Int} (h1:0<=x) (h2:x<18446744073709551616):u64.wrap ((BitVec.ofInt IntKind.u64.bits x &&& BitVec.ofInt IntKind.u64.bits 4294967295).toNat:Int)=x%4294967296:=by
 obtain ⟨X,rfl⟩:=Int.eq_ofNat_of_zero_le h1;show u64.wrap ((BitVec.ofInt 64 (X:Int) &&& BitVec.ofInt 64 ((4294967295:Nat):Int)).toNat:Int)=_;rw[BitVec.ofInt_natCast,BitVec.ofInt_natCast,BitVec.toNat_and,BitVec.toNat_ofNat,BitVec.toNat_ofNat,Nat.mod_eq_of_lt (by omega:X<2^64),Nat.mod_eq_of_lt (by decide)];have:X &&& 4294967295=X%4294967296:=Nat.and_two_pow_sub_one_eq_mod X 32;rw[this,wi (by omega) (by omega)];omega
theorem Ur {x:Int} (h1:0<=x) (h2:x<18446744073709551616):u64.wrap ((BitVec.ofInt IntKind.u64.bits x ||| BitVec.ofInt IntKind.u64.bits 0).toNat:Int)=x:=by
 obtain ⟨X,rfl⟩:=Int.eq_ofNat_of_zero_le h1;show u64.wrap ((BitVec.ofInt 64 (X:Int) ||| BitVec.ofInt 64 ((0:Nat):Int)).toNat:Int)=_
 rw[BitVec.ofInt_natCast,BitVec.ofInt_natCast,BitVec.toNat_or,BitVec.toNat_ofNat,BitVec.toNat_ofNat,Nat.mod_eq_of_lt (by omega:X<2^64)];simp;rw[wi (by omega) (by omega)]
theorem zero_or {x:Int} (h1:0<=x) (h2:x<18446744073709551616):u64.wrap ((BitVec.ofInt IntKind.u64.bits 0 ||| BitVec.ofInt IntKind.u64.bits x).toNat:Int)=x:=by
 rw[BitVec.or_comm]; exact Ur h1 h2
theorem WM {x:Int} (h:0<=x):x.fdiv (2^(min (32:Int).toNat IntKind.u64.bits))=x/4294967296:=by
 have e:(2^(min (32:Int).toNat IntKind.u64.bits):Int)=4294967296:=by decide
 rw[e,Int.fdiv_eq_ediv_of_nonneg _ (by omega)]
theorem ZV {a b m n:Int} (ha:0<=a) (ha':a<=m) (hb:0<=b) (hb':b<=n):0<=a*b/\a*b<=m*n :=
 ⟨Int.mul_nonneg ha hb,Int.mul_le_mul ha' hb' hb (by omega)⟩
theorem Zq (F:Nat) {x y:Int} (h1:0<=x) (h2:x<18446744073709551616) (h3:0<=y) (h4:y<18446744073709551616) :
  y4.sh F x y=some ((x*y/18446744073709551616,x*y%18446744073709551616,()),()):=by
 unfold y4.sh;rw[VC h1 h2,VC h3 h4,WM h1,WM h3];have hx:x=x/4294967296*4294967296+x%4294967296:=by omega
 have hy:y=y/4294967296*4294967296+y%4294967296:=by omega
 have bx1:0<=x/4294967296/\x/4294967296<=4294967295:=by omega
 have bx0:0<=x%4294967296/\x%4294967296<=4294967295:=by omega
 have by1:0<=y/4294967296/\y/4294967296<=4294967295:=by omega
 have by0:0<=y%4294967296/\y%4294967296<=4294967295:=by omega
 have hxy:x*y=(x/4294967296)*(y/4294967296)*18446744073709551616+((x/4294967296)*(y%4294967296)+(x%4294967296)*(y/4294967296))*4294967296+(x%4294967296)*(y%4294967296):=by
  generalize x/4294967296=x1 at*;generalize x%4294967296=x0 at*;generalize y/4294967296=y1 at*;generalize y%4294967296=y0 at*;rw[hx,hy];simp only[Int.add_mul,Int.mul_add];have r1:x1*4294967296*(y1*4294967296)=x1*y1*18446744073709551616:=by
   rw[Int.mul_assoc,Int.mul_left_comm 4294967296,<-Int.mul_assoc]; rfl
  have r2:x1*4294967296*y0=x1*y0*4294967296:=by rw[Int.mul_right_comm]
  have r3:x0*(y1*4294967296)=x0*y1*4294967296:=by rw[Int.mul_assoc]
  rw[r1,r2,r3];omega
 have A:=ZV bx1.1 bx1.2 by1.1 by1.2;have B:=ZV bx1.1 bx1.2 by0.1 by0.2;have C:=ZV bx0.1 bx0.2 by1.1 by1.2;have D:=ZV bx0.1 bx0.2 by0.1 by0.2;rw[hxy];generalize (x/4294967296)*(y/4294967296)=a at*;generalize (x/4294967296)*(y%4294967296)=b at*;generalize (x%4294967296)*(y/4294967296)=c at*;generalize (x%4294967296)*(y%4294967296)=d at*;clear hxy hx hy bx1 bx0 by1 by0;have w1:u64.wrap a=a:=wi (by omega) (by omega);have w2:u64.wrap b=b:=wi (by omega) (by omega);have w3:u64.wrap c=c:=wi (by omega) (by omega);have w4:u64.wrap d=d:=wi (by omega) (by omega);rw[w1,w2,w3,w4,WM D.1];have w5:u64.wrap (b+d/4294967296)=b+d/4294967296:=wi (by omega) (by omega);rw[w5,VC (by omega) (by omega),WM (by omega)];have w6:u64.wrap ((b+d/4294967296)%4294967296+c)=(b+d/4294967296)%4294967296+c:=wi (by omega) (by omega);rw[w6,WM (by omega)];have w7:u64.wrap (a+(b+d/4294967296)/4294967296)=a+(b+d/4294967296)/4294967296:=wi (by omega) (by omega);rw[w7];have w8:u64.wrap (a+(b+d/4294967296)/4294967296+((b+d/4294967296)%4294967296+c)/4294967296)=a+(b+d/4294967296)/4294967296+((b+d/4294967296)%4294967296+c)/4294967296:=wi (by omega) (by omega);rw[w8,wF];exact Tn (by omega) (by omega)
theorem Yq {a:Int×Int} (ha:wfW a):decide (a.1<0)=decide (val a<0):=by
 obtain ⟨a1,a2⟩:=a;obtain ⟨h1,h2,h3,h4⟩:=ha;have:a1<0↔val (a1,a2)<0:=by simp only[val] at*; omega
 simp[this]
theorem WE {a:Int×Int} (ha:wfW a):0<=((val a).natAbs:Int)/\((val a).natAbs:Int)<=170141183460469231731687303715884105728:=by
 have:=vZ.1 (Yv ha);omega
theorem ZN {x y m n:Int} (hm:m=x.natAbs) (hn:n=y.natAbs):x*y=bif !(decide (x<0)==decide (y<0)) then -(m*n) else m*n:=by
 subst hm hn;by_cases h1:x<0
 ·have e1:(x.natAbs:Int)=-x:=by omega
  by_cases h2:y<0
  ·have e2:(y.natAbs:Int)=-y:=by omega
   simp[h1,h2,e1,e2,Int.neg_mul_neg]
  ·have e2:(y.natAbs:Int)=y:=by omega
   simp[h1,h2,e1,e2,Int.neg_mul]
 ·have e1:(x.natAbs:Int)=x:=by omega
  by_cases h2:y<0
  ·have e2:(y.natAbs:Int)=-y:=by omega
   simp[h1,h2,e1,e2,Int.mul_neg]
  ·have e2:(y.natAbs:Int)=y:=by omega
   simp[h1,h2,e1,e2]
theorem wmul_j (F:Nat) {R:Type} (k:(Int×Int)->Int->Option R) {a b:Int×Int} (ha:wfW a) (hb:wfW b) (r:Int×Int) {ah al bh bl:Int}
  (h1:0<=ah/\ah<=9223372036854775808) (h2:0<=al/\al<18446744073709551616) (h3:0<=bh/\bh<=9223372036854775808) (h4:0<=bl/\bl<18446744073709551616)
  (hA:((val a).natAbs:Int)=ah*18446744073709551616+al) (hB:((val b).natAbs:Int)=bh*18446744073709551616+bl) (h0:ah=0\/bh=0) :
  zY.j5 F (fun e w=>k w e) (fun e w=>k w e) ah al bh bl a b r=k (wE (val a*val b)) (wu (val a*val b)):=by
 unfold zY.j5;rw[Zq F h2.1 h2.2 h4.1 h4.2];simp only[zQ];have hp:we.sh F (ah != 0) bl al=some ((if ah≠0 then bl else al,()),()):=by
  unfold we.sh;by_cases h:ah=0
  ·simp[h]
  ·have:(ah != 0)=true:=by simp[h]
   simp[this,h]
 rw[hp];simp only[zQ];obtain ⟨c,hc1,hc2,hc3⟩:∃c,c=ah*bl+bh*al/\y4.sh F (u64.wrap ((BitVec.ofInt IntKind.u64.bits ah ||| BitVec.ofInt IntKind.u64.bits bh).toNat:Int)) (if ah≠0 then bl else al) =
   some ((c/18446744073709551616,c%18446744073709551616,()),())/\0<=c:=by
  rcases h0 with rfl | rfl
  ·refine ⟨bh*al,by simp,?_,Int.mul_nonneg h3.1 h2.1⟩
   rw[zero_or h3.1 (by omega),if_neg (by simp),Zq F h3.1 (by omega) h2.1 h2.2]
  ·refine ⟨ah*bl,by simp,?_,Int.mul_nonneg h1.1 h4.1⟩
   rw[Ur h1.1 (by omega)];by_cases h:ah=0
   ·subst h
    rw[if_neg (by simp),Zq F (by omega) (by omega) h2.1 h2.2];simp
   ·rw[if_pos h,Zq F h1.1 (by omega) h4.1 h4.2]
 rw[hc2];simp only[zQ];have hd:0<=al*bl:=Int.mul_nonneg h2.1 h4.1;have hd':al*bl<=340282366920938463426481119284349108225:=(ZV h2.1 (by omega:al<=18446744073709551615) h4.1 (by omega:bl<=18446744073709551615)).2;have hm:((val a).natAbs:Int)*((val b).natAbs:Int)=c*18446744073709551616+al*bl:=by
  rw[hA,hB,hc1];rcases h0 with rfl | rfl
  ·simp only[Int.zero_mul,Int.zero_add,Int.mul_add]
   have:al*(bh*18446744073709551616)=bh*al*18446744073709551616:=by rw[Int.mul_left_comm,<-Int.mul_assoc]
   omega
  ·simp only[Int.zero_mul,Int.zero_add,Int.add_zero,Int.add_mul]
   have:ah*18446744073709551616*bl=ah*bl*18446744073709551616:=by rw[Int.mul_right_comm]
   omega
 have hs:=ZN (x:=val a) (y:=val b) rfl rfl;rw[hm,<-Yq ha,<-Yq hb] at hs;generalize al*bl=d at*;generalize hsg:(!(decide (a.1<0)==decide (b.1<0)))=sg at*;rw[Xl F (by omega) (by omega) (by omega) (by omega)];simp only[zQ];by_cases q1:c/18446744073709551616=0
 ·have e1:(c/18446744073709551616 != 0)=false:=by simp[q1]
  rw[e1];simp only[cond_false];by_cases q2:(d/18446744073709551616+c%18446744073709551616+0)/18446744073709551616=0
  ·have e2:((d/18446744073709551616+c%18446744073709551616+0)/18446744073709551616 != 0)=false:=by rw[q2]; rfl
   rw[e2];simp only[cond_false];rw[join_eq F (v:=val a*val b) (by omega) (by omega) (by omega) (by omega) (by rw[hs]; cases sg<;>simp only[cond_true,cond_false]<;>omega)];simp only[zQ]
  ·have e2:((d/18446744073709551616+c%18446744073709551616+0)/18446744073709551616 != 0)=true:=bne_iff_ne.2 q2
   rw[e2];simp only[cond_true];have hr:inR (val a*val b)=false:=by rw[uH,hs]; cases sg<;>simp only[cond_true,cond_false]<;>omega
   simp only[wE,wu,hr,cond_false]
 ·have e1:(c/18446744073709551616 != 0)=true:=by simp[q1]
  rw[e1];simp only[cond_true];have hr:inR (val a*val b)=false:=by rw[uH,hs]; cases sg<;>simp only[cond_true,cond_false]<;>omega
  simp only[wE,wu,hr,cond_false]
theorem Ug (F:Nat) {a b:Int×Int} (ha:wfW a) (hb:wfW b):zY.sh F a b=some ((wE (val a*val b),wu (val a*val b),()),()):=by
 have ba:=WE ha;have bb:=WE hb;unfold zY.sh;rw[SK F ha,SK F hb];simp only[zQ];have key:∀(h0:((val a).natAbs:Int)/18446744073709551616=0\/((val b).natAbs:Int)/18446744073709551616=0),zY.j5 F (fun e w=>some ((w,e,()),())) (fun e w=>some ((w,e,()),()))
   (((val a).natAbs:Int)/18446744073709551616) (((val a).natAbs:Int)%18446744073709551616) (((val b).natAbs:Int)/18446744073709551616) (((val b).natAbs:Int)%18446744073709551616) a b (0,0) =
   (some ((wE (val a*val b),wu (val a*val b),()),()):Option zY.sg.R):=fun h0 =>
  wmul_j F (fun w e=>some ((w,e,()),())) ha hb (0,0) (by omega) (by omega) (by omega) (by omega) (by omega) (by omega) h0
 by_cases q1:((val a).natAbs:Int)/18446744073709551616=0
 ·have e1:(((val a).natAbs:Int)/18446744073709551616 != 0)=false:=by simp[q1]
  rw[e1];simp only[cond_false];exact key (.inl q1)
 ·have e1:(((val a).natAbs:Int)/18446744073709551616 != 0)=true:=by simp[q1]
  rw[e1];simp only[cond_true];by_cases q2:((val b).natAbs:Int)/18446744073709551616=0
  ·have e2:(((val b).natAbs:Int)/18446744073709551616 != 0)=false:=by simp[q2]
   rw[e2];simp only[cond_false];exact key (.inr q2)
  ·have e2:(((val b).natAbs:Int)/18446744073709551616 != 0)=true:=by simp[q2]
   rw[e2];simp only[cond_true];have hs:=ZN (x:=val a) (y:=val b) rfl rfl;have hp:(18446744073709551616:Int)*18446744073709551616<=((val a).natAbs:Int)*((val b).natAbs:Int):=Int.mul_le_mul (by omega) (by omega) (by omega) (by omega);have hr:inR (val a*val b)=false:=by
    rw[uH,hs];generalize ((val a).natAbs:Int)*((val b).natAbs:Int)=m at*;cases (!(decide (val a<0)==decide (val b<0)))<;>simp only[cond_true,cond_false]<;>omega
   simp only[wE,wu,hr,cond_false]
def FU:Nat:=4194304
theorem pair2 {a b c d:Int} (h1:a=c) (h2:b=d):(a,b)=(c,d):=by rw[h1,h2]
def wx (a b:Int):Int:=a/b+if a%b=0 then 0 else 1
def letB (c:Int):Bool:=decide (c>=97)&&decide (c<=122)
def digB (c:Int):Bool:=decide (c>=48)&&decide (c<=57)
def innB (c:Int):Bool:=letB c||(digB c||c==95)
def cI (c:UInt8):Int:=(c.toNat:Int)
def wordsL:List UInt8:=[32,112,108,97,110,32,114,111,117,110,100,32,98,121,32,98,108,111,99,107,115,32,109,105,110,32,109,97,120,32,111,118,101,114,32,117,112,116,111,32,103,114,97,100,117,97,116,101,100,32,118,111,108,117,109,101,32,111,102,102,32,105,102,32,102,108,111,111,114,32,99,101,105,108,32,122,101,114,111,32,104,97,108,102,32,101,118,101,110,32]
def wordB (l:List UInt8):Bool:=!l.isEmpty&&(l.all (fun c=>letB (cI c))&&Lib.contains wordsL ([32]++l++[32]))
def nameB (l:List UInt8):Bool:=!l.isEmpty&&(decide (l.length<=32)&&(letB (cI (l.headD 0))&&(l.all (fun c=>innB (cI c))&&!wordB l)))
def sameN (a b:ByteArray):Bool:=a.toList==b.toList
abbrev dS (d:wK.T):Int:=d.2
def dE (pre:List wK.T):List wK.T->Int
 | []=>0
 | d::r=>bif !nameB d.1.data.toList then 61 else bif pre.any (fun e=>sameN e.1 d.1) then 61 else bif decide (dS d<1) then 50 else bif decide (dS d>1000000000000) then 50 else dE (pre++[d]) r
def headE (name:ByteArray) (dims:List wK.T) (mode:Int):Int :=
 bif !nameB name.data.toList then 61 else bif decide ((dims.length:Int)<1) then 100 else bif decide ((dims.length:Int)>4) then 100 else bif dE [] dims != 0 then dE [] dims else bif decide (mode<0) then 50 else bif decide (mode>4) then 50 else 0
abbrev nK (n:zT.T):Int:=n.1
abbrev nN (n:zT.T):Int:=n.2.1
abbrev nO (n:zT.T):Int:=n.2.2.1
abbrev nC (n:zT.T):Int:=n.2.2.2.1
abbrev nT (n:zT.T):List xH.T:=n.2.2.2.2.1
abbrev SG (n:zT.T):Int×Int×Bool×Bool:=get wn uW (nK n).toNat
abbrev aK (n:zT.T):Int:=(SG n).1
def ar (n:zT.T):Nat:=bif decide (aK n>=0) then (aK n).toNat else (nC n).toNat
def T5 (n:zT.T):Bool:=decide (1<=nK n)&&decide (nK n<=16)
def T1 (n:zT.T):Bool:=bif decide (aK n<0) then decide (nC n>=2)&&decide (nC n<=16) else nC n==0
abbrev tF (x:xH.T):Int:=x.1
abbrev tR (x:xH.T):Int:=x.2
def okTier (l:List xH.T) (i:Nat) (x:xH.T):Bool:=(decide (i=0)||!decide (tF x<=tF (l.getD (i-1) (0,0))))&&(!decide (tF x>1000000000000)&&(!decide (tR x < -1000000000000)&&!decide (tR x>1000000000000)))
def Us (l:List xH.T):List xH.T->Nat->Bool
 | [],_=>true
 | x::r,i=>okTier l i x&&Us l r (i+1)
def risB (l:List xH.T):Bool:=decide (1<=l.length)&&(decide (l.length<=16)&&(decide (tF (l.getD 0 (0,0))=0)&&Us l l 0))
def TU (n:zT.T) (dims:Nat):Int:=bif decide ((SG n).2.1<0) then (dims:Int)-1 else (SG n).2.1
def opB (n:zT.T):Bool:=bif (SG n).2.2.2 then decide (nO n>=1)&&decide (nO n<=6) else nO n==0
def Xx (n:zT.T):Bool:=(SG n).2.2.1
def XH (dims:Nat) (n:zT.T) (pile:Nat):Int :=
 bif !T5 n then 50 else bif decide (nN n<0) then 50 else bif decide (nN n>TU n dims) then 50 else bif !T1 n then 50 else bif !opB n then 50
 else bif !Xx n&&decide (((nT n).length:Int)>0) then 50 else bif decide ((pile:Int)<(ar n:Int)) then 50 else bif Xx n&&!risB (nT n) then 51 else 0
theorem WY {dims:Nat} {n:zT.T} {pile:Nat} (h:XH dims n pile=0) :
  T5 n=true/\0<=nN n/\nN n<=TU n dims/\T1 n=true/\opB n=true/\(Xx n=false->nT n=[])/\ar n<=pile/\(Xx n=true->risB (nT n)=true):=by
 unfold XH at h;cases h1:T5 n with
 | false=>rw[h1] at h; exact absurd (show (50:Int)=0 from h) (by decide)
 | true =>
 rw[h1] at h;cases h2:decide (nN n<0) with
 | true=>rw[h2] at h; exact absurd (show (50:Int)=0 from h) (by decide)
 | false =>
 rw[h2] at h;cases h3:decide (nN n>TU n dims) with
 | true=>rw[h3] at h; exact absurd (show (50:Int)=0 from h) (by decide)
 | false =>
 rw[h3] at h;cases h4:T1 n with
 | false=>rw[h4] at h; exact absurd (show (50:Int)=0 from h) (by decide)
 | true =>
 rw[h4] at h;cases h5:opB n with
 | false=>rw[h5] at h; exact absurd (show (50:Int)=0 from h) (by decide)
 | true =>
 rw[h5] at h;cases h6:(!Xx n&&decide (((nT n).length:Int)>0)) with
 | true=>rw[h6] at h; exact absurd (show (50:Int)=0 from h) (by decide)
 | false =>
 rw[h6] at h;cases h7:decide ((pile:Int)<(ar n:Int)) with
 | true=>rw[h7] at h; exact absurd (show (50:Int)=0 from h) (by decide)
 | false =>
 rw[h7] at h;cases h8:(Xx n&&!risB (nT n)) with
 | true=>rw[h8] at h; exact absurd (show (51:Int)=0 from h) (by decide)
 | false =>
 have h2:=of_decide_eq_false h2;have h3:=of_decide_eq_false h3;have h7:=of_decide_eq_false h7;refine ⟨rfl,by omega,by omega,rfl,rfl,fun ht=>?_,by omega,fun ht=>?_⟩
 ·rw[ht] at h6
  simp only[Bool.not_false,Bool.true_and] at h6;have h6:=of_decide_eq_false h6;exact List.eq_nil_of_length_eq_zero (by omega)
 ·rw[ht] at h8
  simp only[Bool.true_and] at h8;cases hr:risB (nT n) with
  | true=>rfl
  | false=>rw[hr] at h8; cases h8
inductive Tree:Type
 | nd:zT.T->List Tree->Tree
mutual
def Tree.fold {α:Type} (f:zT.T->List α->α):Tree->α
 | .nd n ks=>f n (Tree.foldL f ks)
def Tree.foldL {α:Type} (f:zT.T->List α->α):List Tree->List α
 | []=>[]
 | t::r=>Tree.fold f t::Tree.foldL f r
end
theorem Tree.foldL_map {α:Type} (f:zT.T->List α->α):∀l:List Tree,Tree.foldL f l=l.map (Tree.fold f)
 | []=>rfl
 | t::r=>by rw[Tree.foldL,Tree.foldL_map f r]; rfl
theorem Tree.fold_nd {α:Type} (f:zT.T->List α->α) (n:zT.T) (ks:List Tree):Tree.fold f (.nd n ks)=f n (ks.map (Tree.fold f)):=by
 rw[Tree.fold,Tree.foldL_map]
def Tree.flat:Tree->List zT.T:=Tree.fold (fun n ks=>ks.flatten++[n])
def qb (l:List Tree):List zT.T:=(l.map Tree.flat).flatten
theorem flat_nd (n:zT.T) (ks:List Tree):Tree.flat (.nd n ks)=qb ks++[n]:=Tree.fold_nd _ n ks
def Tree.size (t:Tree):Nat:=t.flat.length
def WG (st:List Tree) (n:zT.T):Tree:=.nd n (st.drop (st.length-ar n))
def Zh (st:List Tree) (n:zT.T):List Tree:=st.take (st.length-ar n)++[WG st n]
def uG:List Tree->List zT.T->List Tree
 | _,[]=>[]
 | st,n::r=>WG st n::uG (Zh st n) r
def W8:List Tree->List zT.T->List Tree
 | st,[]=>st
 | st,n::r=>W8 (Zh st n) r
def okS (dims:Nat):List Tree->List zT.T->Prop
 | _,[]=>True
 | st,n::r=>XH dims n st.length=0/\okS dims (Zh st n) r
theorem XS (a b:List Tree):qb (a++b)=qb a++qb b:=by simp[qb]
theorem XQ (t:Tree):qb [t]=t.flat:=by simp[qb]
theorem VO (st:List Tree) (n:zT.T):qb (Zh st n)=qb st++[n]:=by
 unfold Zh WG;rw[XS,XQ,flat_nd,<-List.append_assoc,<-XS,List.take_append_drop]
theorem XR:∀(xs:List zT.T) (st:List Tree),qb (W8 st xs)=qb st++xs
 | [],st=>by simp[W8]
 | n::r,st=>by rw[W8,XR r,VO]; simp
theorem Vo {b st:List Tree} {n:zT.T} (h:ar n<=st.length):WG (b++st) n=WG st n/\Zh (b++st) n=b++Zh st n:=by
 have e:(b++st).length-ar n=b.length+(st.length-ar n):=by simp; omega
 have e1:WG (b++st) n=WG st n:=by
  unfold WG;rw[e,List.drop_append];simp
 refine ⟨e1,?_⟩;unfold Zh;rw[e1,e,List.take_append,List.take_of_length_le (by omega)];simp
theorem Vz {dims:Nat} {n:zT.T} {p q:Nat} (h:XH dims n p=0) (hq:p<=q):XH dims n q=0:=by
 have hh:=WY h;have h7:decide ((p:Int)<(ar n:Int))=false:=decide_eq_false (by have:=hh.2.2.2.2.2.2.1; omega);have h7':decide ((q:Int)<(ar n:Int))=false:=decide_eq_false (by have:=hh.2.2.2.2.2.2.1; omega);unfold XH at*;rw[h7] at h;rw[h7'];exact h
theorem frame (dims:Nat) (b:List Tree):∀(xs:List zT.T) (st:List Tree),okS dims st xs->okS dims (b++st) xs/\uG (b++st) xs=uG st xs/\W8 (b++st) xs=b++W8 st xs
 | [],st,h=>⟨trivial,rfl,rfl⟩
 | n::r,st,h=>by
  have hf:=Vo (b:=b) (WY h.1).2.2.2.2.2.2.1;have:=frame dims b r (Zh st n) h.2;simp only[okS,uG,W8,hf.1,hf.2];refine ⟨⟨Vz h.1 (by simp),this.1⟩,?_,this.2.2⟩;rw[this.2.1]
structure Good (p:xZ.T) (t:Tree):Prop where
 head:headE p.1 p.2.1 p.2.2.1=0
 len:p.2.2.2.length<=1024
 ok:okS p.2.1.length [] p.2.2.2
 eq:W8 [] p.2.2.2=[t]
theorem Good.flat {p:xZ.T} {t:Tree} (h:Good p t):t.flat=p.2.2.2:=by
 have:=XR p.2.2.2 [];rw[h.eq,XQ] at this;simpa [qb] using this
def Sp (t:Int):Bool:=decide (t>=2)
def oneL:List Int->Int
 | []=>-1
 | a::r=>bif r.all (fun x=>x==a) then a else -1
def prodT (a b:Int):Int :=
 bif a==0 then b else bif b==0 then a else bif Sp a&&b==1 then 1 else bif Sp b&&a==1 then 1 else -1
def tyN (n:zT.T) (ks:List Int):Int :=
 bif nK n==1 then 0 else bif nK n==2 then 1 else bif nK n==3 then 2+2*nN n else bif nK n==4 then 3+2*nN n
 else bif nK n==8 then prodT (ks.getD 0 0) (ks.getD 1 0)
 else bif nK n==11||nK n==12 then (bif Sp (ks.getD 0 0) then ks.getD 0 0 else -1)
 else bif nK n==13||nK n==14 then (bif Sp (ks.getD 0 0) then 1 else -1)
 else bif nK n==15 then (bif ks.getD 0 0==1 then 1 else -1)
 else bif nK n==16 then (bif Sp (ks.getD 0 0) then oneL (ks.drop 1) else -1)
 else oneL ks
def ty:Tree->Int:=Tree.fold tyN
theorem Tv {v:Int} (h:inR v=true):wE v=mk v/\(wu v != 0)=false:=by
 unfold wE wu;rw[h];exact ⟨rfl,rfl⟩
theorem res_out {v:Int} (h:inR v=false):(wu v != 0)=true:=by
 unfold wu;rw[h];rfl
def farZ (v:Int):Int:=if 0-v>v then 0-v else v
def waysS:List xH.T->Int
 | a::b::r=>farZ (tR a)*(tF b-tF a)+waysS (b::r)
 | _=>0
def rateM (r0:Int) (l:List xH.T):Int:=l.foldl (fun r t=>if farZ (tR t)>r then farZ (tR t) else r) r0
def lastF:List xH.T->Int
 | []=>0
 | [a]=>tF a
 | _::b::r=>lastF (b::r)
def scaleM (u x:Int) (l:List xH.T):Int:=u*(rateM 0 l*(x+lastF l)+waysS l)
def BND:Int:=1329227995784915872903807060280344576
theorem inR_pos {v:Int} (h:0<=v):(inR v=true/\v<170141183460469231731687303715884105728)\/(inR v=false/\170141183460469231731687303715884105728<=v):=by
 rcases Int.lt_or_le v 170141183460469231731687303715884105728 with h' | h'
 ·exact .inl ⟨by rw[vZ]; omega,h'⟩
 ·exact .inr ⟨by rw[uH]; omega,h'⟩
def sumL (l:List Int):Int:=l.sum
def U1 (u:Int) (D:List wK.T) (n:zT.T) (vs:List Int):Int :=
 bif nK n==1 then nN n else bif nK n==2 then nN n*u else bif nK n==3 then 1099511627776
 else bif nK n==4 then wx 1099511627776 (dS (D.getD (nN n).toNat (ByteArray.empty,0)))
 else bif nK n==8 then vs.getD 0 0*vs.getD 1 0
 else bif nK n==13||nK n==14 then scaleM u (vs.getD 0 0) (nT n)
 else bif nK n==15 then vs.getD 0 0
 else bif nK n==11||(nK n==12||nK n==16) then sumL vs+nN n
 else sumL vs
def farN (n:zT.T) (v:Int):Int:=bif nK n==15 then v*10000 else v
def mag (u:Int) (D:List wK.T):Tree->Int:=Tree.fold (U1 u D)
theorem Ss {s:Int} (h1:1<=s):0<=wx 1099511627776 s/\wx 1099511627776 s<=1099511627777:=by
 have hq1:0<=1099511627776/s:=Int.ediv_nonneg (by omega) (by omega);have hq2:1099511627776/s<=1099511627776:=Int.ediv_le_self _ (by omega);unfold wx;split<;>omega
def NodeR (u:Int) (D:List wK.T) (n:zT.T) (vs:List Int) (r:Option zS.sg.R):Prop :=
 ∃w o,r=some ((w,()),((mk u,o),()))/\wfW w/\0<=U1 u D n vs/\((o=true/\BND<farN n (U1 u D n vs))\/(o=false/\w=mk (U1 u D n vs)/\farN n (U1 u D n vs)<170141183460469231731687303715884105728))
theorem NodeR.of {u:Int} {D:List wK.T} {n:zT.T} {vs:List Int} {v:Int} (hm:U1 u D n vs=v) (hf:(nK n==15)=false) (h0:0<=v) {r:Option zS.sg.R} (o:Bool)
  (hr:r=some ((wE v,()),((mk u,o||wu v != 0),()))) (ho:o=false):NodeR u D n vs r:=by
 subst ho;refine ⟨_,_,hr,wf_resW _,by rw[hm]; exact h0,?_⟩;have hBND:BND=1329227995784915872903807060280344576:=rfl;unfold farN;rw[hm,hf];simp only[cond_false,Bool.false_or];rcases inR_pos h0 with ⟨i,b⟩ | ⟨i,b⟩
 ·rw[(Tv i).1,(Tv i).2]; exact .inr ⟨rfl,rfl,b⟩
 ·rw[res_out i]; exact .inl ⟨rfl,by omega⟩
theorem SF:yx.sh FU=some ((true,()),()):=by kernel_rfl
theorem Sr {x s:Int} (h0:0<=x) (h:x<=1099511627776) (h1:1<=s):0<=wx x s/\wx x s<=wx 1099511627776 s:=by
 have hq1:0<=x/s:=Int.ediv_nonneg (by omega) (by omega);have e1:=Int.mul_ediv_add_emod x s;have e2:=Int.mul_ediv_add_emod 1099511627776 s;have r1:=Int.emod_nonneg x (show s≠0 by omega);have r2:=Int.emod_nonneg 1099511627776 (show s≠0 by omega);have hm:x/s<=1099511627776/s:=Int.ediv_le_ediv (by omega) h;unfold wx;refine ⟨by split<;>omega,?_⟩;split
 ·split<;>omega
 ·split
  ·rename_i a b
   rcases Int.lt_or_eq_of_le hm with hlt | heq
   ·omega
   ·rw[heq] at e1; omega
  ·omega
structure Guess (y1 y0 u un q qh rh:Int):Prop where
 y1a:2147483648<=y1
 y1b:y1<4294967296
 y0a:0<=y0
 y0b:y0<4294967296
 una:0<=un
 unb:un<4294967296
 ua:0<=u
 ub:u<y1*4294967296+y0
 q0:0<=q
 qle:q*(y1*4294967296+y0)<=u*4294967296+un
 qlt:u*4294967296+un<(q+1)*(y1*4294967296+y0)
 rh0:0<=rh
 rhb:rh<4294967296
 eq:qh*y1+rh=u
 le:q<=qh
 hi:qh<=4294967297
def aR (a b:Int):Int:=(a.natAbs:Int)%(b.natAbs:Int)
def tr (a b:Int):Int:=bif decide (a<0) then -aR a b else aR a b
theorem mk_zero {v:Int}:(((mk v).1==0)&&(((mk v).2==0)&&true))=decide (v=0):=by
 by_cases h:v=0
 ·subst h; rfl
 ·rw[decide_eq_false h]
  simp only[mk,Bool.and_true,Bool.and_eq_false_iff,beq_eq_false_iff_ne];omega
def wfL (l:zo.T):Prop:=wfW l.1/\wfW l.2.1/\wfW l.2.2
def lA (l:zo.T):Int:=val l.1
def lB (l:zo.T):Int:=val l.2.1
def lC (l:zo.T):Int:=val l.2.2
def u7 (s q:Int):Bool:=decide (s>=1)&&(decide (s<=1000000000000)&&(decide (q>=0)&&decide (q<=1099511627776)))
theorem Sa (F:Nat) (s q:Int):wj.sh F s q=some ((u7 s q,()),()):=by
 unfold wj.sh u7;cases decide (s>=1)<;>cases decide (s<=1000000000000)<;>cases decide (q>=0)<;>rfl
theorem up {s q:Int}:u7 s q=true↔1<=s/\s<=1000000000000/\0<=q/\q<=1099511627776:=by
 simp[u7]
theorem SA {q s:Int} (h:u7 s q=true):0<=wx q s/\wx q s<=1099511627777:=by
 obtain ⟨h1,h2,h3,h4⟩:=up.1 h;have a1:0<=q/s:=Int.ediv_nonneg h3 (by omega);have a2:q/s<=q:=Int.ediv_le_self _ h3;unfold wx;split<;>omega
theorem VI (F:Nat) {s q:Int} (h:u7 s q=true):xD.sh F q s=some ((wx q s,()),()):=by
 obtain ⟨h1,h2,h3,h4⟩:=up.1 h;have a1:0<=q/s:=Int.ediv_nonneg h3 (by omega);have a2:q/s<=q:=Int.ediv_le_self _ h3;have a3:0<=q%s:=Int.emod_nonneg _ (by omega);have a4:q%s<s:=Int.emod_lt_of_pos _ (by omega);unfold xD.sh wx;rw[show (s != 0)=true from bne_iff_ne.2 (by omega),Int.tdiv_eq_ediv_of_nonneg h3,Int.tmod_eq_emod_of_nonneg h3,yX (n:=q/s) (by omega) (by omega)];simp only[cond_true];by_cases hz:q%s=0
 ·rw[hz,if_pos rfl,if_neg (by omega),yX (by omega) (by omega)]
 ·have:(if 1<q%s then (1:Int) else q%s)=1:=by split<;>omega
  rw[this,if_neg hz,yX (by omega) (by omega)]
def vS (a b c s q:Int):Int×Int :=
 bif !u7 s q then (0,1)
 else bif !inR (b*q) then (0,10)
 else bif !inR (c*wx q s) then (0,10)
 else bif !inR (a+b*q) then (0,10)
 else bif !inR (a+b*q+c*wx q s) then (0,10)
 else (a+b*q+c*wx q s,0)
theorem tt (F:Nat) {l:zo.T} (hl:wfL l) (s q:Int):yP.sh F l s q=some ((mk (vS (lA l) (lB l) (lC l) s q).1,(vS (lA l) (lB l) (lC l) s q).2,()),()):=by
 unfold yP.sh vS;rw[Sa,zQ];cases hf:u7 s q with
 | false=>rfl
 | true =>
  obtain ⟨h1,h2,h3,h4⟩:=up.1 hf;obtain ⟨b1,b2⟩:=SA hf;have iq:inR q=true:=Yw (by omega) (by omega);have ib:inR (wx q s)=true:=Yw (by omega) (by omega);simp only[Bool.not_true,cond_false];rw[of_eq F (v:=q) (by omega) (by omega),zQ,Ug F hl.2.1 (vm iq),zQ,wN,show val l.2.1=lB l from rfl];cases hB:inR (lB l*q) with
  | false =>
   have:wu (lB l*q)=10:=by unfold wu; rw[hB]; rfl
   simp only[this];rfl
  | true =>
   have e1:wu (lB l*q)=0:=by unfold wu; rw[hB]; rfl
   have e2:wE (lB l*q)=mk (lB l*q):=by unfold wE; rw[hB]; rfl
   simp only[e1,bne_self_eq_false,Bool.not_true,cond_false];rw[VI F hf,zQ,of_eq F (v:=wx q s) (by omega) (by omega),zQ,Ug F hl.2.2 (vm ib),zQ,wN,show val l.2.2=lC l from rfl];cases hC:inR (lC l*wx q s) with
   | false =>
    have:wu (lC l*wx q s)=10:=by unfold wu; rw[hC]; rfl
    simp only[this];rfl
   | true =>
    have e3:wu (lC l*wx q s)=0:=by unfold wu; rw[hC]; rfl
    have e4:wE (lC l*wx q s)=mk (lC l*wx q s):=by unfold wE; rw[hC]; rfl
    simp only[e3,bne_self_eq_false,Bool.not_true,cond_false];rw[e2,e4,Uc F hl.1 (vm hB),zQ,wN,show val l.1=lA l from rfl];cases hA:inR (lA l+lB l*q) with
    | false =>
     have:wu (lA l+lB l*q)=10:=by unfold wu; rw[hA]; rfl
     simp only[this];rfl
    | true =>
     have e5:wu (lA l+lB l*q)=0:=by unfold wu; rw[hA]; rfl
     have e6:wE (lA l+lB l*q)=mk (lA l+lB l*q):=by unfold wE; rw[hA]; rfl
     simp only[e5,bne_self_eq_false,Bool.not_true,cond_false];rw[e6,Uc F (vm hA) (vm hC),zQ,wN,wN];unfold wE wu;cases hD:inR (lA l+lB l*q+lC l*wx q s)<;>rfl
abbrev LZ:=Int×Int×Int
def wL (z:LZ):zo.T:=(mk z.1,mk z.2.1,mk z.2.2)
def kM (s:Int):Int:=wx 1099511627776 s
def nA (v:Int):Int:=(v.natAbs:Int)
theorem Zp (v:Int):0<=nA v:=by unfold nA; omega
theorem TT (a b:Int):nA (a*b)=nA a*nA b:=by unfold nA; rw[Int.natAbs_mul]; push_cast; rfl
theorem Wg (a b:Int):nA (a+b)<=nA a+nA b:=by unfold nA; omega
theorem TR {a:Int} (h:0<=a):nA a=a:=by unfold nA; omega
def um (s:Int) (z:LZ):Int:=nA z.1+nA z.2.1*1099511627776+nA z.2.2*kM s
def Ze (s:Int) (z:LZ) (q:Int):Int:=z.1+z.2.1*q+z.2.2*wx q s
def LIM:Int:=85070591730234615865843651857942052864
theorem T3 {s:Int} (h:1<=s):1<=kM s/\kM s<=1099511627777:=by
 refine ⟨?_,(Ss h).2⟩;have hq:0<=1099511627776/s:=Int.ediv_nonneg (by omega) (by omega);have e:=Int.mul_ediv_add_emod 1099511627776 s;unfold kM wx;by_cases h0:1099511627776/s=0
 ·rw[h0] at e
  rw[if_neg (by omega)];omega
 ·split<;>omega
theorem XI {a k:Int} (h:1<=k):nA a<=nA a*k:=by
 have:=Int.mul_le_mul_of_nonneg_left h (Zp a);omega
theorem qP {s:Int} (h:1<=s) (z:LZ):nA z.1<=um s z/\nA z.2.1<=um s z/\nA z.2.2<=um s z/\nA z.2.1*1099511627776<=um s z/\nA z.2.2*kM s<=um s z:=by
 unfold um;have h1:=Zp z.1;have h2:=Zp z.2.1;have h4:=Zp z.2.2;have h3:=XI (a:=z.2.2) (T3 h).1;omega
theorem uY {v:Int} (h:nA v<=LIM):inR v=true:=by
 unfold nA LIM at h;rw[vZ]; omega
theorem YR {a b m:Int} (h1:nA a<=b) (h2:b<=m):nA a<=m:=Int.le_trans h1 h2
theorem wf_wL {s:Int} (h:1<=s) {z:LZ} (hz:um s z<=LIM):wfL (wL z):=by
 obtain ⟨h1,h2,h3,_,_⟩:=qP h z;exact ⟨vm (uY (YR h1 hz)),vm (uY (YR h2 hz)),vm (uY (YR h3 hz))⟩
theorem Xw {s q:Int} (h:u7 s q=true) (z:LZ):nA (z.2.1*q)<=nA z.2.1*1099511627776/\nA (z.2.2*wx q s)<=nA z.2.2*kM s:=by
 obtain ⟨h1,h2,h3,h4⟩:=up.1 h;obtain ⟨b1,b2⟩:=Sr h3 h4 h1;rw[TT,TT,TR h3,TR b1];exact ⟨Int.mul_le_mul_of_nonneg_left h4 (Zp _),Int.mul_le_mul_of_nonneg_left b2 (Zp _)⟩
theorem WF {s q:Int} (h:u7 s q=true) (z:LZ):nA (Ze s z q)<=um s z:=by
 obtain ⟨p1,p2⟩:=Xw h z;unfold Ze um;have e1:=Wg (z.1+z.2.1*q) (z.2.2*wx q s);have e2:=Wg z.1 (z.2.1*q);omega
theorem SL (F:Nat) {s q:Int} (h:u7 s q=true) {z:LZ} (hz:um s z<=LIM):yP.sh F (wL z) s q=some ((mk (Ze s z q),0,()),()):=by
 have h1:=(up.1 h).1;rw[tt F (wf_wL h1 hz) s q];obtain ⟨p1,p2⟩:=Xw h z;obtain ⟨s1,s2,s3,s4,s5⟩:=qP h1 z;have e2:=Wg z.1 (z.2.1*q);have v0:=WF h z;have ev:lA (wL z)=z.1:=wN;have eb:lB (wL z)=z.2.1:=wN;have ec:lC (wL z)=z.2.2:=wN;have hs:nA z.1+nA z.2.1*1099511627776<=um s z:=by
  unfold um;have:=Int.mul_nonneg (Zp z.2.2) (show 0<=kM s by have:=T3 h1; omega);omega
 have i1:inR (z.2.1*q)=true:=uY (by omega);have i2:inR (z.2.2*wx q s)=true:=uY (by omega);have i3:inR (z.1+z.2.1*q)=true:=uY (by omega);have i4:inR (z.1+z.2.1*q+z.2.2*wx q s)=true:=uY (by unfold Ze at v0; omega);unfold vS;rw[ev,eb,ec,h,i1,i2,i3,i4];rfl
theorem zero_mk:mk 0=(0,0):=rfl
theorem TV {v:Int}:decide ((mk v).1<0)=decide (v<0):=by
 apply decide_eq_decide.2;simp only[mk]; omega
theorem To (F:Nat) {v:Int}:∃k,xp.sh F (mk v)=some ((k,()),())/\decide (k>0)=decide (v>0)/\decide (k>=0)=decide (v>=0)/\decide (k<=0)=decide (v<=0):=by
 unfold xp.sh;rw[TV,mk_zero];by_cases h:v<0
 ·rw[decide_eq_true h]
  exact ⟨-1,rfl,by simp; omega,by simp; omega,by simp; omega⟩
 ·rw[decide_eq_false h]
  by_cases h0:v=0
  ·rw[decide_eq_true h0]
   exact ⟨0,rfl,by simp; omega,by simp; omega,by simp; omega⟩
  ·rw[decide_eq_false h0]
   exact ⟨1,rfl,by simp; omega,by simp; omega,by simp; omega⟩
theorem YC {q s k:Int} (hs:1<=s) (h1:(k-1)*s<q) (h2:q<=k*s):wx q s=k:=by
 have e:=Int.mul_ediv_add_emod q s;have r1:=Int.emod_nonneg q (show s≠0 by omega);have r2:=Int.emod_lt_of_pos q (show 0<s by omega);rw[Int.mul_comm] at e;unfold wx;generalize q/s=d at*;have hd1:d<=k:=by
  rcases Int.lt_or_le k d with h | h
  ·have:=Int.mul_le_mul_of_nonneg_right (show k+1<=d by omega) (show 0<=s by omega)
   rw[Int.add_mul] at this; omega
  ·exact h
 have hd2:k-1<=d:=by
  rcases Int.lt_or_le d (k-1) with h | h
  ·have:=Int.mul_le_mul_of_nonneg_right (show d+1<=k-1 by omega) (show 0<=s by omega)
   rw[Int.add_mul] at this; omega
  ·exact h
 split
 ·rename_i h0
  rw[h0] at e;rcases Int.lt_or_le d k with h | h
  ·have:d=k-1:=by omega
   subst this;omega
  ·omega
 ·rename_i h0
  rcases Int.lt_or_le d k with h | h
  ·omega
  ·have:d=k:=by omega
   subst this;omega
def lv:List Int->Int
 | []=>0
 | d::r=>d+65536*lv r
def DG (l:List Int):Prop:=∀d∈l,0<=d/\d<65536
def Rep (l:List Int) (v:Int):Prop:=l.length=12/\DG l/\∃k:Int,lv l=v+6277101735386680763835789423207666416102355444464034512896*k
theorem DG.cons {d:Int} {r:List Int} (h:DG (d::r)):(0<=d/\d<65536)/\DG r:=⟨h d (by simp),fun x hx=>h x (by simp[hx])⟩
theorem DG.mk {d:Int} {r:List Int} (h:0<=d/\d<65536) (hr:DG r):DG (d::r):=fun x hx=>by
 rcases List.mem_cons.1 hx with rfl | hx
 ·exact h
 ·exact hr x hx
theorem DG.nil:DG []:=fun x hx=>by simp at hx
theorem len12 {l:List Int} (h:l.length=12):∃a b c d e f g i j k m n,l=[a,b,c,d,e,f,g,i,j,k,m,n]:=by
 match l,h with
 | [a,b,c,d,e,f,g,i,j,k,m,n],_=>exact ⟨a,b,c,d,e,f,g,i,j,k,m,n,rfl⟩
theorem Ys {pre xs:List Int} {x y:Int} {i:Nat} (h:pre.length=i):(pre++x::xs).set i y=(pre++[y])++xs:=by
 subst h; simp
theorem YZ {pre xs:List Int} {x:Int} {i:Nat} (h:pre.length=i):(pre++x::xs).getD i 0=x:=by
 subst h; simp[List.getD_eq_getElem?_getD]
theorem ZY {l xs:List Int} {x:Int} {i:Nat} (h:l.drop i=x::xs):l.getD i 0=x:=by
 have:=congrArg (·[0]?) h
 rw[List.getD_eq_getElem?_getD];simp at this;rw[this]; rfl
theorem tL {i n:Nat} {l:List Int} (h:i<n) (hl:l.length=n):(idx (i:Int) n&&Nat.beq n l.length)=true:=by
 rw[vK h,hl]; simp
def Zb:Int->List Int->List Int->List Int
 | c,x::xs,y::ys=>((c+x+y)%65536)::Zb ((c+x+y)/65536) xs ys
 | _,_,_=>[]
theorem Xk:∀(xs ys:List Int) (c:Int),xs.length=ys.length->(Zb c xs ys).length=xs.length
 | [],[],c,h=>rfl
 | x::xs,y::ys,c,h=>by simp only[Zb,List.length_cons,Xk xs ys _ (by simpa using h)]
 | [],_::_,_,h=>by simp at h
 | _::_,[],_,h=>by simp at h
theorem UP:∀(xs ys:List Int) (c:Int),DG (Zb c xs ys)
 | [],ys,c=>by simp only[Zb]; exact DG.nil
 | x::xs,[],c=>by simp only[Zb]; exact DG.nil
 | x::xs,y::ys,c=>by simp only[Zb]; exact DG.mk (by omega) (UP xs ys _)
theorem UO:∀(xs ys:List Int) (c:Int),xs.length=ys.length->DG xs->DG ys->0<=c->c<=1->∃k:Int,0<=k/\k<=1/\lv (Zb c xs ys)+65536^xs.length*k=c+lv xs+lv ys
 | [],[],c,h,_,_,h1,h2=>⟨c,h1,h2,by simp[Zb,lv]⟩
 | [],_::_,_,h,_,_,_,_=>by simp at h
 | _::_,[],_,h,_,_,_,_=>by simp at h
 | x::xs,y::ys,c,h,hx,hy,h1,h2=>by
  have ⟨⟨x1,x2⟩,hx⟩:=hx.cons;have ⟨⟨y1,y2⟩,hy⟩:=hy.cons;obtain ⟨k,k1,k2,hk⟩:=UO xs ys ((c+x+y)/65536) (by simpa using h) hx hy (by omega) (by omega);refine ⟨k,k1,k2,?_⟩;simp only[Zb,lv,List.length_cons,Int.pow_succ];have:(65536:Int)^xs.length*65536*k=65536*(65536^xs.length*k):=by
   rw[Int.mul_comm (65536^xs.length) 65536,Int.mul_assoc]
  rw[this];generalize (65536:Int)^xs.length*k=q at*;omega
theorem plus_l3 (F:Nat) {R:Type} (k:List Int->List Int->Option R) (b r4:List Int) (hb:b.length=12):∀(xs pre ys:List Int) (c:Int) (i fu:Nat),pre.length=i->i+xs.length=12->b.drop i=ys->DG xs->DG ys->0<=c->c<=1->xs.length<fu->
  zw.l3 F (fun _ _ _ a _ r=>k a r) fu c (i:Int) (pre++xs) b r4=k (pre++Zb c xs ys) r4:=by
 intro xs;induction xs with
 | nil =>
  intro pre ys c i fu hp hi hy _ _ _ _ hf;obtain ⟨fu,rfl⟩:∃j,fu=j+1:=⟨fu-1,by simp at hf; omega⟩;simp only[List.length_nil,Nat.add_zero] at hi;simp only[zw.l3,zw.l3.body,decide_eq_false (show ¬((i:Int)<12) by omega),cond_false,Zb]
 | cons x xs ih =>
  intro pre ys c i fu hp hi hy hx hys c1 c2 hf;obtain ⟨fu,rfl⟩:∃j,fu=j+1:=⟨fu-1,by simp at hf; omega⟩;simp only[List.length_cons] at hi hf;have ⟨⟨x1,x2⟩,hx⟩:=hx.cons;have hyl:=congrArg List.length hy;simp only[List.length_drop] at hyl;cases ys with
  | nil=>simp only[List.length_nil] at hyl; omega
  | cons y ys =>
   have ⟨⟨y1,y2⟩,hys⟩:=hys.cons;have hal:(pre++x::xs).length=12:=by simp; omega
   have e1:=tL (show i<12 by omega) hal;have e2:=tL (show i<12 by omega) hb;have e3:(pre++x::xs).getD (Int.toNat (i:Int)) 0=x:=YZ (by rw[Int.toNat_natCast]; exact hp);have e4:b.getD (Int.toNat (i:Int)) 0=y:=by rw[Int.toNat_natCast]; exact ZY hy
   have e5:∀z,(pre++x::xs).set (Int.toNat (i:Int)) z=(pre++[z])++xs:=fun z=>Ys (by rw[Int.toNat_natCast]; exact hp)
   simp only[zw.l3,zw.l3.body,decide_eq_true (show ((i:Int)<12) by omega),cond_true,e1,e2,e3,e4,e5];rw[wi (n:=c+x) (by omega) (by omega),wi (n:=c+x+y) (by omega) (by omega),Int.tdiv_eq_ediv_of_nonneg (by omega),Int.tmod_eq_emod_of_nonneg (by omega),wi (n:=(c+x+y)/65536) (by omega) (by omega),yX (by omega) (by omega),<-Yt];rw[ih (pre++[(c+x+y)%65536]) ys ((c+x+y)/65536) (i+1) fu (by simp; omega) (by omega) (tE hy) hx hys (by omega) (by omega) (by omega)];simp[Zb]
theorem pow12:(65536:Int)^12=6277101735386680763835789423207666416102355444464034512896:=by decide
theorem Wa (F:Nat) (hF:20<F) {a b:List Int} {x y:Int} (ha:Rep a x) (hb:Rep b y):∃l,zw.sh F a b=some ((l,()),())/\Rep l (x+y):=by
 obtain ⟨a1,a2,k1,a3⟩:=ha;obtain ⟨b1,b2,k2,b3⟩:=hb;refine ⟨Zb 0 a b,?_,by rw[Xk _ _ _ (by omega)]; exact a1,UP _ _ _,?_⟩
 ·unfold zw.sh
  have:=plus_l3 F (fun a1 r41=>bif Nat.beq 12 a1.length then bif (Nat.beq a1.length r41.length&&Nat.beq 12 r41.length) then bif (Nat.beq 12 a1.length&&true) then (some ((a1,()),()):Option zw.sg.R)
   else none
  else none
 else none) b (List.replicate 12 0) b1 a [] b 0 0 F rfl (by omega) (by simp) a2 b2 (by omega) (by omega) (by omega)
  rw[List.nil_append,show ((0:Nat):Int)=0 from rfl] at this;rw[this];have hl:(Zb 0 a b).length=12:=by rw[Xk _ _ _ (by omega)]; exact a1
  rw[List.nil_append,hl];rfl
 ·obtain ⟨k,_,_,hk⟩:=UO a b 0 (by omega) a2 b2 (by omega) (by omega)
  rw[a1,pow12] at hk;refine ⟨k1+k2-k,?_⟩;rw[Int.mul_sub,Int.mul_add];omega
theorem US (F:Nat) {R:Type} (k:List Int->List Int->Option R) (r2:List Int):∀(xs pre:List Int) (i fu:Nat),pre.length=i->i+xs.length=12->DG xs->xs.length<fu->
  zq.l2 F (fun _ _ a r=>k a r) fu (i:Int) (pre++xs) r2=k (pre++xs.map (fun d=>65535-d)) r2:=by
 intro xs;induction xs with
 | nil =>
  intro pre i fu hp hi _ hf;obtain ⟨fu,rfl⟩:∃j,fu=j+1:=⟨fu-1,by simp at hf; omega⟩;simp only[List.length_nil,Nat.add_zero] at hi;simp only[zq.l2,zq.l2.body,decide_eq_false (show ¬((i:Int)<12) by omega),cond_false,List.map_nil]
 | cons x xs ih =>
  intro pre i fu hp hi hx hf;obtain ⟨fu,rfl⟩:∃j,fu=j+1:=⟨fu-1,by simp at hf; omega⟩;simp only[List.length_cons] at hi hf;have ⟨⟨x1,x2⟩,hx⟩:=hx.cons;have hal:(pre++x::xs).length=12:=by simp; omega
  have e1:=tL (show i<12 by omega) hal;have e3:(pre++x::xs).getD (Int.toNat (i:Int)) 0=x:=YZ (by rw[Int.toNat_natCast]; exact hp);have e5:∀z,(pre++x::xs).set (Int.toNat (i:Int)) z=(pre++[z])++xs:=fun z=>Ys (by rw[Int.toNat_natCast]; exact hp)
  simp only[zq.l2,zq.l2.body,decide_eq_true (show ((i:Int)<12) by omega),cond_true,e1,e3,e5];rw[wi (n:=65535-x) (by omega) (by omega),yX (by omega) (by omega),<-Yt];rw[ih (pre++[65535-x]) (i+1) fu (by simp; omega) (by omega) hx (by omega)];simp
theorem TL:∀(xs:List Int),lv (xs.map (fun d=>65535-d))+lv xs+1=65536^xs.length
 | []=>by simp[lv]
 | x::xs=>by
  have:=TL xs;simp only[List.map_cons,lv,List.length_cons,Int.pow_succ];generalize (65536:Int)^xs.length=q at*;omega
theorem opp_dg {xs:List Int} (h:DG xs):DG (xs.map (fun d=>65535-d)):=fun d hd=>by
 obtain ⟨x,hx,rfl⟩:=List.mem_map.1 hd;have:=h x hx;omega
theorem qx (F:Nat) (hF:20<F) {a:List Int} {x:Int} (ha:Rep a x):∃l,zq.sh F a=some ((l,()),())/\Rep l (-x):=by
 obtain ⟨a1,a2,k1,a3⟩:=ha;have h1:Rep (a.map (fun d=>65535-d)) (-x-1):=by
  refine ⟨by simpa using a1,opp_dg a2,1-k1,?_⟩;have:=TL a;rw[a1,pow12] at this;rw[Int.mul_sub];omega
 have h2:Rep ((List.replicate 12 0).set 0 1) 1:=⟨rfl,by
  intro d hd;simp[List.replicate] at hd;omega,0,by rfl⟩
 obtain ⟨l,hl,hr⟩:=Wa F hF h1 h2;refine ⟨l,?_,by rw[show -x=-x-1+1 by omega]; exact hr⟩;unfold zq.sh;have:=US F (fun a1 r21=>bif Nat.beq 12 a1.length then oB (zw.sh F a1 ((List.replicate 12 0).set 0 1)) fun c_2 =>
  bif (Nat.beq c_2.1.1.length r21.length&&Nat.beq 12 r21.length) then bif (Nat.beq 12 c_2.1.1.length&&true) then (some ((c_2.1.1,()),()):Option zq.sg.R)
   else none
  else none
 else none) (List.replicate 12 0) a [] 0 F rfl (by omega) a2 (by omega)
 rw[List.nil_append,show ((0:Nat):Int)=0 from rfl] at this;rw[this,List.nil_append,hl];have e1:(a.map (fun d=>65535-d)).length=12:=by simpa using a1
 have e2:l.length=12:=hr.1;rw[e1];simp only[zQ,e2];rfl
theorem V4 (f:Nat) (a b:Int):zk.sh (f+20) (a,b)=bif decide (a<0) then
  some (([(b.fdiv 1).tmod 65536,(b.fdiv 65536).tmod 65536,(b.fdiv 4294967296).tmod 65536,(b.fdiv 281474976710656).tmod 65536,((u64.wrap a).fdiv 1).tmod 65536,((u64.wrap a).fdiv 65536).tmod 65536,((u64.wrap a).fdiv 4294967296).tmod 65536,((u64.wrap a).fdiv 281474976710656).tmod 65536,65535,65535,65535,65535],()),())
 else some (([(b.fdiv 1).tmod 65536,(b.fdiv 65536).tmod 65536,(b.fdiv 4294967296).tmod 65536,(b.fdiv 281474976710656).tmod 65536,((u64.wrap a).fdiv 1).tmod 65536,((u64.wrap a).fdiv 65536).tmod 65536,((u64.wrap a).fdiv 4294967296).tmod 65536,((u64.wrap a).fdiv 281474976710656).tmod 65536,0,0,0,0],()),()):=by kernel_rfl
theorem U8 {b:Int} (h1:0<=b) (h2:b<18446744073709551616):(b.fdiv 1).tmod 65536=b%65536/\(b.fdiv 65536).tmod 65536=b/65536%65536/\(b.fdiv 4294967296).tmod 65536=b/4294967296%65536/\(b.fdiv 281474976710656).tmod 65536=b/281474976710656%65536:=by
 rw[Int.fdiv_eq_ediv_of_nonneg _ (by omega),Int.fdiv_eq_ediv_of_nonneg _ (by omega),Int.fdiv_eq_ediv_of_nonneg _ (by omega),Int.fdiv_eq_ediv_of_nonneg _ (by omega),Int.tmod_eq_emod_of_nonneg (by omega),Int.tmod_eq_emod_of_nonneg (by omega),Int.tmod_eq_emod_of_nonneg (by omega),Int.tmod_eq_emod_of_nonneg (by omega)];exact ⟨by omega,rfl,rfl,rfl⟩
theorem Rep.of12 {a b c d e f g i j k m n v q:Int} (h1:0<=a/\a<65536) (h2:0<=b/\b<65536) (h3:0<=c/\c<65536) (h4:0<=d/\d<65536) (h5:0<=e/\e<65536) (h6:0<=f/\f<65536) (h7:0<=g/\g<65536) (h8:0<=i/\i<65536)
  (h9:0<=j/\j<65536) (h10:0<=k/\k<65536) (h11:0<=m/\m<65536) (h12:0<=n/\n<65536) (h:lv [a,b,c,d,e,f,g,i,j,k,m,n]=v+6277101735386680763835789423207666416102355444464034512896*q):Rep [a,b,c,d,e,f,g,i,j,k,m,n] v :=
 ⟨rfl,DG.mk h1 (DG.mk h2 (DG.mk h3 (DG.mk h4 (DG.mk h5 (DG.mk h6 (DG.mk h7 (DG.mk h8 (DG.mk h9 (DG.mk h10 (DG.mk h11 (DG.mk h12 DG.nil))))))))))),q,h⟩
theorem qB (F:Nat) (hF:20<F) {w:Int×Int} (hw:wfW w):∃l,zk.sh F w=some ((l,()),())/\Rep l (val w):=by
 obtain ⟨f,rfl⟩:∃f,F=f+20:=⟨F-20,by omega⟩;obtain ⟨a,b⟩:=w;obtain ⟨h1,h2,h3,h4⟩:=hw;simp only at h1 h2 h3 h4;rw[V4];have hu:=U8 h3 h4;have hA1:0<=u64.wrap a:=by rw[wF]; omega
 have hA2:u64.wrap a<18446744073709551616:=by rw[wF]; omega
 have hv:=U8 hA1 hA2;rw[hu.1,hu.2.1,hu.2.2.1,hu.2.2.2,hv.1,hv.2.1,hv.2.2.1,hv.2.2.2];by_cases hn:a<0
 ·rw[decide_eq_true hn]
  have hA:u64.wrap a=a+18446744073709551616:=by rw[wF]; omega
  rw[hA];refine ⟨_,rfl,Rep.of12 (q:=1) (by omega) (by omega) (by omega) (by omega) (by omega) (by omega) (by omega) (by omega) (by omega) (by omega) (by omega) (by omega) ?_⟩;simp only[lv,val];omega
 ·rw[decide_eq_false hn]
  have hA:u64.wrap a=a:=by rw[wF]; omega
  rw[hA];refine ⟨_,rfl,Rep.of12 (q:=0) (by omega) (by omega) (by omega) (by omega) (by omega) (by omega) (by omega) (by omega) (by omega) (by omega) (by omega) (by omega) ?_⟩;simp only[lv,val];omega
theorem Rep.open {l:List Int} {v:Int} (h:Rep l v):∃a b c d e f g i j k m n q:Int,l=[a,b,c,d,e,f,g,i,j,k,m,n]/\(0<=a/\a<65536)/\(0<=b/\b<65536)/\(0<=c/\c<65536)/\(0<=d/\d<65536)/\(0<=e/\e<65536)/\(0<=f/\f<65536)/\(0<=g/\g<65536)/\(0<=i/\i<65536) /\
  (0<=j/\j<65536)/\(0<=k/\k<65536)/\(0<=m/\m<65536)/\(0<=n/\n<65536) /\
  a+65536*b+4294967296*c+281474976710656*d+18446744073709551616*e+1208925819614629174706176*f+79228162514264337593543950336*g+5192296858534827628530496329220096*i+340282366920938463463374607431768211456*j+22300745198530623141535718272648361505980416*k+1461501637330902918203684832716283019655932542976*m+95780971304118053647396689196894323976171195136475136*n=v+6277101735386680763835789423207666416102355444464034512896*q:=by
 obtain ⟨h1,h2,q,h3⟩:=h;obtain ⟨a,b,c,d,e,f,g,i,j,k,m,n,rfl⟩:=len12 h1;refine ⟨a,b,c,d,e,f,g,i,j,k,m,n,q,rfl,h2 a (by simp),h2 b (by simp),h2 c (by simp),h2 d (by simp),h2 e (by simp),h2 f (by simp),h2 g (by simp),h2 i (by simp),h2 j (by simp),h2 k (by simp),h2 m (by simp),h2 n (by simp),?_⟩;simp only[lv] at h3;omega
theorem Vl (F:Nat) {l:List Int} {v:Int} (h:Rep l v) (h1:-3138550867693340381917894711603833208051177722232017256448<=v) (h2:v<3138550867693340381917894711603833208051177722232017256448):yk.sh F l=some ((decide (v<0),()),()):=by
 obtain ⟨a,b,c,d,e,f,g,i,j,k,m,n,q,rfl,b1,b2,b3,b4,b5,b6,b7,b8,b9,b10,b11,b12,hs⟩:=h.open;unfold yk.sh;have hd:decide (([a,b,c,d,e,f,g,i,j,k,m,n].getD 11 0)>=32768)=decide (v<0):=by
  show decide (n>=32768)=decide (v<0);by_cases hv:v<0
  ·rw[decide_eq_true hv,decide_eq_true (by omega)]
  ·rw[decide_eq_false hv,decide_eq_false (by omega)]
 rw[hd];rfl
def hor (d c b a:Int):Int:=a+65536*b+4294967296*c+281474976710656*d
theorem qn {a b c d:Int} (h1:0<=a/\a<65536) (h2:0<=b/\b<65536) (h3:0<=c/\c<65536) (h4:0<=d/\d<65536):0<=hor d c b a/\hor d c b a<18446744073709551616:=by unfold hor; omega
theorem ZX {a b c d:Int} (h1:0<=a/\a<65536) (h2:0<=b/\b<65536) (h3:0<=c/\c<65536) (h4:0<=d/\d<65536) :
  u64.wrap (u64.wrap (u64.wrap (u64.wrap (u64.wrap (u64.wrap (u64.wrap (u64.wrap (0*65536)+d)*65536)+c)*65536)+b)*65536)+a)=hor d c b a:=by
 unfold hor;rw[wi (n:=0*65536) (by omega) (by omega),wi (n:=0*65536+d) (by omega) (by omega),wi (n:=(0*65536+d)*65536) (by omega) (by omega),wi (n:=(0*65536+d)*65536+c) (by omega) (by omega),
  wi (n:=((0*65536+d)*65536+c)*65536) (by omega) (by omega),wi (n:=((0*65536+d)*65536+c)*65536+b) (by omega) (by omega),wi (n:=(((0*65536+d)*65536+c)*65536+b)*65536) (by omega) (by omega),wi (by omega) (by omega)]
 omega
theorem Tk (f:Nat) (a b c d e f' g i j k m n:Int):zn.sh (f+20) [a,b,c,d,e,f',g,i,j,k,m,n]=bif decide (i>=32768) then
  (bif (j != 65535) then some (((0,0),false,()),()) else bif (k != 65535) then some (((0,0),false,()),()) else bif (m != 65535) then some (((0,0),false,()),()) else bif (n != 65535) then some (((0,0),false,()),()) else
   some (((i64.wrap (u64.wrap (u64.wrap (u64.wrap (u64.wrap (u64.wrap (u64.wrap (u64.wrap (u64.wrap (0*65536)+i)*65536)+g)*65536)+f')*65536)+e)),u64.wrap (u64.wrap (u64.wrap (u64.wrap (u64.wrap (u64.wrap (u64.wrap (u64.wrap (0*65536)+d)*65536)+c)*65536)+b)*65536)+a)),true,()),()))
 else (bif (j != 0) then some (((0,0),false,()),()) else bif (k != 0) then some (((0,0),false,()),()) else bif (m != 0) then some (((0,0),false,()),()) else bif (n != 0) then some (((0,0),false,()),()) else
   some (((i64.wrap (u64.wrap (u64.wrap (u64.wrap (u64.wrap (u64.wrap (u64.wrap (u64.wrap (u64.wrap (0*65536)+i)*65536)+g)*65536)+f')*65536)+e)),u64.wrap (u64.wrap (u64.wrap (u64.wrap (u64.wrap (u64.wrap (u64.wrap (u64.wrap (0*65536)+d)*65536)+c)*65536)+b)*65536)+a)),true,()),())):=by kernel_rfl
theorem Uh (F:Nat) {l:List Int} (hl:l.length=12) {v:Int} (hv:inR v=false) (h:zn.sh F l=some (((0,0),false,()),())):zR.sh F l=some ((wE v,wu v,()),()):=by
 unfold zR.sh wE wu;rw[hl,h,hv];rfl
theorem WH (F:Nat) {l:List Int} (hl:l.length=12) {v:Int} (hv:inR v=true) (h:zn.sh F l=some ((mk v,true,()),())):zR.sh F l=some ((wE v,wu v,()),()):=by
 unfold zR.sh wE wu;rw[hl,h,hv];rfl
theorem TG {a b:Int} {w:Int×Int} (h1:a=w.1) (h2:b=w.2):(some (((a,b),true,()),()):Option ((((Int×Int))×Bool×Unit)×Unit))=some ((w,true,()),()):=by
 rw[h1,h2]
theorem Yr (F:Nat) (hF:20<F) {l:List Int} {v:Int} (h:Rep l v) (h1:-3138550867693340381917894711603833208051177722232017256448<=v) (h2:v<3138550867693340381917894711603833208051177722232017256448):zR.sh F l=some ((wE v,wu v,()),()):=by
 obtain ⟨fu,rfl⟩:∃f,F=f+20:=⟨F-20,by omega⟩;have hl:=h.1;obtain ⟨a,b,c,d,e,f,g,i,j,k,m,n,q,rfl,b1,b2,b3,b4,b5,b6,b7,b8,b9,b10,b11,b12,hs⟩:=h.open;have hw:=Tk fu a b c d e f g i j k m n;rw[ZX b1 b2 b3 b4,ZX b5 b6 b7 b8] at hw;have hb1:=qn b1 b2 b3 b4;have hb2:=qn b5 b6 b7 b8;have hs2:hor d c b a+18446744073709551616*hor i g f e+340282366920938463463374607431768211456*(hor n m k j)=v+6277101735386680763835789423207666416102355444464034512896*q:=by unfold hor; omega
 have hi8:decide (i>=32768)=decide (hor i g f e>=9223372036854775808):=by
  by_cases hi:i>=32768
  ·rw[decide_eq_true hi,decide_eq_true (by unfold hor; omega)]
  ·rw[decide_eq_false hi,decide_eq_false (by unfold hor; omega)]
 have htop:=qn b9 b10 b11 b12;by_cases hi:i>=32768
 ·rw[decide_eq_true hi] at hw hi8
  have hi9:=of_decide_eq_true hi8.symm;simp only[cond_true] at hw;by_cases ht:j=65535/\k=65535/\m=65535/\n=65535
  ·obtain ⟨rfl,rfl,rfl,rfl⟩:=ht
   simp only[bne_self_eq_false,cond_false] at hw;have htt:hor 65535 65535 65535 65535=18446744073709551615:=by decide
   rw[htt] at hs2;have hv:inR v=true:=by rw[vZ]; omega
   refine WH _ hl hv (hw.trans ?_);have e1:i64.wrap (hor i g f e)=hor i g f e-18446744073709551616:=by rw[uN]; split<;>omega
   rw[e1];exact TG (by simp only[mk]; omega) (by simp only[mk]; omega)
  ·have hv:inR v=false:=by
    have:hor n m k j<18446744073709551615:=by unfold hor; omega
    rw[uH]; omega
   refine Uh _ hl hv (hw.trans ?_);by_cases h1:j=65535
   ·by_cases h2:k=65535
    ·by_cases h3:m=65535
     ·have h4:n≠65535:=fun h4=>ht ⟨h1,h2,h3,h4⟩
      rw[show (n != 65535)=true by simpa using h4];cases (j != 65535)<;>cases (k != 65535)<;>cases (m != 65535)<;>rfl
     ·rw[show (m != 65535)=true by simpa using h3]
      cases (j != 65535)<;>cases (k != 65535)<;>rfl
    ·rw[show (k != 65535)=true by simpa using h2]
     cases (j != 65535)<;>rfl
   ·rw[show (j != 65535)=true by simpa using h1]
    rfl
 ·rw[decide_eq_false hi] at hw hi8
  have hi9:=of_decide_eq_false hi8.symm;simp only[cond_false] at hw;by_cases ht:j=0/\k=0/\m=0/\n=0
  ·obtain ⟨rfl,rfl,rfl,rfl⟩:=ht
   simp only[bne_self_eq_false,cond_false] at hw;have htt:hor 0 0 0 0=0:=by decide
   rw[htt] at hs2;have hv:inR v=true:=by rw[vZ]; omega
   refine WH _ hl hv (hw.trans ?_);have e1:i64.wrap (hor i g f e)=hor i g f e:=by rw[uN]; split<;>omega
   rw[e1];exact TG (by simp only[mk]; omega) (by simp only[mk]; omega)
  ·have hv:inR v=false:=by
    have:0<hor n m k j:=by unfold hor; omega
    rw[uH]; omega
   refine Uh _ hl hv (hw.trans ?_);by_cases h1:j=0
   ·by_cases h2:k=0
    ·by_cases h3:m=0
     ·have h4:n≠0:=fun h4=>ht ⟨h1,h2,h3,h4⟩
      rw[show (n != 0)=true by simpa using h4];cases (j != 0)<;>cases (k != 0)<;>cases (m != 0)<;>rfl
     ·rw[show (m != 0)=true by simpa using h3]
      cases (j != 0)<;>cases (k != 0)<;>rfl
    ·rw[show (k != 0)=true by simpa using h2]
     cases (j != 0)<;>rfl
   ·rw[show (j != 0)=true by simpa using h1]
    rfl
theorem ZF {w:Int×Int} (h:wfW w):-170141183460469231731687303715884105728<=val w/\val w<170141183460469231731687303715884105728:=by
 have:=vZ.1 (Yv h); exact this
theorem Un (F:Nat) (hF:20<F) {a b:Int×Int} (ha:wfW a) (hb:wfW b):yL.sh F a b=some ((wE (val a+val b),wu (val a+val b),()),()):=by
 obtain ⟨la,da,ra⟩:=qB F hF ha;obtain ⟨lb,db,rb⟩:=qB F hF hb;obtain ⟨l,dl,rl⟩:=Wa F hF ra rb;have h1:=ZF ha;have h2:=ZF hb;unfold yL.sh;rw[da,db];simp only[zQ];rw[dl];simp only[zQ];rw[Yr F hF rl (by omega) (by omega)];rfl
theorem Tw {l:List Int} {v:Int} (h:Rep l v) (h1:-3138550867693340381917894711603833208051177722232017256448<=v) (h2:v<3138550867693340381917894711603833208051177722232017256448):(l==List.replicate 12 0)=decide (v=0):=by
 obtain ⟨a,b,c,d,e,f,g,i,j,k,m,n,q,rfl,b1,b2,b3,b4,b5,b6,b7,b8,b9,b10,b11,b12,hs⟩:=h.open;by_cases hv:v=0
 ·subst hv
  rw[decide_eq_true rfl];have e:a=0/\b=0/\c=0/\d=0/\e=0/\f=0/\g=0/\i=0/\j=0/\k=0/\m=0/\n=0:=by
   have:q=0:=by omega
   subst this;omega
  obtain ⟨rfl,rfl,rfl,rfl,rfl,rfl,rfl,rfl,rfl,rfl,rfl,rfl⟩:=e;rfl
 ·rw[decide_eq_false hv]
  have:¬(a=0/\b=0/\c=0/\d=0/\e=0/\f=0/\g=0/\i=0/\j=0/\k=0/\m=0/\n=0):=by
   rintro ⟨rfl,rfl,rfl,rfl,rfl,rfl,rfl,rfl,rfl,rfl,rfl,rfl⟩
   omega
  rw[beq_eq_false_iff_ne];intro h;simp only[List.replicate,List.cons.injEq,and_true] at h;exact this h
theorem Um (F:Nat) (hF:20<F) {a b:Int×Int} (ha:wfW a) (hb:wfW b):yw.sh F a b=some ((ZA (val a) (val b),()),()):=by
 obtain ⟨la,da,ra⟩:=qB F hF ha;obtain ⟨lb,db,rb⟩:=qB F hF hb;obtain ⟨lt,dt,rt⟩:=qx F hF rb;obtain ⟨l,dl,rl⟩:=Wa F hF ra rt;have h1:=ZF ha;have h2:=ZF hb;unfold yw.sh;rw[da,db];simp only[zQ];rw[dt];simp only[zQ];rw[dl];simp only[zQ];have e1:=rl.1;rw[Vl F rl (by omega) (by omega),e1,Tw rl (by omega) (by omega)];simp only[zQ];rcases Int.lt_trichotomy (val a) (val b) with h | h | h
 ·rw[Wv h,decide_eq_true (show val a+-val b<0 by omega)]; rfl
 ·rw[UK h,decide_eq_false (show ¬(val a+-val b<0) by omega),decide_eq_true (show val a+-val b=0 by omega)]; rfl
 ·rw[Ww h,decide_eq_false (show ¬(val a+-val b<0) by omega),decide_eq_false (show ¬val a+-val b=0 by omega)]; rfl
theorem abs_raw (f:Nat) (k0:Int->Int->Option zx.sg.R) (a b c d e f' g i j k m n:Int):zx.j4 (f+20) k0 [a,b,c,d,e,f',g,i,j,k,m,n] =
  k0 (u64.wrap (u64.wrap (u64.wrap (u64.wrap (u64.wrap (u64.wrap (u64.wrap (u64.wrap (0*65536)+i)*65536)+g)*65536)+f')*65536)+e)) (u64.wrap (u64.wrap (u64.wrap (u64.wrap (u64.wrap (u64.wrap (u64.wrap (u64.wrap (0*65536)+d)*65536)+c)*65536)+b)*65536)+a)):=by kernel_rfl
theorem SJ (F:Nat) (hF:20<F) {l:List Int} {v:Int} (h:Rep l v) (h1:0<=v) (h2:v<340282366920938463463374607431768211456) (k0:Int->Int->Option zx.sg.R) :
  zx.j4 F k0 l=k0 (v/18446744073709551616) (v%18446744073709551616):=by
 obtain ⟨fu,rfl⟩:∃f,F=f+20:=⟨F-20,by omega⟩;obtain ⟨a,b,c,d,e,f,g,i,j,k,m,n,q,rfl,b1,b2,b3,b4,b5,b6,b7,b8,b9,b10,b11,b12,hs⟩:=h.open;rw[abs_raw,ZX b1 b2 b3 b4,ZX b5 b6 b7 b8];have hb1:=qn b1 b2 b3 b4;have hb2:=qn b5 b6 b7 b8;have hs2:hor d c b a+18446744073709551616*hor i g f e+340282366920938463463374607431768211456*(hor n m k j)=v+6277101735386680763835789423207666416102355444464034512896*q:=by unfold hor; omega
 have htop:=qn b9 b10 b11 b12;have hq:hor n m k j=0/\q=0:=by omega
 rw[hq.1,hq.2] at hs2;congr 1<;>omega
theorem Uo (F:Nat) (hF:20<F) {a:Int×Int} (ha:wfW a):zx.sh F a=some ((((val a).natAbs:Int)/18446744073709551616,((val a).natAbs:Int)%18446744073709551616,()),()):=by
 obtain ⟨la,da,ra⟩:=qB F hF ha;obtain ⟨lt,dt,rt⟩:=qx F hF ra;have h1:=ZF ha;unfold zx.sh;rw[da];simp only[zQ];rw[Vl F ra (by omega) (by omega),dt,ra.1];simp only[zQ];rw[rt.1];by_cases hn:val a<0
 ·rw[decide_eq_true hn,show ((val a).natAbs:Int)=- val a by omega]
  exact SJ F hF rt (by omega) (by omega) (fun r25 r35=>some ((r25,r35,()),()))
 ·rw[decide_eq_false hn,show ((val a).natAbs:Int)=val a by omega]
  exact SJ F hF ra (by omega) (by omega) (fun r25 r35=>some ((r25,r35,()),()))
theorem T4 (f:Nat) {R:Type} (k0:Bool->zg.T->List Int->Option R) (below:Bool) (a b:Int):zB.l3 (f+20) (fun bl _ _ _ _ r l=>k0 bl r l) (f+20) below a b 0 (0,0) (List.replicate 12 0) =
  k0 below (0,0) [(b.fdiv 1).tmod 65536,(b.fdiv 65536).tmod 65536,(b.fdiv 4294967296).tmod 65536,(b.fdiv 281474976710656).tmod 65536,(a.fdiv 1).tmod 65536,(a.fdiv 65536).tmod 65536,(a.fdiv 4294967296).tmod 65536,(a.fdiv 281474976710656).tmod 65536,0,0,0,0]:=by kernel_rfl
theorem Tu (F:Nat) (hF:20<F) {b:Bool} {hi lo:Int} (h1:0<=hi) (h2:hi<18446744073709551616) (h3:0<=lo) (h4:lo<18446744073709551616) {v:Int} (hv:v=bif b then -(hi*18446744073709551616+lo) else hi*18446744073709551616+lo) :
  zB.sh F b hi lo=some ((wE v,wu v,()),()):=by
 obtain ⟨fu,rfl⟩:∃f,F=f+20:=⟨F-20,by omega⟩;have hu:=U8 h3 h4;have hw:=U8 h1 h2;have e:=T4 fu (fun bl r l=>bif bl then bif Nat.beq 12 l.length then oB (zq.sh (fu+20) l) fun c_2 =>
   bif (Nat.beq c_2.1.1.length l.length&&Nat.beq 12 l.length) then bif Nat.beq 12 c_2.1.1.length then oB (zR.sh (fu+20) c_2.1.1) fun c_3 =>
     (some ((c_3.1.1,c_3.1.2.1,()),()):Option zB.sg.R)
    else none
   else none
  else none
 else bif Nat.beq 12 l.length then oB (zR.sh (fu+20) l) fun c_4 =>
  some ((c_4.1.1,c_4.1.2.1,()),())
 else none) b hi lo
 rw[hu.1,hu.2.1,hu.2.2.1,hu.2.2.2,hw.1,hw.2.1,hw.2.2.1,hw.2.2.2] at e;have hr:Rep [lo%65536,lo/65536%65536,lo/4294967296%65536,lo/281474976710656%65536,hi%65536,hi/65536%65536,hi/4294967296%65536,hi/281474976710656%65536,0,0,0,0] (hi*18446744073709551616+lo) :=
  Rep.of12 (q:=0) (by omega) (by omega) (by omega) (by omega) (by omega) (by omega) (by omega) (by omega) (by omega) (by omega) (by omega) (by omega) (by simp only[lv]; omega)
 generalize ([lo%65536,lo/65536%65536,lo/4294967296%65536,lo/281474976710656%65536,hi%65536,hi/65536%65536,hi/4294967296%65536,hi/281474976710656%65536,0,0,0,0]:List Int)=l at*;obtain ⟨lt,dt,rt⟩:=qx (fu+20) hF hr;unfold zB.sh;refine Eq.trans e ?_;simp only[dt,hr.1,rt.1,zQ];cases b with
 | true =>
  simp only[cond_true] at hv ⊢;rw[hv,Yr _ hF rt (by omega) (by omega)];rfl
 | false =>
  simp only[cond_false] at hv ⊢;rw[hv,Yr _ hF hr (by omega) (by omega)];rfl
theorem Tt (F:Nat) {v:Int} (h1:-9223372036854775808<=v) (h2:v<9223372036854775808):xc.sh F v=some ((mk v,()),()):=by
 unfold xc.sh;rw[wF];by_cases h:v<0
 ·rw[decide_eq_true h,show mk v=(-1,v%18446744073709551616) by simp only[mk]; exact pair2 (by omega) rfl]; rfl
 ·rw[decide_eq_false h,show mk v=(0,v%18446744073709551616) by simp only[mk]; exact pair2 (by omega) rfl]; rfl
theorem VE:∀(a b:List Int),lv (a++b)=lv a+65536^a.length*lv b
 | [],b=>by simp[lv]
 | x::r,b=>by
  simp only[List.cons_append,lv,VE r b,List.length_cons,Int.pow_succ];rw[Int.mul_comm (65536^r.length) 65536,Int.mul_assoc,Int.mul_add];omega
theorem Ve (f:Nat) (a b:Int):zA.sh (f+20) a b =
  some (([(b.fdiv 1).tmod 65536,(b.fdiv 65536).tmod 65536,(b.fdiv 4294967296).tmod 65536,(b.fdiv 281474976710656).tmod 65536,(a.fdiv 1).tmod 65536,(a.fdiv 65536).tmod 65536,(a.fdiv 4294967296).tmod 65536,(a.fdiv 281474976710656).tmod 65536],()),()):=by kernel_rfl
theorem Xc (F:Nat) (hF:20<F) {hi lo:Int} (h1:0<=hi) (h2:hi<18446744073709551616) (h3:0<=lo) (h4:lo<18446744073709551616):∃l,zA.sh F hi lo=some ((l,()),())/\l.length=8/\DG l/\lv l=hi*18446744073709551616+lo:=by
 obtain ⟨fu,rfl⟩:∃f,F=f+20:=⟨F-20,by omega⟩;have hu:=U8 h3 h4;have hw:=U8 h1 h2;rw[Ve,hu.1,hu.2.1,hu.2.2.1,hu.2.2.2,hw.1,hw.2.1,hw.2.2.1,hw.2.2.2];exact ⟨_,rfl,rfl,DG.mk (by omega) (DG.mk (by omega) (DG.mk (by omega) (DG.mk (by omega) (DG.mk (by omega) (DG.mk (by omega) (DG.mk (by omega) (DG.mk (by omega) DG.nil))))))),by simp only[lv]; omega⟩
def uC (x:Int):Int->List Int->List Int->List Int×Int
 | c,p::ps,y::ys=>(((c+p+x*y)%65536)::(uC x ((c+p+x*y)/65536) ps ys).1,(uC x ((c+p+x*y)/65536) ps ys).2)
 | c,_,_=>([],c)
theorem UJ {x y:Int} (hx:0<=x/\x<65536) (hy:0<=y/\y<65536):0<=x*y/\x*y<=4294836225:=by
 have:=ZV hx.1 (show x<=65535 by omega) hy.1 (show y<=65535 by omega);omega
theorem Ut {x:Int} (hx:0<=x/\x<65536):∀(ps ys:List Int) (c:Int),ps.length=ys.length->DG ps->DG ys->0<=c->c<65536->
  (uC x c ps ys).1.length=ps.length/\DG (uC x c ps ys).1/\0<=(uC x c ps ys).2/\(uC x c ps ys).2<65536/\lv (uC x c ps ys).1+65536^ps.length*(uC x c ps ys).2=c+lv ps+x*lv ys
 | [],[],c,h,_,_,h1,h2=>⟨rfl,DG.nil,h1,h2,by simp[uC,lv]⟩
 | [],_::_,_,h,_,_,_,_=>by simp at h
 | _::_,[],_,h,_,_,_,_=>by simp at h
 | p::ps,y::ys,c,h,hp,hy,h1,h2=>by
  have ⟨hp0,hp⟩:=hp.cons;have ⟨hy0,hy⟩:=hy.cons;have hm:=UJ hx hy0;obtain ⟨i1,i2,i3,i4,i5⟩:=Ut hx ps ys ((c+p+x*y)/65536) (by simpa using h) hp hy (by omega) (by omega);simp only[uC,List.length_cons,lv,Int.pow_succ];refine ⟨by omega,DG.mk (by omega) i2,i3,i4,?_⟩;have e1:(65536:Int)^ps.length*65536*(uC x ((c+p+x*y)/65536) ps ys).2=65536*(65536^ps.length*(uC x ((c+p+x*y)/65536) ps ys).2):=by
   rw[Int.mul_comm (65536^ps.length) 65536,Int.mul_assoc]
  have e2:x*(y+65536*lv ys)=x*y+65536*(x*lv ys):=by rw[Int.mul_add,<-Int.mul_assoc,Int.mul_comm x 65536,Int.mul_assoc]
  rw[e1,e2];generalize (65536:Int)^ps.length*(uC x ((c+p+x*y)/65536) ps ys).2=A at*;generalize x*lv ys=B at*;generalize x*y=C at*;omega
theorem mul_l9 (F:Nat) {R:Type} (k:Int->Int->zg.T->zg.T->zg.T->List Int->List Int->List Int->Option R) (a b r4:zg.T) (X Y:List Int) (i:Nat) (x:Int) (hX:X.length=8) (hi:i<8) (hxi:X.getD i 0=x) (hx:0<=x/\x<65536) (hY:Y.length=8) :
  ∀(ys ps pre rest:List Int) (c:Int) (j fu:Nat),pre.length=i+j->j+ys.length=8->ps.length=ys.length->(pre++ps++rest).length=17->Y.drop j=ys->DG ps->DG ys->0<=c->c<65536->ys.length<fu->
  zf.l9 F (fun i c _ _ a b r x y p=>k i c a b r x y p) fu (i:Int) c (j:Int) a b r4 X Y (pre++ps++rest)=k (i:Int) (uC x c ps ys).2 a b r4 X Y (pre++(uC x c ps ys).1++rest):=by
 intro ys;induction ys with
 | nil =>
  intro ps pre rest c j fu hp hj hps hl hd _ _ _ _ hf;obtain ⟨fu,rfl⟩:∃j,fu=j+1:=⟨fu-1,by simp at hf; omega⟩;simp only[List.length_nil,Nat.add_zero] at hj hps;obtain rfl:=List.eq_nil_of_length_eq_zero hps;simp only[zf.l9,zf.l9.body,decide_eq_false (show ¬((j:Int)<8) by omega),cond_false,uC]
 | cons y ys ih =>
  intro ps pre rest c j fu hp hj hps hl hd hdp hdy c1 c2 hf;obtain ⟨fu,rfl⟩:∃j,fu=j+1:=⟨fu-1,by simp at hf; omega⟩;simp only[List.length_cons] at hj hps hf;cases ps with
  | nil=>simp at hps
  | cons p ps =>
   simp only[List.length_cons] at hps;have ⟨hp0,hdp⟩:=hdp.cons;have ⟨hy0,hdy⟩:=hdy.cons;have hm:=UJ hx hy0;have hL:pre++p::ps++rest=pre++p::(ps++rest):=by simp
   rw[hL] at hl ⊢;have ew:i64.wrap ((i:Int)+(j:Int))=((i+j:Nat):Int):=by rw[yX (by omega) (by omega)]; omega
   have e1:=tL (show i+j<17 by simp at hl; omega) hl;have e2:=tL (show i<8 by omega) hX;have e3:=tL (show j<8 by omega) hY;have e4:(pre++p::(ps++rest)).getD (Int.toNat ((i+j:Nat):Int)) 0=p:=YZ (by rw[Int.toNat_natCast]; exact hp);have e5:X.getD (Int.toNat (i:Int)) 0=x:=by rw[Int.toNat_natCast]; exact hxi
   have e6:Y.getD (Int.toNat (j:Int)) 0=y:=by rw[Int.toNat_natCast]; exact ZY hd
   have e7:∀z,(pre++p::(ps++rest)).set (Int.toNat ((i+j:Nat):Int)) z=(pre++[z])++(ps++rest):=fun z=>Ys (by rw[Int.toNat_natCast]; exact hp)
   simp only[zf.l9,zf.l9.body,decide_eq_true (show ((j:Int)<8) by omega),cond_true,ew,e1,e2,e3,e4,e5,e6,e7];rw[wi (n:=c+p) (by omega) (by omega),wi (n:=x*y) (by omega) (by omega),wi (n:=c+p+x*y) (by omega) (by omega),Int.tdiv_eq_ediv_of_nonneg (by omega),Int.tmod_eq_emod_of_nonneg (by omega),wi (n:=(c+p+x*y)/65536) (by omega) (by omega),yX (by omega) (by omega),<-Yt,<-List.append_assoc];rw[ih ps (pre++[(c+p+x*y)%65536]) rest ((c+p+x*y)/65536) (j+1) fu (by simp; omega) (by omega) (by omega) (by simp at hl ⊢; omega) (tE hd) hdp hdy (by omega) (by omega) (by omega)];simp[uC]
theorem mul_l5 (F:Nat) (hF:20<F) {R:Type} (k:zg.T->zg.T->zg.T->List Int->Option R) (a b r4:zg.T) (X Y:List Int) (hX:X.length=8) (hY:Y.length=8) (dY:DG Y) :
  ∀(xs q pre:List Int) (i fu:Nat),pre.length=i->i+xs.length=8->q.length=8->X.drop i=xs->DG xs->DG q->DG pre->xs.length<fu->
  ∃s,zf.l5 F (fun _ _ a b r _ _ p=>k a b r p) fu (i:Int) a b r4 X Y (pre++q++List.replicate (xs.length+1) 0)=k a b r4 (pre++s)/\DG s/\(pre++s).length=17/\lv s=lv q+lv xs*lv Y:=by
 intro xs;induction xs with
 | nil =>
  intro q pre i fu hp hi hq hd _ hdq hdp hf;obtain ⟨fu,rfl⟩:∃j,fu=j+1:=⟨fu-1,by simp at hf; omega⟩;simp only[List.length_nil,Nat.add_zero] at hi;refine ⟨q++[0],?_,?_,by simp; omega,?_⟩
  ·simp only[zf.l5,zf.l5.body,decide_eq_false (show ¬((i:Int)<8) by omega),cond_false]
   simp
  ·intro d hd'
   rcases List.mem_append.1 hd' with h | h
   ·exact hdq d h
   ·rw[List.mem_singleton.1 h]; decide
  ·rw[VE]; simp[lv]
 | cons x xs ih =>
  intro q pre i fu hp hi hq hd hdx hdq hdp hf;obtain ⟨fu,rfl⟩:∃j,fu=j+1:=⟨fu-1,by simp at hf; omega⟩;simp only[List.length_cons] at hi hf;have ⟨hx0,hdx⟩:=hdx.cons;have hl:(pre++q++List.replicate (xs.length+1+1) 0).length=17:=by simp; omega
  have h9:=mul_l9 F (fun i5 c5 a5 b5 r45 x5 y5 p5=>bif (idx (i64.wrap (i5+8)) 17&&Nat.beq 17 p5.length) then zf.l5 F (fun _ _ a b r _ _ p=>k a b r p) fu (i64.wrap (i5+1)) a5 b5 r45 x5 y5 (p5.set ((i64.wrap (i5+8)).toNat) c5)
   else none) a b r4 X Y i x hX (by omega) (ZY hd) hx0 hY Y q pre (List.replicate (xs.length+1+1) 0) 0 0 F (by omega) (by omega) (by omega) hl (by simp) hdq dY (by omega) (by omega) (by omega)
  obtain ⟨m1,m2,m3,m4,m5⟩:=Ut hx0 q Y 0 (by omega) hdq dY (by omega) (by omega);rw[hq] at m1 m5;have ew:i64.wrap ((i:Int)+8)=((i+8:Nat):Int):=by rw[yX (by omega) (by omega)]; omega
  have hl2:(pre++(uC x 0 q Y).1++List.replicate (xs.length+1+1) 0).length=17:=by simp; omega
  have e1:=tL (show i+8<17 by omega) hl2;have e2:(pre++(uC x 0 q Y).1++List.replicate (xs.length+1+1) 0).set (Int.toNat ((i+8:Nat):Int)) (uC x 0 q Y).2=(pre++(uC x 0 q Y).1++[(uC x 0 q Y).2])++List.replicate (xs.length+1) 0:=by
   rw[List.replicate_succ];exact Ys (by rw[Int.toNat_natCast]; simp; omega)
  simp only[zf.l5,zf.l5.body,decide_eq_true (show ((i:Int)<8) by omega),cond_true,List.length_cons];rw[show ((0:Nat):Int)=0 from rfl] at h9;rw[h9];simp only[ew,e1,e2,cond_true];rw[yX (by omega) (by omega),<-Yt];cases hm:(uC x 0 q Y).1 with
  | nil=>rw[hm] at m1; simp at m1
  | cons q0 q' =>
   rw[hm] at m1 m2 m5;have ⟨hq0,dq'⟩:=m2.cons;simp only[List.length_cons] at m1;obtain ⟨s,s1,s2,s3,s4⟩:=ih (q'++[(uC x 0 q Y).2]) (pre++[q0]) (i+1) fu (by simp; omega) (by omega) (by simp; omega) (tE hd) hdx (by
    intro d hd';rcases List.mem_append.1 hd' with h | h
    ·exact dq' d h
    ·rw[List.mem_singleton.1 h]; exact ⟨m3,m4⟩) (by
    intro d hd';rcases List.mem_append.1 hd' with h | h
    ·exact hdp d h
    ·rw[List.mem_singleton.1 h]; exact hq0) (by omega)
   refine ⟨q0::s,?_,DG.mk hq0 s2,by simp at s3 ⊢; omega,?_⟩
   ·have:pre++q0::q'++[(uC x 0 q Y).2]++List.replicate (xs.length+1) 0=pre++[q0]++(q'++[(uC x 0 q Y).2])++List.replicate (xs.length+1) 0:=by simp
    rw[this,s1];simp
   ·rw[VE] at s4
    simp only[lv] at m5 s4 ⊢;rw[s4,Int.add_mul,Int.mul_assoc];have hq':q'.length=7:=by omega
    rw[hq'] at*;have p7:(65536:Int)^7=5192296858534827628530496329220096:=by decide
    have p8:(65536:Int)^8=340282366920938463463374607431768211456:=by decide
    rw[p7];rw[p8] at m5;generalize lv xs*lv Y=A at*;generalize x*lv Y=B at*;omega
theorem len17 {l:List Int} (h:l.length=17):∃a b c d e f g i j k m n o p q r s,l=[a,b,c,d,e,f,g,i,j,k,m,n,o,p,q,r,s]:=by
 match l,h with
 | [a,b,c,d,e,f,g,i,j,k,m,n,o,p,q,r,s],_=>exact ⟨a,b,c,d,e,f,g,i,j,k,m,n,o,p,q,r,s,rfl⟩
theorem l16_raw (f:Nat) {R:Type} (k0:Int->zg.T->Option R) (k1:zg.T->zg.T->zg.T->List Int->Option R) (A B C:zg.T) (a b c d e f' g i j k m n o p q r s:Int):zf.l16 (f+20) k0 (fun _ _ a b r p=>k1 a b r p) (f+20) 8 A B C [a,b,c,d,e,f',g,i,j,k,m,n,o,p,q,r,s] =
  bif (j != 0) then k0 10 (0,0) else bif (k != 0) then k0 10 (0,0) else bif (m != 0) then k0 10 (0,0) else bif (n != 0) then k0 10 (0,0) else bif (o != 0) then k0 10 (0,0) else bif (p != 0) then k0 10 (0,0) else bif (q != 0) then k0 10 (0,0) else bif (r != 0) then k0 10 (0,0) else bif (s != 0) then k0 10 (0,0) else
   k1 A B C [a,b,c,d,e,f',g,i,j,k,m,n,o,p,q,r,s]:=by kernel_rfl
theorem l23_raw (f:Nat) {R:Type} (k1:Int->Int->zg.T->zg.T->zg.T->Option R) (A B C:zg.T) (a b c d e f' g i j k m n o p q r s:Int):zf.l23 (f+20) (fun hi lo _ _ a b r _=>k1 hi lo a b r) (f+20) 0 0 3 A B C [a,b,c,d,e,f',g,i,j,k,m,n,o,p,q,r,s] =
  k1 (u64.wrap (u64.wrap (u64.wrap (u64.wrap (u64.wrap (u64.wrap (u64.wrap (u64.wrap (0*65536)+i)*65536)+g)*65536)+f')*65536)+e)) (u64.wrap (u64.wrap (u64.wrap (u64.wrap (u64.wrap (u64.wrap (u64.wrap (u64.wrap (0*65536)+d)*65536)+c)*65536)+b)*65536)+a)) A B C:=by kernel_rfl
theorem Uk (F:Nat) (hF:20<F) {a b:Int×Int} (ha:wfW a) (hb:wfW b):zf.sh F a b=some ((wE (val a*val b),wu (val a*val b),()),()):=by
 have pa:=WE ha;have pb:=WE hb;obtain ⟨X,eX,lX,dX,vX⟩:=Xc F hF (hi:=((val a).natAbs:Int)/18446744073709551616) (lo:=((val a).natAbs:Int)%18446744073709551616) (by omega) (by omega) (by omega) (by omega);obtain ⟨Y,eY,lY,dY,vY⟩:=Xc F hF (hi:=((val b).natAbs:Int)/18446744073709551616) (lo:=((val b).natAbs:Int)%18446744073709551616) (by omega) (by omega) (by omega) (by omega);rw[show ((val a).natAbs:Int)/18446744073709551616*18446744073709551616+((val a).natAbs:Int)%18446744073709551616=((val a).natAbs:Int) by omega] at vX;rw[show ((val b).natAbs:Int)/18446744073709551616*18446744073709551616+((val b).natAbs:Int)%18446744073709551616=((val b).natAbs:Int) by omega] at vY;unfold zf.sh;rw[Uo F hF ha];simp only[zQ];rw[eX];simp only[zQ];rw[Uo F hF hb];simp only[zQ];rw[eY];simp only[zQ];rw[lX,lY];simp only[List.length_replicate,Nat.beq_refl,Bool.and_true,cond_true];obtain ⟨s,s1,s2,s3,s4⟩:=mul_l5 F hF (fun a6 b6 r46 p6=>zf.l16 F (fun r57 r47=>(some ((r47,r57,()),()):Option zf.sg.R)) (fun i8 t628 a8 b8 r48 p8=>zf.l23 F (fun hi9 lo9 i9 t719 a9 b9 r49 p9=>oB (zB.sh F (!(decide (a9.1<0)==decide (b9.1<0))) hi9 lo9) fun c_10 =>
   some ((c_10.1.1,c_10.1.2.1,()),())) F 0 0 3 a8 b8 r48 p8) F 8 a6 b6 r46 p6) a b (0,0) X Y lX lY dY X (List.replicate 8 0) [] 0 F rfl (by omega) rfl (by simp) dX (by intro d hd; simp[List.replicate] at hd; omega) DG.nil (by omega)
 rw[lX] at s1;rw[show ([]:List Int)++List.replicate 8 0++List.replicate (8+1) 0=List.replicate 17 0 from rfl,show ((0:Nat):Int)=0 from rfl,List.nil_append] at s1;rw[s1];rw[List.nil_append] at s3;have hz:lv (List.replicate 8 0)=0:=by decide
 rw[hz,vX,vY,Int.zero_add] at s4;obtain ⟨fu,rfl⟩:∃f,F=f+20:=⟨F-20,by omega⟩;obtain ⟨A,B,C,D,E,G,H,I,J,K,M,N,O,P,Q,R',S,rfl⟩:=len17 s3;have b1:=s2 A (by simp);have b2:=s2 B (by simp);have b3:=s2 C (by simp);have b4:=s2 D (by simp);have b5:=s2 E (by simp);have b6:=s2 G (by simp);have b7:=s2 H (by simp);have b8:=s2 I (by simp);have b9:=s2 J (by simp);have b10:=s2 K (by simp);have b11:=s2 M (by simp);have b12:=s2 N (by simp);have b13:=s2 O (by simp);have b14:=s2 P (by simp);have b15:=s2 Q (by simp);have b16:=s2 R' (by simp);have b17:=s2 S (by simp);have hsign:=ZN (x:=val a) (y:=val b) rfl rfl;have hb1:=qn b1 b2 b3 b4;have hb2:=qn b5 b6 b7 b8;obtain ⟨W,hW⟩:∃W,W=J+65536*(K+65536*(M+65536*(N+65536*(O+65536*(P+65536*(Q+65536*(R'+65536*S))))))):=⟨_,rfl⟩;have hs2:hor D C B A+18446744073709551616*hor I H G E+340282366920938463463374607431768211456*W=((val a).natAbs:Int)*((val b).natAbs:Int):=by
  rw[<-s4,hW];simp only[lv,hor];omega
 have l16:=l16_raw fu (fun r57 r47=>(some ((r47,r57,()),()):Option zf.sg.R)) (fun a8 b8 r48 p8=>zf.l23 (fu+20) (fun hi9 lo9 i9 t719 a9 b9 r49 p9=>oB (zB.sh (fu+20) (!(decide (a9.1<0)==decide (b9.1<0))) hi9 lo9) fun c_10 =>
   some ((c_10.1.1,c_10.1.2.1,()),())) (fu+20) 0 0 3 a8 b8 r48 p8) a b (0,0) A B C D E G H I J K M N O P Q R' S
 refine Eq.trans l16 ?_;have l23:=l23_raw fu (fun hi9 lo9 a9 b9 r49=>oB (zB.sh (fu+20) (!(decide (a9.1<0)==decide (b9.1<0))) hi9 lo9) fun c_10 =>
   (some ((c_10.1.1,c_10.1.2.1,()),()):Option zf.sg.R)) a b (0,0) A B C D E G H I J K M N O P Q R' S
 rw[ZX b1 b2 b3 b4,ZX b5 b6 b7 b8] at l23;rw[l23,Yq ha,Yq hb];by_cases ht:W=0
 ·have hz:J=0/\K=0/\M=0/\N=0/\O=0/\P=0/\Q=0/\R'=0/\S=0:=by omega
  obtain ⟨rfl,rfl,rfl,rfl,rfl,rfl,rfl,rfl,rfl⟩:=hz;simp only[bne_self_eq_false,cond_false];rw[ht] at hs2;rw[Tu (fu+20) hF (v:=val a*val b) hb2.1 hb2.2 hb1.1 hb1.2 (by
   rw[hsign];cases (!(decide (val a<0)==decide (val b<0)))<;>simp only[cond_true,cond_false]<;>omega)]
  rfl
 ·have hv:inR (val a*val b)=false:=by
   have hbig:340282366920938463463374607431768211456<=((val a).natAbs:Int)*((val b).natAbs:Int):=by omega
   rw[uH,hsign];cases (!(decide (val a<0)==decide (val b<0)))<;>simp only[cond_true,cond_false]<;>omega
  have hres:(some ((wE (val a*val b),wu (val a*val b),()),()):Option zf.sg.R)=some (((0,0),10,()),()):=by
   unfold wE wu; rw[hv]; rfl
  rw[hres];have hnz:¬(J=0/\K=0/\M=0/\N=0/\O=0/\P=0/\Q=0/\R'=0/\S=0):=by
   rintro ⟨rfl,rfl,rfl,rfl,rfl,rfl,rfl,rfl,rfl⟩
   exact ht (by omega)
  cases h1:(J != 0) with
  | true=>rfl
  | false =>
  cases h2:(K != 0) with
  | true=>rfl
  | false =>
  cases h3:(M != 0) with
  | true=>rfl
  | false =>
  cases h4:(N != 0) with
  | true=>rfl
  | false =>
  cases h5:(O != 0) with
  | true=>rfl
  | false =>
  cases h6:(P != 0) with
  | true=>rfl
  | false =>
  cases h7:(Q != 0) with
  | true=>rfl
  | false =>
  cases h8:(R' != 0) with
  | true=>rfl
  | false =>
  cases h9:(S != 0) with
  | true=>rfl
  | false =>
   exact absurd ⟨by simpa using h1,by simpa using h2,by simpa using h3,by simpa using h4,by simpa using h5,by simpa using h6,by simpa using h7,by simpa using h8,by simpa using h9⟩ hnz
theorem Vv (F:Nat) {x s:Int} (h0:0<=x) (h:x<=1099511627776) (h1:1<=s):yA.sh F x s=some ((wx x s,()),()):=by
 have hq1:0<=x/s:=Int.ediv_nonneg h0 (by omega);have hq2:x/s<=x:=Int.ediv_le_self _ h0;unfold yA.sh wx;rw[show (s != 0)=true from bne_iff_ne.2 (by omega),Int.tdiv_eq_ediv_of_nonneg h0,Int.tmod_eq_emod_of_nonneg h0,yX (n:=x/s) (by omega) (by omega),yX (n:=x/s+1) (by omega) (by omega)];simp only[cond_true];by_cases hz:x%s=0
 ·rw[hz,if_pos rfl,Int.add_zero]; rfl
 ·rw[show (x%s != 0)=true from bne_iff_ne.2 hz,if_neg hz]; rfl
theorem UD (F:Nat) (s q:Int):yB.sh F s q=some ((u7 s q,()),()):=by
 unfold yB.sh u7;cases decide (s>=1)<;>cases decide (s<=1000000000000)<;>cases decide (q>=0)<;>rfl
theorem Xy (F:Nat) (hF:20<F) {l:zo.T} (hl:wfL l) (s q:Int):yg.sh F l s q=some ((mk (vS (lA l) (lB l) (lC l) s q).1,(vS (lA l) (lB l) (lC l) s q).2,()),()):=by
 unfold yg.sh vS;rw[UD,zQ];cases hf:u7 s q with
 | false=>rfl
 | true =>
  obtain ⟨h1,h2,h3,h4⟩:=up.1 hf;obtain ⟨b1,b2⟩:=SA hf;have iq:inR q=true:=Yw (by omega) (by omega);have ib:inR (wx q s)=true:=Yw (by omega) (by omega);simp only[Bool.not_true,cond_false];rw[Tt F (v:=q) (by omega) (by omega),zQ,Uk F hF hl.2.1 (vm iq),zQ,wN,show val l.2.1=lB l from rfl];rw[Vv F h3 h4 h1,zQ,Tt F (v:=wx q s) (by omega) (by omega),zQ,Uk F hF hl.2.2 (vm ib),zQ,wN,show val l.2.2=lC l from rfl];cases hB:inR (lB l*q) with
  | false =>
   have:wu (lB l*q)=10:=by unfold wu; rw[hB]; rfl
   simp only[this];rfl
  | true =>
   have e1:wu (lB l*q)=0:=by unfold wu; rw[hB]; rfl
   have e2:wE (lB l*q)=mk (lB l*q):=by unfold wE; rw[hB]; rfl
   simp only[e1,bne_self_eq_false,Bool.not_true,cond_false];cases hC:inR (lC l*wx q s) with
   | false =>
    have:wu (lC l*wx q s)=10:=by unfold wu; rw[hC]; rfl
    simp only[this];rfl
   | true =>
    have e3:wu (lC l*wx q s)=0:=by unfold wu; rw[hC]; rfl
    have e4:wE (lC l*wx q s)=mk (lC l*wx q s):=by unfold wE; rw[hC]; rfl
    simp only[e3,bne_self_eq_false,Bool.not_true,cond_false];rw[e2,e4,Un F hF hl.1 (vm hB),zQ,wN,show val l.1=lA l from rfl];cases hA:inR (lA l+lB l*q) with
    | false =>
     have:wu (lA l+lB l*q)=10:=by unfold wu; rw[hA]; rfl
     simp only[this];rfl
    | true =>
     have e5:wu (lA l+lB l*q)=0:=by unfold wu; rw[hA]; rfl
     have e6:wE (lA l+lB l*q)=mk (lA l+lB l*q):=by unfold wE; rw[hA]; rfl
     simp only[e5,bne_self_eq_false,Bool.not_true,cond_false];rw[e6,Un F hF (vm hA) (vm hC),zQ,wN,wN];unfold wE wu;cases hD:inR (lA l+lB l*q+lC l*wx q s)<;>rfl
def W1 (l m:zo.T):Bool:=(l.1.1==m.1.1)&&((l.1.2==m.1.2)&&((l.2.1.1==m.2.1.1)&&((l.2.1.2==m.2.1.2)&&((l.2.2.1==m.2.2.1)&&((l.2.2.2==m.2.2.2)&&true)))))
def qf (a b:zj.T):Bool:=!decide (a.1>=b.1)&&(!decide (b.1>1099511627776)&&!W1 a.2 b.2)
def vO:List zj.T->Bool
 | []=>true
 | a::r=>(match r with | []=>true | b::_=>qf a b)&&vO r
def vE (t:zN.T):Bool:=!decide (t.1<1)&&(!decide (t.1>1000000000000)&&(!decide (t.2.1<0)&&(!decide (t.2.1>6)&&(!decide ((t.2.2.length:Int)<1)&&(!decide ((t.2.2.length:Int)>256)&&(((get zj t.2.2 0).1==0)&&vO t.2.2))))))
theorem Vf (F:Nat) {R:Type} (k0:Bool->Option R) (kT:Option R) (t:zN.T) (hn:t.2.2.length<=256):∀(r:List zj.T) (a:zj.T) (i fu:Nat),t.2.2.drop i=a::r->r.length<fu->
  zO.l5 F k0 (fun _ _ _ _=>kT) fu ((t.2.2.length:Int)-1) (i:Int) t=bif vO (a::r) then kT else k0 false
 | r,a,i,0,h,hf=>by omega
 | [],a,i,fu+1,h,hf=>by
  have hl:=congrArg List.length h;simp only[List.length_drop,List.length_cons,List.length_nil] at hl;simp only[zO.l5,zO.l5.body,decide_eq_false (show ¬(i:Int)<(t.2.2.length:Int)-1 by omega),cond_false];rfl
 | b::r,a,i,fu+1,h,hf=>by
  have hl:=congrArg List.length h;simp only[List.length_drop,List.length_cons] at hl;have h2:=tE h;have ih:=Vf F k0 kT t hn r b (i+1) fu h2 (by simpa using hf);have g1:=ZL (t:=zj) h;have g2:=ZL (t:=zj) h2;have w:i64.wrap ((i:Int)+1)=((i+1:Nat):Int):=by rw[yX (by omega) (by omega)]; simp
  simp only[zO.l5,zO.l5.body,decide_eq_true (show (i:Int)<(t.2.2.length:Int)-1 by omega),cond_true,vK (show i<t.2.2.length by omega),w,vK (show i+1<t.2.2.length by omega),g1,g2];show (bif decide (a.1>=b.1) then k0 false else bif decide (b.1>1099511627776) then k0 false else bif W1 a.2 b.2 then k0 false else _)=_;rw[ih];show _=bif qf a b&&vO (b::r) then kT else k0 false
  unfold qf;cases decide (a.1>=b.1) with
  | true=>rfl
  | false =>
   cases decide (b.1>1099511627776) with
   | true=>rfl
   | false=>cases W1 a.2 b.2<;>rfl
theorem q9 (F:Nat) (hF:256<F) (t:zN.T):zO.sh F t=some ((vE t,()),()):=by
 unfold zO.sh vE;cases h1:decide (t.1<1) with
 | true=>rfl
 | false =>
 cases h2:decide (t.1>1000000000000) with
 | true=>rfl
 | false =>
 cases h3:decide (t.2.1<0) with
 | true=>rfl
 | false =>
 cases h4:decide (t.2.1>6) with
 | true=>rfl
 | false =>
 cases h5:decide ((t.2.2.length:Int)<1) with
 | true=>rfl
 | false =>
 cases h6:decide ((t.2.2.length:Int)>256) with
 | true=>rfl
 | false =>
  have h5:=of_decide_eq_false h5;have h6:=of_decide_eq_false h6;simp only[cond_false,Bool.not_false,Bool.true_and];rw[show idx 0 t.2.2.length=true from vK (i:=0) (by omega)];simp only[cond_true];cases h7:((get zj t.2.2 0).1 != 0) with
  | true =>
   have:((get zj t.2.2 0).1==0)=false:=by simpa using h7
   rw[this]; rfl
  | false =>
   have:((get zj t.2.2 0).1==0)=true:=by simpa using h7
   rw[this,yX (by omega) (by omega)];obtain ⟨a,r,hr⟩:∃a r,t.2.2=a::r:=by
    cases h:t.2.2 with
    | nil=>rw[h] at h5; exact absurd (by decide) h5
    | cons a r=>exact ⟨a,r,rfl⟩
   have hd:t.2.2.drop 0=a::r:=hr;have hl:=congrArg List.length hr;simp only[List.length_cons] at hl;simp only[cond_false,Bool.true_and];refine (Vf F (fun r21=>some ((r21,()),())) (some ((true,()),())) t (by omega) r a 0 F hd (by omega)).trans ?_;rw[hr];cases vO (a::r)<;>rfl
theorem XB (F:Nat) {R:Type} (k0:Bool->Option R) (kT:Option R) (t:zN.T) (hn:t.2.2.length<=256):∀(r:List zj.T) (a:zj.T) (i fu:Nat),t.2.2.drop i=a::r->r.length<fu->
  zl.l4 F k0 k0 (fun _ _ _=>kT) fu ((i+1:Nat):Int) t=bif vO (a::r) then kT else k0 false
 | r,a,i,0,h,hf=>by omega
 | [],a,i,fu+1,h,hf=>by
  have hl:=congrArg List.length h;simp only[List.length_drop,List.length_cons,List.length_nil] at hl;simp only[zl.l4,zl.l4.body,decide_eq_false (show ¬((i+1:Nat):Int)<(t.2.2.length:Int) by omega),cond_false];rfl
 | b::r,a,i,fu+1,h,hf=>by
  have hl:=congrArg List.length h;simp only[List.length_drop,List.length_cons] at hl;have h2:=tE h;have ih:=XB F k0 kT t hn r b (i+1) fu h2 (by simpa using hf);have g1:=ZL (t:=zj) h;have g2:=ZL (t:=zj) h2;have w:i64.wrap (((i+1:Nat):Int)-1)=(i:Int):=by rw[yX (by omega) (by omega)]; simp
  have w2:i64.wrap (((i+1:Nat):Int)+1)=((i+1+1:Nat):Int):=by rw[yX (by omega) (by omega)]; simp
  have e0:(((i+1:Nat):Int)==0)=false:=by simp; omega
  simp only[zl.l4,zl.l4.body,zl.j8,decide_eq_true (show ((i+1:Nat):Int)<(t.2.2.length:Int) by omega),decide_eq_true (show ((i+1:Nat):Int)>0 by omega),cond_true,cond_false,e0,vK (show i<t.2.2.length by omega),w,w2,vK (show i+1<t.2.2.length by omega),g1,g2];show (bif decide (b.1>1099511627776) then k0 false else bif decide (a.1>=b.1) then k0 false else bif W1 a.2 b.2 then k0 false else _)=_;rw[ih];show _=bif qf a b&&vO (b::r) then kT else k0 false
  unfold qf;cases decide (a.1>=b.1) with
  | true=>cases decide (b.1>1099511627776)<;>rfl
  | false =>
   cases decide (b.1>1099511627776) with
   | true=>rfl
   | false=>cases W1 a.2 b.2<;>rfl
theorem Z9 (F:Nat) (hF:257<F) (t:zN.T):zl.sh F t=some ((vE t,()),()):=by
 unfold zl.sh vE;cases h1:decide (t.1<1) with
 | true=>rfl
 | false =>
 cases h2:decide (t.1>1000000000000) with
 | true=>rfl
 | false =>
 cases h3:decide (t.2.1<0) with
 | true=>rfl
 | false =>
 cases h4:decide (t.2.1>6) with
 | true=>rfl
 | false =>
 cases h5:((t.2.2.length:Int)==0) with
 | true =>
  have h5:(t.2.2.length:Int)=0:=by simpa using h5
  rw[decide_eq_true (show (t.2.2.length:Int)<1 by omega)];rfl
 | false =>
 have h5:(t.2.2.length:Int)≠0:=by simpa using h5
 rw[decide_eq_false (show ¬(t.2.2.length:Int)<1 by omega)];cases h6:decide ((t.2.2.length:Int)>256) with
 | true=>rfl
 | false =>
  have h6:=of_decide_eq_false h6;simp only[cond_false,Bool.not_false,Bool.true_and];obtain ⟨a,r,hr⟩:∃a r,t.2.2=a::r:=by
   cases h:t.2.2 with
   | nil=>rw[h] at h5; exact absurd rfl h5
   | cons a r=>exact ⟨a,r,rfl⟩
  have hd:t.2.2.drop 0=a::r:=hr;have hl:=congrArg List.length hr;simp only[List.length_cons] at hl;obtain ⟨fu,hfu⟩:∃fu,F=fu+1:=⟨F-1,by omega⟩;have g:get zj t.2.2 (0:Int).toNat=a:=by rw[hr]; rfl
  have g':get zj t.2.2 0=a:=by rw[hr]; rfl
  have key:=XB F (fun r21=>(some ((r21,()),()):Option zl.sg.R)) (some ((true,()),())) t (by omega) r a 0 fu hd (by omega);rw[show zl.l4 F (fun r25=>(some ((r25,()),()):Option zl.sg.R)) (fun r26=>some ((r26,()),())) (fun i7 t387 t7=>some ((true,()),())) F 0 t=zl.l4 F (fun r25=>some ((r25,()),())) (fun r26=>some ((r26,()),())) (fun i7 t387 t7=>some ((true,()),())) (fu+1) 0 t from by rw[<-hfu]];simp only[zl.l4,zl.l4.body,zl.j8];rw[decide_eq_true (show (0:Int)<(t.2.2.length:Int) by omega),show idx 0 t.2.2.length=true from vK (i:=0) (by omega),g,g'];rw[show (decide ((0:Int)>0))=false from rfl,show ((0:Int)==0)=true from rfl,show i64.wrap (0+1)=((0+1:Nat):Int) from rfl,key,<-hr];simp only[cond_true,cond_false];cases h7:(a.1==0) with
  | true =>
   have:a.1=0:=by simpa using h7
   rw[decide_eq_false (show ¬a.1>1099511627776 by rw[this]; decide),show (a.1 != 0)=false by simpa using this];simp only[cond_false,Bool.true_and];cases vO t.2.2<;>rfl
  | false =>
   have:(a.1 != 0)=true:=by simpa using h7
   rw[this];cases decide (a.1>1099511627776)<;>rfl
def pF (l:List zj.T) (i:Nat):Int:=(get zj l i).1
theorem Wd (a:zj.T) (l:List zj.T) (i:Nat):pF (a::l) (i+1)=pF l i:=rfl
theorem TD {a b:zj.T} (h:qf a b=true):a.1<b.1:=by
 unfold qf at h;simp only[Bool.and_eq_true,Bool.not_eq_true',decide_eq_false_iff_not] at h;exact Int.not_le.1 h.1
theorem tP:∀{l:List zj.T},vO l=true->∀i,i+1<l.length->pF l i<pF l (i+1)
 | [],h,i,hi=>by simp at hi
 | [a],h,i,hi=>by simp at hi
 | a::b::r,h,i,hi=>by
  have h':(qf a b&&vO (b::r))=true:=h;rw[Bool.and_eq_true] at h';cases i with
  | zero=>exact TD h'.1
  | succ i=>rw[Wd,Wd]; exact tP h'.2 i (by simpa using hi)
theorem Vg {l:List zj.T} (h:vO l=true) (i:Nat):∀(d:Nat),i+(d+1)<l.length->pF l i<pF l (i+(d+1))
 | 0,hi=>tP h i hi
 | d+1,hi=>Int.lt_trans (Vg h i d (by omega)) (tP h (i+(d+1)) hi)
theorem uz {l:List zj.T} (h:vO l=true) {i j:Nat} (hij:i<j) (hj:j<l.length):pF l i<pF l j:=by
 have:=Vg h i (j-i-1) (by omega);rwa [show i+(j-i-1+1)=j by omega] at this
def Xq (l:List zj.T) (q:Int) (i:Nat):Prop:=i<l.length/\pF l i<=q/\∀j,i<j->j<l.length->q<pF l j
theorem W4 {l:List zj.T} {q:Int} {i j:Nat} (hi:Xq l q i) (hj:Xq l q j):i=j:=by
 obtain ⟨a1,a2,a3⟩:=hi;obtain ⟨b1,b2,b3⟩:=hj;rcases Nat.lt_trichotomy i j with h | h | h
 ·have:=a3 j h b1; omega
 ·exact h
 ·have:=b3 i h a1; omega
theorem UE (F:Nat) {R:Type} (kk:Int->Option R) {l:List zj.T} (hn:l.length<=256) (hc:vO l=true) {q:Int}:∀(n i fu:Nat),i+n+1=l.length->n<fu->pF l i<=q->
  ∃k:Nat,zD.l2 F (fun _ _ i _=>kk i) fu l q (i:Int)=kk (k:Int)/\Xq l q k
 | n,i,0,h,hf,hi=>by omega
 | 0,i,fu+1,h,hf,hi=>by
  refine ⟨i,?_,by omega,hi,fun j h1 h2=>by omega⟩;simp only[zD.l2,zD.l2.body];rw[yX (n:=(l.length:Int)-1) (by omega) (by omega),decide_eq_false (show ¬(i:Int)<(l.length:Int)-1 by omega)];rfl
 | n+1,i,fu+1,h,hf,hi=>by
  have w:i64.wrap ((i:Int)+1)=((i+1:Nat):Int):=by rw[yX (by omega) (by omega)]; simp
  simp only[zD.l2,zD.l2.body];rw[yX (n:=(l.length:Int)-1) (by omega) (by omega),decide_eq_true (show (i:Int)<(l.length:Int)-1 by omega),w,vK (show i+1<l.length by omega),Int.toNat_natCast];simp only[cond_true];show ∃k,(bif decide (pF l (i+1)<=q) then _ else _)=_/\_;by_cases hq:pF l (i+1)<=q
  ·obtain ⟨k,e,hk⟩:=UE F kk hn hc n (i+1) fu (by omega) (by omega) hq
   exact ⟨k,by rw[decide_eq_true hq]; exact e,hk⟩
  ·refine ⟨i,by rw[decide_eq_false hq]; rfl,by omega,hi,fun j h1 h2=>?_⟩
   rcases Nat.lt_or_ge (i+1) j with h' | h'
   ·have:=uz hc h' h2; omega
   ·have:j=i+1:=by omega
    subst this; omega
theorem UF (F:Nat) (hF:256<F) {l:List zj.T} (hn:l.length<=256) (h0:0<l.length) (hc:vO l=true) {q:Int} (hq:pF l 0<=q):∃k:Nat,zD.sh F l q=some (((k:Int),()),())/\Xq l q k:=by
 unfold zD.sh;exact UE F (fun i=>(some ((i,()),()):Option zD.sg.R)) hn hc (l.length-1) 0 F (by omega) (by omega) hq
def sgF (p q:Int):Int:=if 1<(if (-1)>i64.wrap (p-q) then (-1) else i64.wrap (p-q)) then 1 else (if (-1)>i64.wrap (p-q) then (-1) else i64.wrap (p-q))
theorem sgF_lt {p q:Int} (h1:0<=p) (h2:p<=1099511627776) (h3:0<=q) (h4:q<=1099511627776):decide (sgF p q<0)=decide (p<q):=by
 unfold sgF;rw[yX (n:=p-q) (by omega) (by omega)];apply decide_eq_decide.2;split<;>split<;>omega
theorem sgF_eq {p q:Int} (h1:0<=p) (h2:p<=1099511627776) (h3:0<=q) (h4:q<=1099511627776):(sgF p q==0)=decide (p=q):=by
 unfold sgF;rw[yX (n:=p-q) (by omega) (by omega)];rw[show ∀x:Int,(x==0)=decide (x=0) from fun x=>rfl];apply decide_eq_decide.2;split<;>split<;>omega
theorem halved {i j:Nat} (h:i+j<=512):i64.wrap ((u64.wrap (i64.wrap ((i:Int)+(j:Int)))).fdiv (2^(min (1:Int).toNat IntKind.u64.bits)))=(((i+j)/2:Nat):Int):=by
 have e:(2^(min (1:Int).toNat IntKind.u64.bits):Int)=2:=by decide
 rw[e,yX (n:=(i:Int)+(j:Int)) (by omega) (by omega),wi (by omega) (by omega),Int.fdiv_eq_ediv_of_nonneg _ (by omega),yX (by omega) (by omega)];omega
theorem Sx (F:Nat) {R:Type} (k0:(List zj.T)->Int->Nat->Int->Int->Int->Bool->Option R) {l:List zj.T} (hn:l.length<=256) (hb:∀i,i<l.length->0<=pF l i/\pF l i<=1099511627776) {q:Int} (q1:0<=q) (q2:q<=1099511627776) (N:Int) (hc:vO l=true) :
  ∀(fu i j:Nat),i<=j->j<=l.length->j-i<fu->(∀k,k<i->pF l k<q)->(∀k,j<=k->k<l.length->q<=pF l k)->
  ∃(k:Nat) (j':Int) (b:Bool),ze.l3 F k0 fu l q wM N (i:Int) (j:Int)=k0 l q wM N (k:Int) j' b/\k<=l.length/\(∀m,m<k->pF l m<q)/\∀m,k<=m->m<l.length->q<=pF l m
 | 0,i,j,h1,h2,h3,_,_=>by omega
 | fu+1,i,j,h1,h2,h3,h4,h5=>by
  simp only[ze.l3,ze.l3.body];by_cases hij:i<j
  ·rw[decide_eq_true (show (i:Int)<(j:Int) by omega),halved (i:=i) (j:=j) (by omega),vK (show (i+j)/2<l.length by omega),Int.toNat_natCast]
   simp only[cond_true];have e:ze.d30 F wM (get zj l ((i+j)/2),q,())=some ((sgF (pF l ((i+j)/2)) q,()),()):=rfl;obtain ⟨b1,b2⟩:=hb ((i+j)/2) (by omega);rw[e,zQ,sgF_lt b1 b2 q1 q2];by_cases hq:pF l ((i+j)/2)<q
   ·rw[decide_eq_true hq,yX (n:=(((i+j)/2:Nat):Int)+1) (by omega) (by omega)]
    simp only[cond_true];refine Sx F k0 hn hb q1 q2 N hc fu ((i+j)/2+1) j (by omega) h2 (by omega) (fun k hk=>?_) h5;rcases Nat.lt_or_ge k ((i+j)/2) with h' | h'
    ·have:=uz hc h' (by omega); omega
    ·have:k=(i+j)/2:=by omega
     subst this; exact hq
   ·rw[decide_eq_false hq]
    simp only[cond_false];refine Sx F k0 hn hb q1 q2 N hc fu i ((i+j)/2) (by omega) (by omega) (by omega) h4 (fun k hk hk2=>?_);rcases Nat.lt_or_ge ((i+j)/2) k with h' | h'
    ·have:=uz hc h' hk2; omega
    ·have:k=(i+j)/2:=by omega
     subst this; omega
  ·rw[decide_eq_false (show ¬(i:Int)<(j:Int) by omega)]
   exact ⟨i,_,_,rfl,by omega,h4,fun m hm hm2=>h5 m (by omega) hm2⟩
theorem bs_eq (F:Nat) (hF:257<F) {l:List zj.T} (hn:l.length<=256) (hb:∀i,i<l.length->0<=pF l i/\pF l i<=1099511627776) {q:Int} (q1:0<=q) (q2:q<=1099511627776) (hc:vO l=true) (h0:pF l 0=0) (hl:0<l.length) :
  ∃(k:Nat) (f:Bool),ze.sh F l q wM=some (((k:Int),f,()),())/\Xq l q (bif f then k else k-1)/\(f=false->1<=k)/\k<=l.length:=by
 unfold ze.sh;obtain ⟨k,j',b,e,k1,k2,k3⟩:=Sx F (fun x2 target2 cmp2 n2 i2 j2 t172=>(bif decide (i2<n2) then bif idx i2 x2.length then oB (ze.d46 F cmp2 ((get zj x2 i2.toNat),target2,())) fun c_3 =>
   some ((i2,(c_3.1.1==0),()),())
  else none
 else some ((i2,false,()),()):Option ze.sg.R)) hn hb q1 q2 (l.length:Int) hc F 0 l.length (by omega) (by omega) (by omega) (fun k hk=>by omega) (fun k h1 h2=>by omega)
 rw[show ((0:Nat):Int)=0 from rfl] at e;rw[e];by_cases hk:k<l.length
 ·obtain ⟨b1,b2⟩:=hb k hk
  have ed:ze.d46 F wM (get zj l k,q,())=some ((sgF (pF l k) q,()),()):=rfl;rw[decide_eq_true (show (k:Int)<(l.length:Int) by omega),vK hk,Int.toNat_natCast,ed,zQ,sgF_eq b1 b2 q1 q2];simp only[cond_true];have h6:=k3 k (by omega) hk;by_cases hq:pF l k=q
  ·rw[decide_eq_true hq]
   refine ⟨k,true,rfl,⟨hk,by simp only[cond_true]; omega,fun j h1 h2=>by simp only[cond_true] at h1; have:=uz hc h1 h2; omega⟩,(fun h=>?_),k1⟩;cases h
  ·rw[decide_eq_false hq]
   have hk1:1<=k:=by
    rcases Nat.eq_zero_or_pos k with h | h
    ·subst h; omega
    ·exact h
   exact ⟨k,false,rfl,⟨by simp only[cond_false]; omega,by simp only[cond_false]; have:=k2 (k-1) (by omega); omega,fun j h1 h2=>by
    simp only[cond_false] at h1;rcases Nat.lt_or_ge k j with h' | h'
    ·have:=uz hc h' h2; omega
    ·have:j=k:=by omega
     subst this; omega⟩,fun _=>hk1,k1⟩
 ·rw[decide_eq_false (show ¬(k:Int)<(l.length:Int) by omega)]
  exact ⟨k,false,rfl,⟨by simp only[cond_false]; omega,by simp only[cond_false]; have:=k2 (k-1) (by omega); omega,fun j h1 h2=>by simp only[cond_false] at h1; omega⟩,fun _=>by omega,k1⟩
def YN (t:zN.T):Prop:=1<=t.1/\t.1<=1000000000000/\0<=t.2.1/\t.2.1<=6/\0<t.2.2.length/\t.2.2.length<=256/\pF t.2.2 0=0/\vO t.2.2=true
theorem uS {t:zN.T}:vE t=true↔YN t:=by
 unfold vE YN pF;simp only[Bool.and_eq_true,Bool.not_eq_true',decide_eq_false_iff_not,beq_iff_eq];constructor
 ·rintro ⟨h1,h2,h3,h4,h5,h6,h7,h8⟩
  exact ⟨Int.not_lt.1 h1,Int.not_lt.1 h2,Int.not_lt.1 h3,Int.not_lt.1 h4,by omega,by omega,h7,h8⟩
 ·rintro ⟨h1,h2,h3,h4,h5,h6,h7,h8⟩
  exact ⟨Int.not_lt.2 h1,Int.not_lt.2 h2,Int.not_lt.2 h3,Int.not_lt.2 h4,by omega,by omega,h7,h8⟩
theorem TF {a b:zj.T} (h:qf a b=true):b.1<=1099511627776:=by
 unfold qf at h;simp only[Bool.and_eq_true,Bool.not_eq_true',decide_eq_false_iff_not] at h;exact Int.not_lt.1 h.2.1
theorem Vh:∀{l:List zj.T},vO l=true->∀i,i+1<l.length->pF l (i+1)<=1099511627776
 | [],h,i,hi=>by simp at hi
 | [a],h,i,hi=>by simp at hi
 | a::b::r,h,i,hi=>by
  have h':(qf a b&&vO (b::r))=true:=h;rw[Bool.and_eq_true] at h';cases i with
  | zero=>exact TF h'.1
  | succ i=>rw[Wd]; exact Vh h'.2 i (by simpa using hi)
theorem qi {t:zN.T} (h:YN t) (i:Nat) (hi:i<t.2.2.length):0<=pF t.2.2 i/\pF t.2.2 i<=1099511627776:=by
 obtain ⟨_,_,_,_,h5,h6,h7,h8⟩:=h;cases i with
 | zero=>omega
 | succ i =>
  have:=uz h8 (i:=0) (j:=i+1) (by omega) hi;have:=Vh h8 i hi;omega
theorem Wh {t:zN.T} (h:YN t) {q:Int} (q1:0<=q):∃k,Xq t.2.2 q k:=by
 obtain ⟨_,_,_,_,h5,h6,h7,h8⟩:=h;obtain ⟨k,_,hk⟩:=UF 300 (by omega) h6 h5 h8 (q:=q) (by omega);exact ⟨k,hk⟩
theorem at_eq (F:Nat) (hF:257<F) {t:zN.T} (hw:∀p∈t.2.2,wfL p.2) (h:YN t) {q:Int} (q1:0<=q) (q2:q<=1099511627776) {k:Nat} (hk:Xq t.2.2 q k) :
  yC.sh F t q=yP.sh F (get zj t.2.2 k).2 t.1 q:=by
 have hb:=qi h;have ht:=uS.2 h;obtain ⟨_,_,_,_,h5,h6,h7,h8⟩:=h;unfold yC.sh;rw[q9 F (by omega),zQ,ht,decide_eq_false (show ¬q<0 by omega),decide_eq_false (show ¬q>1099511627776 by omega)];simp only[Bool.not_true,cond_false];obtain ⟨j,f,e,a1,a2,a3⟩:=bs_eq F hF h6 hb q1 q2 h8 h7 h5;rw[e,zQ];have hj:=W4 hk a1;have hl:∀r,yP.sh F (get zj t.2.2 k).2 t.1 q=some r->(oB (yP.sh F (get zj t.2.2 k).2 t.1 q) fun c_3=>(some ((c_3.1.1,c_3.1.2.1,()),()):Option yP.sg.R))=yP.sh F (get zj t.2.2 k).2 t.1 q:=by
  intro r hr;rw[hr];rfl
 cases f with
 | true =>
  simp only[cond_true] at hj;subst hj;simp only[Bool.not_true,cond_false,yC.j6];rw[vK hk.1,Int.toNat_natCast];simp only[cond_true];have hm:get zj t.2.2 k∈t.2.2:=by
   unfold get;rw[List.getD_eq_getElem?_getD,List.getElem?_eq_getElem hk.1];exact List.getElem_mem _
  exact hl _ (tt F (hw _ hm) t.1 q)
 | false =>
  simp only[cond_false] at hj;have:=a2 rfl;simp only[Bool.not_false,cond_true,yC.j6];rw[yX (n:=(j:Int)-1) (by omega) (by omega),show (j:Int)-1=((j-1:Nat):Int) by omega,<-hj,vK hk.1,Int.toNat_natCast];simp only[cond_true];have hm:get zj t.2.2 k∈t.2.2:=by
   unfold get;rw[List.getD_eq_getElem?_getD,List.getElem?_eq_getElem hk.1];exact List.getElem_mem _
  exact hl _ (tt F (hw _ hm) t.1 q)
theorem at_bad (F:Nat) (hF:257<F) {t:zN.T} {q:Int} (h:vE t=false\/q<0\/q>1099511627776):yC.sh F t q=some ((mk 0,1,()),()):=by
 unfold yC.sh;rw[q9 F (by omega),zQ];cases ht:vE t with
 | false=>rfl
 | true =>
  rw[ht] at h;simp only[Bool.not_true,cond_false];by_cases h1:q<0
  ·rw[decide_eq_true h1]; rfl
  ·rw[decide_eq_false h1]
   by_cases h2:q>1099511627776
   ·rw[decide_eq_true h2]; rfl
   ·rcases h with h | h | h
    ·cases h
    ·exact absurd h h1
    ·exact absurd h h2
theorem Zr {l:List zj.T} {k:Nat} (h:k<l.length):get zj l k∈l:=by
 unfold get;rw[List.getD_eq_getElem?_getD,List.getElem?_eq_getElem h];exact List.getElem_mem _
theorem Tz {t:zN.T} (hw:∀p∈t.2.2,wfL p.2) (q:Int):∃x e,yC.sh FU t q=some ((x,e,()),())/\yY.sh FU t q=some ((x,e,()),()):=by
 have hFU:FU=4194304:=rfl;unfold yY.sh;rw[Z9 FU (by omega),zQ];by_cases hg:vE t=false\/q<0\/q>1099511627776
 ·refine ⟨_,_,at_bad FU (by omega) hg,?_⟩
  cases ht:vE t with
  | false=>rfl
  | true =>
   rw[ht] at hg;simp only[Bool.not_true,cond_false];by_cases h1:q<0
   ·rw[decide_eq_true h1]; rfl
   ·rw[decide_eq_false h1]
    by_cases h2:q>1099511627776
    ·rw[decide_eq_true h2]; rfl
    ·rcases hg with h | h | h
     ·cases h
     ·exact absurd h h1
     ·exact absurd h h2
 ·have ht:vE t=true:=by
   cases ht:vE t with
   | true=>rfl
   | false=>exact absurd (.inl ht) hg
  have q1:0<=q:=Int.not_lt.1 fun h=>hg (.inr (.inl h))
  have q2:q<=1099511627776:=Int.not_lt.1 fun h=>hg (.inr (.inr h))
  have hok:=uS.1 ht;obtain ⟨_,_,_,_,h5,h6,h7,h8⟩:=uS.1 ht;obtain ⟨k,e,hk⟩:=UF FU (by omega) h6 h5 h8 (q:=q) (by omega);refine ⟨_,_,(at_eq FU (by omega) hw hok q1 q2 hk).trans (tt FU (hw _ (Zr hk.1)) t.1 q),?_⟩;rw[ht,decide_eq_false (show ¬q<0 by omega),decide_eq_false (show ¬q>1099511627776 by omega)];simp only[Bool.not_true,cond_false];rw[e,zQ,vK hk.1,Int.toNat_natCast];simp only[cond_true];rw[Xy FU (by omega) (hw _ (Zr hk.1)) t.1 q,zQ]
theorem tab_wf {t:zN.T} (h:wfT zN t):∀p∈t.2.2,wfL p.2:=by
 obtain ⟨_,_,_,h⟩:=h;intro p hp;obtain ⟨_,⟨a1,a2⟩,⟨b1,b2⟩,c1,c2⟩:=h p hp;have hi:IntKind.i64.min=-9223372036854775808:=rfl;have hi':IntKind.i64.max=9223372036854775807:=rfl;have hu:IntKind.u64.min=0:=rfl;have hu':IntKind.u64.max=18446744073709551615:=rfl;have hk:∀w:Int×Int,IntKind.i64.min<=w.1/\w.1<=IntKind.i64.max->IntKind.u64.min<=w.2/\w.2<=IntKind.u64.max->wfW w:=by
  intro w h1 h2;unfold wfW;omega
 exact ⟨hk _ a1 a2,hk _ b1 b2,hk _ c1 c2⟩
theorem rneg15 (F:Nat) (hF:20<F) {a:Int×Int} (ha:wfW a):yZ.sh F a=some ((wE (-val a),wu (-val a),()),()):=by
 obtain ⟨la,da,ra⟩:=qB F hF ha;obtain ⟨lt,dt,rt⟩:=qx F hF ra;have h1:=ZF ha;unfold yZ.sh;rw[da,zQ,dt,zQ,Yr F hF rt (by omega) (by omega),zQ]
theorem w_neg {w:Int×Int} (h:wfW w):decide (w.1<0)=decide (val w<0):=by
 have:=TV (v:=val w);rw[ZW h] at this;exact this
theorem Zw {v:Int} (h:inR v=true):wu v=0:=by unfold wu; rw[h]; rfl
theorem Y5 {v:Int} (h:inR v=false):wu v=10:=by unfold wu; rw[h]; rfl
theorem u9 {v:Int} (h:inR v=true):wE v=mk v:=by unfold wE; rw[h]; rfl
theorem Yy {w:Int×Int} (h:wfW w) (h0:¬val w<0):wE (nA (val w))=w/\wu (nA (val w))=0:=by
 have i:=Yv h;rw[TR (by omega)];exact ⟨(u9 i).trans (ZW h),Zw i⟩
theorem VG (F:Nat) {w:Int×Int} (h:wfW w):wq.sh F w=some ((wE (nA (val w)),wu (nA (val w)),()),()):=by
 unfold wq.sh;rw[w_neg h];by_cases h0:val w<0
 ·rw[decide_eq_true h0,cond_true,TQ F h,zQ,show -val w=nA (val w) by unfold nA; omega]
 ·rw[decide_eq_false h0,cond_false,(Yy h h0).1,(Yy h h0).2]
theorem Vr (F:Nat) (hF:20<F) {w:Int×Int} (h:wfW w):yD.sh F w=some ((wE (nA (val w)),wu (nA (val w)),()),()):=by
 unfold yD.sh;rw[w_neg h];by_cases h0:val w<0
 ·rw[decide_eq_true h0,cond_true,rneg15 F hF h,zQ,show -val w=nA (val w) by unfold nA; omega]
 ·rw[decide_eq_false h0,cond_false,(Yy h h0).1,(Yy h h0).2]
def VR (l:zo.T) (V:Int×Int):Int×Int:=bif !inR (nA (lA l)) then (0,10) else bif !inR (nA (lB l)) then (0,10) else bif !inR (nA (lC l)) then (0,10) else V
def vF (l:zo.T) (s:Int):Int×Int:=VR l (vS (nA (lA l)) (nA (lB l)) (nA (lC l)) s 1099511627776)
theorem UG (l:zo.T) (V:Int×Int) (X:Option xJ.sg.R) (hX:inR (nA (lA l))=true->inR (nA (lB l))=true->inR (nA (lC l))=true->X=some ((mk V.1,V.2,()),())) :
  (bif wu (nA (lA l)) != 0 then (some (((0,0),10,()),()):Option xJ.sg.R) else bif wu (nA (lB l)) != 0 then some (((0,0),10,()),()) else bif wu (nA (lC l)) != 0 then some (((0,0),10,()),()) else X)=some ((mk (VR l V).1,(VR l V).2,()),()):=by
 have h10:((10:Int) != 0)=true:=rfl;have h0:((0:Int) != 0)=false:=rfl;have hz:(some (((0,0),10,()),()):Option xJ.sg.R)=some ((mk ((0,10):Int×Int).1,((0,10):Int×Int).2,()),()):=by
  rw[show mk ((0,10):Int×Int).1=(0,0) from zero_mk]
 unfold VR;cases hA:inR (nA (lA l)) with
 | false=>rw[Y5 hA,h10,cond_true,Bool.not_false,cond_true]; exact hz
 | true =>
  rw[Zw hA,h0,cond_false,Bool.not_true,cond_false];cases hB:inR (nA (lB l)) with
  | false=>rw[Y5 hB,h10,cond_true,Bool.not_false,cond_true]; exact hz
  | true =>
   rw[Zw hB,h0,cond_false,Bool.not_true,cond_false];cases hC:inR (nA (lC l)) with
   | false=>rw[Y5 hC,h10,cond_true,Bool.not_false,cond_true]; exact hz
   | true =>
    rw[Zw hC,h0,cond_false,Bool.not_true,cond_false];exact hX hA hB hC
theorem lA_mk (a b c:Int):lA (mk a,mk b,mk c)=a:=wN
theorem lB_mk (a b c:Int):lB (mk a,mk b,mk c)=b:=wN
theorem lC_mk (a b c:Int):lC (mk a,mk b,mk c)=c:=wN
theorem lspan15 (F:Nat) {l:zo.T} (hl:wfL l) {s:Int} (h:u7 s 0=true):xJ.sh F l s=some ((mk (vF l s).1,(vF l s).2,()),()):=by
 have hX:inR (nA (lA l))=true->inR (nA (lB l))=true->inR (nA (lC l))=true->(oB (yP.sh F (wE (nA (lA l)),wE (nA (lB l)),wE (nA (lC l))) s 1099511627776) fun c_5=>(some ((c_5.1.1,c_5.1.2.1,()),()):Option xJ.sg.R))=some ((mk (vS (nA (lA l)) (nA (lB l)) (nA (lC l)) s 1099511627776).1,(vS (nA (lA l)) (nA (lB l)) (nA (lC l)) s 1099511627776).2,()),()):=by
  intro hA hB hC;have e:=tt F (l:=(mk (nA (lA l)),mk (nA (lB l)),mk (nA (lC l)))) ⟨vm hA,vm hB,vm hC⟩ s 1099511627776;rw[lA_mk,lB_mk,lC_mk] at e;rw[u9 hA,u9 hB,u9 hC,e,zQ]
 have key:=UG l _ _ hX;clear hX;unfold xJ.sh vF;rw[Sa,zQ,h];simp only[Bool.not_true,cond_false];rw[VG F hl.1,zQ,VG F hl.2.1,zQ,VG F hl.2.2,zQ];generalize vS (nA (lA l)) (nA (lB l)) (nA (lC l)) s 1099511627776=V at key ⊢;unfold lA lB lC at key;generalize (1099511627776:Int)=Q at key ⊢;generalize wE (nA (val l.1))=r1 at key ⊢;generalize wu (nA (val l.1))=r2 at key ⊢;generalize wE (nA (val l.2.1))=r3 at key ⊢;generalize wu (nA (val l.2.1))=r4 at key ⊢;generalize wE (nA (val l.2.2))=r5 at key ⊢;generalize wu (nA (val l.2.2))=r6 at key ⊢;dsimp only;rw[key]
theorem rspan15 (F:Nat) (hF:20<F) {l:zo.T} (hl:wfL l) {s:Int} (h:u7 s 0=true):yH.sh F l s=some ((mk (vF l s).1,(vF l s).2,()),()):=by
 have hX:inR (nA (lA l))=true->inR (nA (lB l))=true->inR (nA (lC l))=true->(oB (yg.sh F (wE (nA (lA l)),wE (nA (lB l)),wE (nA (lC l))) s 1099511627776) fun c_5=>(some ((c_5.1.1,c_5.1.2.1,()),()):Option xJ.sg.R))=some ((mk (vS (nA (lA l)) (nA (lB l)) (nA (lC l)) s 1099511627776).1,(vS (nA (lA l)) (nA (lB l)) (nA (lC l)) s 1099511627776).2,()),()):=by
  intro hA hB hC;have e:=Xy F hF (l:=(mk (nA (lA l)),mk (nA (lB l)),mk (nA (lC l)))) ⟨vm hA,vm hB,vm hC⟩ s 1099511627776;rw[lA_mk,lB_mk,lC_mk] at e;rw[u9 hA,u9 hB,u9 hC,e,zQ]
 have key:=UG l _ _ hX;clear hX;unfold yH.sh vF;rw[UD,zQ,h];simp only[Bool.not_true,cond_false];rw[Vr F hF hl.1,zQ,Vr F hF hl.2.1,zQ,Vr F hF hl.2.2,zQ];generalize vS (nA (lA l)) (nA (lB l)) (nA (lC l)) s 1099511627776=V at key ⊢;unfold lA lB lC at key;generalize (1099511627776:Int)=Q at key ⊢;generalize wE (nA (val l.1))=r1 at key ⊢;generalize wu (nA (val l.1))=r2 at key ⊢;generalize wE (nA (val l.2.1))=r3 at key ⊢;generalize wu (nA (val l.2.1))=r4 at key ⊢;generalize wE (nA (val l.2.2))=r5 at key ⊢;generalize wu (nA (val l.2.2))=r6 at key ⊢;dsimp only;rw[key]
def uI (l:zo.T) (s:Int):Bool:=bif (vF l s).2 != 0 then true else decide ((vF l s).1>LIM)
def lz (l:zo.T):LZ:=(lA l,lB l,lC l)
theorem wL_lz {l:zo.T} (h:wfL l):wL (lz l)=l:=by
 show (mk (val l.1),mk (val l.2.1),mk (val l.2.2))=l;rw[ZW h.1,ZW h.2.1,ZW h.2.2]
theorem farS_ok {l:zo.T} {V:Int×Int} (h:(VR l V).2=0):VR l V=V:=by
 unfold VR at h ⊢;cases hA:inR (nA (lA l)) with
 | false=>rw[hA] at h; exact absurd (show (10:Int)=0 from h) (by decide)
 | true =>
  cases hB:inR (nA (lB l)) with
  | false=>rw[hA,hB] at h; exact absurd (show (10:Int)=0 from h) (by decide)
  | true =>
   cases hC:inR (nA (lC l)) with
   | false=>rw[hA,hB,hC] at h; exact absurd (show (10:Int)=0 from h) (by decide)
   | true=>rfl
theorem UR {a b c s q:Int} (h:(vS a b c s q).2=0):inR (a+b*q+c*wx q s)=true/\(vS a b c s q).1=a+b*q+c*wx q s:=by
 unfold vS at h ⊢;cases h1:u7 s q with
 | false=>rw[h1] at h; exact absurd (show (1:Int)=0 from h) (by decide)
 | true =>
  cases h2:inR (b*q) with
  | false=>rw[h1,h2] at h; exact absurd (show (10:Int)=0 from h) (by decide)
  | true =>
   cases h3:inR (c*wx q s) with
   | false=>rw[h1,h2,h3] at h; exact absurd (show (10:Int)=0 from h) (by decide)
   | true =>
    cases h4:inR (a+b*q) with
    | false=>rw[h1,h2,h3,h4] at h; exact absurd (show (10:Int)=0 from h) (by decide)
    | true =>
     cases h5:inR (a+b*q+c*wx q s) with
     | false=>rw[h1,h2,h3,h4,h5] at h; exact absurd (show (10:Int)=0 from h) (by decide)
     | true=>exact ⟨rfl,rfl⟩
theorem X6 (l:zo.T) (s:Int) (h:(vF l s).2=0):inR (vF l s).1=true/\(vF l s).1=um s (lz l):=by
 unfold vF at h ⊢;have e:=farS_ok h;rw[e] at h ⊢;obtain ⟨a,b⟩:=UR h;rw[b];refine ⟨a,?_⟩;unfold um lz kM;rfl
theorem TH {l:zo.T} {s:Int} (h:uI l s=false):um s (lz l)<=LIM:=by
 unfold uI at h;cases he:(vF l s).2 != 0 with
 | true=>rw[he] at h; cases h
 | false =>
  rw[he,cond_false] at h;rw[<-(X6 l s (by simpa using he)).2];exact Int.not_lt.1 (of_decide_eq_false h)
theorem tw {a b:Int}:decide (ZA a b>0)=decide (a>b):=by
 unfold ZA;split
 ·rw[decide_eq_false (by omega),decide_eq_false (by omega)]
 ·split
  ·rw[decide_eq_false (by omega),decide_eq_false (by omega)]
  ·rw[decide_eq_true (by omega),decide_eq_true (by omega)]
theorem TZ:((4611686018427387904,0):Int×Int)=mk LIM:=by unfold LIM; rfl
theorem Uy:inR LIM=true:=by unfold LIM; rfl
theorem cmp15 (F:Nat) {l:zo.T} {s:Int} (h:(vF l s).2=0):∃k,xF.sh F (mk (vF l s).1) (4611686018427387904,0)=some ((k,()),())/\decide (k>0)=decide ((vF l s).1>LIM):=by
 rw[TZ,V9 F (vm (X6 l s h).1) (vm Uy),wN,wN];exact ⟨_,rfl,tw⟩
theorem rcmp15 (F:Nat) (hF:20<F) {l:zo.T} {s:Int} (h:(vF l s).2=0):∃k,yw.sh F (mk (vF l s).1) (4611686018427387904,0)=some ((k,()),())/\decide (k>0)=decide ((vF l s).1>LIM):=by
 rw[TZ,Um F hF (vm (X6 l s h).1) (vm Uy),wN,wN];exact ⟨_,rfl,tw⟩
def tu (s:Int) (z:LZ) (q:Int):Prop:=Ze s z (q+1)<Ze s z q
theorem Tl {s:Int} (hs:1<=s) (z:LZ) (q:Int):Ze s z (q+1)=Ze s z q+(z.2.1+if q%s=0 then z.2.2 else 0):=by
 have e:=Int.mul_ediv_add_emod q s;have r0:=Int.emod_nonneg q (show s≠0 by omega);have r1:=Int.emod_lt_of_pos q (show 0<s by omega);have h1:(q/s-1)*s=s*(q/s)-s:=by rw[Int.sub_mul,Int.mul_comm]; omega
 have h2:(q/s+1)*s=s*(q/s)+s:=by rw[Int.add_mul,Int.mul_comm]; omega
 have h3:q/s*s=s*(q/s):=Int.mul_comm _ _;unfold Ze;by_cases h:q%s=0
 ·rw[YC (q:=q) (k:=q/s) hs (by omega) (by omega),YC (q:=q+1) (k:=q/s+1) hs (by rw[show q/s+1-1=q/s by omega]; omega) (by omega),if_pos h,Int.mul_add,Int.mul_add]
  omega
 ·rw[YC (q:=q) (k:=q/s+1) hs (by rw[show q/s+1-1=q/s by omega]; omega) (by omega),YC (q:=q+1) (k:=q/s+1) hs (by rw[show q/s+1-1=q/s by omega]; omega) (by omega),if_neg h,Int.mul_add]
  omega
theorem W7 {s:Int} (hs:1<=s) (z:LZ) (q:Int):tu s z q↔z.2.1+(if q%s=0 then z.2.2 else 0)<0:=by
 unfold tu;rw[Tl hs];omega
theorem Zu {s:Int} (hs:1<=s) (z:LZ) {q:Int} (h:q%s=0):tu s z q↔z.2.1+z.2.2<0:=by
 rw[W7 hs,if_pos h]
theorem Zv {s:Int} (hs:1<=s) (z:LZ) {q:Int} (h:q%s≠0):tu s z q↔z.2.1<0:=by
 rw[W7 hs,if_neg h,Int.add_zero]
def upS (s lo:Int):Int:=(lo+s-1)/s*s
theorem YD {s:Int} (hs:1<=s) (lo:Int):upS s lo%s=0/\lo<=upS s lo/\upS s lo<lo+s/\∀q,lo<=q->q%s=0->upS s lo<=q:=by
 have e:=Int.mul_ediv_add_emod (lo+s-1) s;have r0:=Int.emod_nonneg (lo+s-1) (show s≠0 by omega);have r1:=Int.emod_lt_of_pos (lo+s-1) (show 0<s by omega);have h3:(lo+s-1)/s*s=s*((lo+s-1)/s):=Int.mul_comm _ _;unfold upS;refine ⟨Int.mul_emod_left _ _,by omega,by omega,fun q hq hm=>?_⟩;have e2:=Int.mul_ediv_add_emod q s;rw[hm] at e2;by_cases hl:q/s<(lo+s-1)/s
 ·have h4:s*(q/s+1)<=s*((lo+s-1)/s):=Int.mul_le_mul_of_nonneg_left (by omega) (by omega)
  rw[Int.mul_add] at h4;omega
 ·have h4:s*((lo+s-1)/s)<=s*(q/s):=Int.mul_le_mul_of_nonneg_left (by omega) (by omega)
  omega
theorem one_off {s lo:Int} (hs:1<s) (h:lo%s=0):(lo+1)%s≠0:=by
 rw[Int.add_emod,h,Int.emod_eq_of_lt (by omega) hs,Int.zero_add,Int.emod_eq_of_lt (by omega) hs];omega
def WW (s lo:Int):Int:=if lo%s=0 then lo+1 else lo
theorem ZR {s:Int} (hs:1<s) (lo:Int):WW s lo%s≠0/\lo<=WW s lo/\WW s lo<=lo+1/\∀q,lo<=q->q%s≠0->WW s lo<=q:=by
 unfold WW;by_cases h:lo%s=0
 ·rw[if_pos h]
  refine ⟨one_off hs h,by omega,by omega,fun q h1 h2=>?_⟩;have:q≠lo:=fun e=>h2 (e ▸ h)
  omega
 ·rw[if_neg h]
  exact ⟨h,by omega,by omega,fun q h1 _=>h1⟩
def Zg (s:Int) (z:LZ) (lo hi:Int):Option Int :=
 if z.2.1<0/\1<s/\WW s lo<hi then some (WW s lo) else if z.2.1+z.2.2<0/\upS s lo<hi then some (upS s lo) else none
theorem Vp {s:Int} (hs:1<=s) {z:LZ} {lo hi q:Int} (h:Zg s z lo hi=some q):lo<=q/\q<hi/\tu s z q:=by
 unfold Zg at h;split at h
 ·rename_i c
  injection h with e
  subst e;obtain ⟨a1,a2,a3,_⟩:=ZR c.2.1 lo;exact ⟨a2,c.2.2,(Zv hs z a1).2 c.1⟩
 ·split at h
  ·rename_i c
   injection h with e
   subst e;obtain ⟨a1,a2,_,_⟩:=YD hs lo;exact ⟨a2,c.2,(Zu hs z a1).2 c.1⟩
  ·cases h
theorem Vq {s:Int} (hs:1<=s) {z:LZ} {lo hi:Int} (h:Zg s z lo hi=none) (q:Int) (h1:lo<=q) (h2:q<hi):¬tu s z q:=by
 intro hf;unfold Zg at h;by_cases hm:q%s=0
 ·have:=(YD hs lo).2.2.2 q h1 hm
  have hb:=(Zu hs z hm).1 hf;split at h
  ·cases h
  ·rw[if_pos ⟨hb,by omega⟩] at h
   cases h
 ·have hs1:1<s:=by
   rcases Int.lt_or_eq_of_le hs with h | h
   ·exact h
   ·subst h
    exact absurd (Int.emod_one q) hm
  have:=(ZR hs1 lo).2.2.2 q h1 hm;rw[if_pos ⟨(Zv hs z hm).1 hf,hs1,by omega⟩] at h;cases h
theorem Td {s:Int} (hs:1<=s) {z:LZ} {lo hi:Int} (h0:∀q,lo<=q->q<hi->q<lo+3->¬tu s z q)
  (h1:∀q,(lo/s+1)*s-2<=q->q<=(lo/s+1)*s+2->lo<=q->q<hi->¬tu s z q) (q:Int) (hq:lo<=q) (hq2:q<hi):¬tu s z q:=by
 intro hf;have e:=Int.mul_ediv_add_emod lo s;have r0:=Int.emod_nonneg lo (show s≠0 by omega);have r1:=Int.emod_lt_of_pos lo (show 0<s by omega);have h2:(lo/s+1)*s=s*(lo/s)+s:=by rw[Int.add_mul,Int.mul_comm]; omega
 by_cases hm:q%s=0
 ·have hb:=(Zu hs z hm).1 hf
  by_cases hl:lo%s=0
  ·exact h0 lo (by omega) (by omega) (by omega) ((Zu hs z hl).2 hb)
  ·have hE:(lo/s+1)*s%s=0:=Int.mul_emod_left _ _
   have e2:=Int.mul_ediv_add_emod q s;rw[hm] at e2;have:s*(lo/s+1)<=s*(q/s):=by
    by_cases hc:q/s<=lo/s
    ·have:=Int.mul_le_mul_of_nonneg_left hc (show 0<=s by omega)
     omega
    ·exact Int.mul_le_mul_of_nonneg_left (by omega) (by omega)
   rw[Int.mul_add] at this;exact h1 _ (by omega) (by omega) (by omega) (by omega) ((Zu hs z hE).2 hb)
 ·have hb:=(Zv hs z hm).1 hf
  have hs1:1<s:=by
   rcases Int.lt_or_eq_of_le hs with h | h
   ·exact h
   ·subst h
    exact absurd (Int.emod_one q) hm
  obtain ⟨a1,a2,a3,a4⟩:=ZR hs1 lo;have:=a4 q hq hm;exact h0 _ a2 (by omega) (by omega) ((Zv hs z a1).2 hb)
theorem neg_of {k v:Int} (h:decide (k>=0)=decide (v>=0)):decide (k<0)=decide (v<0):=by
 have:=decide_eq_decide.1 h;exact decide_eq_decide.2 (by omega)
theorem WL (F:Nat) (v:Int):∃k,xp.sh F (mk v)=some ((k,()),())/\decide (k<0)=decide (v<0):=by
 obtain ⟨k,e,_,h,_⟩:=To F (v:=v);exact ⟨k,e,neg_of h⟩
theorem step_j8 (F:Nat) {R:Type} (k0 k1:Int->Bool->Option R) (l:zo.T) {s lo hi:Int} (v:Int) (hs:1<=s) (hs2:s<=1000000000000) (h0:0<=lo) (h1:lo<=1099511627776) :
  zy.j8 F k0 k1 (l,lo,hi,s) (mk v)=if v<0/\upS s lo<hi then k0 (upS s lo) true else k1 0 false:=by
 obtain ⟨k,e,e2⟩:=WL F v;obtain ⟨_,u1,u2,_⟩:=YD hs lo;have d0:0<=(lo+s-1)/s:=Int.ediv_nonneg (by omega) (by omega);have d1:(lo+s-1)/s<=lo+s-1:=Int.ediv_le_self _ (by omega);unfold zy.j8;rw[show (s != 0)=true from bne_iff_ne.2 (by omega),cond_true,e,zQ];rw[yX (n:=lo+s) (by omega) (by omega),yX (n:=lo+s-1) (by omega) (by omega),Int.tdiv_eq_ediv_of_nonneg (show 0<=lo+s-1 by omega),yX (n:=(lo+s-1)/s) (by omega) (by omega),show (lo+s-1)/s*s=upS s lo from rfl,yX (n:=upS s lo) (by omega) (by omega)];show (bif decide (k<0) then _ else _)=_;rw[e2];by_cases hv:v<0
 ·rw[decide_eq_true hv,cond_true]
  by_cases hu:upS s lo<hi
  ·rw[decide_eq_true hu,if_pos ⟨hv,hu⟩]; rfl
  ·rw[decide_eq_false hu,if_neg fun h=>hu h.2]; rfl
 ·rw[decide_eq_false hv,if_neg fun h=>hv h.1]; rfl
theorem step_eq (F:Nat) {z:LZ} {s lo hi:Int} (hs:1<=s) (hs2:s<=1000000000000) (h0:0<=lo) (h1:lo<=1099511627776) (hz:um s z<=LIM) :
  (∃q,Zg s z lo hi=some q/\zy.sh F (wL z,lo,hi,s)=some ((q,true,()),()))\/(Zg s z lo hi=none/\zy.sh F (wL z,lo,hi,s)=some ((0,false,()),())):=by
 obtain ⟨p1,p2,p3,_,_⟩:=qP hs z;have i2:=uY (YR p2 hz);have i3:=uY (YR p3 hz);have i4:inR (z.2.1+z.2.2)=true:=by
  refine uY (YR ?_ hz);have a1:=Wg z.2.1 z.2.2;have a2:=Zp z.2.1;have a3:=Zp z.1;have a4:=XI (a:=z.2.2) (T3 hs).1;have a5:nA z.2.1<=nA z.2.1*1099511627776:=by omega
  unfold um;omega
 obtain ⟨k,e,e2⟩:=WL F z.2.1;have j8:(∃q,(if z.2.1+z.2.2<0/\upS s lo<hi then some (upS s lo) else none)=some q/\(if z.2.1+z.2.2<0/\upS s lo<hi then (some ((upS s lo,true,()),()):Option zy.sg.R) else some ((0,false,()),()))=some ((q,true,()),()))\/((if z.2.1+z.2.2<0/\upS s lo<hi then some (upS s lo) else none)=none/\(if z.2.1+z.2.2<0/\upS s lo<hi then (some ((upS s lo,true,()),()):Option zy.sg.R) else some ((0,false,()),()))=some ((0,false,()),())):=by
  by_cases h:z.2.1+z.2.2<0/\upS s lo<hi
  ·rw[if_pos h,if_pos h]; exact .inl ⟨_,rfl,rfl⟩
  ·rw[if_neg h,if_neg h]; exact .inr ⟨rfl,rfl⟩
 have hadd:y7.sh F (mk z.2.1) (mk z.2.2)=some ((mk (z.2.1+z.2.2),0,()),()):=by
  rw[Uc F (vm i2) (vm i3),wN,wN,u9 i4,Zw i4]
 unfold zy.sh Zg;show (∃q,_/\oB (y7.sh F (mk z.2.1) (mk z.2.2)) _=_)\/(_/\oB (y7.sh F (mk z.2.1) (mk z.2.2)) _=_);rw[hadd,zQ];show (∃q,_/\oB (xp.sh F (mk z.2.1)) _=_)\/(_/\oB (xp.sh F (mk z.2.1)) _=_);rw[e,zQ];simp only[step_j8 F _ _ (wL z) (z.2.1+z.2.2) hs hs2 h0 h1,e2];by_cases hb:z.2.1<0
 ·rw[decide_eq_true hb,cond_true]
  by_cases hs1:1<s
  ·rw[decide_eq_true (show s>1 from hs1),cond_true,show (s != 0)=true from bne_iff_ne.2 (by omega),cond_true,Int.tmod_eq_emod_of_nonneg h0,yX (n:=lo+1) (by omega) (by omega)]
   unfold WW;by_cases hm:lo%s=0
   ·rw[if_pos hm,show (lo%s==0)=true from by simpa using hm,cond_true]
    by_cases hh:lo+1<hi
    ·rw[decide_eq_true hh,if_pos ⟨hb,hs1,hh⟩]; exact .inl ⟨_,rfl,rfl⟩
    ·rw[decide_eq_false hh,if_neg fun h=>hh h.2.2]; exact j8
   ·rw[if_neg hm,show (lo%s==0)=false from by simpa using hm,cond_false]
    by_cases hh:lo<hi
    ·rw[decide_eq_true hh,if_pos ⟨hb,hs1,hh⟩]; exact .inl ⟨_,rfl,rfl⟩
    ·rw[decide_eq_false hh,if_neg fun h=>hh h.2.2]; exact j8
  ·rw[decide_eq_false (show ¬s>1 from hs1),if_neg fun h=>hs1 h.2.1]; exact j8
 ·rw[decide_eq_false hb,if_neg fun h=>hb h.1]; exact j8
def atV (t:zN.T) (q x:Int):Prop:=∃k,Xq t.2.2 q k/\x=Ze t.1 (lz (get zj t.2.2 k).2) q
def vV (t:zN.T) (q:Int):Prop:=∃x y,atV t q x/\atV t (q+1) y/\y<x
structure Nar (t:zN.T):Prop where
 wf:∀p∈t.2.2,wfL p.2
 ok:YN t
 nar:∀p∈t.2.2,um t.1 (lz p.2)<=LIM
theorem qD {t:zN.T} {q x y:Int} (h1:atV t q x) (h2:atV t q y):x=y:=by
 obtain ⟨k,a,e⟩:=h1;obtain ⟨j,b,e2⟩:=h2;rw[e,e2,W4 a b]
theorem SP (F:Nat) (hF:257<F) {t:zN.T} (h:Nar t) {q x:Int} (q0:0<=q) (q1:q<=1099511627776) (hx:atV t q x):yC.sh F t q=some ((mk x,0,()),())/\inR x=true:=by
 obtain ⟨k,a,e⟩:=hx;have hm:=Zr a.1;have hf:u7 t.1 q=true:=up.2 ⟨h.ok.1,h.ok.2.1,q0,q1⟩;rw[at_eq F hF h.wf h.ok q0 q1 a,<-wL_lz (h.wf _ hm),SL F hf (h.nar _ hm),<-e];exact ⟨rfl,by rw[e]; exact uY (YR (WF hf _) (h.nar _ hm))⟩
theorem isAt_in {t:zN.T} (h:YN t) {k:Nat} (hk:k<t.2.2.length) {q:Int} (h1:pF t.2.2 k<=q) (h2:k+1<t.2.2.length->q<pF t.2.2 (k+1)):Xq t.2.2 q k:=by
 refine ⟨hk,h1,fun j hj hl=>?_⟩;obtain ⟨_,_,_,_,_,_,_,hc⟩:=h;by_cases e:j=k+1
 ·subst e; exact h2 hl
 ·exact Int.lt_trans (h2 (by omega)) (uz hc (i:=k+1) (by omega) hl)
def hiP (t:zN.T) (k:Nat):Int:=if k+1<t.2.2.length then pF t.2.2 (k+1)-1 else 1099511627776
theorem Zt {t:zN.T} (h:Nar t) {k:Nat} (hk:k<t.2.2.length) {q:Int} (h1:pF t.2.2 k<=q) (h2:q<=hiP t k):atV t q (Ze t.1 (lz (get zj t.2.2 k).2) q):=by
 refine ⟨k,isAt_in h.ok hk h1 fun hl=>?_,rfl⟩;unfold hiP at h2;rw[if_pos hl] at h2;omega
theorem Uz {t:zN.T} (h:Nar t) {k:Nat} (hk:k<t.2.2.length):0<=pF t.2.2 k/\pF t.2.2 k<=hiP t k/\hiP t k<=1099511627776:=by
 have b:=qi h.ok k hk;unfold hiP;split
 ·rename_i hl
  have:=qi h.ok (k+1) hl;have:=tP h.ok.2.2.2.2.2.2.2 k hl;omega
 ·omega
theorem Yz {t:zN.T} (h:Nar t) {k:Nat} (hk:k<t.2.2.length) {q:Int} (h1:pF t.2.2 k<=q) (h2:q<hiP t k):vV t q↔tu t.1 (lz (get zj t.2.2 k).2) q:=by
 have a:=Zt h hk h1 (by omega);have b:=Zt h hk (q:=q+1) (by omega) (by omega);constructor
 ·rintro ⟨x,y,c,d,hxy⟩
  rw[qD c a,qD d b] at hxy;exact hxy
 ·intro hf
  exact ⟨_,_,a,b,hf⟩
theorem next_at {t:zN.T} (h:Nar t) {k:Nat} (hk:k+1<t.2.2.length):∃y,atV t (hiP t k+1) y:=by
 refine ⟨_,Zt h hk (q:=hiP t k+1) ?_ ?_⟩
 ·unfold hiP; rw[if_pos hk]; omega
 ·have:=Uz h hk
  have e:hiP t k=pF t.2.2 (k+1)-1:=by unfold hiP; rw[if_pos hk]
  omega
theorem Sb {t:zN.T} (h:Nar t) {k:Nat} (hk:k+1<t.2.2.length) {x y:Int} (hx:atV t (hiP t k) x) (hy:atV t (hiP t k+1) y):vV t (hiP t k)↔y<x:=by
 constructor
 ·rintro ⟨x',y',c,d,hxy⟩
  rw[qD c hx,qD d hy] at hxy;exact hxy
 ·intro hf
  exact ⟨_,_,hx,hy,hf⟩
def Wz (t:zN.T) (i:Nat):Prop:=∀k,i<=k->k<t.2.2.length->∀q,Xq t.2.2 q k->q<1099511627776->¬vV t q
theorem X0 {t:zN.T} (h:Nar t) {i:Nat} (hi:i<t.2.2.length) (h1:∀q,pF t.2.2 i<=q->q<hiP t i->¬tu t.1 (lz (get zj t.2.2 i).2) q) (h2:i+1<t.2.2.length->¬vV t (hiP t i)) (h3:Wz t (i+1)):Wz t i:=by
 intro k hk hl q hq hq1;by_cases e:k=i
 ·subst e
  obtain ⟨_,a,b⟩:=hq;by_cases hl1:k+1<t.2.2.length
  ·have hb:=b (k+1) (by omega) hl1
   have e:hiP t k=pF t.2.2 (k+1)-1:=by unfold hiP; rw[if_pos hl1]
   by_cases he:q=hiP t k
   ·rw[he]; exact h2 hl1
   ·rw[Yz h hl a (by omega)]
    exact h1 q a (by omega)
  ·have e:hiP t k=1099511627776:=by unfold hiP; rw[if_neg hl1]
   rw[Yz h hl a (by omega)];exact h1 q a (by omega)
 ·exact h3 k (by omega) hl q hq hq1
theorem Vi {t:zN.T} (h:Nar t) (hc:Wz t 0) (q:Int) (h0:0<=q) (h1:q<1099511627776):¬vV t q:=by
 obtain ⟨k,hk⟩:=Wh h.ok h0;exact hc k (Nat.zero_le _) hk.1 q hk h1
theorem W2 (F:Nat) {R:Type} (k0:Int->xG.T->Option R) (k1:List zj.T->Int->Int->Bool->zN.T->xG.T->Option R) {t:zN.T} (hw:∀p∈t.2.2,wfL p.2) (hf:u7 t.1 0=true) (hn:t.2.2.length<=256) (r2:xG.T):∀(r:List zj.T) (i fu:Nat),t.2.2.drop i=r->i<=t.2.2.length->r.length<fu->
  zi.l4 F k0 k1 fu t.2.2 (t.2.2.length:Int) (i:Int) t r2=bif r.any (fun p=>uI p.2 t.1) then k0 10 (0,[],[]) else k1 t.2.2 (t.2.2.length:Int) (t.2.2.length:Int) false t r2
 | r,i,0,h,hi,hfu=>by omega
 | [],i,fu+1,h,hi,hfu=>by
  have hl:=congrArg List.length h;simp only[List.length_drop,List.length_nil] at hl;have e:i=t.2.2.length:=by omega
  simp only[zi.l4,zi.l4.body,e,decide_eq_false (show ¬(t.2.2.length:Int)<(t.2.2.length:Int) by omega),cond_false,List.any_nil]
 | a::r,i,fu+1,h,hi,hfu=>by
  have hl:=congrArg List.length h;simp only[List.length_drop,List.length_cons] at hl;have h2:=tE h;have ih:=W2 F k0 k1 hw hf hn r2 r (i+1) fu h2 (by omega) (by simpa using hfu);have g:=ZL (t:=zj) h;have w:i64.wrap ((i:Int)+1)=((i+1:Nat):Int):=by rw[yX (by omega) (by omega)]; simp
  have hm:a∈t.2.2:=List.mem_of_mem_drop (i:=i) (by rw[h]; exact List.mem_cons_self ..);simp only[zi.l4,zi.l4.body];rw[decide_eq_true (show (i:Int)<(t.2.2.length:Int) by omega),cond_true,vK (show i<t.2.2.length by omega),cond_true,g,w,lspan15 F (hw a hm) hf,zQ,ih,List.any_cons];have hc:(vF a.2 t.1).2=0->_:=cmp15 F (l:=a.2) (s:=t.1);have ho:uI a.2 t.1=bif (vF a.2 t.1).2 != 0 then true else decide ((vF a.2 t.1).1>LIM):=by unfold uI; rfl
  rw[ho];clear ho ih;generalize vF a.2 t.1=S at hc ⊢;obtain ⟨v,er⟩:=S;dsimp only at hc ⊢;cases he:(er != 0) with
  | true=>rw[cond_true,cond_true,Bool.true_or,cond_true]
  | false =>
   obtain ⟨k,e,e2⟩:=hc (by simpa using he);rw[cond_false,cond_false,e,zQ,<-e2];dsimp only;cases decide (k>0)<;>rfl
theorem T9 (F:Nat) (q:Int):xx.sh F q=some (((2,[q],[i64.wrap (q+1)]),()),()):=rfl
theorem U4 (F:Nat) {R:Type} (k0:Int->xG.T->Option R) (k1:Int->List zj.T->Int->Int->Bool->zN.T->xG.T->Option R) (L:List zj.T) (a b:Int) (t:zN.T) (r2:xG.T) {z:LZ} {s lo hi:Int} (hs:1<=s) (hs2:s<=1000000000000) (h0:0<=lo) (h1:lo<=1099511627776) (hz:um s z<=LIM) :
  (∃q,Zg s z lo hi=some q/\zi.j20 F k0 k1 L a b t r2 (wL z,lo,hi,s)=k0 0 (2,[q],[i64.wrap (q+1)]))\/(Zg s z lo hi=none/\zi.j20 F k0 k1 L a b t r2 (wL z,lo,hi,s)=k1 0 L a b false t r2):=by
 unfold zi.j20;rcases step_eq F (hi:=hi) hs hs2 h0 h1 hz with ⟨q,e,e2⟩ | ⟨e,e2⟩
 ·rw[e2,zQ]
  exact .inl ⟨q,e,rfl⟩
 ·rw[e2,zQ]
  exact .inr ⟨e,rfl⟩
theorem XM (F:Nat) (hF:257<F) {R:Type} (kk:Int->xG.T->Option R) (kT:Option R) {t:zN.T} (h:Nar t) (r2:xG.T):∀(n i fu:Nat),i+n=t.2.2.length->n<fu->
  (∃q,0<=q/\q<1099511627776/\vV t q/\zi.l11 F kk kk (fun _ _ _ _ _ _=>kT) fu t.2.2 (t.2.2.length:Int) (i:Int) t r2=kk 0 (2,[q],[q+1]))
  \/(Wz t i/\zi.l11 F kk kk (fun _ _ _ _ _ _=>kT) fu t.2.2 (t.2.2.length:Int) (i:Int) t r2=kT)
 | n,i,0,hi,hfu=>by omega
 | 0,i,fu+1,hi,hfu=>by
  refine .inr ⟨fun k hk hl=>by omega,?_⟩;simp only[zi.l11,zi.l11.body];rw[decide_eq_false (show ¬(i:Int)<(t.2.2.length:Int) by omega),cond_false]
 | n+1,i,fu+1,hi,hfu=>by
  have ih:=XM F hF kk kT h r2 n (i+1) fu (by omega) (by omega);have hl:i<t.2.2.length:=by omega
  have h6:=h.ok.2.2.2.2.2.1;obtain ⟨b0,b1,b2⟩:=Uz h hl;have w:i64.wrap ((i:Int)+1)=((i+1:Nat):Int):=by rw[yX (by omega) (by omega)]; simp
  have hz:=h.nar _ (Zr hl);have hj:=U4 F kk (fun _ a b c _ t' r'=>zi.l11 F kk kk (fun _ _ _ _ _ _=>kT) fu a b (i64.wrap (c+1)) t' r') t.2.2 (t.2.2.length:Int) (i:Int) t r2 (lo:=pF t.2.2 i) (hi:=hiP t i) h.ok.1 h.ok.2.1 b0 (by omega) hz;rw[wL_lz (h.wf _ (Zr hl)),w] at hj;have tail:(i+1<t.2.2.length->¬vV t (hiP t i))->∀X,X=zi.j20 F kk (fun _ a b c _ t' r'=>zi.l11 F kk kk (fun _ _ _ _ _ _=>kT) fu a b (i64.wrap (c+1)) t' r') t.2.2 (t.2.2.length:Int) (i:Int) t r2 ((get zj t.2.2 i).2,pF t.2.2 i,hiP t i,t.1)->
    (∃q,0<=q/\q<1099511627776/\vV t q/\X=kk 0 (2,[q],[q+1]))\/(Wz t i/\X=kT):=by
   intro hend X hX;rcases hj with ⟨q,e,e2⟩ | ⟨e,e2⟩
   ·obtain ⟨q1,q2,q3⟩:=Vp h.ok.1 e
    rw[yX (n:=q+1) (by omega) (by omega)] at e2;exact .inl ⟨q,by omega,by omega,(Yz h hl q1 q2).2 q3,hX.trans e2⟩
   ·have hc:=Vq h.ok.1 e
    rcases ih with ⟨q,a1,a2,a3,a4⟩ | ⟨a1,a2⟩
    ·exact .inl ⟨q,a1,a2,a3,hX.trans (e2.trans a4)⟩
    ·exact .inr ⟨X0 h hl hc hend a1,hX.trans (e2.trans a2)⟩
  simp only[zi.l11,zi.l11.body];rw[decide_eq_true (show (i:Int)<(t.2.2.length:Int) by omega),cond_true,vK hl,cond_true,w,Int.toNat_natCast,Int.toNat_natCast];by_cases hl1:i+1<t.2.2.length
  ·have e:hiP t i=pF t.2.2 (i+1)-1:=by unfold hiP; rw[if_pos hl1]
   have hb1:=qi h.ok (i+1) hl1;rw[decide_eq_true (show ((i+1:Nat):Int)<(t.2.2.length:Int) by omega),cond_true,vK hl1,cond_true];rw[show i64.wrap ((get zj t.2.2 (i+1)).1-1)=hiP t i from by rw[e]; exact yX (show -9223372036854775808<=pF t.2.2 (i+1)-1 by omega) (show pF t.2.2 (i+1)-1<9223372036854775808 by omega),yX (n:=hiP t i+1) (by omega) (by omega)];have hx:=Zt h hl (q:=hiP t i) b1 (by omega);obtain ⟨y,hy⟩:=next_at h hl1;obtain ⟨x1,x2⟩:=SP F hF h (by omega) b2 hx;obtain ⟨y1,y2⟩:=SP F hF h (by omega) (by omega) hy;rw[x1,zQ,y1,zQ,V9 F (vm x2) (vm y2),zQ,wN,wN];have hend:=Sb h hl1 hx hy;generalize Ze t.1 (lz (get zj t.2.2 i).2) (hiP t i)=x at hx hend x1 x2 ⊢;show (∃q,_/\_/\_/\(bif decide (ZA x y>0) then _ else _)=_)\/(_/\(bif decide (ZA x y>0) then _ else _)=_);rw[tw];by_cases hgt:x>y
   ·rw[decide_eq_true hgt,cond_true,T9,zQ,yX (n:=hiP t i+1) (by omega) (by omega)]
    exact .inl ⟨hiP t i,by omega,by omega,hend.2 hgt,rfl⟩
   ·rw[decide_eq_false hgt,cond_false]
    exact tail (fun _ hf=>hgt (hend.1 hf)) _ rfl
  ·have e:hiP t i=1099511627776:=by unfold hiP; rw[if_neg hl1]
   rw[decide_eq_false (show ¬((i+1:Nat):Int)<(t.2.2.length:Int) by omega),cond_false];refine tail (fun hl=>absurd hl hl1) _ ?_;rw[e];rfl
theorem SN (F:Nat) (hF:257<F) {t:zN.T} (hw:∀p∈t.2.2,wfL p.2) :
  (vE t=false/\zi.sh F t=some (((0,[],[]),1,()),())) \/
  (vE t=true/\t.2.2.any (fun p=>uI p.2 t.1)=true/\zi.sh F t=some (((0,[],[]),10,()),())) \/
  (vE t=true/\t.2.2.any (fun p=>uI p.2 t.1)=false/\Nar t/\((∃q,0<=q/\q<1099511627776/\vV t q/\zi.sh F t=some (((2,[q],[q+1]),0,()),()))\/(Wz t 0/\zi.sh F t=some (((1,[],[]),0,()),())))):=by
 unfold zi.sh;rw[q9 F (by omega),zQ];cases ht:vE t with
 | false=>exact .inl ⟨rfl,rfl⟩
 | true =>
  have hok:=uS.1 ht;have hf:u7 t.1 0=true:=up.2 ⟨hok.1,hok.2.1,by omega,by omega⟩;have h6:=hok.2.2.2.2.2.1;simp only[Bool.not_true,cond_false];have e4:=W2 F (fun r34 r24=>some ((r24,r34,()),())) (fun t225 t235 t245 t255 t5 r25=>zi.l11 F (fun r316 r216=>some ((r216,r316,()),())) (fun r317 r217=>some ((r217,r317,()),())) (fun t4718 t4818 t4918 t5018 t18 r218=>some (((1,[],[]),0,()),())) F t5.2.2 (t5.2.2.length:Int) 0 t5 r25) hw hf h6 (0,[],[]) t.2.2 0 F rfl (by omega) (by omega);rw[show ((0:Nat):Int)=0 from rfl] at e4;rw[e4];cases ha:t.2.2.any (fun p=>uI p.2 t.1) with
  | true=>exact .inr (.inl ⟨by trivial,by trivial,rfl⟩)
  | false =>
   have hN:Nar t:=⟨hw,hok,fun p hp=>TH (by simpa using List.any_eq_false.1 ha p hp)⟩;have e11:=XM F hF (fun r316 r216=>(some ((r216,r316,()),()):Option zi.sg.R)) (some (((1,[],[]),0,()),())) hN (0,[],[]) t.2.2.length 0 F (by omega) (by omega);rw[show ((0:Nat):Int)=0 from rfl] at e11;exact .inr (.inr ⟨by trivial,by trivial,hN,e11⟩)
def RAt (F:Nat) (t:zN.T):Prop:=∀q x,0<=q->q<=1099511627776->atV t q x->yY.sh F t q=some ((mk x,0,()),())/\inR x=true
theorem rAt15 {t:zN.T} (h:Nar t):RAt FU t:=by
 intro q x q0 q1 hx;obtain ⟨y,e,e1,e2⟩:=Tz h.wf q;have hFU:FU=4194304:=rfl;obtain ⟨a1,a2⟩:=SP FU (by omega) h q0 q1 hx;rw[a1] at e1;exact ⟨e2.trans e1.symm,a2⟩
def uT (t:zN.T):Prop:=∃q,0<=q/\q<1099511627776/\vV t q
theorem Wm (F:Nat) (hF:20<F) {t:zN.T} (h:Nar t) (hA:RAt F t) {q:Int} (q0:0<=q) (q1:q<1099511627776):∃b,yp.sh F t q=some ((b,()),())/\(b=true↔vV t q):=by
 obtain ⟨k,hk⟩:=Wh h.ok q0;obtain ⟨j,hj⟩:=Wh h.ok (q:=q+1) (by omega);have hx:atV t q _:=⟨k,hk,rfl⟩;have hy:atV t (q+1) _:=⟨j,hj,rfl⟩;generalize Ze t.1 (lz (get zj t.2.2 k).2) q=x at hx;generalize Ze t.1 (lz (get zj t.2.2 j).2) (q+1)=y at hy;obtain ⟨x1,x2⟩:=hA q x q0 (by omega) hx;obtain ⟨y1,y2⟩:=hA (q+1) y (by omega) (by omega) hy;refine ⟨decide (x>y),?_,?_⟩
 ·unfold yp.sh
  rw[x1,zQ,yX (n:=q+1) (by omega) (by omega),y1,zQ,Um F hF (vm x2) (vm y2),zQ,wN,wN];show some ((decide (ZA x y>0),()),())=_;rw[tw]
 ·rw[decide_eq_true_iff]
  constructor
  ·intro hh; exact ⟨x,y,hx,hy,hh⟩
  ·rintro ⟨x',y',c,d,hh⟩
   rw[qD c hx,qD d hy] at hh;exact hh
theorem YJ (F:Nat) (hF:20<F) {t:zN.T} (h:Nar t) (hA:RAt F t) {R:Type} (kk:Bool->Option R) (k1:Int->Int->Int->Int->Bool->zN.T->Option R) (kT:Option R) {i lo hi:Int} (hk:∀q b,k1 i lo hi q b t=kT) (h0:0<=lo) (h1:lo<=1099511627776) (h2:hi<=1099511627776):∀(n:Nat) (q:Int) (fu:Nat),q+n=lo+3->n<fu->lo<=q->
  (uT t/\zb.l11 F kk k1 fu i lo hi q t=kk true)\/((∀x,q<=x->x<hi->x<lo+3->¬vV t x)/\zb.l11 F kk k1 fu i lo hi q t=kT)
 | n,q,0,hq,hfu,hl=>by omega
 | 0,q,fu+1,hq,hfu,hl=>by
  refine .inr ⟨fun x a b c=>by omega,?_⟩;simp only[zb.l11,zb.l11.body];rw[yX (n:=lo+3) (by omega) (by omega),hk,hk,decide_eq_false (show ¬q<lo+3 by omega)];cases decide (q<hi)<;>rfl
 | n+1,q,fu+1,hq,hfu,hl=>by
  have ih:=YJ F hF h hA kk k1 kT hk h0 h1 h2 n (q+1) fu (by omega) (by omega) (by omega);simp only[zb.l11,zb.l11.body];rw[yX (n:=lo+3) (by omega) (by omega),yX (n:=q+1) (by omega) (by omega),hk,hk,decide_eq_true (show q<lo+3 by omega)];by_cases hh:q<hi
  ·rw[decide_eq_true hh,cond_true,cond_true]
   obtain ⟨b,e,eb⟩:=Wm F hF h hA (q:=q) (by omega) (by omega);rw[e,zQ];cases b with
   | true=>exact .inl ⟨⟨q,by omega,by omega,eb.1 rfl⟩,rfl⟩
   | false =>
    rcases ih with ⟨a,e2⟩ | ⟨a,e2⟩
    ·exact .inl ⟨a,e2⟩
    ·refine .inr ⟨fun x b c d=>?_,e2⟩
     by_cases hx:x=q
     ·rw[hx]; exact fun hf=>by have:=eb.2 hf; cases this
     ·exact a x (by omega) c d
  ·rw[decide_eq_false hh,cond_false]
   exact .inr ⟨fun x b c d=>by omega,rfl⟩
theorem YI (F:Nat) (hF:20<F) {t:zN.T} (h:Nar t) (hA:RAt F t) {R:Type} (kk:Bool->Option R) (k1:Int->Int->Int->Int->Int->Bool->zN.T->Option R) (kT:Option R) {i lo hi edge:Int} (hk:∀q b,k1 i lo hi edge q b t=kT) (h0:0<=lo) (h2:hi<=1099511627776) (g0:0<=edge) (g1:edge<=9099511627776):∀(n:Nat) (q:Int) (fu:Nat),q+n=edge+3->n<=5->n<fu->
  (uT t/\zb.l17 F kk k1 fu i lo hi edge q t=kk true)\/((∀x,q<=x->x<=edge+2->lo<=x->x<hi->¬vV t x)/\zb.l17 F kk k1 fu i lo hi edge q t=kT)
 | n,q,0,hq,hn,hfu=>by omega
 | 0,q,fu+1,hq,hn,hfu=>by
  refine .inr ⟨fun x a b c d=>by omega,?_⟩;simp only[zb.l17,zb.l17.body];rw[yX (n:=edge+2) (by omega) (by omega),hk,decide_eq_false (show ¬q<=edge+2 by omega),cond_false]
 | n+1,q,fu+1,hq,hn,hfu=>by
  have ih:=YI F hF h hA kk k1 kT hk h0 h2 g0 g1 n (q+1) fu (by omega) (by omega) (by omega);simp only[zb.l17,zb.l17.body];rw[yX (n:=edge+2) (by omega) (by omega),yX (n:=q+1) (by omega) (by omega),hk,decide_eq_true (show q<=edge+2 by omega),cond_true];have skip:(lo<=q->q<hi->¬vV t q)->(uT t/\zb.l17 F kk k1 fu i lo hi edge (q+1) t=kk true)\/((∀x,q<=x->x<=edge+2->lo<=x->x<hi->¬vV t x)/\zb.l17 F kk k1 fu i lo hi edge (q+1) t=kT):=by
   intro hs;rcases ih with ⟨a,e2⟩ | ⟨a,e2⟩
   ·exact .inl ⟨a,e2⟩
   ·refine .inr ⟨fun x b c d e=>?_,e2⟩
    by_cases hx:x=q
    ·rw[hx] at d e ⊢; exact hs d e
    ·exact a x (by omega) c d e
  by_cases hh:q>=lo
  ·rw[decide_eq_true hh,cond_true]
   by_cases hh2:q<hi
   ·rw[decide_eq_true hh2,cond_true]
    obtain ⟨b,e,eb⟩:=Wm F hF h hA (q:=q) (by omega) (by omega);rw[e,zQ];cases b with
    | true=>exact .inl ⟨⟨q,by omega,by omega,eb.1 rfl⟩,rfl⟩
    | false=>exact skip fun _ _ hf=>by have:=eb.2 hf; cases this
   ·rw[decide_eq_false hh2,cond_false]
    exact skip fun _ hf=>absurd hf hh2
  ·rw[decide_eq_false hh,cond_false]
   exact skip fun hf _=>absurd hf hh
theorem Vs (F:Nat) (hF:20<F) {t:zN.T} (h:Nar t) (hA:RAt F t) {R:Type} (kk:Bool->Option R) (k2:Int->Int->Int->Int->Int->Bool->zN.T->Option R) (kT:Option R) {k:Nat} (hl:k<t.2.2.length) (hk:∀a b c d b',k2 (k:Int) a b c d b' t=kT) :
  (uT t/\zb.j10 F kk kk k2 (k:Int) (pF t.2.2 k) (hiP t k) t=kk true)\/((∀x,pF t.2.2 k<=x->x<hiP t k->¬tu t.1 (lz (get zj t.2.2 k).2) x)/\zb.j10 F kk kk k2 (k:Int) (pF t.2.2 k) (hiP t k) t=kT):=by
 obtain ⟨b0,b1,b2⟩:=Uz h hl;obtain ⟨s,hts⟩:∃s:Int,t.1=s:=⟨t.1,rfl⟩;have hs:1<=s:=hts ▸ h.ok.1;have hs2:s<=1000000000000:=hts ▸ h.ok.2.1;have hfi:∀x,pF t.2.2 k<=x->x<hiP t k->(vV t x↔tu s (lz (get zj t.2.2 k).2) x):=fun x a b=>hts ▸ Yz h hl a b
 rw[hts];generalize pF t.2.2 k=lo at b0 b1 hfi ⊢;generalize hiP t k=hi at b1 b2 hfi ⊢;have d0:0<=lo/s:=Int.ediv_nonneg b0 (by omega);have d1:lo/s<=lo:=Int.ediv_le_self _ b0;have em:=Int.mul_ediv_add_emod lo s;have r0:=Int.emod_nonneg lo (show s≠0 by omega);have g0:0<=s*(lo/s):=Int.mul_nonneg (by omega) d0;have he:(lo/s+1)*s=s*(lo/s)+s:=by rw[Int.add_mul,Int.mul_comm]; omega
 have k1T:∀q b,(fun (i4 lo4 hi4 q4:Int) (t484:Bool) (t4:zN.T)=>bif (t4.1 != 0) then zb.l17 F (fun r26=>kk r26) (fun i7 lo7 hi7 edge7 q7 t677 t7=>k2 i7 lo7 hi7 edge7 q7 t677 t7) F i4 lo4 hi4 (i64.wrap ((i64.wrap ((i64.wrap (lo4.tdiv t4.1))+1))*t4.1)) (i64.wrap ((i64.wrap ((i64.wrap ((i64.wrap (lo4.tdiv t4.1))+1))*t4.1))-2)) t4 else none) (k:Int) lo hi q b t
  =zb.l17 F kk k2 F (k:Int) lo hi ((lo/s+1)*s) ((lo/s+1)*s-2) t:=by
  intro q b;dsimp only;rw[hts,show (s != 0)=true from bne_iff_ne.2 (by omega),cond_true,Int.tdiv_eq_ediv_of_nonneg b0,yX (n:=lo/s) (by omega) (by omega),yX (n:=lo/s+1) (by omega) (by omega),yX (n:=(lo/s+1)*s) (by omega) (by omega),yX (n:=(lo/s+1)*s-2) (by omega) (by omega)]
 unfold zb.j10;have e11:=YJ F hF h hA kk (fun (i4 lo4 hi4 q4:Int) (t484:Bool) (t4:zN.T)=>bif (t4.1 != 0) then zb.l17 F (fun r26=>kk r26) (fun i7 lo7 hi7 edge7 q7 t677 t7=>k2 i7 lo7 hi7 edge7 q7 t677 t7) F i4 lo4 hi4 (i64.wrap ((i64.wrap ((i64.wrap (lo4.tdiv t4.1))+1))*t4.1)) (i64.wrap ((i64.wrap ((i64.wrap ((i64.wrap (lo4.tdiv t4.1))+1))*t4.1))-2)) t4 else none) _ (i:=(k:Int)) k1T b0 (by omega) b2 3 lo F (by omega) (by omega) (by omega);rcases e11 with ⟨a,e⟩ | ⟨a,e⟩
 ·exact .inl ⟨a,e⟩
 ·have e17:=YI F hF h hA kk k2 kT (i:=(k:Int)) (lo:=lo) (hi:=hi) (edge:=(lo/s+1)*s) (fun q b=>hk _ _ _ _ _) b0 b2 (by omega) (by omega) 5 ((lo/s+1)*s-2) F (by omega) (by omega) (by omega)
  rcases e17 with ⟨a2,e2⟩ | ⟨a2,e2⟩
  ·exact .inl ⟨a2,e.trans e2⟩
  ·refine .inr ⟨Td hs (fun q c d f=>?_) (fun q c d f g=>?_),e.trans e2⟩
   ·rw[<-hfi q c d]; exact a q c d f
   ·rw[<-hfi q f g]; exact a2 q c d f g
theorem Xz (F:Nat) (hF:20<F) {t:zN.T} (h:Nar t) (hA:RAt F t) {R:Type} (kk:Bool->Option R) (kT:Option R):∀(n i fu:Nat),i+n=t.2.2.length->n<fu->
  (uT t/\zb.l2 F kk kk kk (fun _ _ _=>kT) fu (i:Int) t=kk true)\/(Wz t i/\zb.l2 F kk kk kk (fun _ _ _=>kT) fu (i:Int) t=kT)
 | n,i,0,hi,hfu=>by omega
 | 0,i,fu+1,hi,hfu=>by
  refine .inr ⟨fun k hk hl=>by omega,?_⟩;simp only[zb.l2,zb.l2.body];rw[decide_eq_false (show ¬(i:Int)<(t.2.2.length:Int) by omega),cond_false]
 | n+1,i,fu+1,hi,hfu=>by
  have ih:=Xz F hF h hA kk kT n (i+1) fu (by omega) (by omega);have hl:i<t.2.2.length:=by omega
  have h6:=h.ok.2.2.2.2.2.1;obtain ⟨b0,b1,b2⟩:=Uz h hl;have w:i64.wrap ((i:Int)+1)=((i+1:Nat):Int):=by rw[yX (by omega) (by omega)]; simp
  have hj:=Vs F hF h hA kk (fun i10 _ _ _ _ _ t10=>zb.l2 F kk kk kk (fun _ _ _=>kT) fu (i64.wrap (i10+1)) t10) _ hl (fun _ _ _ _ _=>rfl);have tail:(i+1<t.2.2.length->¬vV t (hiP t i))->∀X,X=zb.j10 F kk kk (fun i10 _ _ _ _ _ t10=>zb.l2 F kk kk kk (fun _ _ _=>kT) fu (i64.wrap (i10+1)) t10) (i:Int) (pF t.2.2 i) (hiP t i) t->
    (uT t/\X=kk true)\/(Wz t i/\X=kT):=by
   intro hend X hX;rcases hj with ⟨a,e⟩ | ⟨a,e⟩
   ·exact .inl ⟨a,hX.trans e⟩
   ·rw[w] at e
    rcases ih with ⟨a1,a2⟩ | ⟨a1,a2⟩
    ·exact .inl ⟨a1,hX.trans (e.trans a2)⟩
    ·exact .inr ⟨X0 h hl a hend a1,hX.trans (e.trans a2)⟩
  simp only[zb.l2,zb.l2.body];rw[decide_eq_true (show (i:Int)<(t.2.2.length:Int) by omega),cond_true,vK hl,cond_true,w,Int.toNat_natCast,Int.toNat_natCast,yX (n:=(t.2.2.length:Int)-1) (by omega) (by omega)];by_cases hl1:i+1<t.2.2.length
  ·have e:hiP t i=pF t.2.2 (i+1)-1:=by unfold hiP; rw[if_pos hl1]
   have hb1:=qi h.ok (i+1) hl1;rw[decide_eq_true (show (i:Int)<(t.2.2.length:Int)-1 by omega),cond_true,vK hl1,cond_true];rw[show i64.wrap ((get zj t.2.2 (i+1)).1-1)=hiP t i from by rw[e]; exact yX (show -9223372036854775808<=pF t.2.2 (i+1)-1 by omega) (show pF t.2.2 (i+1)-1<9223372036854775808 by omega)];obtain ⟨b,e1,eb⟩:=Wm F hF h hA (q:=hiP t i) (by omega) (by omega);rw[e1,zQ];cases b with
   | true=>exact .inl ⟨⟨hiP t i,by omega,by omega,eb.1 rfl⟩,rfl⟩
   | false=>exact tail (fun _ hf=>by have:=eb.2 hf; cases this) _ rfl
  ·have e:hiP t i=1099511627776:=by unfold hiP; rw[if_neg hl1]
   rw[decide_eq_false (show ¬(i:Int)<(t.2.2.length:Int)-1 by omega),cond_false];refine tail (fun hl=>absurd hl hl1) _ ?_;rw[e];rfl
theorem WO (F:Nat) (hF:20<F) {R:Type} (k0:Int->Int->Option R) (k1:Int->Bool->zN.T->Option R) {t:zN.T} (hw:∀p∈t.2.2,wfL p.2) (hf:u7 t.1 0=true) (hn:t.2.2.length<=256):∀(r:List zj.T) (i fu:Nat),t.2.2.drop i=r->i<=t.2.2.length->r.length<fu->
  zv.l4 F k0 k1 fu (i:Int) t=bif r.any (fun p=>uI p.2 t.1) then k0 0 10 else k1 (t.2.2.length:Int) false t
 | r,i,0,h,hi,hfu=>by omega
 | [],i,fu+1,h,hi,hfu=>by
  have hl:=congrArg List.length h;simp only[List.length_drop,List.length_nil] at hl;have e:i=t.2.2.length:=by omega
  simp only[zv.l4,zv.l4.body,e,decide_eq_false (show ¬(t.2.2.length:Int)<(t.2.2.length:Int) by omega),cond_false,List.any_nil]
 | a::r,i,fu+1,h,hi,hfu=>by
  have hl:=congrArg List.length h;simp only[List.length_drop,List.length_cons] at hl;have h2:=tE h;have ih:=WO F hF k0 k1 hw hf hn r (i+1) fu h2 (by omega) (by simpa using hfu);have g:=ZL (t:=zj) h;have w:i64.wrap ((i:Int)+1)=((i+1:Nat):Int):=by rw[yX (by omega) (by omega)]; simp
  have hm:a∈t.2.2:=List.mem_of_mem_drop (i:=i) (by rw[h]; exact List.mem_cons_self ..);have hW:yG.sh F a.2 t.1=some ((uI a.2 t.1,()),()):=by
   unfold yG.sh;rw[rspan15 F hF (hw a hm) hf,zQ];have hc:(vF a.2 t.1).2=0->_:=rcmp15 F hF (l:=a.2) (s:=t.1);have ho:uI a.2 t.1=bif (vF a.2 t.1).2 != 0 then true else decide ((vF a.2 t.1).1>LIM):=by unfold uI; rfl
   rw[ho];clear ho ih;generalize vF a.2 t.1=S at hc ⊢;obtain ⟨v,er⟩:=S;dsimp only at hc ⊢;cases he:(er != 0) with
   | true=>rw[cond_true,cond_true]
   | false =>
    obtain ⟨k,e,e2⟩:=hc (by simpa using he);rw[cond_false,cond_false,e,zQ,<-e2]
  simp only[zv.l4,zv.l4.body];rw[decide_eq_true (show (i:Int)<(t.2.2.length:Int) by omega),cond_true,vK (show i<t.2.2.length by omega),cond_true,g,w,hW,zQ,ih,List.any_cons];dsimp only;cases uI a.2 t.1<;>rfl
theorem UV (F:Nat) (hF:257<F) {t:zN.T} (hw:∀p∈t.2.2,wfL p.2) (hA:Nar t->RAt F t) :
  (vE t=false/\zv.sh F t=some ((0,1,()),())) \/
  (vE t=true/\t.2.2.any (fun p=>uI p.2 t.1)=true/\zv.sh F t=some ((0,10,()),())) \/
  (vE t=true/\t.2.2.any (fun p=>uI p.2 t.1)=false/\((uT t/\zv.sh F t=some ((2,0,()),()))\/(Wz t 0/\zv.sh F t=some ((1,0,()),())))):=by
 unfold zv.sh;rw[Z9 F (by omega),zQ];cases ht:vE t with
 | false=>exact .inl ⟨rfl,rfl⟩
 | true =>
  have hok:=uS.1 ht;have hf:u7 t.1 0=true:=up.2 ⟨hok.1,hok.2.1,by omega,by omega⟩;have h6:=hok.2.2.2.2.2.1;simp only[Bool.not_true,cond_false];have e4:=WO F (by omega) (fun r23 r33=>(some ((r23,r33,()),()):Option zv.sg.R)) (fun i4 t124 t4=>oB (zb.sh F t4) fun c_5=>bif c_5.1.1 then some ((2,0,()),()) else some ((1,0,()),())) hw hf h6 t.2.2 0 F rfl (by omega) (by omega);rw[show ((0:Nat):Int)=0 from rfl] at e4;rw[e4];cases ha:t.2.2.any (fun p=>uI p.2 t.1) with
  | true=>exact .inr (.inl ⟨by trivial,by trivial,rfl⟩)
  | false =>
   have hN:Nar t:=⟨hw,hok,fun p hp=>TH (by simpa using List.any_eq_false.1 ha p hp)⟩;have e2:=Xz F (by omega) hN (hA hN) (fun r=>(some ((r,()),()):Option zb.sg.R)) (some ((false,()),())) t.2.2.length 0 F (by omega) (by omega);rw[show ((0:Nat):Int)=0 from rfl] at e2;refine .inr (.inr ⟨by trivial,by trivial,?_⟩);rw[cond_false];have e3:zb.sh F t=zb.l2 F (fun r=>(some ((r,()),()):Option zb.sg.R)) (fun r=>some ((r,()),())) (fun r=>some ((r,()),())) (fun _ _ _=>some ((false,()),())) F 0 t:=by unfold zb.sh; rfl
   rw[e3];rcases e2 with ⟨a,e⟩ | ⟨a,e⟩
   ·rw[e,zQ]; exact .inl ⟨a,rfl⟩
   ·rw[e,zQ]; exact .inr ⟨a,rfl⟩
theorem VK (F:Nat) (hF:257<F) (hW:yx.sh F=some ((true,()),())) {t:zN.T} (hw:∀p∈t.2.2,wfL p.2) (hA:Nar t->RAt F t):zE.sh F t=some ((true,()),()):=by
 unfold zE.sh;rw[hW,zQ];rcases SN F hF hw with ⟨c1,e1⟩ | ⟨c1,c2,e1⟩ | ⟨c1,c2,hN,c3⟩<;>rcases UV F hF hw hA with ⟨d1,e2⟩ | ⟨d1,d2,e2⟩ | ⟨d1,d2,d3⟩
 ·rw[e1,zQ,e2,zQ]; rfl
 ·rw[c1] at d1; cases d1
 ·rw[c1] at d1; cases d1
 ·rw[c1] at d1; cases d1
 ·rw[e1,zQ,e2,zQ]; rfl
 ·rw[c2] at d2; cases d2
 ·rw[c1] at d1; cases d1
 ·rw[c2] at d2; cases d2
 ·rcases c3 with ⟨q,q0,q1,hf,e1⟩ | ⟨hc,e1⟩<;>rcases d3 with ⟨⟨q',p0,p1,hf'⟩,e2⟩ | ⟨hc',e2⟩
  ·obtain ⟨x,y,hx,hy,hxy⟩:=hf
   obtain ⟨x1,x2⟩:=SP F hF hN q0 (by omega) hx;obtain ⟨y1,y2⟩:=SP F hF hN (by omega) (by omega) hy;rw[e1,zQ,e2,zQ];show (bif decide (q>=q+1) then some ((false,()),()) else oB (yC.sh F t q) fun c_4=>oB (yC.sh F t (q+1)) fun c_5 =>
     bif (c_4.1.2.1==0) then bif (c_5.1.2.1==0) then oB (xF.sh F c_4.1.1 c_5.1.1) fun c_6 =>
       some ((decide (c_6.1.1>0),()),())
      else some ((false,()),())
     else some ((false,()),()))=_
   rw[decide_eq_false (show ¬q>=q+1 by omega),cond_false,x1,zQ,y1,zQ];show (oB (xF.sh F (mk x) (mk y)) fun c_6=>some ((decide (c_6.1.1>0),()),()))=_;rw[V9 F (vm x2) (vm y2),zQ,wN,wN];show some ((decide (ZA x y>0),()),())=_;rw[tw,decide_eq_true hxy]
  ·exact absurd hf (Vi hN hc' q q0 q1)
  ·exact absurd hf' (Vi hN hc q' p0 p1)
  ·rw[e1,zQ,e2,zQ]; rfl
theorem VJ (t:zN.T) (h:wfT zN t):zE.sh FU t=some ((true,()),()):=VK FU (by decide) SF (tab_wf h) fun hN=>rAt15 hN
end Go.VS
