/- Plain laws, joined from smaller texts. -/
import Derived.Test.YtiliboioeieeoaaGreatDoorQR1
set_option linter.unusedVariables false
set_option linter.unusedSimpArgs false
set_option linter.unusedSectionVars false
set_option maxRecDepth 100000
namespace Go.VS
open Go IntKind
def wfW (w:Int×Int):Prop:=-9223372036854775808<=w.1/\w.1<9223372036854775808/\0<=w.2/\w.2<18446744073709551616
def val (w:Int×Int):Int:=w.1*18446744073709551616+w.2
def mk (v:Int):Int×Int:=(v/18446744073709551616,v%18446744073709551616)
def inR (v:Int):Bool:=decide (-170141183460469231731687303715884105728<=v)&&decide (v<170141183460469231731687303715884105728)
def vO (v:Int):Int×Int:=bif inR v then mk v else (0,0)
def vF (v:Int):Int:=bif inR v then 0 else 10
theorem zP {v:Int}:inR v=true↔-170141183460469231731687303715884105728<=v/\v<170141183460469231731687303715884105728:=by simp[inR]
theorem tQ {v:Int}:inR v=false↔(v < -170141183460469231731687303715884105728\/170141183460469231731687303715884105728<=v):=by
 cases h:inR v with
 | true=>simp; have:=zP.1 h; omega
 | false =>
  simp;rcases Int.lt_or_le v (-170141183460469231731687303715884105728) with h' | h'
  ·exact .inl h'
  ·rcases Int.lt_or_le v 170141183460469231731687303715884105728 with h'' | h''
   ·rw[zP.2 ⟨h',h''⟩] at h; cases h
   ·exact .inr h''
theorem zcf {w:Int×Int} (h:wfW w):mk (val w)=w:=by
 obtain ⟨a,b⟩:=w;obtain ⟨h1,h2,h3,h4⟩:=h;simp only[mk,val] at*;ext<;>simp only<;>omega
theorem y9 {v:Int}:val (mk v)=v:=by simp only[val,mk]; omega
theorem xk {v:Int} (h:inR v=true):wfW (mk v):=by
 have:=zP.1 h;simp only[wfW,mk];omega
theorem zat {w:Int×Int} (h:wfW w):inR (val w)=true:=by
 rw[zP];obtain ⟨h1,h2,h3,h4⟩:=h;simp only[val];omega
theorem Vz (v:Int):wfW (vO v):=by
 unfold vO;cases h:inR v with
 | true=>exact xk h
 | false=>simp[wfW]
theorem Vy (n:Int):∃k,i64.wrap n=n+18446744073709551616*k/\-9223372036854775808<=i64.wrap n/\i64.wrap n<9223372036854775808:=by
 rw[YW];split
 ·exact ⟨-(n/18446744073709551616)-1,by omega,by omega,by omega⟩
 ·exact ⟨-(n/18446744073709551616),by omega,by omega,by omega⟩
theorem ve (F:Nat) {v:Int} (h1:-9223372036854775808<=v) (h2:v<9223372036854775808):zY.sh F v=some ((mk v,()),()):=by
 unfold zY.sh;have e:(2^(min (63:Int).toNat IntKind.i64.bits):Int)=9223372036854775808:=by decide
 have e2:v.fdiv 9223372036854775808=v/18446744073709551616:=by rw[Int.fdiv_eq_ediv_of_nonneg _ (by omega)]; omega
 rw[e,e2,wm];rfl
theorem qV {v:Int} (h1:-9223372036854775808<=v) (h2:v<9223372036854775808):inR v=true:=by rw[zP]; omega
theorem ZR (F:Nat) {x y c:Int} (h1:0<=x) (h2:0<=y) (h3:0<=c) (h4:c<=1):yd.sh F x y c=some (((x+y+c)%18446744073709551616,(x+y+c)/18446744073709551616,()),()):=by
 simp[yd.sh,h1,h2,h3,h4]
theorem uY (F:Nat) {x y c:Int} (h1:0<=x) (h2:0<=y) (h2':y<18446744073709551616) (h3:0<=c) (h4:c<=1):zX.sh F x y c=some (((x-y-c)%18446744073709551616,(if x<y+c then 1 else 0),()),()):=by
 simp[zX.sh,h1,h2,h2',h3,h4]
theorem UO (F:Nat) {a b:Int×Int} (ha:wfW a) (hb:wfW b):xx.sh F a b=some ((vO (val a+val b),vF (val a+val b),()),()):=by
 obtain ⟨a1,a2⟩:=a;obtain ⟨b1,b2⟩:=b;obtain ⟨h1,h2,h3,h4⟩:=ha;obtain ⟨g1,g2,g3,g4⟩:=hb;simp only at*;unfold xx.sh;simp only[wm];rw[ZR F (by omega) (by omega) (by omega) (by omega)];simp only[zr];rw[ZR F (by omega) (by omega) (by omega) (by omega)];simp only[zr,vO,vF,val,mk];obtain ⟨k,e1,e2,e3⟩:=Vy ((a1%18446744073709551616+b1%18446744073709551616+(a2+b2+0)/18446744073709551616)%18446744073709551616);generalize i64.wrap ((a1%18446744073709551616+b1%18446744073709551616+(a2+b2+0)/18446744073709551616)%18446744073709551616)=r at*;cases hr:inR (a1*18446744073709551616+a2+(b1*18446744073709551616+b2)) with
 | true =>
  rw[zP] at hr;have q1:r=(a1*18446744073709551616+a2+(b1*18446744073709551616+b2))/18446744073709551616:=by omega
  have q2:(a2+b2+0)%18446744073709551616=(a1*18446744073709551616+a2+(b1*18446744073709551616+b2))%18446744073709551616:=by omega
  have hs:(decide (a1<0)==decide (b1<0)&&!(decide (r<0)==decide (a1<0)))=false:=by
   by_cases x1:a1<0<;>by_cases x2:b1<0<;>by_cases x3:r<0<;>simp[x1,x2,x3]<;>omega
  simp only[cond_true];rw[<-q1,<-q2];cases hx:(decide (a1<0)==decide (b1<0)) with
  | true =>
   rw[hx] at hs;simp only[Bool.true_and] at hs;simp only[hs,cond_true,cond_false]
  | false=>rfl
 | false =>
  rw[tQ] at hr;have hs:(decide (a1<0)==decide (b1<0))=true/\(!(decide (r<0)==decide (a1<0)))=true:=by
   by_cases x1:a1<0<;>by_cases x2:b1<0<;>by_cases x3:r<0<;>simp[x1,x2,x3]<;>omega
  simp only[hs.1,hs.2,cond_true,cond_false]
theorem Se (F:Nat) {a b:Int×Int} (ha:wfW a) (hb:wfW b):xw.sh F a b=some ((vO (val a-val b),vF (val a-val b),()),()):=by
 obtain ⟨a1,a2⟩:=a;obtain ⟨b1,b2⟩:=b;obtain ⟨h1,h2,h3,h4⟩:=ha;obtain ⟨g1,g2,g3,g4⟩:=hb;simp only at*;unfold xw.sh;simp only[wm];rw[uY F (by omega) (by omega) (by omega) (by omega) (by omega)];simp only[zr];have hbo:(a2<b2/\(if a2<b2+0 then (1:Int) else 0)=1)\/(b2<=a2/\(if a2<b2+0 then (1:Int) else 0)=0):=by split<;>omega
 generalize (if a2<b2+0 then (1:Int) else 0)=bo at*;rw[uY F (by omega) (by omega) (by omega) (by omega) (by omega)];simp only[zr,vO,vF,val,mk];obtain ⟨k,e1,e2,e3⟩:=Vy ((a1%18446744073709551616-b1%18446744073709551616-bo)%18446744073709551616);generalize i64.wrap ((a1%18446744073709551616-b1%18446744073709551616-bo)%18446744073709551616)=r at*;cases hr:inR (a1*18446744073709551616+a2-(b1*18446744073709551616+b2)) with
 | true =>
  rw[zP] at hr;have q1:r=(a1*18446744073709551616+a2-(b1*18446744073709551616+b2))/18446744073709551616:=by omega
  have q2:(a2-b2-0)%18446744073709551616=(a1*18446744073709551616+a2-(b1*18446744073709551616+b2))%18446744073709551616:=by omega
  have hs:(!(decide (a1<0)==decide (b1<0))&&!(decide (r<0)==decide (a1<0)))=false:=by
   by_cases x1:a1<0<;>by_cases x2:b1<0<;>by_cases x3:r<0<;>simp[x1,x2,x3]<;>omega
  simp only[cond_true];rw[<-q1,<-q2];cases hx:(!(decide (a1<0)==decide (b1<0))) with
  | true =>
   rw[hx] at hs;simp only[Bool.true_and] at hs;simp only[hs,cond_true,cond_false]
  | false=>rfl
 | false =>
  rw[tQ] at hr;have hs:(!(decide (a1<0)==decide (b1<0)))=true/\(!(decide (r<0)==decide (a1<0)))=true:=by
   by_cases x1:a1<0<;>by_cases x2:b1<0<;>by_cases x3:r<0<;>simp[x1,x2,x3]<;>omega
  simp only[hs.1,hs.2,cond_true,cond_false]
theorem wf_zero:wfW (0,0):=by simp[wfW]
theorem zcd (F:Nat) {a:Int×Int} (ha:wfW a):xI.sh F a=some ((vO (-val a),vF (-val a),()),()):=by
 unfold xI.sh;rw[Se F wf_zero ha];have:val (0,0)-val a=-val a:=by simp[val]
 rw[this];rfl
def tg (x y:Int):Int:=if x<y then -1 else if x=y then 0 else 1
theorem zaJ {x y:Int} (h:x<y):tg x y=-1:=by unfold tg; rw[if_pos h]
theorem cmpZ_eq {x y:Int} (h:x=y):tg x y=0:=by unfold tg; rw[if_neg (by omega),if_pos h]
theorem zaK {x y:Int} (h:y<x):tg x y=1:=by unfold tg; rw[if_neg (by omega),if_neg (by omega)]
theorem WU (F:Nat) {a b:Int×Int} (ha:wfW a) (hb:wfW b):xp.sh F a b=some ((tg (val a) (val b),()),()):=by
 obtain ⟨a1,a2⟩:=a;obtain ⟨b1,b2⟩:=b;obtain ⟨h1,h2,h3,h4⟩:=ha;obtain ⟨g1,g2,g3,g4⟩:=hb;simp only at*;unfold xp.sh;simp only[Bool.and_true];by_cases x1:a1<b1
 ·have y1:(a1==b1)=false:=by rw[beq_eq_false_iff_ne]; omega
  rw[zaJ (by simp only[val]; omega)];simp[y1,x1]
 ·by_cases x2:a1=b1
  ·subst x2
   by_cases x3:a2=b2
   ·subst x3
    rw[cmpZ_eq rfl];simp
   ·have y3:(a2==b2)=false:=by rw[beq_eq_false_iff_ne]; exact x3
    by_cases x4:a2<b2
    ·rw[zaJ (by simp only[val]; omega)]
     simp[y3,x4]
    ·rw[zaK (by simp only[val]; omega)]
     simp[y3,x4]
  ·have y1:(a1==b1)=false:=by rw[beq_eq_false_iff_ne]; omega
   rw[zaK (by simp only[val]; omega)];simp[y1,x1]
theorem zbN {a b a' b':Int} (h1:a=a') (h2:b=b'):(some ((a,b,()),()):Option ((Int×Int×Unit)×Unit))=some ((a',b',()),()):=by rw[h1,h2]
theorem ZS (F:Nat) {a:Int×Int} (ha:wfW a):xq.sh F a=some ((((val a).natAbs:Int)/18446744073709551616,((val a).natAbs:Int)%18446744073709551616,()),()):=by
 obtain ⟨a1,a2⟩:=a;obtain ⟨h1,h2,h3,h4⟩:=ha;simp only at*;unfold xq.sh;simp only[wm];by_cases x:a1>=0
 ·have e:((val (a1,a2)).natAbs:Int)=a1*18446744073709551616+a2:=by simp only[val]; omega
  rw[e];simp only[x,decide_true,cond_true];exact zbN (by omega) (by omega)
 ·have e:((val (a1,a2)).natAbs:Int)=-(a1*18446744073709551616+a2):=by simp only[val]; omega
  rw[e];simp only[x,decide_false,cond_false];rw[uY F (by omega) (by omega) (by omega) (by omega) (by omega)];simp only[zr];have hbo:(0<a2/\(if 0<a2+0 then (1:Int) else 0)=1)\/(a2=0/\(if 0<a2+0 then (1:Int) else 0)=0):=by split<;>omega
  generalize (if 0<a2+0 then (1:Int) else 0)=bo at*;rw[uY F (by omega) (by omega) (by omega) (by omega) (by omega)];simp only[zr];exact zbN (by omega) (by omega)
theorem XM (F:Nat) {b:Bool} {hi lo:Int} (h1:0<=hi) (h2:hi<18446744073709551616) (h3:0<=lo) (h4:lo<18446744073709551616) {v:Int} (hv:v=bif b then -(hi*18446744073709551616+lo) else hi*18446744073709551616+lo) :
  xu.sh F b hi lo=some ((vO v,vF v,()),()):=by
 unfold xu.sh;have e:(2^(min (63:Int).toNat IntKind.u64.bits):Int)=9223372036854775808:=by decide
 rw[e,Int.fdiv_eq_ediv_of_nonneg _ (by omega)];by_cases x:hi<9223372036854775808
 ·have e1:(hi/9223372036854775808==0)=true:=by rw[beq_iff_eq]; omega
  rw[e1,yV (by omega) (by omega)];have hw:wfW (hi,lo):=⟨by simp only; omega,x,h3,h4⟩;cases b with
  | true =>
   simp only[cond_true] at hv ⊢;rw[zcd F hw];simp only[zr];have:v=-val (hi,lo):=by rw[hv]; rfl
   rw[this]
  | false =>
   simp only[cond_true,cond_false] at hv ⊢;have:v=val (hi,lo):=by rw[hv]; rfl
   rw[this];simp only[vO,vF,zat hw,cond_true,zcf hw]
 ·have e1:(hi/9223372036854775808==0)=false:=by rw[beq_eq_false_iff_ne]; omega
  rw[e1];cases b with
  | true =>
   simp only[cond_true,cond_false] at hv ⊢;by_cases y:hi=9223372036854775808
   ·subst y
    by_cases z:lo=0
    ·subst z
     subst hv;rfl
    ·have e2:(lo==0)=false:=by rw[beq_eq_false_iff_ne]; exact z
     have hr:inR v=false:=by rw[tQ]; omega
     simp only[vO,vF,hr,cond_false,e2,beq_self_eq_true,cond_true]
   ·have e2:(hi==9223372036854775808)=false:=by rw[beq_eq_false_iff_ne]; exact y
    have hr:inR v=false:=by rw[tQ]; omega
    simp only[vO,vF,hr,cond_false,e2]
  | false =>
   simp only[cond_false] at hv ⊢;have hr:inR v=false:=by rw[tQ]; omega
   simp only[vO,vF,hr,cond_false]
theorem Ua {x:Int} (h1:0<=x) (h2:x<18446744073709551616):u64.wrap ((BitVec.ofInt IntKind.u64.bits x &&& BitVec.ofInt IntKind.u64.bits 4294967295).toNat:Int)=x%4294967296:=by
 obtain ⟨X,rfl⟩:=Int.eq_ofNat_of_zero_le h1;show u64.wrap ((BitVec.ofInt 64 (X:Int) &&& BitVec.ofInt 64 ((4294967295:Nat):Int)).toNat:Int)=_;rw[BitVec.ofInt_natCast,BitVec.ofInt_natCast,BitVec.toNat_and,BitVec.toNat_ofNat,BitVec.toNat_ofNat,Nat.mod_eq_of_lt (by omega:X<2^64),Nat.mod_eq_of_lt (by decide)];have:X &&& 4294967295=X%4294967296:=Nat.and_two_pow_sub_one_eq_mod X 32;rw[this,y4 (by omega) (by omega)];omega
theorem zae {x:Int} (h1:0<=x) (h2:x<18446744073709551616):u64.wrap ((BitVec.ofInt IntKind.u64.bits x ||| BitVec.ofInt IntKind.u64.bits 0).toNat:Int)=x:=by
 obtain ⟨X,rfl⟩:=Int.eq_ofNat_of_zero_le h1;show u64.wrap ((BitVec.ofInt 64 (X:Int) ||| BitVec.ofInt 64 ((0:Nat):Int)).toNat:Int)=_
 rw[BitVec.ofInt_natCast,BitVec.ofInt_natCast,BitVec.toNat_or,BitVec.toNat_ofNat,BitVec.toNat_ofNat,Nat.mod_eq_of_lt (by omega:X<2^64)];simp;rw[y4 (by omega) (by omega)]
theorem zero_or {x:Int} (h1:0<=x) (h2:x<18446744073709551616):u64.wrap ((BitVec.ofInt IntKind.u64.bits 0 ||| BitVec.ofInt IntKind.u64.bits x).toNat:Int)=x:=by
 rw[BitVec.or_comm]; exact zae h1 h2
theorem VW {x:Int} (h:0<=x):x.fdiv (2^(min (32:Int).toNat IntKind.u64.bits))=x/4294967296:=by
 have e:(2^(min (32:Int).toNat IntKind.u64.bits):Int)=4294967296:=by decide
 rw[e,Int.fdiv_eq_ediv_of_nonneg _ (by omega)]
theorem qv {a b m n:Int} (ha:0<=a) (ha':a<=m) (hb:0<=b) (hb':b<=n):0<=a*b/\a*b<=m*n :=
 ⟨Int.mul_nonneg ha hb,Int.mul_le_mul ha' hb' hb (by omega)⟩
theorem XG (F:Nat) {x y:Int} (h1:0<=x) (h2:x<18446744073709551616) (h3:0<=y) (h4:y<18446744073709551616) :
  yB.sh F x y=some ((x*y/18446744073709551616,x*y%18446744073709551616,()),()):=by
 unfold yB.sh;rw[Ua h1 h2,Ua h3 h4,VW h1,VW h3];have hx:x=x/4294967296*4294967296+x%4294967296:=by omega
 have hy:y=y/4294967296*4294967296+y%4294967296:=by omega
 have bx1:0<=x/4294967296/\x/4294967296<=4294967295:=by omega
 have bx0:0<=x%4294967296/\x%4294967296<=4294967295:=by omega
 have by1:0<=y/4294967296/\y/4294967296<=4294967295:=by omega
 have by0:0<=y%4294967296/\y%4294967296<=4294967295:=by omega
 have hxy:x*y=(x/4294967296)*(y/4294967296)*18446744073709551616+((x/4294967296)*(y%4294967296)+(x%4294967296)*(y/4294967296))*4294967296+(x%4294967296)*(y%4294967296):=by
  generalize x/4294967296=x1 at*;generalize x%4294967296=x0 at*;generalize y/4294967296=y1 at*;generalize y%4294967296=y0 at*;rw[hx,hy];simp only[Int.add_mul,Int.mul_add];have r1:x1*4294967296*(y1*4294967296)=x1*y1*18446744073709551616:=by
   rw[Int.mul_assoc,Int.mul_left_comm 4294967296,<-Int.mul_assoc]; rfl
  have r2:x1*4294967296*y0=x1*y0*4294967296:=by rw[Int.mul_right_comm]
  have r3:x0*(y1*4294967296)=x0*y1*4294967296:=by rw[Int.mul_assoc]
  rw[r1,r2,r3];omega
 have A:=qv bx1.1 bx1.2 by1.1 by1.2;have B:=qv bx1.1 bx1.2 by0.1 by0.2;have C:=qv bx0.1 bx0.2 by1.1 by1.2;have D:=qv bx0.1 bx0.2 by0.1 by0.2;rw[hxy];generalize (x/4294967296)*(y/4294967296)=a at*;generalize (x/4294967296)*(y%4294967296)=b at*;generalize (x%4294967296)*(y/4294967296)=c at*;generalize (x%4294967296)*(y%4294967296)=d at*;clear hxy hx hy bx1 bx0 by1 by0;have w1:u64.wrap a=a:=y4 (by omega) (by omega);have w2:u64.wrap b=b:=y4 (by omega) (by omega);have w3:u64.wrap c=c:=y4 (by omega) (by omega);have w4:u64.wrap d=d:=y4 (by omega) (by omega);rw[w1,w2,w3,w4,VW D.1];have w5:u64.wrap (b+d/4294967296)=b+d/4294967296:=y4 (by omega) (by omega);rw[w5,Ua (by omega) (by omega),VW (by omega)];have w6:u64.wrap ((b+d/4294967296)%4294967296+c)=(b+d/4294967296)%4294967296+c:=y4 (by omega) (by omega);rw[w6,VW (by omega)];have w7:u64.wrap (a+(b+d/4294967296)/4294967296)=a+(b+d/4294967296)/4294967296:=y4 (by omega) (by omega);rw[w7];have w8:u64.wrap (a+(b+d/4294967296)/4294967296+((b+d/4294967296)%4294967296+c)/4294967296)=a+(b+d/4294967296)/4294967296+((b+d/4294967296)%4294967296+c)/4294967296:=y4 (by omega) (by omega);rw[w8,wm];exact zbN (by omega) (by omega)
theorem tu {a:Int×Int} (ha:wfW a):decide (a.1<0)=decide (val a<0):=by
 obtain ⟨a1,a2⟩:=a;obtain ⟨h1,h2,h3,h4⟩:=ha;have:a1<0↔val (a1,a2)<0:=by simp only[val] at*; omega
 simp[this]
theorem WX {a:Int×Int} (ha:wfW a):0<=((val a).natAbs:Int)/\((val a).natAbs:Int)<=170141183460469231731687303715884105728:=by
 have:=zP.1 (zat ha);omega
theorem Th {x y m n:Int} (hm:m=x.natAbs) (hn:n=y.natAbs):x*y=bif !(decide (x<0)==decide (y<0)) then -(m*n) else m*n:=by
 subst hm hn;by_cases h1:x<0
 ·have e1:(x.natAbs:Int)=-x:=by omega
  by_cases h2:y<0
  ·have e2:(y.natAbs:Int)=-y:=by omega
   simp[h1,h2,e1,e2,Int.neg_mul_neg]
  ·have e2:(y.natAbs:Int)=y:=by omega
   simp[h1,h2,e1,e2,Int.neg_mul]
 ·have e1:(x.natAbs:Int)=x:=by omega
  by_cases h2:y<0
  ·have e2:(y.natAbs:Int)=-y:=by omega
   simp[h1,h2,e1,e2,Int.mul_neg]
  ·have e2:(y.natAbs:Int)=y:=by omega
   simp[h1,h2,e1,e2]
theorem wmul_j (F:Nat) {R:Type} (k:(Int×Int)->Int->Option R) {a b:Int×Int} (ha:wfW a) (hb:wfW b) (r:Int×Int) {ah al bh bl:Int}
  (h1:0<=ah/\ah<=9223372036854775808) (h2:0<=al/\al<18446744073709551616) (h3:0<=bh/\bh<=9223372036854775808) (h4:0<=bl/\bl<18446744073709551616)
  (hA:((val a).natAbs:Int)=ah*18446744073709551616+al) (hB:((val b).natAbs:Int)=bh*18446744073709551616+bl) (h0:ah=0\/bh=0) :
  ym.j5 F (fun e w=>k w e) (fun e w=>k w e) ah al bh bl a b r=k (vO (val a*val b)) (vF (val a*val b)):=by
 unfold ym.j5;rw[XG F h2.1 h2.2 h4.1 h4.2];simp only[zr];have hp:xC.sh F (ah != 0) bl al=some ((if ah≠0 then bl else al,()),()):=by
  unfold xC.sh;by_cases h:ah=0
  ·simp[h]
  ·have:(ah != 0)=true:=by simp[h]
   simp[this,h]
 rw[hp];simp only[zr];obtain ⟨c,hc1,hc2,hc3⟩:∃c,c=ah*bl+bh*al/\yB.sh F (u64.wrap ((BitVec.ofInt IntKind.u64.bits ah ||| BitVec.ofInt IntKind.u64.bits bh).toNat:Int)) (if ah≠0 then bl else al) =
   some ((c/18446744073709551616,c%18446744073709551616,()),())/\0<=c:=by
  rcases h0 with rfl | rfl
  ·refine ⟨bh*al,by simp,?_,Int.mul_nonneg h3.1 h2.1⟩
   rw[zero_or h3.1 (by omega),if_neg (by simp),XG F h3.1 (by omega) h2.1 h2.2]
  ·refine ⟨ah*bl,by simp,?_,Int.mul_nonneg h1.1 h4.1⟩
   rw[zae h1.1 (by omega)];by_cases h:ah=0
   ·subst h
    rw[if_neg (by simp),XG F (by omega) (by omega) h2.1 h2.2];simp
   ·rw[if_pos h,XG F h1.1 (by omega) h4.1 h4.2]
 rw[hc2];simp only[zr];have hd:0<=al*bl:=Int.mul_nonneg h2.1 h4.1;have hd':al*bl<=340282366920938463426481119284349108225:=(qv h2.1 (by omega:al<=18446744073709551615) h4.1 (by omega:bl<=18446744073709551615)).2;have hm:((val a).natAbs:Int)*((val b).natAbs:Int)=c*18446744073709551616+al*bl:=by
  rw[hA,hB,hc1];rcases h0 with rfl | rfl
  ·simp only[Int.zero_mul,Int.zero_add,Int.mul_add]
   have:al*(bh*18446744073709551616)=bh*al*18446744073709551616:=by rw[Int.mul_left_comm,<-Int.mul_assoc]
   omega
  ·simp only[Int.zero_mul,Int.zero_add,Int.add_zero,Int.add_mul]
   have:ah*18446744073709551616*bl=ah*bl*18446744073709551616:=by rw[Int.mul_right_comm]
   omega
 have hs:=Th (x:=val a) (y:=val b) rfl rfl;rw[hm,<-tu ha,<-tu hb] at hs;generalize al*bl=d at*;generalize hsg:(!(decide (a.1<0)==decide (b.1<0)))=sg at*;rw[ZR F (by omega) (by omega) (by omega) (by omega)];simp only[zr];by_cases q1:c/18446744073709551616=0
 ·have e1:(c/18446744073709551616 != 0)=false:=by simp[q1]
  rw[e1];simp only[cond_false];by_cases q2:(d/18446744073709551616+c%18446744073709551616+0)/18446744073709551616=0
  ·have e2:((d/18446744073709551616+c%18446744073709551616+0)/18446744073709551616 != 0)=false:=by rw[q2]; rfl
   rw[e2];simp only[cond_false];rw[XM F (v:=val a*val b) (by omega) (by omega) (by omega) (by omega) (by rw[hs]; cases sg<;>simp only[cond_true,cond_false]<;>omega)];simp only[zr]
  ·have e2:((d/18446744073709551616+c%18446744073709551616+0)/18446744073709551616 != 0)=true:=bne_iff_ne.2 q2
   rw[e2];simp only[cond_true];have hr:inR (val a*val b)=false:=by rw[tQ,hs]; cases sg<;>simp only[cond_true,cond_false]<;>omega
   simp only[vO,vF,hr,cond_false]
 ·have e1:(c/18446744073709551616 != 0)=true:=by simp[q1]
  rw[e1];simp only[cond_true];have hr:inR (val a*val b)=false:=by rw[tQ,hs]; cases sg<;>simp only[cond_true,cond_false]<;>omega
  simp only[vO,vF,hr,cond_false]
theorem ZV (F:Nat) {a b:Int×Int} (ha:wfW a) (hb:wfW b):ym.sh F a b=some ((vO (val a*val b),vF (val a*val b),()),()):=by
 have ba:=WX ha;have bb:=WX hb;unfold ym.sh;rw[ZS F ha,ZS F hb];simp only[zr];have key:∀(h0:((val a).natAbs:Int)/18446744073709551616=0\/((val b).natAbs:Int)/18446744073709551616=0),ym.j5 F (fun e w=>some ((w,e,()),())) (fun e w=>some ((w,e,()),()))
   (((val a).natAbs:Int)/18446744073709551616) (((val a).natAbs:Int)%18446744073709551616) (((val b).natAbs:Int)/18446744073709551616) (((val b).natAbs:Int)%18446744073709551616) a b (0,0) =
   (some ((vO (val a*val b),vF (val a*val b),()),()):Option ym.sg.R):=fun h0 =>
  wmul_j F (fun w e=>some ((w,e,()),())) ha hb (0,0) (by omega) (by omega) (by omega) (by omega) (by omega) (by omega) h0
 by_cases q1:((val a).natAbs:Int)/18446744073709551616=0
 ·have e1:(((val a).natAbs:Int)/18446744073709551616 != 0)=false:=by simp[q1]
  rw[e1];simp only[cond_false];exact key (.inl q1)
 ·have e1:(((val a).natAbs:Int)/18446744073709551616 != 0)=true:=by simp[q1]
  rw[e1];simp only[cond_true];by_cases q2:((val b).natAbs:Int)/18446744073709551616=0
  ·have e2:(((val b).natAbs:Int)/18446744073709551616 != 0)=false:=by simp[q2]
   rw[e2];simp only[cond_false];exact key (.inr q2)
  ·have e2:(((val b).natAbs:Int)/18446744073709551616 != 0)=true:=by simp[q2]
   rw[e2];simp only[cond_true];have hs:=Th (x:=val a) (y:=val b) rfl rfl;have hp:(18446744073709551616:Int)*18446744073709551616<=((val a).natAbs:Int)*((val b).natAbs:Int):=Int.mul_le_mul (by omega) (by omega) (by omega) (by omega);have hr:inR (val a*val b)=false:=by
    rw[tQ,hs];generalize ((val a).natAbs:Int)*((val b).natAbs:Int)=m at*;cases (!(decide (val a<0)==decide (val b<0)))<;>simp only[cond_true,cond_false]<;>omega
   simp only[vO,vF,hr,cond_false]
def FU:Nat:=4194304
def Ql (l:List (Int×Int)):Int:=(l.map val).sum
theorem zbP {x:Int} (h1:-9223372036854775808<=x) (h2:x<9223372036854775808):x.fdiv (2^(min (63:Int).toNat IntKind.i64.bits))=if x<0 then -1 else 0:=by
 have e:(2^(min (63:Int).toNat IntKind.i64.bits):Int)=9223372036854775808:=by decide
 rw[e,Int.fdiv_eq_ediv_of_nonneg _ (by omega)];split<;>omega
theorem pair2 {a b c d:Int} (h1:a=c) (h2:b=d):(a,b)=(c,d):=by rw[h1,h2]
theorem sum_rg (F:Nat) {R:Type} (k:Int->Int->Int->Option R) (l:List (Int×Int)) (N:Int) (xs:List (Int×Int)):∀(i lo hi top:Int) (r:Int×Int),(∀x∈xs,wfW x)->0<=lo->lo<18446744073709551616->0<=hi->hi<18446744073709551616->
  -4611686018427387904+xs.length<=top->top<=4611686018427387904-xs.length->
  ∃lo' hi' top',yk.l4.rg F (fun lo hi top _ _ _ _ _=>k lo hi top) l N xs i lo hi top r=k lo' hi' top'/\0<=lo'/\lo'<18446744073709551616/\0<=hi'/\hi'<18446744073709551616 /\
   -4611686018427387904<=top'/\top'<=4611686018427387904/\top'*340282366920938463463374607431768211456+hi'*18446744073709551616+lo'=top*340282366920938463463374607431768211456+hi*18446744073709551616+lo+Ql xs:=by
 induction xs with
 | nil =>
  intro i lo hi top r _ h1 h2 h3 h4 h5 h6;exact ⟨lo,hi,top,by simp only[yk.l4.rg],h1,h2,h3,h4,by simp at h5; omega,by simp at h6; omega,by simp[Ql]⟩
 | cons x xs ih =>
  intro i lo hi top r hw h1 h2 h3 h4 h5 h6;obtain ⟨x1,x2⟩:=x;obtain ⟨g1,g2,g3,g4⟩:=hw (x1,x2) (by simp);simp only at g1 g2 g3 g4;simp only[yk.l4.rg,wm];rw[ZR F h1 g3 (by omega) (by omega)];simp only[zr];rw[ZR F h3 (by omega) (by omega) (by omega)];simp only[zr];rw[zbP g1 g2];obtain ⟨s,hs⟩:∃s:Int,s=(if x1<0 then -1 else 0)/\(x1<0/\s=-1\/0<=x1/\s=0):=⟨_,rfl,by split<;>omega⟩;rw[<-hs.1];simp only[List.length_cons] at h5 h6;rw[yV (n:=(hi+x1%18446744073709551616+(lo+x2+0)/18446744073709551616)/18446744073709551616) (by omega) (by omega)];rw[yV (n:=s+_) (by omega) (by omega),yV (n:=top+_) (by omega) (by omega)];obtain ⟨lo',hi',top',e1,e2,e3,e4,e5,e6,e7,e8⟩:=ih (i+1) ((lo+x2+0)%18446744073709551616) ((hi+x1%18446744073709551616+(lo+x2+0)/18446744073709551616)%18446744073709551616)
   (top+(s+(hi+x1%18446744073709551616+(lo+x2+0)/18446744073709551616)/18446744073709551616)) r (fun y hy=>hw y (by simp[hy])) (by omega) (by omega) (by omega) (by omega) (by omega) (by omega)
  refine ⟨lo',hi',top',e1,e2,e3,e4,e5,e6,e7,?_⟩;rw[e8];simp only[Ql,List.map_cons,List.sum_cons,val];omega
theorem wsum_eq (F:Nat) {l:List (Int×Int)} (hw:∀x∈l,wfW x) (hl:l.length<F) (hL:l.length<4611686018427387904):yk.sh F l=some ((vO (Ql l),vF (Ql l),()),()):=by
 unfold yk.sh;rw[show (0:Int)=((0:Nat):Int) from rfl,yk.l4.rg_eq F _ l _ rfl (by omega) l 0 F _ _ _ _ (by simp) hl];obtain ⟨lo,hi,top,e1,e2,e3,e4,e5,e6,e7,e8⟩:=sum_rg F (fun lo hi top=>bif (top != ((i64.wrap hi).fdiv (2^(min (63:Int).toNat IntKind.i64.bits)))) then (some (((0,0),10,()),()):Option yk.sg.R) else some (((i64.wrap hi,lo),0,()),()))
  l (l.length:Int) l 0 0 0 0 (0,0) hw (by omega) (by omega) (by omega) (by omega) (by omega) (by omega)
 refine e1.trans ?_;obtain ⟨k,f1,f2,f3⟩:=Vy hi;rw[zbP f2 f3];simp only[Int.zero_mul,Int.zero_add] at e8;rw[<-e8];generalize i64.wrap hi=r at*;by_cases hr:r<0
 ·rw[if_pos hr]
  by_cases ht:top=-1
  ·have hb:(top != -1)=false:=by rw[ht]; rfl
   have hin:inR (top*340282366920938463463374607431768211456+hi*18446744073709551616+lo)=true:=by rw[zP]; omega
   simp only[hb,cond_false,vO,vF,hin,cond_true,mk];rw[pair2 (a:=r) (b:=lo) (c:=(top*340282366920938463463374607431768211456+hi*18446744073709551616+lo)/18446744073709551616) (d:=(top*340282366920938463463374607431768211456+hi*18446744073709551616+lo)%18446744073709551616) (by omega) (by omega)]
  ·have hb:(top != -1)=true:=bne_iff_ne.2 ht
   have hin:inR (top*340282366920938463463374607431768211456+hi*18446744073709551616+lo)=false:=by rw[tQ]; omega
   simp only[hb,cond_true,vO,vF,hin,cond_false]
 ·rw[if_neg hr]
  by_cases ht:top=0
  ·have hb:(top != 0)=false:=by rw[ht]; rfl
   have hin:inR (top*340282366920938463463374607431768211456+hi*18446744073709551616+lo)=true:=by rw[zP]; omega
   simp only[hb,cond_false,vO,vF,hin,cond_true,mk];rw[pair2 (a:=r) (b:=lo) (c:=(top*340282366920938463463374607431768211456+hi*18446744073709551616+lo)/18446744073709551616) (d:=(top*340282366920938463463374607431768211456+hi*18446744073709551616+lo)%18446744073709551616) (by omega) (by omega)]
  ·have hb:(top != 0)=true:=bne_iff_ne.2 ht
   have hin:inR (top*340282366920938463463374607431768211456+hi*18446744073709551616+lo)=false:=by rw[tQ]; omega
   simp only[hb,cond_true,vO,vF,hin,cond_false]
theorem power_0:zR.sh FU 0=some ((mk (10000^(0:Int).toNat),0,()),()):=by kernel_rfl
theorem power_1:zR.sh FU 1=some ((mk (10000^(1:Int).toNat),0,()),()):=by kernel_rfl
theorem power_2:zR.sh FU 2=some ((mk (10000^(2:Int).toNat),0,()),()):=by kernel_rfl
theorem power_3:zR.sh FU 3=some ((mk (10000^(3:Int).toNat),0,()),()):=by kernel_rfl
theorem power_4:zR.sh FU 4=some ((mk (10000^(4:Int).toNat),0,()),()):=by kernel_rfl
theorem power_5:zR.sh FU 5=some ((mk (10000^(5:Int).toNat),0,()),()):=by kernel_rfl
theorem power_6:zR.sh FU 6=some ((mk (10000^(6:Int).toNat),0,()),()):=by kernel_rfl
theorem power_7:zR.sh FU 7=some ((mk (10000^(7:Int).toNat),0,()),()):=by kernel_rfl
theorem power_8:zR.sh FU 8=some ((mk (10000^(8:Int).toNat),0,()),()):=by kernel_rfl
theorem power_9:zR.sh FU 9=some ((mk (10000^(9:Int).toNat),0,()),()):=by kernel_rfl
theorem zbW {k:Int} (h1:0<=k) (h2:k<=9):zR.sh FU k=some ((mk (10000^k.toNat),0,()),()):=by
 have:k=0\/k=1\/k=2\/k=3\/k=4\/k=5\/k=6\/k=7\/k=8\/k=9:=by omega
 rcases this with rfl | rfl | rfl | rfl | rfl | rfl | rfl | rfl | rfl | rfl
 ·exact power_0
 ·exact power_1
 ·exact power_2
 ·exact power_3
 ·exact power_4
 ·exact power_5
 ·exact power_6
 ·exact power_7
 ·exact power_8
 ·exact power_9
def v6 (a b:Int):Int:=a/b+if a%b=0 then 0 else 1
theorem zcM (F:Nat) {s:Int} (h1:1<=s) (h2:s<=1000000000000):xg.sh F (mk 1099511627776) (mk s) 1=some ((mk (v6 1099511627776 s),0,()),()):=by
 have hq1:0<=1099511627776/s:=Int.ediv_nonneg (by omega) (by omega);have hq2:1099511627776/s<=1099511627776:=Int.ediv_le_self _ (by omega);have hr1:0<=1099511627776%s:=Int.emod_nonneg _ (by omega);have hr2:1099511627776%s<s:=Int.emod_lt_of_pos _ (by omega);have ms:mk s=(0,s):=by simp only[mk]; ext<;>simp only<;>omega
 have ma:mk 1099511627776=(0,1099511627776):=by rfl
 have mks:∀{v:Int},0<=v->v<18446744073709551616->mk v=(0,v):=fun h h'=>by simp only[mk]; ext<;>simp only<;>omega
 have hQ:yK.sh F (mk 1099511627776) (mk s)=some ((mk (1099511627776/s),mk (1099511627776%s),0,()),()):=by
  unfold yK.sh;have hb:(((mk s).1==0)&&(((mk s).2==0)&&true))=false:=by
   rw[ms]; simp; omega
  rw[hb];simp only[cond_false];rw[ZS F (xk (by rw[zP]; omega)),ZS F (xk (by rw[zP]; omega))];simp only[zr,y9];have n1:((1099511627776:Int).natAbs:Int)=1099511627776:=rfl;have n2:(s.natAbs:Int)=s:=by omega
  rw[n1,n2];have d1:(1099511627776:Int)/18446744073709551616=0:=by decide
  have d2:(1099511627776:Int)%18446744073709551616=1099511627776:=by decide
  have d3:s/18446744073709551616=0:=by omega
  have d4:s%18446744073709551616=s:=by omega
  rw[d1,d2,d3,d4];have hsne:(s != 0)=true:=bne_iff_ne.2 (by omega);have hs0:(s==0)=false:=by rw[beq_eq_false_iff_ne]; omega
  have hq:zM.sh F 0 1099511627776 0 s=some ((0,1099511627776/s,0,1099511627776%s,()),()):=by
   unfold zM.sh zl.sh;have e0:(0:Int).tmod s=0:=by simp
   have e1:(0:Int).tdiv s=0:=by simp
   have e2:(1099511627776:Int).tdiv s=1099511627776/s:=Int.tdiv_eq_ediv_of_nonneg (by omega);have e3:(1099511627776:Int).tmod s=1099511627776%s:=Int.tmod_eq_emod_of_nonneg (by omega);have e4:decide (s<=0)=false:=by simp; omega
   simp only[beq_self_eq_true,cond_true,hsne,e0,e1,hs0,cond_false,e4,zr,e2,e3];rw[y4 (by omega) (by omega),y4 (n:=1099511627776/s) (by omega) (by omega)]
  rw[hq];simp only[zr];have hng:(!(decide ((mk 1099511627776).1<0)==decide ((mk s).1<0)))=false:=by rw[ma,ms]; rfl
  rw[hng,XM F (v:=1099511627776/s) (by omega) (by omega) (by omega) (by omega) (by simp)];simp only[zr];have i1:inR (1099511627776/s)=true:=by rw[zP]; omega
  have i2:inR (1099511627776%s)=true:=by rw[zP]; omega
  have hz:decide ((mk 1099511627776).1<0)=false:=by rw[ma]; rfl
  simp only[vF,vO,i1,cond_true,bne_self_eq_false,cond_false];rw[hz,XM F (v:=1099511627776%s) (by omega) (by omega) (by omega) (by omega) (by simp)];simp only[zr,vF,vO,i2,cond_true]
 unfold xg.sh;rw[hQ];have c1:decide ((1:Int)<0)=false:=by decide
 have c2:decide ((1:Int)>4)=false:=by decide
 simp only[c1,c2,cond_false,zr,bne_self_eq_false];by_cases hz:1099511627776%s=0
 ·have e:(((mk (1099511627776%s)).1==0)&&(((mk (1099511627776%s)).2==0)&&true))=true:=by rw[hz]; rfl
  rw[e];simp only[cond_true,v6,hz,if_true,Int.add_zero]
 ·have e:(((mk (1099511627776%s)).1==0)&&(((mk (1099511627776%s)).2==0)&&true))=false:=by
   rw[mks hr1 (by omega)]; simp; exact hz
  rw[e];simp only[cond_false];have ha:xj.sh F (mk (1099511627776/s)) (mk (1099511627776%s)) (mk s) 1=some ((true,()),()):=by
   unfold xj.sh;rw[mks hr1 (by omega),ms];rfl
  rw[ha];simp only[zr,Bool.not_true,cond_false];have hng:(!(decide ((mk 1099511627776).1<0)==decide ((mk s).1<0)))=false:=by rw[ma,ms]; rfl
  rw[hng];simp only[cond_false];rw[ve F (by omega) (by omega)];simp only[zr];rw[UO F (xk (by rw[zP]; omega)) (xk (by rw[zP]; omega))];simp only[zr,y9];have i1:inR (1099511627776/s+1)=true:=by rw[zP]; omega
  simp only[vF,vO,i1,cond_true,v6,hz,if_false]
def Ud (c:Int):Bool:=decide (c>=97)&&decide (c<=122)
def digB (c:Int):Bool:=decide (c>=48)&&decide (c<=57)
def QE (c:Int):Bool:=Ud c||(digB c||c==95)
theorem WE (F:Nat) (c:Int):yR.sh F c=some ((Ud c,()),()):=by
 unfold yR.sh Ud;cases decide (c>=97)<;>rfl
theorem zcP (F:Nat) (c:Int):xD.sh F c=some ((digB c,()),()):=by
 unfold xD.sh digB;cases decide (c>=48)<;>rfl
theorem zcs (F:Nat) (c:Int):xy.sh F c=some ((QE c,()),()):=by
 unfold xy.sh QE;rw[WE,zcP];simp only[zr];cases Ud c<;>cases digB c<;>rfl
def cI (c:UInt8):Int:=(c.toNat:Int)
theorem bt_at {s:ByteArray} {n:Nat} {c:UInt8} {r:List UInt8} (h:s.data.toList.drop n=c::r):bt s (n:Int)=cI c:=by
 have:s.data.toList[n]?=some c:=by
  have:=congrArg (·[0]?) h
  simpa using this
 simp only[bt,Int.toNat_natCast,List.getD_eq_getElem?_getD,this,Option.getD_some,cI]
theorem vz (s:ByteArray):s.size=s.data.toList.length:=by rw[Array.length_toList]; rfl
theorem run_l2 (F:Nat) {R:Type} (k:Int->Option R) (s:ByteArray) (of:Nat) (p:Int->Bool) (hp:∀c,yf.d15 F of (c,())=some ((p c,()),())) (hs:s.size<4611686018427387904) :
  ∀(xs:List UInt8) (n fu:Nat),s.data.toList.drop n=xs->xs.length<fu->yf.l2 F (fun _ _ n _=>k n) fu s of (n:Int)=k ((n+(xs.takeWhile fun c=>p (cI c)).length:Nat):Int):=by
 intro xs;induction xs with
 | nil =>
  intro n fu h hf;obtain ⟨fu,rfl⟩:∃j,fu=j+1:=⟨fu-1,by simp at hf; omega⟩;have hn:s.size<=n:=by rw[vz]; simpa using h
  have e1:decide ((n:Int)<(s.size:Int))=false:=by simp; exact hn
  simp only[yf.l2,yf.l2.body,e1,cond_false,List.takeWhile_nil,List.length_nil,Nat.add_zero]
 | cons c xs ih =>
  intro n fu h hf;obtain ⟨fu,rfl⟩:∃j,fu=j+1:=⟨fu-1,by simp at hf; omega⟩;have hn:n<s.size:=by rw[vz]; exact wd h
  have e1:decide ((n:Int)<(s.size:Int))=true:=by simp; exact hn
  have e2:idx (n:Int) s.size=true:=xi hn;simp only[yf.l2,yf.l2.body,e1,e2,cond_true,bt_at h,hp,zr];cases hc:p (cI c) with
  | true =>
   simp only[cond_true];rw[yV (by omega) (by omega),<-xz,ih (n+1) fu (xA h) (by simp at hf; omega)];simp only[List.takeWhile_cons,hc,if_true,List.length_cons];congr 2
   omega
  | false =>
   simp only[cond_false,List.takeWhile_cons,hc];simp
theorem zbU (F:Nat) {s:ByteArray} {of:Nat} {p:Int->Bool} (hp:∀c,yf.d15 F of (c,())=some ((p c,()),())) (hs:s.size<4611686018427387904) (hF:s.size<F) :
  yf.sh F s of=some ((((s.data.toList.takeWhile fun c=>p (cI c)).length:Int),()),()):=by
 unfold yf.sh;have:=run_l2 F (fun n=>(some ((n,()),()):Option yf.sg.R)) s of p hp hs s.data.toList 0 F (by simp) (by rw[<-vz]; exact hF);simpa using this
theorem QZ (F:Nat) (c:Int):yf.d15 F vA (c,())=some ((Ud c,()),()):=by
 unfold yf.d15;rw[show mkT yf.ds15 [(vL,xy.sp F),(vA,yR.sp F)] vA (c,())=yR.sh F c from rfl,WE]
theorem zbt (F:Nat) (c:Int):yf.d15 F vL (c,())=some ((QE c,()),()):=by
 unfold yf.d15;rw[show mkT yf.ds15 [(vL,xy.sp F),(vA,yR.sp F)] vL (c,())=xy.sh F c from rfl,zcs]
theorem uc {α:Type} {p:α->Bool}:∀{l:List α},((l.takeWhile p).length=l.length)↔l.all p=true
 | []=>by simp
 | a::l=>by
  simp only[List.takeWhile_cons,List.all_cons];cases h:p a with
  | true=>simp only[if_true,List.length_cons,Bool.true_and]; rw[<-uc (l:=l)]; omega
  | false=>simp
def wordsL:List UInt8:=[32,112,108,97,110,32,114,111,117,110,100,32,98,121,32,98,108,111,99,107,115,32,109,105,110,32,109,97,120,32,111,118,101,114,32,117,112,116,111,32,103,114,97,100,117,97,116,101,100,32,118,111,108,117,109,101,32,111,102,102,32,105,102,32,102,108,111,111,114,32,99,101,105,108,32,122,101,114,111,32,104,97,108,102,32,101,118,101,110,32]
def zbD (l:List UInt8):Bool:=!l.isEmpty&&(l.all (fun c=>Ud (cI c))&&Lib.contains wordsL ([32]++l++[32]))
def XF (l:List UInt8):Bool:=!l.isEmpty&&(decide (l.length<=32)&&(Ud (cI (l.headD 0))&&(l.all (fun c=>QE (cI c))&&!zbD l)))
theorem Ru (s:ByteArray):(!(s.toList==(⟨#[]⟩:ByteArray).toList))=!s.data.toList.isEmpty:=by
 rw[ByteArray.toList_eq,ByteArray.toList_eq];cases s.data.toList<;>rfl
theorem word_eq (F:Nat) {s:ByteArray} (hs:s.size<=1048576) (hF:s.size<F):xP.sh F s=some ((zbD s.data.toList,()),()):=by
 unfold xP.sh;rw[Ru,zbU F (QZ F) (by omega) hF];unfold zbD;cases hE:s.data.toList.isEmpty with
 | true=>rfl
 | false =>
  simp only[Bool.not_false,cond_true,zr,Bool.true_and];by_cases ha:s.data.toList.all (fun c=>Ud (cI c))=true
  ·have e1:(((s.data.toList.takeWhile fun c=>Ud (cI c)).length:Int)==(s.size:Int))=true:=by
    rw[uc.2 ha,<-vz]; simp
   have s1:(⟨#[32]⟩:ByteArray).size=1:=rfl;have s2:((⟨#[32]⟩:ByteArray)++s).size=1+s.size:=by rw[ByteArray.size_append]; rfl
   have e2:Nat.ble ((⟨#[32]⟩:ByteArray).size+s.size) xv=true:=by rw[s1,Nat.ble_eq]; unfold xv; omega
   have e3:Nat.ble (((⟨#[32]⟩:ByteArray)++s).size+(⟨#[32]⟩:ByteArray).size) xv=true:=by rw[s1,s2,Nat.ble_eq]; unfold xv; omega
   rw[e1,e2,e3,ha];simp only[cond_true,Bool.true_and];have hd:((⟨#[32]⟩:ByteArray)++s++(⟨#[32]⟩:ByteArray)).data.toList=[32]++s.data.toList++[32]:=by simp[ByteArray.data_append]
   unfold yJ.sh;rw[hd];rfl
  ·have e1:(((s.data.toList.takeWhile fun c=>Ud (cI c)).length:Int)==(s.size:Int))=false:=by
    rw[beq_eq_false_iff_ne];intro h;apply ha;rw[<-uc];rw[vz] at h;exact_mod_cast h
   rw[e1];simp only[cond_false];rw[Bool.not_eq_true] at ha;rw[ha];rfl
theorem zah (F:Nat) {s:ByteArray} (hF:64<F):xJ.sh F s=some ((XF s.data.toList,()),()):=by
 unfold xJ.sh XF;rw[Ru];cases hE:s.data.toList.isEmpty with
 | true=>rfl
 | false =>
  simp only[Bool.not_false,cond_true,Bool.true_and];by_cases hl:s.data.toList.length<=32
  ·have e1:decide ((s.size:Int)<=32)=true:=decide_eq_true (by have:=vz s; omega)
   have hpos:0<s.size:=by rw[vz]; cases h:s.data.toList with | nil=>rw[h] at hE; cases hE | cons=>simp
   have e2:idx 0 s.size=true:=xi (i:=0) hpos;have e3:bt s 0=cI (s.data.toList.headD 0):=by
    cases h:s.data.toList with
    | nil=>rw[h] at hE; cases hE
    | cons c r=>exact bt_at (n:=0) (r:=r) (by simpa using h)
   have hsz:s.size<=32:=by rw[vz]; exact hl
   rw[e1,e2,e3,WE,zbU F (zbt F) (by omega) (by omega),word_eq F (by omega) (by omega)];simp only[cond_true,zr,hl,decide_true,Bool.true_and];cases Ud (cI (s.data.toList.headD 0)) with
   | false=>rfl
   | true =>
    simp only[cond_true,Bool.true_and];by_cases ha:s.data.toList.all (fun c=>QE (cI c))=true
    ·have e4:(((s.data.toList.takeWhile fun c=>QE (cI c)).length:Int)==(s.size:Int))=true:=by
      rw[uc.2 ha,<-vz]; simp
     rw[e4,ha];rfl
    ·have e4:(((s.data.toList.takeWhile fun c=>QE (cI c)).length:Int)==(s.size:Int))=false:=by
      rw[beq_eq_false_iff_ne];intro h;apply ha;rw[<-uc];rw[vz] at h;exact_mod_cast h
     rw[e4];rw[Bool.not_eq_true] at ha;rw[ha];rfl
  ·have e1:decide ((s.size:Int)<=32)=false:=decide_eq_false (by have:=vz s; omega)
   have e2:decide (s.data.toList.length<=32)=false:=decide_eq_false hl;rw[e1,e2];rfl
theorem YK {n:Int} {len:Nat} (h1:0<=n) (h2:n<(len:Int)):idx n len=true:=by
 unfold idx; rw[decide_eq_true h1,decide_eq_true h2]; rfl
def Zw (a b:ByteArray):Bool:=a.toList==b.toList
theorem d16_eq (F:Nat) (e d:yv.T):zi.d16 F (wO+1) (e,d,())=some ((Zw e.1 d.1,()),()):=by
 unfold zi.d16;rw[show mkT zi.ds16 [(Zk,xd.sp F)] (wO+1) (e,d,())=xd.sh F e d from rfl];rfl
theorem zbg (F:Nat) {R:Type} (k:Int->Option R) (k':Option R) (L:List yv.T) (N:Int) (d:yv.T):∀(xs:List yv.T) (i:Nat),
  zi.l2.rg F k (fun _ _ _ _ _=>k') L N xs (i:Int) (wO,d)=match xs.findIdx? (fun e=>Zw e.1 d.1) with | some j=>k ((i+j:Nat):Int) | none=>k':=by
 intro xs;induction xs with
 | nil=>intro i; rfl
 | cons x xs ih =>
  intro i;simp only[zi.l2.rg];rw[d16_eq];simp only[zr];cases h:Zw x.1 d.1 with
  | true=>simp[List.findIdx?_cons,h]
  | false =>
   simp only[cond_false];rw[<-xz,ih (i+1)];simp only[List.findIdx?_cons,h];cases hj:xs.findIdx? (fun e=>Zw e.1 d.1) with
   | none=>simp
   | some j=>simp; congr 1; omega
theorem S1 (F:Nat) {l:List yv.T} {d:yv.T} (hl:l.length<F) (hL:l.length<4611686018427387904):zV.sh F l (wO,d)=some ((l.any (fun e=>Zw e.1 d.1),()),()):=by
 unfold zV.sh zi.sh;have h1:=zi.l2.rg_eq F (fun r42=>(some ((r42,()),()):Option zi.sg.R)) (fun s3 f3 t73 t83 t93=>some (((-1),()),())) l (l.length:Int) rfl (by omega) l 0 F (wO,d) (by simp) hl;have h2:=zbg F (fun r=>(some ((r,()),()):Option zi.sg.R)) (some (((-1),()),())) l (l.length:Int) d l 0;have h3:=h1.trans h2;rw[show ((0:Nat):Int)=0 from rfl] at h3;rw[h3];cases h:l.findIdx? (fun e=>Zw e.1 d.1) with
 | none =>
  have:l.any (fun e=>Zw e.1 d.1)=false:=by
   rw[List.findIdx?_eq_none_iff] at h;rw[List.any_eq_false];intro x hx;simpa using h x hx
  simp only[zr,this];rfl
 | some j =>
  have:l.any (fun e=>Zw e.1 d.1)=true:=by
   rw[List.findIdx?_eq_some_iff_getElem] at h;obtain ⟨h1,h2,_⟩:=h;rw[List.any_eq_true];exact ⟨l[j],List.getElem_mem _,h2⟩
  simp only[zr,this];have:decide (((0+j:Nat):Int)>=0)=true:=decide_eq_true (by omega);rw[this]
abbrev dS (d:yv.T):Int:=d.2
def dE (pre:List yv.T):List yv.T->Int
 | []=>0
 | d::r=>bif !XF d.1.data.toList then 61 else bif pre.any (fun e=>Zw e.1 d.1) then 61 else bif decide (dS d<1) then 50 else bif decide (dS d>1000000000000) then 50 else dE (pre++[d]) r
def Zj (name:ByteArray) (dims:List yv.T) (mode:Int):Int :=
 bif !XF name.data.toList then 61 else bif decide ((dims.length:Int)<1) then 100 else bif decide ((dims.length:Int)>4) then 100 else bif dE [] dims != 0 then dE [] dims else bif decide (mode<0) then 50 else bif decide (mode>4) then 50 else 0
theorem qJ {n i:Nat} (h:i<=n):zD n none (some (i:Int))=(true,0,i):=by
 unfold zD;have e1:decide ((0:Int)<=((i:Nat):Int))=true:=decide_eq_true (by omega);have e2:decide (((i:Nat):Int)<=(n:Int))=true:=decide_eq_true (by omega);simp only[Option.getD_none,Option.getD_some,e1,e2,Int.toNat_natCast];rfl
theorem Z9 {n i:Nat} (h:i<=n):zD n (some (i:Int)) none=(true,i,n):=by
 unfold zD;have e1:decide ((0:Int)<=((i:Nat):Int))=true:=decide_eq_true (by omega);have e2:decide (((i:Nat):Int)<=(n:Int))=true:=decide_eq_true (by omega);have e3:decide ((n:Int)<=(n:Int))=true:=decide_eq_true (by omega);simp only[Option.getD_none,Option.getD_some,e1,e2,e3,Int.toNat_natCast];rfl
theorem head_rg (F:Nat) (hF:64<F) {R:Type} (k:Int->Option R) (k2:zQ.T->Option R) (L:List yv.T) (N:Int) (p:zQ.T) (hp:p.2.1=L) (hL:L.length<=32):∀(xs:List yv.T) (i:Nat),L.drop i=xs->
  zZ.l6.rg F k k (fun _ _ _ _ p=>k2 p) L N xs (i:Int) p=bif dE (L.take i) xs != 0 then k (dE (L.take i) xs) else k2 p:=by
 intro xs;induction xs with
 | nil=>intro i h; rfl
 | cons d xs ih =>
  intro i h;have hi:=wd h;have hd:L[i]?=some d:=by have:=congrArg (·[0]?) h; simpa using this
  have htake:L.take (i+1)=L.take i++[d]:=by rw[List.take_add_one,hd]; rfl
  simp only[zZ.l6.rg];rw[zah F hF];simp only[zr,dE];rw[<-xz,ih (i+1) (xA h),htake];cases hn:XF d.1.data.toList with
  | false=>rfl
  | true =>
   simp only[Bool.not_true,cond_false];rw[hp,qJ (by omega)];simp only[cond_true,List.drop_zero];rw[S1 F (by simp; omega) (by simp; omega)];simp only[zr];cases hc:(L.take i).any (fun e=>Zw e.1 d.1) with
   | true=>rfl
   | false =>
    simp only[cond_false];cases decide (dS d<1) with
    | true=>rfl
    | false =>
     cases decide (dS d>1000000000000) with
     | true=>rfl
     | false=>rfl
theorem head_eq (F:Nat) (hF:64<F) (p:zQ.T):zZ.sh F p=some ((Zj p.1 p.2.1 p.2.2.1,()),()):=by
 unfold zZ.sh Zj;rw[zah F hF];simp only[zr];cases hn:XF p.1.data.toList with
 | false=>rfl
 | true =>
  simp only[Bool.not_true,cond_false];cases h1:decide ((p.2.1.length:Int)<1) with
  | true=>rfl
  | false =>
   cases h2:decide ((p.2.1.length:Int)>4) with
   | true=>rfl
   | false =>
    have h2:=of_decide_eq_false h2;simp only[cond_false];refine Eq.trans (zZ.l6.rg_eq F _ _ _ p.2.1 _ rfl (by omega) p.2.1 0 F _ (by simp) (by omega)) ?_;refine (head_rg F hF (fun r=>(some ((r,()),()):Option zZ.sg.R)) (fun p=>bif decide (p.2.2.1<0) then some ((50,()),()) else bif decide (p.2.2.1>4) then some ((50,()),()) else some ((0,()),())) p.2.1 (p.2.1.length:Int) p rfl (by omega) p.2.1 0 (by simp)).trans ?_;simp only[List.take_zero];cases (dE [] p.2.1 != 0) with
    | true=>rfl
    | false =>
     cases decide (p.2.2.1<0) with
     | true=>rfl
     | false=>cases decide (p.2.2.1>4)<;>rfl
abbrev nK (n:zb.T):Int:=n.1
abbrev nN (n:zb.T):Int:=n.2.1
abbrev nO (n:zb.T):Int:=n.2.2.1
abbrev nC (n:zb.T):Int:=n.2.2.2.1
abbrev nT (n:zb.T):List zL.T:=n.2.2.2.2.1
abbrev uj (n:zb.T):Int×Int×Bool×Bool:=get yQ w9 (nK n).toNat
abbrev aK (n:zb.T):Int:=(uj n).1
def ar (n:zb.T):Nat:=bif decide (aK n>=0) then (aK n).toNat else (nC n).toNat
def tS (n:zb.T):Bool:=decide (1<=nK n)&&decide (nK n<=16)
def uw (n:zb.T):Bool:=bif decide (aK n<0) then decide (nC n>=2)&&decide (nC n<=16) else nC n==0
theorem qE {n:zb.T}:tS n=true↔1<=nK n/\nK n<=16:=by simp[tS]
theorem YZ (F:Nat) {n:zb.T} (h:tS n=true) (hk:uw n=true):yH.sh F n=some (((ar n:Int),()),()):=by
 unfold yH.sh;have hg:=qE.1 h;have e1:idx (nK n) 17=true:=YK (by omega) (by omega);unfold ar;unfold uw at hk;rw[show idx n.1 17=true from e1];simp only[cond_true];cases ha:decide (aK n>=0) with
 | true =>
  have ha':=of_decide_eq_true ha;simp only[cond_true];have:(((aK n).toNat:Nat):Int)=aK n:=by omega
  rw[this]
 | false =>
  have ha':=of_decide_eq_false ha;simp only[cond_false];rw[decide_eq_true (show aK n<0 by omega)] at hk;simp at hk;have:(((nC n).toNat:Nat):Int)=nC n:=by omega
  rw[this]
abbrev tF (x:zL.T):Int:=x.1
abbrev tR (x:zL.T):Int:=x.2
def Qw (l:List zL.T) (i:Nat) (x:zL.T):Bool:=(decide (i=0)||!decide (tF x<=tF (l.getD (i-1) (0,0))))&&(!decide (tF x>1000000000000)&&(!decide (tR x < -1000000000000)&&!decide (tR x>1000000000000)))
def qf (l:List zL.T):List zL.T->Nat->Bool
 | [],_=>true
 | x::r,i=>Qw l i x&&qf l r (i+1)
def qs (l:List zL.T):Bool:=decide (1<=l.length)&&(decide (l.length<=16)&&(decide (tF (l.getD 0 (0,0))=0)&&qf l l 0))
theorem zaZ (F:Nat) {R:Type} (k:Bool->Option R) (k1:Option R) (l:List zL.T) (N:Int) (hl:l.length<=32):∀(xs:List zL.T) (i:Nat),l.drop i=xs->
  zH.l4.rg F k (fun _ _ _ _ _=>k1) l N xs (i:Int) l=bif qf l xs i then k1 else k false:=by
 intro xs;induction xs with
 | nil=>intro i h; simp[zH.l4.rg,qf]
 | cons x xs ih =>
  intro i h;have hi:=wd h;have ih:=ih (i+1) (xA h);rw[xz] at ih;simp only[zH.l4.rg,qf,Qw];by_cases h0:i=0
  ·subst h0
   have e1:decide (((0:Nat):Int)>0)=false:=rfl;simp only[e1,cond_false,decide_true,Bool.true_or,Bool.true_and];cases decide (tF x>1000000000000)<;>cases decide (tR x < -1000000000000)<;>cases decide (tR x>1000000000000)<;>first | rfl | exact ih
  ·have e1:decide (((i:Nat):Int)>0)=true:=decide_eq_true (by omega)
   have e2:i64.wrap ((i:Int)-1)=((i-1:Nat):Int):=by rw[yV (by omega) (by omega)]; omega
   have e3:idx ((i-1:Nat):Int) l.length=true:=xi (by omega);have e4:get zL l (((i-1:Nat):Int).toNat)=l.getD (i-1) (0,0):=rfl;have e5:decide (i=0)=false:=decide_eq_false h0;simp only[e1,e2,e3,e4,e5,cond_true,Bool.false_or];cases decide (tF x<=tF (l.getD (i-1) (0,0)))<;>cases decide (tF x>1000000000000)<;>cases decide (tR x < -1000000000000)<;>cases decide (tR x>1000000000000)<;>first | rfl | exact ih
theorem zb0 (F:Nat) (hF:64<F) (l:List zL.T):zH.sh F l=some ((qs l,()),()):=by
 unfold zH.sh qs;by_cases h1:1<=l.length
 ·have e1:decide ((l.length:Int)<1)=false:=decide_eq_false (by omega)
  by_cases h2:l.length<=16
  ·have e2:decide ((l.length:Int)>16)=false:=decide_eq_false (by omega)
   have e3:idx 0 l.length=true:=xi (i:=0) (by omega);simp only[e1,e2,e3,cond_false,cond_true,h1,h2,decide_true,Bool.true_and];have e4:get zL l 0=l.getD 0 (0,0):=rfl;rw[e4];by_cases h3:tF (l.getD 0 (0,0))=0
   ·have e5:(tF (l.getD 0 (0,0)) != 0)=false:=by rw[h3]; rfl
    rw[e5,h3];simp only[cond_false,decide_true,Bool.true_and];refine Eq.trans (zH.l4.rg_eq F _ _ l _ rfl (by omega) l 0 F _ (by simp) (by omega)) ?_;refine Eq.trans (zaZ F (fun r=>(some ((r,()),()):Option zH.sg.R)) (some ((true,()),())) l (l.length:Int) (by omega) l 0 (by simp)) ?_;cases qf l l 0<;>rfl
   ·have e5:(tF (l.getD 0 (0,0)) != 0)=true:=bne_iff_ne.2 h3
    have e6:decide (tF (l.getD 0 (0,0))=0)=false:=decide_eq_false h3;rw[e5,e6];rfl
  ·have e2:decide ((l.length:Int)>16)=true:=decide_eq_true (by omega)
   have e3:decide (l.length<=16)=false:=decide_eq_false h2;rw[e1,e2,e3];simp
 ·have e1:decide ((l.length:Int)<1)=true:=decide_eq_true (by omega)
  have e3:decide (1<=l.length)=false:=decide_eq_false h1;rw[e1,e3];rfl
def Yo (n:zb.T) (dims:Nat):Int:=bif decide ((uj n).2.1<0) then (dims:Int)-1 else (uj n).2.1
def opB (n:zb.T):Bool:=bif (uj n).2.2.2 then decide (nO n>=1)&&decide (nO n<=6) else nO n==0
def v8 (n:zb.T):Bool:=(uj n).2.2.1
def wq (dims:Nat) (n:zb.T) (pile:Nat):Int :=
 bif !tS n then 50 else bif decide (nN n<0) then 50 else bif decide (nN n>Yo n dims) then 50 else bif !uw n then 50 else bif !opB n then 50
 else bif !v8 n&&decide (((nT n).length:Int)>0) then 50 else bif decide ((pile:Int)<(ar n:Int)) then 50 else bif v8 n&&!qs (nT n) then 51 else 0
theorem zca (F:Nat) (hF:64<F) {R:Type} (k:Int->Option R) {n:zb.T} (hg:tS n=true) (pile:Nat) (most:Int) (kids op:Bool) (hk:kids=true->uw n=true) (a:yQ.T) :
  zU.j13 F k k k (pile:Int) most kids op n a=k (bif decide (nN n<0) then 50 else bif decide (nN n>most) then 50 else bif !kids then 50 else bif !op then 50
 else bif !a.2.2.1&&decide (((nT n).length:Int)>0) then 50 else bif decide ((pile:Int)<(ar n:Int)) then 50 else bif a.2.2.1&&!qs (nT n) then 51 else 0):=by
 unfold zU.j13;cases h1:decide (nN n<0) with
 | true=>rfl
 | false =>
  cases h2:decide (nN n>most) with
  | true=>rfl
  | false =>
   cases kids with
   | false=>rfl
   | true =>
    cases op with
    | false=>rfl
    | true =>
     simp only[Bool.not_true,cond_false];rw[YZ F hg (hk rfl)];simp only[zr];rw[zb0 F hF];simp only[zr];cases h3:a.2.2.1 with
     | false =>
      simp only[Bool.not_false,cond_true,Bool.true_and,cond_false,Bool.false_and];cases decide (((nT n).length:Int)>0) with
      | true=>rfl
      | false=>cases decide ((pile:Int)<(ar n:Int))<;>rfl
     | true =>
      simp only[Bool.not_true,cond_true,Bool.true_and,cond_false,Bool.false_and];cases decide ((pile:Int)<(ar n:Int)) with
      | true=>rfl
      | false=>cases qs (nT n)<;>rfl
theorem node_eq (F:Nat) (hF:64<F) (n:zb.T) {dims:Nat} (hd:dims<4611686018427387904) (pile:Nat):zU.sh F n (dims:Int) (pile:Int)=some ((wq dims n pile,()),()):=by
 unfold zU.sh wq;cases hg:tS n with
 | false =>
  have:decide ((n.1:Int)<1)=true\/decide ((n.1:Int)>16)=true:=by
   rcases Int.lt_or_le (nK n) 1 with h | h
   ·exact .inl (decide_eq_true h)
   ·rcases Int.lt_or_le 16 (nK n) with h' | h'
    ·exact .inr (decide_eq_true h')
    ·rw[qE.2 ⟨h,h'⟩] at hg; cases hg
  rcases this with h | h
  ·rw[h]; rfl
  ·rw[h]; cases decide ((n.1:Int)<1)<;>rfl
 | true =>
  have hg':=qE.1 hg;have e1:decide ((nK n:Int)<1)=false:=decide_eq_false (by omega);have e2:decide ((nK n:Int)>16)=false:=decide_eq_false (by omega);have e3:idx (nK n) 17=true:=YK (by omega) (by omega);rw[show decide (n.1<1)=false from e1,show decide (n.1>16)=false from e2,show idx n.1 17=true from e3];simp only[cond_false,cond_true,Bool.not_true];have hw:i64.wrap ((dims:Int)-1)=(dims:Int)-1:=yV (by omega) (by omega);rw[hw];have key:∀most:Int,zU.j7 F (fun r=>(some ((r,()),()):Option zU.sg.R)) (fun r=>some ((r,()),())) (fun r=>some ((r,()),())) (pile:Int) most n (uj n) =
   some ((bif decide (nN n<0) then 50 else bif decide (nN n>most) then 50 else bif !uw n then 50 else bif !opB n then 50
    else bif !v8 n&&decide (((nT n).length:Int)>0) then 50 else bif decide ((pile:Int)<(ar n:Int)) then 50 else bif v8 n&&!qs (nT n) then 51 else 0,()),()):=by
   intro most;have k10:∀kids:Bool,kids=uw n->zU.j10 F (fun r=>(some ((r,()),()):Option zU.sg.R)) (fun r=>some ((r,()),())) (fun r=>some ((r,()),())) (pile:Int) most kids n (uj n) =
    some ((bif decide (nN n<0) then 50 else bif decide (nN n>most) then 50 else bif !uw n then 50 else bif !opB n then 50
     else bif !v8 n&&decide (((nT n).length:Int)>0) then 50 else bif decide ((pile:Int)<(ar n:Int)) then 50 else bif v8 n&&!qs (nT n) then 51 else 0,()),()):=by
    intro kids hkk;have k13:=fun op:Bool=>zca F hF (fun r=>(some ((r,()),()):Option zU.sg.R)) hg pile most kids op (fun h=>by rw[<-hkk,h]) (uj n)
    unfold zU.j10;rw[show (fun r=>(some ((r,()),()):Option zU.sg.R))=(fun r=>some ((r,()),())) from rfl] at k13;rw[k13,k13,k13,hkk];unfold opB v8;cases (uj n).2.2.2 with
    | false=>rfl
    | true=>cases decide (nO n>=1)<;>rfl
   unfold zU.j7;cases ha:decide (aK n<0) with
   | true =>
    cases hc:decide (nC n>=2) with
    | true=>exact k10 _ (by unfold uw; rw[ha,hc]; rfl)
    | false=>exact k10 _ (by unfold uw; rw[ha,hc]; rfl)
   | false=>exact k10 _ (by unfold uw; rw[ha]; rfl)
  unfold Yo;cases hm:decide ((uj n).2.1<0) with
  | true=>exact key _
  | false=>exact key _
def Vx (dims:Nat):List zb.T->Nat->Nat->Option (Nat×Int)
 | [],_,_=>none
 | n::r,pile,i=>bif wq dims n pile != 0 then some (i,wq dims n pile) else Vx dims r (pile-ar n+1) (i+1)
def UZ:List zb.T->Nat->Nat
 | [],pile=>pile
 | n::r,pile=>UZ r (pile-ar n+1)
theorem xB {dims:Nat} {n:zb.T} {pile:Nat} (h:wq dims n pile=0) :
  tS n=true/\0<=nN n/\nN n<=Yo n dims/\uw n=true/\opB n=true/\(v8 n=false->nT n=[])/\ar n<=pile/\(v8 n=true->qs (nT n)=true):=by
 unfold wq at h;cases h1:tS n with
 | false=>rw[h1] at h; exact absurd (show (50:Int)=0 from h) (by decide)
 | true =>
 rw[h1] at h;cases h2:decide (nN n<0) with
 | true=>rw[h2] at h; exact absurd (show (50:Int)=0 from h) (by decide)
 | false =>
 rw[h2] at h;cases h3:decide (nN n>Yo n dims) with
 | true=>rw[h3] at h; exact absurd (show (50:Int)=0 from h) (by decide)
 | false =>
 rw[h3] at h;cases h4:uw n with
 | false=>rw[h4] at h; exact absurd (show (50:Int)=0 from h) (by decide)
 | true =>
 rw[h4] at h;cases h5:opB n with
 | false=>rw[h5] at h; exact absurd (show (50:Int)=0 from h) (by decide)
 | true =>
 rw[h5] at h;cases h6:(!v8 n&&decide (((nT n).length:Int)>0)) with
 | true=>rw[h6] at h; exact absurd (show (50:Int)=0 from h) (by decide)
 | false =>
 rw[h6] at h;cases h7:decide ((pile:Int)<(ar n:Int)) with
 | true=>rw[h7] at h; exact absurd (show (50:Int)=0 from h) (by decide)
 | false =>
 rw[h7] at h;cases h8:(v8 n&&!qs (nT n)) with
 | true=>rw[h8] at h; exact absurd (show (51:Int)=0 from h) (by decide)
 | false =>
 have h2:=of_decide_eq_false h2;have h3:=of_decide_eq_false h3;have h7:=of_decide_eq_false h7;refine ⟨rfl,by omega,by omega,rfl,rfl,fun ht=>?_,by omega,fun ht=>?_⟩
 ·rw[ht] at h6
  simp only[Bool.not_false,Bool.true_and] at h6;have h6:=of_decide_eq_false h6;exact List.eq_nil_of_length_eq_zero (by omega)
 ·rw[ht] at h8
  simp only[Bool.true_and] at h8;cases hr:qs (nT n) with
  | true=>rfl
  | false=>rw[hr] at h8; cases h8
theorem zaO {n:zb.T} (hg:tS n=true) (hk:uw n=true):ar n<=16:=by
 unfold ar;unfold uw at hk;cases h:decide (aK n<0) with
 | true =>
  have h':=of_decide_eq_true h;rw[h] at hk;simp at hk;rw[decide_eq_false (show ¬aK n>=0 by omega)];simp only[cond_false];omega
 | false =>
  have h':=of_decide_eq_false h;rw[decide_eq_true (show aK n>=0 by omega)];simp only[cond_true];have hg:=qE.1 hg;have:∀i:Nat,(get yQ w9 i).1<=(16:Int):=by
   intro i;rcases Nat.lt_or_ge i 17 with hi | hi
   ·have:∀j:Fin 17,(get yQ w9 j.1).1<=(16:Int):=by decide
    exact this ⟨i,hi⟩
   ·have:get yQ w9 i=Ty.dflt yQ:=by
     unfold get;rw[List.getD_eq_getElem?_getD,List.getElem?_eq_none (by exact hi)];rfl
    rw[this]; decide
  have:aK n<=(16:Int):=this _;omega
theorem zcV (F:Nat) (hF:64<F) {R:Type} (k0:Int->Int->Option R) (k1:Int->zQ.T->Option R) (L:List zb.T) (N:Int) (p:zQ.T) (hp:p.2.1.length<=32):∀(xs:List zb.T) (i pile:Nat),pile+xs.length<4611686018427387904->
  zJ.l8.rg F k0 (fun pile _ _ _ _ p=>k1 pile p) L N xs (i:Int) (pile:Int) p=match Vx p.2.1.length xs pile i with | some (j,e)=>k0 (j:Int) e | none=>k1 (UZ xs pile:Int) p:=by
 intro xs;induction xs with
 | nil=>intro i pile h; rfl
 | cons n xs ih =>
  intro i pile h;simp only[List.length_cons] at h;simp only[zJ.l8.rg];rw[node_eq F hF n (by omega)];simp only[zr,Vx,UZ];cases he:(wq p.2.1.length n pile != 0) with
  | true=>rfl
  | false =>
   simp only[cond_false];have he:wq p.2.1.length n pile=0:=by simpa using he
   obtain ⟨h1,h2,h3,h4,h5,h6,h7,h8⟩:=xB he;have ha:=zaO h1 h4;rw[YZ F h1 h4];simp only[zr];rw[yV (n:=1-(ar n:Int)) (by omega) (by omega),yV (by omega) (by omega)];rw[show (pile:Int)+(1-(ar n:Int))=((pile-ar n+1:Nat):Int) by omega];have:=ih (i+1) (pile-ar n+1) (by omega);rw[xz] at this;exact this
def wg (p:zQ.T):Int×Int :=
 bif Zj p.1 p.2.1 p.2.2.1 != 0 then (-1,Zj p.1 p.2.1 p.2.2.1) else bif decide ((p.2.2.2.length:Int)>1024) then (1024,2) else
 match Vx p.2.1.length p.2.2.2 0 0 with
 | some (j,e)=>((j:Int),e)
 | none=>bif ((UZ p.2.2.2 0:Int) != 1) then ((p.2.2.2.length:Int),50) else (0,0)
theorem uQ {name:ByteArray} {dims:List yv.T} {mode:Int} (h:Zj name dims mode=0):1<=dims.length/\dims.length<=4/\dE [] dims=0/\XF name.data.toList=true/\0<=mode/\mode<=4:=by
 unfold Zj at h;cases h0:XF name.data.toList with
 | false=>rw[h0] at h; exact absurd (show (61:Int)=0 from h) (by decide)
 | true =>
 rw[h0] at h;cases h1:decide ((dims.length:Int)<1) with
 | true=>rw[h1] at h; exact absurd (show (100:Int)=0 from h) (by decide)
 | false =>
 rw[h1] at h;cases h2:decide ((dims.length:Int)>4) with
 | true=>rw[h2] at h; exact absurd (show (100:Int)=0 from h) (by decide)
 | false =>
 rw[h2] at h;cases h3:(dE [] dims != 0) with
 | true=>rw[h3] at h; simp only[Bool.not_true,cond_false,cond_true] at h; rw[h] at h3; exact absurd h3 (by decide)
 | false =>
 rw[h3] at h;cases h4:decide (mode<0) with
 | true=>rw[h4] at h; exact absurd (show (50:Int)=0 from h) (by decide)
 | false =>
 rw[h4] at h;cases h5:decide (mode>4) with
 | true=>rw[h5] at h; exact absurd (show (50:Int)=0 from h) (by decide)
 | false =>
 have h1:=of_decide_eq_false h1;have h2:=of_decide_eq_false h2;have h4:=of_decide_eq_false h4;have h5:=of_decide_eq_false h5;refine ⟨by omega,by omega,by simpa using h3,rfl,by omega,by omega⟩
theorem XX (F:Nat) (hF:2048<F) (p:zQ.T):zJ.sh F p=some (((wg p).1,(wg p).2,()),()):=by
 unfold zJ.sh wg;rw[head_eq F (by omega)];simp only[zr];cases h:(Zj p.1 p.2.1 p.2.2.1 != 0) with
 | true=>rfl
 | false =>
  have hh:=uQ (show Zj p.1 p.2.1 p.2.2.1=0 by simpa using h);cases h1:decide ((p.2.2.2.length:Int)>1024) with
  | true=>rfl
  | false =>
   have h1:=of_decide_eq_false h1;simp only[cond_false];refine Eq.trans (zJ.l8.rg_eq F _ _ p.2.2.2 _ rfl (by omega) p.2.2.2 0 F _ _ (by simp) (by omega)) ?_;refine (zcV F (by omega) (fun r24 r34=>(some ((r24,r34,()),()):Option zJ.sg.R)) (fun pile5 p5=>bif (pile5 != 1) then some (((p5.2.2.2.length:Int),50,()),()) else some ((0,0,()),())) p.2.2.2 (p.2.2.2.length:Int) p (by omega) p.2.2.2 0 0 (by omega)).trans ?_;cases Vx p.2.1.length p.2.2.2 0 0 with
   | some x=>rfl
   | none=>cases hc:((UZ p.2.2.2 0:Int) != 1)<;>simp only[cond_true,cond_false,hc]
inductive Tree:Type
 | nd:zb.T->List Tree->Tree
mutual
def Tree.fold {α:Type} (f:zb.T->List α->α):Tree->α
 | .nd n ks=>f n (Tree.foldL f ks)
def Tree.foldL {α:Type} (f:zb.T->List α->α):List Tree->List α
 | []=>[]
 | t::r=>Tree.fold f t::Tree.foldL f r
end
theorem Tree.foldL_map {α:Type} (f:zb.T->List α->α):∀l:List Tree,Tree.foldL f l=l.map (Tree.fold f)
 | []=>rfl
 | t::r=>by rw[Tree.foldL,Tree.foldL_map f r]; rfl
theorem Tree.fold_nd {α:Type} (f:zb.T->List α->α) (n:zb.T) (ks:List Tree):Tree.fold f (.nd n ks)=f n (ks.map (Tree.fold f)):=by
 rw[Tree.fold,Tree.foldL_map]
theorem Tree.ind {P:Tree->Prop} (h:∀n ks,(∀k∈ks,P k)->P (.nd n ks)) (t:Tree):P t :=
 Tree.rec (motive_1:=P) (motive_2:=fun l=>∀k∈l,P k) (fun n ks ih=>h n ks ih) (by simp) (fun t r h1 h2 k hk=>by
  rcases List.mem_cons.1 hk with rfl | hk
  ·exact h1
  ·exact h2 k hk) t
def Tree.root:Tree->zb.T | .nd n _=>n
def Tree.kids:Tree->List Tree | .nd _ ks=>ks
def Tree.flat:Tree->List zb.T:=Tree.fold (fun n ks=>ks.flatten++[n])
def yE (l:List Tree):List zb.T:=(l.map Tree.flat).flatten
theorem Z4 (n:zb.T) (ks:List Tree):Tree.flat (.nd n ks)=yE ks++[n]:=Tree.fold_nd _ n ks
def Tree.size (t:Tree):Nat:=t.flat.length
def Y0:Tree->Tree×List Tree:=Tree.fold (fun n ks=>(.nd n (ks.map (·.1)),(ks.map (·.2)).flatten++[.nd n (ks.map (·.1))]))
theorem zaX (t:Tree):(Y0 t).1=t:=by
 refine Tree.ind (P:=fun t=>(Y0 t).1=t) (fun n ks ih=>?_) t;unfold Y0 at*;rw[Tree.fold_nd];simp only[List.map_map];congr 1
 exact (List.map_congr_left ih).trans (List.map_id' ks)
def Tree.subs (t:Tree):List Tree:=(Y0 t).2
def uv (l:List Tree):List Tree:=(l.map Tree.subs).flatten
theorem VA (n:zb.T) (ks:List Tree):Tree.subs (.nd n ks)=uv ks++[.nd n ks]:=by
 have:(ks.map (fun k=>(Y0 k).1))=ks:=(List.map_congr_left (fun k _=>zaX k)).trans (List.map_id' ks);unfold Tree.subs uv;rw[Y0,Tree.fold_nd,<-Y0];simp only[List.map_map];rw[show ((fun x:Tree×List Tree=>x.1) ∘ Y0)=(fun k=>(Y0 k).1) from rfl,this];rfl
theorem S9 (t:Tree):t.subs.length=t.flat.length:=by
 refine Tree.ind (P:=fun t=>t.subs.length=t.flat.length) (fun n ks ih=>?_) t;rw[VA,Z4];simp only[List.length_append,List.length_cons,List.length_nil,uv,yE,List.length_flatten,List.map_map];congr 2
 exact List.map_congr_left (fun k hk=>ih k hk)
def wa (st:List Tree) (n:zb.T):Tree:=.nd n (st.drop (st.length-ar n))
def wi (st:List Tree) (n:zb.T):List Tree:=st.take (st.length-ar n)++[wa st n]
def news:List Tree->List zb.T->List Tree
 | _,[]=>[]
 | st,n::r=>wa st n::news (wi st n) r
def uT:List Tree->List zb.T->List Tree
 | st,[]=>st
 | st,n::r=>uT (wi st n) r
def okS (dims:Nat):List Tree->List zb.T->Prop
 | _,[]=>True
 | st,n::r=>wq dims n st.length=0/\okS dims (wi st n) r
theorem Ta {st:List Tree} {n:zb.T} (h:ar n<=st.length):(wi st n).length=st.length-ar n+1:=by
 simp[wi]
theorem zcU (dims:Nat):∀(xs:List zb.T) (st:List Tree) (i:Nat),Vx dims xs st.length i=none->okS dims st xs/\(uT st xs).length=UZ xs st.length
 | [],st,i,h=>⟨trivial,rfl⟩
 | n::r,st,i,h=>by
  simp only[Vx] at h;cases he:(wq dims n st.length != 0) with
  | true=>rw[he] at h; cases h
  | false =>
   rw[he] at h;have he:wq dims n st.length=0:=by simpa using he
   have hl:=Ta (xB he).2.2.2.2.2.2.1;simp only[cond_false] at h;rw[<-hl] at h;have:=zcU dims r (wi st n) (i+1) h;refine ⟨⟨he,this.1⟩,?_⟩;rw[uT,this.2,hl];rfl
theorem zc4 (dims:Nat):∀(xs:List zb.T) (st:List Tree) (i:Nat),okS dims st xs->Vx dims xs st.length i=none/\UZ xs st.length=(uT st xs).length
 | [],st,i,h=>⟨rfl,rfl⟩
 | n::r,st,i,h=>by
  have hl:=Ta (xB h.1).2.2.2.2.2.2.1;have:=zc4 dims r (wi st n) (i+1) h.2;rw[hl] at this;simp only[Vx,h.1,UZ,uT];exact this
theorem qF (a b:List Tree):yE (a++b)=yE a++yE b:=by simp[yE]
theorem WN (t:Tree):yE [t]=t.flat:=by simp[yE]
theorem vE (st:List Tree) (n:zb.T):yE (wi st n)=yE st++[n]:=by
 unfold wi wa;rw[qF,WN,Z4,<-List.append_assoc,<-qF,List.take_append_drop]
theorem TL:∀(xs:List zb.T) (st:List Tree),yE (uT st xs)=yE st++xs
 | [],st=>by simp[uT]
 | n::r,st=>by rw[uT,TL r,vE]; simp
theorem U9 (a b:List Tree):uv (a++b)=uv a++uv b:=by simp[uv]
theorem U7 (t:Tree):uv [t]=t.subs:=by simp[uv]
theorem Qm (st:List Tree) (n:zb.T):uv (wi st n)=uv st++[wa st n]:=by
 unfold wi;rw[U9,U7,wa,VA,<-List.append_assoc,<-U9,List.take_append_drop]
theorem U8:∀(xs:List zb.T) (st:List Tree),uv (uT st xs)=uv st++news st xs
 | [],st=>by simp[uT,news]
 | n::r,st=>by rw[uT,U8 r,Qm,news]; simp
theorem Qn {b st:List Tree} {n:zb.T} (h:ar n<=st.length):wa (b++st) n=wa st n/\wi (b++st) n=b++wi st n:=by
 have e:(b++st).length-ar n=b.length+(st.length-ar n):=by simp; omega
 have e1:wa (b++st) n=wa st n:=by
  unfold wa;rw[e,List.drop_append];simp
 refine ⟨e1,?_⟩;unfold wi;rw[e1,e,List.take_append,List.take_of_length_le (by omega)];simp
theorem V6 {dims:Nat} {n:zb.T} {p q:Nat} (h:wq dims n p=0) (hq:p<=q):wq dims n q=0:=by
 have hh:=xB h;have h7:decide ((p:Int)<(ar n:Int))=false:=decide_eq_false (by have:=hh.2.2.2.2.2.2.1; omega);have h7':decide ((q:Int)<(ar n:Int))=false:=decide_eq_false (by have:=hh.2.2.2.2.2.2.1; omega);unfold wq at*;rw[h7] at h;rw[h7'];exact h
theorem frame (dims:Nat) (b:List Tree):∀(xs:List zb.T) (st:List Tree),okS dims st xs->okS dims (b++st) xs/\news (b++st) xs=news st xs/\uT (b++st) xs=b++uT st xs
 | [],st,h=>⟨trivial,rfl,rfl⟩
 | n::r,st,h=>by
  have hf:=Qn (b:=b) (xB h.1).2.2.2.2.2.2.1;have:=frame dims b r (wi st n) h.2;simp only[okS,news,uT,hf.1,hf.2];refine ⟨⟨V6 h.1 (by simp),this.1⟩,?_,this.2.2⟩;rw[this.2.1]
theorem wL (n:zb.T) (ks:List Tree):Tree.size (.nd n ks)=(yE ks).length+1:=by simp[Tree.size,Z4]
theorem Y1 (t:Tree):1<=t.size:=by
 cases t with
 | nd n ks=>rw[wL]; omega
theorem va (t:Tree) (l:List Tree):yE (t::l)=t.flat++yE l:=by simp[yE]
theorem wM:∀st:List Tree,st.length<=(yE st).length
 | []=>by simp
 | t::r=>by
  have:=wM r;have:=Y1 t;rw[va];simp only[List.length_append,List.length_cons];unfold Tree.size at this;omega
theorem vU {a:Nat} (h:a<=4194304):Nat.ble a xv=true:=by rw[Nat.ble_eq]; exact Nat.le_trans h (by decide)
theorem Zs {a b:Nat} (h:b<=a) (ha:a<4611686018427387904):i64.wrap ((a:Int)-(b:Int))=((a-b:Nat):Int):=by
 rw[yV (by omega) (by omega)]; omega
theorem VR {st:List Tree} {n:zb.T}:(wa st n).size+(yE (st.take (st.length-ar n))).length=(yE st).length+1:=by
 unfold wa;rw[wL];have:yE st=yE (st.take (st.length-ar n))++yE (st.drop (st.length-ar n)):=by rw[<-qF,List.take_append_drop]
 have:=congrArg List.length this;simp only[List.length_append] at this;omega
def wQ:Nat->List Tree->List Int
 | _,[]=>[]
 | b,t::r=>(b:Int)::wQ (b+t.size) r
def ZH:Nat->List Tree->List Int
 | _,[]=>[]
 | i,t::r=>((i+1-t.size:Nat):Int)::ZH (i+1) r
theorem vQ:∀(l:List Tree) (b:Nat),(wQ b l).length=l.length
 | [],b=>rfl
 | t::r,b=>by simp[wQ,vQ r]
theorem Uo:∀(l:List Tree) (b:Nat),(ZH b l).length=l.length
 | [],b=>rfl
 | t::r,b=>by simp[ZH,Uo r]
theorem qM:∀(a c:List Tree) (b:Nat),wQ b (a++c)=wQ b a++wQ (b+(yE a).length) c
 | [],c,b=>by simp[wQ,yE]
 | t::r,c,b=>by
  simp only[List.cons_append,wQ,qM r c,va,List.length_append];rw[show b+t.size+(yE r).length=b+(t.flat.length+(yE r).length) by unfold Tree.size; omega]
theorem Rb (a:List Tree) (b m:Nat):(wQ b a).take m=wQ b (a.take m):=by
 have:wQ b a=wQ b (a.take m++a.drop m):=by rw[List.take_append_drop]
 rw[this,qM,List.take_append];simp only[vQ,List.length_take];rcases Nat.le_total m a.length with h | h
 ·rw[Nat.min_eq_left h,Nat.sub_self,List.take_zero,List.append_nil,List.take_of_length_le (by rw[vQ,List.length_take]; omega)]
 ·rw[List.drop_of_length_le h]
  simp only[wQ,List.take_nil,List.append_nil];rw[List.take_of_length_le (by rw[vQ,List.length_take]; omega)]
theorem Rc (st:List Tree) (n:zb.T):wQ 0 (wi st n)=(wQ 0 st).take (st.length-ar n)++[(((yE (st.take (st.length-ar n))).length:Nat):Int)]:=by
 unfold wi;rw[qM,Rb];simp only[wQ,Nat.zero_add]
theorem Qo {st:List Tree} {m:Nat} (h:m<st.length):(wQ 0 st).getD m 0=(((yE (st.take m)).length:Nat):Int):=by
 have e:st=st.take m++st.drop m:=by rw[List.take_append_drop]
 have:wQ 0 st=wQ 0 (st.take m)++wQ (0+(yE (st.take m)).length) (st.drop m):=by rw[<-qM,List.take_append_drop]
 have hl:(wQ 0 (st.take m)).length=m:=by rw[vQ,List.length_take]; omega
 rw[List.getD_eq_getElem?_getD,this,List.getElem?_append_right (by omega),hl,Nat.sub_self];cases hd:st.drop m with
 | nil =>
  have:=congrArg List.length hd;simp at this;omega
 | cons t r=>simp[wQ]
theorem zbl (F:Nat) {R:Type} (dims:Nat) (k:List Int->Option R) (L:List zb.T) (N:Int):∀(xs:List zb.T) (st:List Tree) (list:List Int),okS dims st xs->(yE st).length+xs.length<=2048->list.length<=(yE st).length->
  zy.l3.rg F (fun _ _ _ _ list _=>k list) L N xs ((yE st).length:Int) list (wQ 0 st)=k (list++ZH (yE st).length (news st xs)):=by
 intro xs;induction xs with
 | nil=>intro st list h h2 h3; simp[zy.l3.rg,news,ZH]
 | cons n xs ih =>
  intro st list h h2 h3;obtain ⟨g1,g2,g3,g4,g5,g6,g7,g8⟩:=xB h.1;have hst:=wM st;have hfs:=congrArg List.length (vE st n);have hts:=VR (st:=st) (n:=n);have htp:=Y1 (wa st n);simp only[List.length_cons,List.length_append,List.length_nil] at h2 hfs;have IH:=ih (wi st n) (list++[(((yE st).length+1-(wa st n).size:Nat):Int)]) h.2 (by omega) (by simp; omega);have e1:(yE st).length+1-(wa st n).size=(yE (st.take (st.length-ar n))).length:=by omega
  rw[hfs,Rc,<-e1] at IH;simp only[zy.l3.rg];rw[YZ F g1 g4];simp only[zr,vQ];rw[Zs g7 (by omega)];rw[qJ (by omega)];simp only[news,ZH,Int.toNat_natCast];simp only[Nat.zero_add,List.append_assoc,List.singleton_append] at IH;rw[xz] at IH;cases hk:decide ((ar n:Int)>0) with
  | true =>
   have hk:=of_decide_eq_true hk;have hm:st.length-ar n<st.length:=by omega
   have e2:get (.int .i64) (wQ 0 st) (st.length-ar n)=(((yE st).length+1-(wa st n).size:Nat):Int):=by rw[e1]; exact Qo hm
   rw[xi hm,e2];simp only[cond_true];rw[vU (by simp[vQ]; omega),vU (by simp; omega)];simp only[cond_true];exact IH
  | false =>
   have hk:=of_decide_eq_false hk;have hk0:ar n=0:=by omega
   have e2:(yE st).length+1-(wa st n).size=(yE st).length:=by
    rw[e1,hk0,Nat.sub_zero,List.take_length]
   simp only[cond_false];rw[vU (by simp; omega),vU (by simp; omega)];simp only[cond_true];rw[hk0,Nat.sub_zero,List.take_of_length_le (by rw[vQ]; omega),e2] at IH;rw[e2];exact IH
def isQ (n:zb.T):Bool:=nK n==3||nK n==4
def noQ (t:Tree):Bool:=t.flat.all fun n=>!isQ n
def tM:List zb.T->Int×Int->Int×Int
 | [],s=>s
 | n::r,s=>tM r (s.1+1,bif isQ n then s.1 else s.2)
theorem Z0:∀(a b:List zb.T) (s:Int×Int),tM (a++b) s=tM b (tM a s)
 | [],b,s=>rfl
 | n::r,b,s=>Z0 r b _
theorem WG:∀(a:List zb.T) (s:Int×Int),(tM a s).1=s.1+a.length
 | [],s=>by simp[tM]
 | n::r,s=>by rw[tM,WG r]; simp; omega
theorem RH:∀(c:List zb.T) (s:Int×Int) (b:Int),b<=s.1->(decide ((tM c s).2<b)=((c.all fun n=>!isQ n)&&decide (s.2<b)))
 | [],s,b,h=>by rw[List.all_nil,Bool.true_and]; rfl
 | n::r,s,b,h=>by
  rw[tM,RH r _ b (by simp; omega)];simp only[List.all_cons];cases hq:isQ n with
  | true =>
   have:decide (s.1<b)=false:=decide_eq_false (by omega);simp[this]
  | false=>simp
theorem RI:∀(a:List zb.T) (s:Int×Int),s.2<s.1->(tM a s).2<(tM a s).1
 | [],s,h=>h
 | n::r,s,h=>by
  rw[tM];refine RI r _ ?_;cases isQ n with
  | true=>simp only[cond_true]; omega
  | false=>simp only[cond_false]; omega
theorem noQ_top (st:List Tree) (n:zb.T):decide ((tM (yE st++[n]) (0,-1)).2<(((yE st).length+1-(wa st n).size:Nat):Int))=noQ (wa st n):=by
 have hts:=VR (st:=st) (n:=n);have e1:(yE st).length+1-(wa st n).size=(yE (st.take (st.length-ar n))).length:=by omega
 have e2:yE st++[n]=yE (st.take (st.length-ar n))++(wa st n).flat:=by
  rw[<-vE]; unfold wi; rw[qF,WN]
 rw[e1,e2,Z0];have h1:=WG (yE (st.take (st.length-ar n))) (0,-1);rw[RH _ _ _ (by rw[h1]; simp)];have h2:=RI (yE (st.take (st.length-ar n))) (0,-1) (by decide);rw[h1] at h2;simp only[Int.zero_add] at h2;rw[decide_eq_true h2,Bool.and_true];rfl
theorem R7 (F:Nat) {R:Type} (dims:Nat) (k:List Bool->Option R) (L:List zb.T) (N:Int) (list:List Int):∀(xs:List zb.T) (st:List Tree) (pre:List Int) (out:List Bool),okS dims st xs->(yE st).length+xs.length<=2048->
  list=pre++ZH (yE st).length (news st xs)->pre.length=(yE st).length->out.length=(yE st).length->
  zu.l7.rg F (fun _ _ _ _ _ _ out=>k out) L N xs ((yE st).length:Int) list (tM (yE st) (0,-1)).2 (out++List.replicate xs.length false)=k (out++(news st xs).map noQ):=by
 intro xs;induction xs with
 | nil=>intro st pre out h h2 h3 h4 h5; simp[zu.l7.rg,news]
 | cons n xs ih =>
  intro st pre out h h2 h3 h4 h5;have hfs:=congrArg List.length (vE st n);simp only[List.length_cons,List.length_append,List.length_nil] at h2 hfs;simp only[news,ZH] at h3;have IH:=ih (wi st n) (pre++[(((yE st).length+1-(wa st n).size:Nat):Int)]) (out++[noQ (wa st n)]) h.2 (by omega) (by rw[h3,hfs]; simp) (by simp; omega) (by simp; omega);have hq:=noQ_top st n;rw[Z0] at hq;have hl:=WG (yE st) (0,-1);simp only[Int.zero_add] at hl;rw[hfs,xz,vE,Z0] at IH;simp only[tM,hl] at IH hq;have hg:get (.int .i64) list (Int.toNat ((yE st).length:Int))=(((yE st).length+1-(wa st n).size:Nat):Int):=by
   rw[Int.toNat_natCast,get,h3,List.getD_eq_getElem?_getD,List.getElem?_append_right (by omega),h4,Nat.sub_self];rfl
  have hi1:idx ((yE st).length:Int) list.length=true:=xi (by rw[h3]; simp; omega);have hi2:idx ((yE st).length:Int) (out++List.replicate (n::xs).length false).length=true:=xi (by simp; omega);have hset:∀b:Bool,(out++List.replicate (n::xs).length false).set (Int.toNat ((yE st).length:Int)) b=(out++[b])++List.replicate xs.length false:=by
   intro b;rw[Int.toNat_natCast,List.set_append_right _ _ (by omega),h5,Nat.sub_self];simp[List.replicate_succ]
  simp only[zu.l7.rg,hi1,hi2,hset,cond_true,hg];simp only[news,List.map_cons];simp only[List.append_assoc,List.singleton_append] at IH ⊢;cases h3':(nK n==3) with
  | true =>
   have hqq:isQ n=true:=by unfold isQ; rw[h3']; rfl
   rw[hqq] at IH hq;simp only[cond_true] at IH hq;rw[hq];exact IH
  | false =>
   cases h4':(nK n==4) with
   | true =>
    have hqq:isQ n=true:=by unfold isQ; rw[h3',h4']; rfl
    rw[hqq] at IH hq;simp only[cond_true] at IH hq;rw[hq];exact IH
   | false =>
    have hqq:isQ n=false:=by unfold isQ; rw[h3',h4']; rfl
    rw[hqq] at IH hq;simp only[cond_false] at IH hq;rw[hq];exact IH
def qC (m:Int) (l:List Int):Int:=l.foldl (fun m x=>if x>m then x else m) m
def uf:List Int->Int
 | []=>0
 | a::r=>qC a r
def deep:Tree->Int:=Tree.fold (fun n ks=>uf ks+bif nK n==15 then 1 else 0)
theorem tw (n:zb.T) (ks:List Tree):deep (.nd n ks)=uf (ks.map deep)+bif nK n==15 then 1 else 0:=Tree.fold_nd _ n ks
theorem zan {b:Int}:∀(l:List Int) (m:Int),m<=b->(∀x∈l,x<=b)->qC m l<=b
 | [],m,h,_=>h
 | x::r,m,h,hl=>by
  show qC (if x>m then x else m) r<=b;refine zan r _ ?_ (fun y hy=>hl y (by simp[hy]));have:=hl x (by simp);split<;>omega
theorem SE:∀(l:List Int) (m:Int),m<=qC m l/\∀x∈l,x<=qC m l
 | [],m=>⟨by simp[qC],by simp⟩
 | x::r,m=>by
  have h:=SE r (if x>m then x else m);have e:qC m (x::r)=qC (if x>m then x else m) r:=rfl;rw[e];have h0:m<=(if x>m then x else m)/\x<=(if x>m then x else m):=by split<;>omega
  refine ⟨by omega,fun y hy=>?_⟩;rcases List.mem_cons.1 hy with rfl | hy
  ·omega
  ·exact h.2 y hy
theorem zam {b:Int} {l:List Int} (hb:0<=b) (h:∀x∈l,x<=b):uf l<=b:=by
 cases l with
 | nil=>exact hb
 | cons a r=>exact zan r a (h a (by simp)) (fun x hx=>h x (by simp[hx]))
theorem SD {l:List Int} (h0:∀x∈l,0<=x):0<=uf l/\∀x∈l,x<=uf l:=by
 cases l with
 | nil=>simp[uf]
 | cons a r =>
  have:=SE r a;refine ⟨by have:=h0 a (by simp); simp only[uf]; omega,fun x hx=>?_⟩;rcases List.mem_cons.1 hx with rfl | hx
  ·exact this.1
  ·exact this.2 x hx
theorem ug {ks:List Tree} {k:Tree} (h:k∈ks):k.size<=(yE ks).length:=by
 obtain ⟨a,b,rfl⟩:=List.append_of_mem h;rw[qF,va];simp only[List.length_append,Tree.size];omega
theorem uK (t:Tree):0<=deep t/\deep t<=t.size:=by
 refine Tree.ind (P:=fun t=>0<=deep t/\deep t<=t.size) (fun n ks ih=>?_) t;rw[tw,wL];have h1:0<=uf (ks.map deep):=(SD (by simp only[List.mem_map]; rintro x ⟨k,hk,rfl⟩; exact (ih k hk).1)).1;have h2:uf (ks.map deep)<=(yE ks).length:=zam (by omega) (by
  simp only[List.mem_map];rintro x ⟨k,hk,rfl⟩
  have:=(ih k hk).2;have:=ug hk;omega)
 cases nK n==15<;>simp only[cond_true,cond_false]<;>omega
theorem zcj (F:Nat) {R:Type} (k:Int->Option R) (X:List Int):∀(xs:List Int) (i m:Int),zC.l5.rg F (fun _ m _ _=>k m) X xs i m=k (qC m xs)
 | [],i,m=>rfl
 | x::r,i,m=>by
  rw[zC.l5.rg,zcj F k X r];rfl
theorem max_eq (F:Nat) {l:List Int} (h:1<=l.length) (hF:l.length<F) (hL:l.length<4611686018427387904):zC.sh F l=some ((uf l,()),()):=by
 unfold zC.sh;rw[decide_eq_false (show ¬(l.length:Int)<1 by omega),show idx 0 l.length=true from xi (i:=0) (by omega)];simp only[cond_false,cond_true];cases l with
 | nil=>simp at h
 | cons a r =>
  refine Eq.trans (zC.l5.rg_eq F _ (a::r) (by omega) r 1 F _ (by simp) (by simp at hF; omega)) ?_;exact zcj F (fun m=>(some ((m,()),()):Option zC.sg.R)) (a::r) r _ _
theorem zbR (F:Nat) (hF:4096<F) {R:Type} (dims:Nat) (k:List Int->Option R) (L:List zb.T) (N:Int):∀(xs:List zb.T) (st:List Tree) (i:Int),okS dims st xs->(yE st).length+xs.length<=2048->
  zE.l6.rg F (fun _ _ _ _ pile=>k pile) L N xs i (st.map deep)=k ((uT st xs).map deep):=by
 intro xs;induction xs with
 | nil=>intro st i h h2; rfl
 | cons n xs ih =>
  intro st i h h2;obtain ⟨g1,g2,g3,g4,g5,g6,g7,g8⟩:=xB h.1;have hst:=wM st;have hfs:=congrArg List.length (vE st n);simp only[List.length_cons,List.length_append,List.length_nil] at h2 hfs;have IH:=ih (wi st n) (i+1) h.2 (by omega);have hbd:=uK (wa st n);have hts:=VR (st:=st) (n:=n);have hstep:(wi st n).map deep=(st.map deep).take (st.length-ar n)++[deep (wa st n)]:=by
   unfold wi; simp[List.map_take]
  have hd:deep (wa st n)=uf ((st.map deep).drop (st.length-ar n))+bif nK n==15 then 1 else 0:=by
   unfold wa; rw[tw,List.map_drop]
  rw[hstep] at IH;simp only[zE.l6.rg];rw[YZ F g1 g4];simp only[zr];have hlen:(st.map deep).length=st.length:=by simp
  rw[hlen,Zs g7 (by omega),qJ (by omega),Z9 (by omega)];simp only[cond_true];rw[List.take_of_length_le (by rw[hlen]; omega:(st.map deep).length<=st.length)];cases hk:decide ((ar n:Int)>0) with
  | true =>
   have hk:=of_decide_eq_true hk;simp only[cond_true];rw[max_eq F (by rw[List.length_drop,hlen]; omega) (by rw[List.length_drop,hlen]; omega) (by rw[List.length_drop,hlen]; omega)];simp only[zr];cases h15:(nK n==15) with
   | true =>
    rw[h15] at hd;simp only[cond_true] at hd;simp only[cond_true];rw[yV (by omega) (by omega),<-hd,vU (by simp; omega)];exact IH
   | false =>
    rw[h15] at hd;simp only[cond_false,Int.add_zero] at hd;simp only[cond_false];rw[<-hd,vU (by simp; omega)];exact IH
  | false =>
   have hk:=of_decide_eq_false hk;have hk0:ar n=0:=by omega
   simp only[cond_false];rw[hk0,Nat.sub_zero,List.drop_of_length_le (by rw[hlen]; omega)] at hd;rw[hk0,Nat.sub_zero,List.take_of_length_le (by rw[hlen]; omega)] at IH;cases h15:(nK n==15) with
   | true =>
    rw[h15] at hd;simp only[cond_true];rw[vU (by simp; omega)];simp only[cond_true];rw[show i64.wrap (0+1)=deep (wa st n) by rw[hd]; rfl];exact IH
   | false =>
    rw[h15] at hd;simp only[cond_false];rw[vU (by simp; omega)];simp only[cond_true];rw[hd] at IH;exact IH
structure Good (p:zQ.T) (t:Tree):Prop where
 head:Zj p.1 p.2.1 p.2.2.1=0
 len:p.2.2.2.length<=1024
 ok:okS p.2.1.length [] p.2.2.2
 eq:uT [] p.2.2.2=[t]
theorem Good.flat {p:zQ.T} {t:Tree} (h:Good p t):t.flat=p.2.2.2:=by
 have:=TL p.2.2.2 [];rw[h.eq,WN] at this;simpa [yE] using this
theorem Good.subs {p:zQ.T} {t:Tree} (h:Good p t):news [] p.2.2.2=t.subs:=by
 have:=U8 p.2.2.2 [];rw[h.eq,U7] at this;simpa [uv] using this.symm
theorem zcW {p:zQ.T} (h:(wg p).2=0):∃t,Good p t:=by
 unfold wg at h;cases h1:(Zj p.1 p.2.1 p.2.2.1 != 0) with
 | true =>
  rw[h1] at h;simp only[cond_true] at h;rw[h] at h1;cases h1
 | false =>
  rw[h1] at h;have h1:Zj p.1 p.2.1 p.2.2.1=0:=by simpa using h1
  cases h2:decide ((p.2.2.2.length:Int)>1024) with
  | true=>rw[h2] at h; exact absurd (show (2:Int)=0 from h) (by decide)
  | false =>
   rw[h2] at h;have h2:=of_decide_eq_false h2;simp only[cond_false] at h;cases h3:Vx p.2.1.length p.2.2.2 0 0 with
   | some x =>
    rw[h3] at h;have hne:∀(xs:List zb.T) (pile i:Nat),Vx p.2.1.length xs pile i=some x->x.2≠0:=by
     intro xs;induction xs with
     | nil=>intro pile i h; cases h
     | cons n r ih =>
      intro pile i h;simp only[Vx] at h;cases he:(wq p.2.1.length n pile != 0) with
      | true =>
       rw[he] at h;simp only[cond_true,Option.some.injEq] at h;rw[<-h];simpa using he
      | false=>rw[he] at h; exact ih _ _ h
    exact absurd h (hne _ _ _ h3)
   | none =>
    rw[h3] at h;have:=zcU p.2.1.length p.2.2.2 [] 0 h3;cases h4:((UZ p.2.2.2 0:Int) != 1) with
    | true=>rw[h4] at h; exact absurd (show (50:Int)=0 from h) (by decide)
    | false =>
     have h4:(UZ p.2.2.2 0:Int)=1:=by simpa using h4
     have hl:(uT [] p.2.2.2).length=1:=by rw[this.2]; simp only[List.length_nil]; omega
     obtain ⟨t,ht⟩:=List.length_eq_one_iff.1 hl;exact ⟨t,h1,by omega,this.1,ht⟩
theorem Good.check {p:zQ.T} {t:Tree} (h:Good p t):wg p=(0,0):=by
 unfold wg;have:=zc4 p.2.1.length p.2.2.2 [] 0 h.ok;rw[h.eq] at this;simp only[List.length_nil,List.length_cons] at this;rw[h.head,this.1,this.2,decide_eq_false (by have:=h.len; omega)];rfl
theorem zbB (F:Nat) (hF:4096<F) {p:zQ.T} {t:Tree} (h:Good p t):xh.sh F p=some ((ZH 0 t.subs,0,()),()):=by
 unfold xh.sh zy.sh;rw[XX F (by omega),h.check];have hl:=h.len;have e:=Eq.trans (zy.l3.rg_eq F (fun _ _ _ _ list2 _=>zy.j13 F (fun r23=>(some ((r23,()),()):Option zy.sg.R)) list2) p.2.2.2 _ rfl (by omega) p.2.2.2 0 F [] [] (by simp) (by omega))
  (zbl F p.2.1.length (fun list=>some ((list,()),())) p.2.2.2 (p.2.2.2.length:Int) p.2.2.2 [] [] h.ok (by simp[yE]; omega) (by simp))
 rw[h.subs] at e;have e:zy.l3 F (fun _ _ _ _ list2 _=>zy.j13 F (fun r23=>(some ((r23,()),()):Option zy.sg.R)) list2) F p.2.2.2 (p.2.2.2.length:Int) 0 [] []=some ((ZH 0 t.subs,()),()):=e;rw[e];rfl
theorem Qh (F:Nat) (hF:4096<F) {p:zQ.T} {t:Tree} (h:Good p t):zu.sh F p=some ((t.subs.map noQ,0,()),()):=by
 unfold zu.sh;rw[zbB F hF h];simp only[zr,bne_self_eq_false,cond_false];have hl:=h.len;have hn:t.subs.length=p.2.2.2.length:=by rw[S9,h.flat]
 have hz:(decide (0<=((ZH 0 t.subs).length:Int))&&decide (((ZH 0 t.subs).length:Int)<=((ZH 0 t.subs).length:Int))&&decide (((ZH 0 t.subs).length:Int)<=(xv:Int)))=true:=by
  have:xv=1099511627776:=rfl;rw[Uo,this];simp;omega
 rw[hz];simp only[cond_true];have e:=Eq.trans (zu.l7.rg_eq F (fun _ _ _ _ _ _ out2=>zu.j13 F (fun r23 r33=>(some ((r23,r33,()),()):Option zu.sg.R)) out2) p.2.2.2 _ rfl (by omega) p.2.2.2 0 F (ZH 0 t.subs) (-1) (Yl .bool p.2.2.2.length) (by simp) (by omega))
  (R7 F p.2.1.length (fun out=>some ((out,0,()),())) p.2.2.2 (p.2.2.2.length:Int) (ZH 0 t.subs) p.2.2.2 [] [] [] h.ok (by simp[yE]; omega) (by rw[h.subs]; rfl) rfl rfl)
 rw[h.subs] at e;rw[show ((ZH 0 t.subs).length:Int).toNat=p.2.2.2.length by rw[Uo,hn]; rfl];exact e
theorem UP (F:Nat) (hF:4096<F) {p:zQ.T} {t:Tree} (h:Good p t):zE.sh F p=some ((deep t,0,()),()):=by
 unfold zE.sh;rw[XX F (by omega),h.check];have hl:=h.len;have e:=Eq.trans (zE.l6.rg_eq F (fun _ _ _ _ pile4=>zE.j17 F (fun r25 r35=>(some ((r25,r35,()),()):Option zE.sg.R)) pile4) p.2.2.2 _ rfl (by omega) p.2.2.2 0 F [] (by simp) (by omega))
  (zbR F hF p.2.1.length (fun pile=>zE.j17 F (fun r25 r35=>(some ((r25,r35,()),()):Option zE.sg.R)) pile) p.2.2.2 (p.2.2.2.length:Int) p.2.2.2 [] 0 h.ok (by simp[yE]; omega))
 rw[h.eq] at e;exact e
def qb (t:Int):Bool:=decide (t>=2)
def Ye:List Int->Int
 | []=>-1
 | a::r=>bif r.all (fun x=>x==a) then a else -1
def Ti (a b:Int):Int :=
 bif a==0 then b else bif b==0 then a else bif qb a&&b==1 then 1 else bif qb b&&a==1 then 1 else -1
def tyN (n:zb.T) (ks:List Int):Int :=
 bif nK n==1 then 0 else bif nK n==2 then 1 else bif nK n==3 then 2+2*nN n else bif nK n==4 then 3+2*nN n
 else bif nK n==8 then Ti (ks.getD 0 0) (ks.getD 1 0)
 else bif nK n==11||nK n==12 then (bif qb (ks.getD 0 0) then ks.getD 0 0 else -1)
 else bif nK n==13||nK n==14 then (bif qb (ks.getD 0 0) then 1 else -1)
 else bif nK n==15 then (bif ks.getD 0 0==1 then 1 else -1)
 else bif nK n==16 then (bif qb (ks.getD 0 0) then Ye (ks.drop 1) else -1)
 else Ye ks
def ty:Tree->Int:=Tree.fold tyN
theorem qd (n:zb.T) (ks:List Tree):ty (.nd n ks)=tyN n (ks.map ty):=Tree.fold_nd _ n ks
def WD (n:zb.T) (fs:List Bool):Bool:=nK n==8&&(!fs.getD 0 false&&!fs.getD 1 false)
def tyE (t:Tree):Int:=bif ty t == -1 then 80 else bif WD t.root (t.kids.map noQ) then 81 else 0
def wK (E:Tree->Int):List Tree->Nat->Option (Nat×Int)
 | [],_=>none
 | t::r,i=>bif E t != 0 then some (i,E t) else wK E r (i+1)
theorem zc3 {a:Int}:∀(r:List Int),(a::r).all (fun x=>x==a)=r.all (fun x=>x==a):=by intro r; simp
theorem zc0 (F:Nat) {R:Type} (k:Int->Option R) (k1:Int->yo.T->Option R) (L:List Int) (N:Int) (n:yo.T) (fr:Nat) (a:Int) (hfr:fr<n.2.1.length) (ha:get (.int .i64) n.2.1 fr=a):∀(xs:List Int) (i:Int),
  zx.l2.rg F k (fun fr _ _ _ _ n=>k1 fr n) L N xs i (fr:Int) n=bif xs.all (fun x=>x==a) then k1 fr n else k (-1)
 | [],i=>rfl
 | x::r,i=>by
  rw[zx.l2.rg,zc0 F k k1 L N n fr a hfr ha r,xi hfr,Int.toNat_natCast,ha];simp only[cond_true,List.all_cons];cases hx:(x==a) with
  | true=>simp only[bne,hx,Bool.not_true,cond_false,Bool.true_and]
  | false=>simp only[bne,hx,Bool.not_false,cond_true,Bool.false_and,cond_false]
theorem zc1 (F:Nat) (hF:64<F) (n:zb.T) (ks:List Int) (fx:List Bool) {fr:Nat} (h:fr<ks.length) (hl:ks.length<=32):zx.sh F (n,ks,fx) (fr:Int)=some ((Ye (ks.drop fr),()),()):=by
 unfold zx.sh;simp only[];rw[Z9 (by omega)];simp only[cond_true];rw[List.take_length];refine Eq.trans (zx.l2.rg_eq F _ _ (ks.drop fr) _ rfl (by simp; omega) (ks.drop fr) 0 F _ _ (by simp) (by simp; omega)) ?_;refine (zc0 F (fun r41=>(some ((r41,()),()):Option zx.sg.R)) (fun fr n2=>bif idx fr n2.2.1.length then some ((get (.int .i64) n2.2.1 fr.toNat,()),()) else none) (ks.drop fr) _ (n,ks,fx) fr (get (.int .i64) ks fr) h rfl (ks.drop fr) _).trans ?_;simp only[];rw[xi h,Int.toNat_natCast];have hd:ks.drop fr=get (.int .i64) ks fr::ks.drop (fr+1):=by
  rw[List.drop_eq_getElem_cons h];congr 1
  unfold get;rw[List.getD_eq_getElem?_getD,List.getElem?_eq_getElem h];rfl
 rw[hd,zc3];simp only[Ye];cases (ks.drop (fr+1)).all (fun x=>x==get (.int .i64) ks fr)<;>rfl
theorem WK {n:Nat} (h:1<=n):idx 0 n=true:=xi (i:=0) (by omega)
theorem idx1 {n:Nat} (h:2<=n):idx 1 n=true:=xi (i:=1) (by omega)
theorem ZP (F:Nat) (hF:64<F) (n:zb.T) (ks:List Int) (fx:List Bool) (h:1<=ks.length) (hl:ks.length<=32):yh.sh F (n,ks,fx)=some ((Ye ks,()),()):=by
 unfold yh.sh;rw[show (0:Int)=((0:Nat):Int) from rfl,zc1 F hF n ks fx (by omega) hl];rfl
theorem Qt (F:Nat) (n:zb.T) (ks:List Int) (fx:List Bool) (h:2<=ks.length):yn.sh F (n,ks,fx)=some ((Ti (ks.getD 0 0) (ks.getD 1 0),()),()):=by
 unfold yn.sh yz.sh Ti qb;simp only[zr];rw[WK (by omega),idx1 (by omega)];simp only[cond_true];rw[show get (.int .i64) ks 0=ks.getD 0 0 from rfl,show get (.int .i64) ks 1=ks.getD 1 0 from rfl];cases (ks.getD 0 0==0) with
 | true=>rfl
 | false =>
  cases (ks.getD 1 0==0) with
  | true=>rfl
  | false=>cases decide (ks.getD 0 0>=2)<;>cases decide (ks.getD 1 0>=2)<;>cases (ks.getD 0 0==1)<;>cases (ks.getD 1 0==1)<;>rfl
theorem UF (F:Nat) (n:zb.T) (ks:List Int) (fx:List Bool) (h:1<=ks.length):yg.sh F (n,ks,fx)=some ((bif qb (ks.getD 0 0) then ks.getD 0 0 else -1,()),()):=by
 unfold yg.sh yz.sh qb;simp only[zr];rw[WK (by omega)];simp only[cond_true];rw[show get (.int .i64) ks 0=ks.getD 0 0 from rfl];cases decide (ks.getD 0 0>=2)<;>rfl
theorem Tj (F:Nat) (n:zb.T) (ks:List Int) (fx:List Bool) (h:1<=ks.length):yq.sh F (n,ks,fx)=some ((bif qb (ks.getD 0 0) then 1 else -1,()),()):=by
 unfold yq.sh yz.sh qb;simp only[zr];rw[WK (by omega)];simp only[cond_true];rw[show get (.int .i64) ks 0=ks.getD 0 0 from rfl];cases decide (ks.getD 0 0>=2)<;>rfl
theorem off_eq (F:Nat) (n:zb.T) (ks:List Int) (fx:List Bool) (h:1<=ks.length):yL.sh F (n,ks,fx)=some ((bif ks.getD 0 0==1 then 1 else -1,()),()):=by
 unfold yL.sh;rw[WK (by omega)];simp only[cond_true];rw[show get (.int .i64) ks 0=ks.getD 0 0 from rfl];cases (ks.getD 0 0==1)<;>rfl
theorem test_eq (F:Nat) (hF:64<F) (n:zb.T) (ks:List Int) (fx:List Bool) (h:2<=ks.length) (hl:ks.length<=32):yA.sh F (n,ks,fx)=some ((bif qb (ks.getD 0 0) then Ye (ks.drop 1) else -1,()),()):=by
 unfold yA.sh yz.sh qb;simp only[zr];rw[WK (by omega)];simp only[cond_true];rw[show get (.int .i64) ks 0=ks.getD 0 0 from rfl];have:=zc1 F hF n ks fx (fr:=1) (by omega) hl;rw[show (((1:Nat):Int))=1 from rfl] at this;rw[this];cases decide (ks.getD 0 0>=2)<;>rfl
theorem uE {n:zb.T} (h:tS n=true):nK n=1\/nK n=2\/nK n=3\/nK n=4\/nK n=5\/nK n=6\/nK n=7\/nK n=8\/nK n=9\/nK n=10\/nK n=11\/nK n=12\/nK n=13\/nK n=14\/nK n=15\/nK n=16:=by
 have:=qE.1 h;omega
theorem yp {n:zb.T} {k:Int} (h:nK n=k):ar n=bif decide ((get yQ w9 k.toNat).1>=0) then (get yQ w9 k.toNat).1.toNat else (nC n).toNat:=by
 unfold ar aK uj;rw[h]
theorem uG {n:zb.T} {k:Int} (h:nK n=k):uw n=bif decide ((get yQ w9 k.toNat).1<0) then decide (nC n>=2)&&decide (nC n<=16) else nC n==0:=by
 unfold uw aK uj;rw[h]
theorem uD {n:zb.T} {k:Int} (h:nK n=k) (dims:Nat):Yo n dims=bif decide ((get yQ w9 k.toNat).2.1<0) then (dims:Int)-1 else (get yQ w9 k.toNat).2.1:=by
 unfold Yo uj;rw[h]
theorem rule_eq (F:Nat) (hF:64<F) {dims:Nat} (hd:dims<=4) {n:zb.T} {pile:Nat} (h:wq dims n pile=0) :
  ∃r c,xt.sh F (nK n)=some ((r,c,()),())/\(bif decide (c<0) then nC n else c)=(ar n:Int) /\
   ∀(ks:List Int) (fx:List Bool),ks.length=ar n->zp.d63 F r ((n,ks,fx),())=some ((tyN n ks,()),()):=by
 obtain ⟨g1,g2,g3,g4,g5,g6,g7,g8⟩:=xB h;have ha:=zaO g1 g4;rcases uE g1 with h | h | h | h | h | h | h | h | h | h | h | h | h | h | h | h
 ·exact ⟨wj,0,by rw[h]; rfl,by rw[yp h]; rfl,fun ks fx hk=>by unfold tyN; rw[h]; rfl⟩
 ·exact ⟨wv,0,by rw[h]; rfl,by rw[yp h]; rfl,fun ks fx hk=>by unfold tyN; rw[h]; rfl⟩
 ·rw[uD h] at g3
  have g3:nN n<=(dims:Int)-1:=g3;refine ⟨xM,0,by rw[h]; rfl,by rw[yp h]; rfl,fun ks fx hk=>?_⟩;refine Eq.trans (show zp.d63 F xM ((n,ks,fx),())=yi.sh F (n,ks,fx) from rfl) ?_;unfold yi.sh tyN;rw[h,yV (n:=2*nN n) (by omega) (by omega),yV (n:=2+2*nN n) (by omega) (by omega)];rfl
 ·rw[uD h] at g3
  have g3:nN n<=(dims:Int)-1:=g3;refine ⟨xX,0,by rw[h]; rfl,by rw[yp h]; rfl,fun ks fx hk=>?_⟩;refine Eq.trans (show zp.d63 F xX ((n,ks,fx),())=yu.sh F (n,ks,fx) from rfl) ?_;unfold yu.sh tyN;rw[h,yV (n:=2*nN n) (by omega) (by omega),yV (n:=3+2*nN n) (by omega) (by omega)];rfl
 ·have e:ar n=1:=by rw[yp h]; rfl
  refine ⟨zK,1,by rw[h]; rfl,by rw[e]; rfl,fun ks fx hk=>?_⟩;refine Eq.trans (show zp.d63 F zK ((n,ks,fx),())=yh.sh F (n,ks,fx) from rfl) ?_;rw[ZP F hF n ks fx (by omega) (by omega)];unfold tyN; rw[h]; rfl
 ·have e:ar n=2:=by rw[yp h]; rfl
  refine ⟨zK,2,by rw[h]; rfl,by rw[e]; rfl,fun ks fx hk=>?_⟩;refine Eq.trans (show zp.d63 F zK ((n,ks,fx),())=yh.sh F (n,ks,fx) from rfl) ?_;rw[ZP F hF n ks fx (by omega) (by omega)];unfold tyN; rw[h]; rfl
 ·have e:ar n=2:=by rw[yp h]; rfl
  refine ⟨zK,2,by rw[h]; rfl,by rw[e]; rfl,fun ks fx hk=>?_⟩;refine Eq.trans (show zp.d63 F zK ((n,ks,fx),())=yh.sh F (n,ks,fx) from rfl) ?_;rw[ZP F hF n ks fx (by omega) (by omega)];unfold tyN; rw[h]; rfl
 ·have e:ar n=2:=by rw[yp h]; rfl
  refine ⟨xR,2,by rw[h]; rfl,by rw[e]; rfl,fun ks fx hk=>?_⟩;refine Eq.trans (show zp.d63 F xR ((n,ks,fx),())=yn.sh F (n,ks,fx) from rfl) ?_;rw[Qt F n ks fx (by omega)];unfold tyN; rw[h]; rfl
 ·rw[uG h] at g4
  have g4:(decide (nC n>=2)&&decide (nC n<=16))=true:=g4;simp at g4;have e:ar n=(nC n).toNat:=by rw[yp h]; rfl
  refine ⟨zK,-1,by rw[h]; rfl,?_,fun ks fx hk=>?_⟩
  ·rw[e]; rw[decide_eq_true (show (-1:Int)<0 by omega)]; simp only[cond_true]; omega
  refine Eq.trans (show zp.d63 F zK ((n,ks,fx),())=yh.sh F (n,ks,fx) from rfl) ?_;rw[ZP F hF n ks fx (by omega) (by omega)];unfold tyN; rw[h]; rfl
 ·rw[uG h] at g4
  have g4:(decide (nC n>=2)&&decide (nC n<=16))=true:=g4;simp at g4;have e:ar n=(nC n).toNat:=by rw[yp h]; rfl
  refine ⟨zK,-1,by rw[h]; rfl,?_,fun ks fx hk=>?_⟩
  ·rw[e]; rw[decide_eq_true (show (-1:Int)<0 by omega)]; simp only[cond_true]; omega
  refine Eq.trans (show zp.d63 F zK ((n,ks,fx),())=yh.sh F (n,ks,fx) from rfl) ?_;rw[ZP F hF n ks fx (by omega) (by omega)];unfold tyN; rw[h]; rfl
 ·have e:ar n=1:=by rw[yp h]; rfl
  refine ⟨yU,1,by rw[h]; rfl,by rw[e]; rfl,fun ks fx hk=>?_⟩;refine Eq.trans (show zp.d63 F yU ((n,ks,fx),())=yg.sh F (n,ks,fx) from rfl) ?_;rw[UF F n ks fx (by omega)];unfold tyN; rw[h]; rfl
 ·have e:ar n=1:=by rw[yp h]; rfl
  refine ⟨yU,1,by rw[h]; rfl,by rw[e]; rfl,fun ks fx hk=>?_⟩;refine Eq.trans (show zp.d63 F yU ((n,ks,fx),())=yg.sh F (n,ks,fx) from rfl) ?_;rw[UF F n ks fx (by omega)];unfold tyN; rw[h]; rfl
 ·have e:ar n=1:=by rw[yp h]; rfl
  refine ⟨yY,1,by rw[h]; rfl,by rw[e]; rfl,fun ks fx hk=>?_⟩;refine Eq.trans (show zp.d63 F yY ((n,ks,fx),())=yq.sh F (n,ks,fx) from rfl) ?_;rw[Tj F n ks fx (by omega)];unfold tyN; rw[h]; rfl
 ·have e:ar n=1:=by rw[yp h]; rfl
  refine ⟨yY,1,by rw[h]; rfl,by rw[e]; rfl,fun ks fx hk=>?_⟩;refine Eq.trans (show zp.d63 F yY ((n,ks,fx),())=yq.sh F (n,ks,fx) from rfl) ?_;rw[Tj F n ks fx (by omega)];unfold tyN; rw[h]; rfl
 ·have e:ar n=1:=by rw[yp h]; rfl
  refine ⟨wt,1,by rw[h]; rfl,by rw[e]; rfl,fun ks fx hk=>?_⟩;refine Eq.trans (show zp.d63 F wt ((n,ks,fx),())=yL.sh F (n,ks,fx) from rfl) ?_;rw[off_eq F n ks fx (by omega)];unfold tyN; rw[h]; rfl
 ·have e:ar n=3:=by rw[yp h]; rfl
  refine ⟨we,3,by rw[h]; rfl,by rw[e]; rfl,fun ks fx hk=>?_⟩;refine Eq.trans (show zp.d63 F we ((n,ks,fx),())=yA.sh F (n,ks,fx) from rfl) ?_;rw[test_eq F hF n ks fx (by omega) (by omega)];unfold tyN; rw[h]; rfl
theorem VE {α β:Type} {f:α->β} {d:β} {l:List α} {m j:Nat}:(l.map f).getD (m+j) d=((l.drop m).map f).getD j d:=by
 rw[List.map_drop,List.getD_eq_getElem?_getD,List.getD_eq_getElem?_getD,List.getElem?_drop]
theorem zbJ (F:Nat) (hF:64<F) {R:Type} {dims:Nat} (hd:dims<=4) (kE:List Int->Int->Int->Option R) (kO:List Int->List Int->Option R) (L:List zb.T) (N:Int) (fixed:List Bool):∀(xs:List zb.T) (st:List Tree) (pre:List Bool) (types:List Int),
  okS dims st xs->(yE st).length+xs.length<=2048->fixed=pre++(news st xs).map noQ->pre.length=(yE st).length->types.length=(yE st).length->
  zp.l8.rg F kE kE (fun _ _ _ _ _ types pile _=>kO types pile) L N xs ((yE st).length:Int) fixed types (st.map ty) (st.map noQ) =
   match wK tyE (news st xs) (yE st).length with
   | some (j,e)=>kE [] (j:Int) e
   | none=>kO (types++(news st xs).map ty) ((uT st xs).map ty):=by
 intro xs;induction xs with
 | nil=>intro st pre types h h2 h3 h4 h5; simp[zp.l8.rg,news,wK,uT]
 | cons n xs ih =>
  intro st pre types h h2 h3 h4 h5;obtain ⟨g1,g2,g3,g4,g5,g6,g7,g8⟩:=xB h.1;have hst:=wM st;have hfs:=congrArg List.length (vE st n);simp only[List.length_cons,List.length_append,List.length_nil] at h2 hfs;simp only[news,List.map_cons] at h3;have IH:=ih (wi st n) (pre++[noQ (wa st n)]) (types++[ty (wa st n)]) h.2 (by omega) (by rw[h3]; simp) (by simp; omega) (by simp; omega);have hst1:(wi st n).map ty=(st.map ty).take (st.length-ar n)++[ty (wa st n)]:=by unfold wi; simp[List.map_take]
  have hst2:(wi st n).map noQ=(st.map noQ).take (st.length-ar n)++[noQ (wa st n)]:=by unfold wi; simp[List.map_take]
  rw[hst1,hst2,hfs] at IH;obtain ⟨r,c,q1,q2,q3⟩:=rule_eq F hF hd h.1;have hl1:(st.map ty).length=st.length:=by simp
  have hl2:(st.map noQ).length=st.length:=by simp
  have hgf:get .bool fixed (Int.toNat ((yE st).length:Int))=noQ (wa st n):=by
   rw[Int.toNat_natCast,get,h3,List.getD_eq_getElem?_getD,List.getElem?_append_right (by omega),h4,Nat.sub_self];rfl
  have hif:idx ((yE st).length:Int) fixed.length=true:=xi (by rw[h3]; simp; omega);have ht:=q3 ((st.map ty).drop (st.length-ar n)) ((st.map noQ).drop (st.length-ar n)) (by simp; omega);have hty:tyN n ((st.map ty).drop (st.length-ar n))=ty (wa st n):=by unfold wa; rw[qd,List.map_drop]
  rw[hty] at ht;have hE:tyE (wa st n)=bif ty (wa st n) == -1 then 80 else bif WD n ((st.map noQ).drop (st.length-ar n)) then 81 else 0:=by
   rw[<-List.map_drop]; rfl
  have hm:st.length-ar n<=st.length:=by omega
  have hb1:=Z9 hm;have hb2:=qJ hm;have ew:=Zs g7 (by omega);have htk1:(st.map ty).take st.length=st.map ty:=List.take_of_length_le (by omega);have htk2:(st.map noQ).take st.length=st.map noQ:=List.take_of_length_le (by omega);have hbl1:∀y,Nat.ble (types.length+([y]:List Int).length) xv=true:=fun y=>vU (by simp; omega)
  have hbl2:∀y,Nat.ble (st.length-ar n+([y]:List Int).length) xv=true:=fun y=>vU (by simp; omega)
  have hbl3:∀y,Nat.ble (st.length-ar n+([y]:List Bool).length) xv=true:=fun y=>vU (by simp; omega)
  simp only[List.append_assoc,List.singleton_append] at IH;rw[xz] at IH;have h8a:(nK n==8)=true->ar n=2:=fun h=>by rw[yp (by simpa using h)]; rfl
  simp only[zp.l8.rg];rw[q1];simp only[zr];simp only[news,wK,hE];generalize ar n=a at*;cases hc:decide (c<0) with
  | true =>
   rw[hc] at q2;have q2:n.2.2.2.1=(a:Int):=q2;simp only[cond_true,q2,hl1,hl2,ew,hb1,hb2,htk1,htk2];rw[ht];simp only[zr];cases hn:(ty (wa st n) == -1) with
   | true=>rfl
   | false =>
    simp only[cond_false,hbl1,hbl2,hbl3,hif,hgf,cond_true,WD];cases h8:(nK n==8) with
    | true =>
     have h8:=h8a h8;have hi1:idx ((st.length-a:Nat):Int) st.length=true:=xi (by omega);have hi2:idx ((st.length-a+1:Nat):Int) st.length=true:=xi (by omega);have ew2:i64.wrap (((st.length-a:Nat):Int)+1)=((st.length-a+1:Nat):Int):=by rw[yV (by omega) (by omega)]; omega
     have hg0:get .bool (st.map noQ) (st.length-a)=((st.map noQ).drop (st.length-a)).getD 0 false:=by rw[<-List.map_drop]; exact VE (j:=0)
     have hg1:get .bool (st.map noQ) (st.length-a+1)=((st.map noQ).drop (st.length-a)).getD 1 false:=by rw[<-List.map_drop]; exact VE (j:=1)
     simp only[hi1,hi2,ew2,cond_true,Int.toNat_natCast,hg0,hg1,Bool.true_and];cases ((st.map noQ).drop (st.length-a)).getD 0 false with
     | true=>exact IH
     | false =>
      cases ((st.map noQ).drop (st.length-a)).getD 1 false with
      | true=>exact IH
      | false=>rfl
    | false=>exact IH
  | false =>
   rw[hc] at q2;have q2:c=(a:Int):=q2;simp only[cond_false,cond_true,q2,hl1,hl2,ew,hb1,hb2,htk1,htk2];rw[ht];simp only[zr];cases hn:(ty (wa st n) == -1) with
   | true=>rfl
   | false =>
    simp only[cond_false,hbl1,hbl2,hbl3,hif,hgf,cond_true,WD];cases h8:(nK n==8) with
    | true =>
     have h8:=h8a h8;have hi1:idx ((st.length-a:Nat):Int) st.length=true:=xi (by omega);have hi2:idx ((st.length-a+1:Nat):Int) st.length=true:=xi (by omega);have ew2:i64.wrap (((st.length-a:Nat):Int)+1)=((st.length-a+1:Nat):Int):=by rw[yV (by omega) (by omega)]; omega
     have hg0:get .bool (st.map noQ) (st.length-a)=((st.map noQ).drop (st.length-a)).getD 0 false:=by rw[<-List.map_drop]; exact VE (j:=0)
     have hg1:get .bool (st.map noQ) (st.length-a+1)=((st.map noQ).drop (st.length-a)).getD 1 false:=by rw[<-List.map_drop]; exact VE (j:=1)
     simp only[hi1,hi2,ew2,cond_true,Int.toNat_natCast,hg0,hg1,Bool.true_and];cases ((st.map noQ).drop (st.length-a)).getD 0 false with
     | true=>exact IH
     | false =>
      cases ((st.map noQ).drop (st.length-a)).getD 1 false with
      | true=>exact IH
      | false=>rfl
    | false=>exact IH
def uo (t:Tree):List Int×Int×Int :=
 match wK tyE t.subs 0 with
 | some (j,e)=>([],(j:Int),e)
 | none=>bif ty t != 1 then ([],(t.size:Int)-1,80) else (t.subs.map ty,0,0)
theorem zdb (F:Nat) (hF:4096<F) {p:zQ.T} {t:Tree} (h:Good p t):zp.sh F p=some (((uo t).1,(uo t).2.1,(uo t).2.2,()),()):=by
 unfold zp.sh;rw[XX F (by omega),h.check,Qh F hF h];simp only[zr,bne_self_eq_false,cond_false];have hl:=h.len;have hn:t.subs.length=p.2.2.2.length:=by rw[S9,h.flat]
 have hs:t.size=p.2.2.2.length:=by rw[Tree.size,h.flat]
 have hp:=Y1 t;refine Eq.trans (zp.l8.rg_eq F _ _ _ p.2.2.2 _ rfl (by omega) p.2.2.2 0 F _ [] [] [] (by simp) (by omega)) ?_;refine (zbJ F (by omega) (uQ h.head).2.1 (fun r26 r36 r46=>(some ((r26,r36,r46,()),()):Option zp.sg.R)) (fun types8 pile8=>zp.j23 F (fun r29 r39 r49=>some ((r29,r39,r49,()),())) (fun r210 r310 r410=>some ((r210,r310,r410,()),())) types8 pile8) p.2.2.2 _ (t.subs.map noQ) p.2.2.2 [] [] [] h.ok (by simp[yE]; omega) (by rw[h.subs]; rfl) rfl rfl).trans ?_;rw[h.subs,h.eq];unfold uo;rw[show (yE []).length=0 from rfl];cases wK tyE t.subs 0 with
 | some x=>rfl
 | none =>
  simp only[List.nil_append,List.map_cons,List.map_nil];unfold zp.j23;rw[show idx 0 [ty t].length=true from rfl,show get (.int .i64) [ty t] 0=ty t from rfl,List.length_map,hn,hs,yV (by omega) (by omega)];cases (ty t != 1)<;>rfl
theorem zby (F:Nat) (hF:4096<F) {p:zQ.T} (h:(wg p).2≠0):zp.sh F p=some (([],(wg p).1,(wg p).2,()),()):=by
 unfold zp.sh;rw[XX F (by omega)];simp only[zr];rw[show ((wg p).2 != 0)=true by simpa using h];rfl
theorem VH (F:Nat) (u:zd.T) (o:Bool) (w:zd.T) (e:Int):z8.sh F (u,o) w e=some ((w,()),((u,o||e != 0),())):=by
 unfold z8.sh;cases o<;>rfl
theorem ZZ (F:Nat) (u:zd.T) (o:Bool) {a b:zd.T} (ha:wfW a) (hb:wfW b):z6.sh F (u,o) a b=some ((vO (val a*val b),()),((u,o||vF (val a*val b) != 0),())):=by
 unfold z6.sh;rw[ZV F ha hb];simp only[zr];rw[VH];rfl
theorem VF (F:Nat) (u:zd.T) (o:Bool) {a b:zd.T} (ha:wfW a) (hb:wfW b):ya.sh F (u,o) a b=some ((vO (val a+val b),()),((u,o||vF (val a+val b) != 0),())):=by
 unfold ya.sh;rw[UO F ha hb];simp only[zr];rw[VH];rfl
theorem x8 {v:Int} (h:inR v=true):vO v=mk v/\(vF v != 0)=false:=by
 unfold vO vF;rw[h];exact ⟨rfl,rfl⟩
theorem Y7 {v:Int} (h:inR v=false):(vF v != 0)=true:=by
 unfold vF;rw[h];rfl
def Ul:Int->List zL.T->Prop
 | _,[]=>True
 | lo,x::r=>lo<tF x/\tF x<=1000000000000/\-1000000000000<=tR x/\tR x<=1000000000000/\Ul (tF x) r
theorem W6 (L:List zL.T):∀(xs:List zL.T) (i:Nat) (lo:Int),L.drop i=xs->qf L xs i=true->(i=0->∀x,xs.head?=some x->lo<tF x)->(i≠0->tF (L.getD (i-1) (0,0))=lo)->Ul lo xs
 | [],i,lo,h,ho,h0,h1=>trivial
 | x::r,i,lo,h,ho,h0,h1=>by
  simp only[qf,Qw,Bool.and_eq_true,Bool.or_eq_true,Bool.not_eq_true',decide_eq_true_eq,decide_eq_false_iff_not] at ho;obtain ⟨⟨a1,a2,a3,a4⟩,a5⟩:=ho;have hx:L.getD i (0,0)=x:=by
   have:=congrArg (·[0]?) h
   rw[List.getD_eq_getElem?_getD];simp at this;rw[this]; rfl
  refine ⟨?_,by omega,by omega,by omega,W6 L r (i+1) (tF x) (xA h) a5 (by omega) (fun _=>by simp only[Nat.add_sub_cancel]; rw[hx])⟩;by_cases hi:i=0
  ·exact h0 hi x rfl
  ·rcases a1 with a1 | a1
   ·exact absurd a1 hi
   ·rw[h1 hi] at a1
    omega
theorem ud {l:List zL.T} (h:qs l=true):1<=l.length/\l.length<=16/\Ul (-1) l:=by
 simp only[qs,Bool.and_eq_true,decide_eq_true_eq] at h;obtain ⟨a1,a2,a3,a4⟩:=h;refine ⟨a1,a2,W6 l l 0 (-1) (by simp) a4 (fun _ x hx=>?_) (fun h=>absurd rfl h)⟩;cases l with
 | nil=>cases hx
 | cons y r =>
  simp only[List.head?_cons,Option.some.injEq] at hx;subst hx;have a3:tF y=0:=a3;omega
def v7 (v:Int):Int:=if 0-v>v then 0-v else v
theorem SL {v:Int} (h1:-1000000000000<=v) (h2:v<=1000000000000):0<=v7 v/\v7 v<=1000000000000:=by unfold v7; split<;>omega
theorem far_eq (F:Nat) {v:Int} (h1:-1000000000000<=v) (h2:v<=1000000000000):xG.sh F v=some ((v7 v,()),()):=by
 unfold xG.sh v7;rw[yV (n:=0-v) (by omega) (by omega)]
def vc:List zL.T->Int
 | a::b::r=>v7 (tR a)*(tF b-tF a)+vc (b::r)
 | _=>0
def wC (r0:Int) (l:List zL.T):Int:=l.foldl (fun r t=>if v7 (tR t)>r then v7 (tR t) else r) r0
theorem uX:∀(l:List zL.T) (lo:Int),-1<=lo->Ul lo l->0<=vc l/\vc l<=l.length*1000000000000000000000000
 | [],lo,_,h=>by simp[vc]
 | [a],lo,_,h=>by simp[vc]
 | a::b::r,lo,hlo,h=>by
  obtain ⟨a1,a2,a3,a4,a5⟩:=h;have ih:=uX (b::r) (tF a) (by omega) a5;obtain ⟨b1,b2,b3,b4,b5⟩:=a5;have hf:=SL (v:=tR a) (by omega) (by omega);have:=qv hf.1 hf.2 (show 0<=tF b-tF a by omega) (show tF b-tF a<=1000000000000 by omega);have e:(1000000000000:Int)*1000000000000=1000000000000000000000000:=by decide
  rw[e] at this;simp only[vc,List.length_cons] at ih ⊢;push_cast at ih ⊢;omega
theorem Y9:∀(l:List zL.T) (r0 lo:Int),0<=r0->r0<=1000000000000->Ul lo l->0<=wC r0 l/\wC r0 l<=1000000000000
 | [],r0,lo,h1,h2,h=>⟨h1,h2⟩
 | a::r,r0,lo,h1,h2,h=>by
  obtain ⟨a1,a2,a3,a4,a5⟩:=h;have hf:=SL (v:=tR a) (by omega) (by omega);exact Y9 r _ (tF a) (show 0<=(if v7 (tR a)>r0 then v7 (tR a) else r0) by split<;>omega) (show (if v7 (tR a)>r0 then v7 (tR a) else r0)<=1000000000000 by split<;>omega) a5
theorem X6 (F:Nat) {R:Type} (k:List zL.T->Int->zO.T->zd.T->zd.T->Option R) (L:List zL.T) (N:Int) (u x:zd.T) (r6:zd.T) (hL:L.length<=16):∀(xs:List zL.T) (i:Nat) (rate w lo:Int),L.drop i=xs->-1<=lo->Ul lo xs->0<=w->w+xs.length*1000000000000000000000000<=20000000000000000000000000->
  zt.l3.rg F (fun tiers rate _ _ _ _ m x _ ways=>k tiers rate m x ways) L N xs (i:Int) L rate (u,false) x r6 (mk w)=k L (wC rate xs) (u,false) x (mk (w+vc xs))
 | [],i,rate,w,lo,h,hlo,hi,hw,hw2=>by simp only[zt.l3.rg,wC,vc,List.foldl_nil,Int.add_zero]
 | a::r,i,rate,w,lo,h,hlo,hi,hw,hw2=>by
  have ⟨a1,a2,a3,a4,a5⟩:=hi;have h0:=wd h;simp only[List.length_cons] at hw2;push_cast at hw2;have hf:=SL (v:=tR a) (by omega) (by omega);have hlen:=congrArg List.length h;simp only[List.length_drop,List.length_cons] at hlen;simp only[zt.l3.rg];rw[far_eq F (by omega) (by omega),yV (n:=(i:Int)+1) (by omega) (by omega)];simp only[zr];cases r with
  | nil =>
   simp only[List.length_nil] at hlen;rw[decide_eq_false (show ¬((i:Int)+1<(L.length:Int)) by omega)];simp only[cond_false];have:=X6 F k L N u x r6 hL [] (i+1) (if v7 (tR a)>rate then v7 (tR a) else rate) w (tF a) (xA h) (by omega) trivial hw (by simp; omega);rw[xz] at this;rw[this];rfl
  | cons b r =>
   simp only[List.length_cons] at hlen;rw[decide_eq_true (show ((i:Int)+1<(L.length:Int)) by omega)];obtain ⟨b1,b2,b3,b4,b5⟩:=a5;have hg:get zL L (Int.toNat ((i:Int)+1))=b:=by
    rw[<-xz]; exact wA (xA h)
   have hid:idx ((i:Int)+1) L.length=true:=YK (by omega) (by omega);have hp:=qv hf.1 hf.2 (show 0<=tF b-tF a by omega) (show tF b-tF a<=1000000000000 by omega);rw[show (1000000000000:Int)*1000000000000=1000000000000000000000000 by decide] at hp;simp only[cond_true];rw[ve F (v:=v7 (tR a)) (by omega) (by omega),hid,hg,yV (n:=tF b-tF a) (by omega) (by omega),ve F (v:=tF b-tF a) (by omega) (by omega)];simp only[zr,cond_true];rw[ZZ F u false (xk (by rw[zP]; omega)) (xk (by rw[zP]; omega))];simp only[zr,y9];have hin:inR (v7 (tR a)*(tF b-tF a))=true:=by rw[zP]; omega
   rw[(x8 hin).1,(x8 hin).2];rw[VF F u _ (xk (by rw[zP]; omega)) (xk hin)];simp only[zr,y9];have hin2:inR (w+v7 (tR a)*(tF b-tF a))=true:=by rw[zP]; omega
   rw[(x8 hin2).1,(x8 hin2).2];simp only[beq_self_eq_true,Bool.and_true,Bool.or_false,cond_true];have:=X6 F k L N u x r6 hL (b::r) (i+1) (if v7 (tR a)>rate then v7 (tR a) else rate) (w+v7 (tR a)*(tF b-tF a)) (tF a) (xA h) (by omega) ⟨b1,b2,b3,b4,b5⟩ (by omega) (by simp only[List.length_cons]; push_cast; simp only[List.length_cons] at hw2; push_cast at hw2; omega);rw[xz] at this;rw[this,Int.add_assoc];rfl
def wy:List zL.T->Int
 | []=>0
 | [a]=>tF a
 | _::b::r=>wy (b::r)
theorem Tw:∀(l:List zL.T),1<=l.length->tF (l.getD (l.length-1) (0,0))=wy l
 | [],h=>by simp at h
 | [a],h=>rfl
 | a::b::r,h=>by
  have:=Tw (b::r) (by simp);simp only[wy,<-this];rfl
theorem tN:∀(l:List zL.T) (lo:Int),-1<=lo->Ul lo l->0<=wy l/\wy l<=1000000000000
 | [],lo,h1,h=>by simp[wy]
 | [a],lo,h1,h=>by
  obtain ⟨a1,a2,a3,a4,a5⟩:=h;simp only[wy]; omega
 | a::b::r,lo,h1,h=>by
  obtain ⟨a1,a2,a3,a4,a5⟩:=h;exact tN (b::r) (tF a) (by omega) a5
def qn (u x:Int) (l:List zL.T):Int:=u*(wC 0 l*(x+wy l)+vc l)
def BND:Int:=1329227995784915872903807060280344576
theorem Qy {a b:Int} (ha:1<=a) (hb:0<=b):b<=a*b:=by
 have:=Int.mul_le_mul_of_nonneg_right ha hb;omega
def Qq (F:Nat) (tiers7:List zL.T) (rate7:Int) (m7:zO.T) (x7 ways7:zd.T):Option zt.sg.R :=
 bif idx (i64.wrap ((tiers7.length:Int)-1)) tiers7.length then oB (zY.sh F (get zL tiers7 ((i64.wrap ((tiers7.length:Int)-1)).toNat)).1) fun c_8 =>
  oB (ya.sh F m7 x7 c_8.1.1) fun c_9 =>
  bif (((m7.1.1==c_9.2.1.1.1)&&((m7.1.2==c_9.2.1.1.2)&&true))&&true) then oB (zY.sh F rate7) fun c_10 =>
   oB (z6.sh F c_9.2.1 c_10.1.1 c_9.1.1) fun c_11 =>
   bif (((c_9.2.1.1.1==c_11.2.1.1.1)&&((c_9.2.1.1.2==c_11.2.1.1.2)&&true))&&true) then oB (ya.sh F c_11.2.1 c_11.1.1 ways7) fun c_12 =>
    bif (((c_11.2.1.1.1==c_12.2.1.1.1)&&((c_11.2.1.1.2==c_12.2.1.1.2)&&true))&&true) then oB (z6.sh F c_12.2.1 c_9.2.1.1 c_12.1.1) fun c_13 =>
     bif (((c_12.2.1.1.1==c_13.2.1.1.1)&&((c_12.2.1.1.2==c_13.2.1.1.2)&&true))&&true) then some ((c_13.1.1,()),(c_13.2.1,()))
     else none
    else none
   else none
  else none
 else none
theorem XO {v:Int} (h:0<=v):(inR v=true/\v<170141183460469231731687303715884105728)\/(inR v=false/\170141183460469231731687303715884105728<=v):=by
 rcases Int.lt_or_le v 170141183460469231731687303715884105728 with h' | h'
 ·exact .inl ⟨by rw[zP]; omega,h'⟩
 ·exact .inr ⟨by rw[tQ]; omega,h'⟩
theorem Rh (F:Nat) (hF:64<F) {u x:Int} (hu:1<=u) (hu2:u<=1000000000000000000000000) (hx:0<=x) (hx2:x<=BND) {l:List zL.T} (hl:qs l=true) :
  ∃w o,zt.sh F (mk u,false) (mk x) l=some ((w,()),((mk u,o),()))/\wfW w/\0<=qn u x l/\((o=true/\BND<qn u x l)\/(o=false/\w=mk (qn u x l)/\qn u x l<170141183460469231731687303715884105728)):=by
 obtain ⟨l1,l2,l3⟩:=ud hl;have hBND:BND=1329227995784915872903807060280344576:=rfl;have hlast:=tN l (-1) (by omega) l3;have hrate:=Y9 l 0 (-1) (by omega) (by omega) l3;have hways:=uX l (-1) (by omega) l3;have hX:zt.sh F (mk u,false) (mk x) l=Qq F l (wC 0 l) (mk u,false) (mk x) (mk (0+vc l)):=by
  refine Eq.trans (zt.l3.rg_eq F _ l _ rfl (by omega) l 0 F l 0 (mk u,false) (mk x) (0,0) (0,0) (by simp) (by omega)) ?_;exact X6 F (Qq F) l _ (mk u) (mk x) (0,0) l2 l 0 0 0 (-1) (by simp) (by omega) l3 (by omega) (by omega)
 rw[hX];unfold Qq;rw[yV (n:=(l.length:Int)-1) (by omega) (by omega),show ((l.length:Int)-1)=((l.length-1:Nat):Int) by omega,xi (by omega),Int.toNat_natCast,show (get zL l (l.length-1)).1=wy l from Tw l l1];simp only[cond_true,Int.zero_add];unfold qn;generalize wy l=lf at*;generalize wC 0 l=rt at*;generalize vc l=ws at*;have iu:inR u=true:=by rw[zP]; omega
 have iws:inR ws=true:=by rw[zP]; omega
 have iR:inR (x+lf)=true:=by rw[zP]; omega
 rw[ve F (by omega) (by omega)];simp only[zr];rw[VF F _ _ (xk (by rw[zP]; omega)) (xk (by rw[zP]; omega))];simp only[zr,y9];rw[ve F (v:=rt) (by omega) (by omega),(x8 iR).1,(x8 iR).2];simp only[zr,beq_self_eq_true,Bool.and_true,Bool.or_false,cond_true];rw[ZZ F _ _ (xk (by rw[zP]; omega)) (xk iR)];simp only[zr,y9,beq_self_eq_true,Bool.and_true,cond_true,Bool.false_or];have hp0:0<=rt*(x+lf):=Int.mul_nonneg hrate.1 (by omega);have hs0:0<=rt*(x+lf)+ws:=by omega
 have hg:=Qy hu hs0;generalize rt*(x+lf)=p at*;rw[VF F _ _ (Vz p) (xk iws)];simp only[zr,beq_self_eq_true,Bool.and_true,cond_true];rw[ZZ F _ _ (xk iu) (Vz _)];simp only[zr,beq_self_eq_true,Bool.and_true,cond_true,y9];refine ⟨_,_,rfl,Vz _,by omega,?_⟩;rcases XO hp0 with ⟨i1,b1⟩ | ⟨i1,b1⟩
 ·rw[(x8 i1).1,(x8 i1).2,y9]
  rcases XO hs0 with ⟨i2,b2⟩ | ⟨i2,b2⟩
  ·rw[(x8 i2).1,(x8 i2).2,y9]
   rcases XO (v:=u*(p+ws)) (by omega) with ⟨i3,b3⟩ | ⟨i3,b3⟩
   ·rw[(x8 i3).1,(x8 i3).2]
    exact .inr ⟨rfl,rfl,b3⟩
   ·rw[Y7 i3]
    exact .inl ⟨by simp,by omega⟩
  ·rw[Y7 i2]
   exact .inl ⟨by simp,by omega⟩
 ·rw[Y7 i1]
  exact .inl ⟨by simp,by omega⟩
def wb (l:List Int):Int:=l.sum
def yM (u:Int) (D:List yv.T) (n:zb.T) (vs:List Int):Int :=
 bif nK n==1 then nN n else bif nK n==2 then nN n*u else bif nK n==3 then 1099511627776
 else bif nK n==4 then v6 1099511627776 (dS (D.getD (nN n).toNat (ByteArray.empty,0)))
 else bif nK n==8 then vs.getD 0 0*vs.getD 1 0
 else bif nK n==13||nK n==14 then qn u (vs.getD 0 0) (nT n)
 else bif nK n==15 then vs.getD 0 0
 else bif nK n==11||(nK n==12||nK n==16) then wb vs+nN n
 else wb vs
def wX (n:zb.T) (v:Int):Int:=bif nK n==15 then v*10000 else v
def mag (u:Int) (D:List yv.T):Tree->Int:=Tree.fold (yM u D)
theorem uq (u:Int) (D:List yv.T) (n:zb.T) (ks:List Tree):mag u D (.nd n ks)=yM u D n (ks.map (mag u D)):=Tree.fold_nd _ n ks
def XJ (u:Int) (D:List yv.T) (t:Tree):Int:=bif decide (wX t.root (mag u D t)>BND) then 90 else 0
theorem UE:∀(l pre:List yv.T),dE pre l=0->∀d∈l,1<=dS d/\dS d<=1000000000000
 | [],pre,h,d,hd=>by simp at hd
 | x::r,pre,h,d,hd=>by
  simp only[dE] at h;cases h1:XF x.1.data.toList with
  | false=>rw[h1] at h; exact absurd (show (61:Int)=0 from h) (by decide)
  | true =>
  rw[h1] at h;cases h2:pre.any (fun e=>Zw e.1 x.1) with
  | true=>rw[h2] at h; exact absurd (show (61:Int)=0 from h) (by decide)
  | false =>
  rw[h2] at h;cases h3:decide (dS x<1) with
  | true=>rw[h3] at h; exact absurd (show (50:Int)=0 from h) (by decide)
  | false =>
  rw[h3] at h;cases h4:decide (dS x>1000000000000) with
  | true=>rw[h4] at h; exact absurd (show (50:Int)=0 from h) (by decide)
  | false =>
  rw[h4] at h;have h3:=of_decide_eq_false h3;have h4:=of_decide_eq_false h4;rcases List.mem_cons.1 hd with rfl | hd
  ·exact ⟨by omega,by omega⟩
  ·exact UE r _ h d hd
theorem za7:∀(l:List Int),Ql (l.map mk)=wb l
 | []=>rfl
 | x::r=>by
  have:=za7 r;simp only[Ql,wb,List.map_cons,List.sum_cons,y9] at*;rw[this]
theorem Sd {b:Int}:∀(l:List Int),(∀v∈l,0<=v/\v<=b)->0<=wb l/\wb l<=l.length*b
 | [],h=>by simp[wb]
 | x::r,h=>by
  have ih:=Sd r (fun v hv=>h v (by simp[hv]));have hx:=h x (by simp);simp only[wb,List.sum_cons,List.length_cons] at*;push_cast;rw[Int.add_mul];omega
theorem Z3 {b:Int} {l:List Int} (h:∀v∈l,0<=v/\v<=b) {i:Nat} (hi:i<l.length):0<=l.getD i 0/\l.getD i 0<=b:=by
 rw[List.getD_eq_getElem?_getD,List.getElem?_eq_getElem hi];exact h _ (List.getElem_mem _)
theorem XQ {l:List Int} {i:Nat} (hi:i<l.length):get zd (l.map mk) i=mk (l.getD i 0):=by
 unfold get;rw[List.getD_eq_getElem?_getD,List.getD_eq_getElem?_getD,List.getElem?_map,List.getElem?_eq_getElem hi];rfl
theorem R9 {s:Int} (h1:1<=s):0<=v6 1099511627776 s/\v6 1099511627776 s<=1099511627777:=by
 have hq1:0<=1099511627776/s:=Int.ediv_nonneg (by omega) (by omega);have hq2:1099511627776/s<=1099511627776:=Int.ediv_le_self _ (by omega);unfold v6;split<;>omega
def NodeR (u:Int) (D:List yv.T) (n:zb.T) (vs:List Int) (r:Option zw.sg.R):Prop :=
 ∃w o,r=some ((w,()),((mk u,o),()))/\wfW w/\0<=yM u D n vs/\((o=true/\BND<wX n (yM u D n vs))\/(o=false/\w=mk (yM u D n vs)/\wX n (yM u D n vs)<170141183460469231731687303715884105728))
theorem NodeR.of {u:Int} {D:List yv.T} {n:zb.T} {vs:List Int} {v:Int} (hm:yM u D n vs=v) (hf:(nK n==15)=false) (h0:0<=v) {r:Option zw.sg.R} (o:Bool)
  (hr:r=some ((vO v,()),((mk u,o||vF v != 0),()))) (ho:o=false):NodeR u D n vs r:=by
 subst ho;refine ⟨_,_,hr,Vz _,by rw[hm]; exact h0,?_⟩;have hBND:BND=1329227995784915872903807060280344576:=rfl;unfold wX;rw[hm,hf];simp only[cond_false,Bool.false_or];rcases XO h0 with ⟨i,b⟩ | ⟨i,b⟩
 ·rw[(x8 i).1,(x8 i).2]; exact .inr ⟨rfl,rfl,b⟩
 ·rw[Y7 i]; exact .inl ⟨rfl,by omega⟩
theorem ZU:BND=1329227995784915872903807060280344576:=rfl
theorem j18_eq (F:Nat) (hF:64<F) {u:Int} {n:zb.T} {vs:List Int} (hv:∀v∈vs,0<=v/\v<=BND) (hl:vs.length<=16) (hN:0<=nN n) (hN2:nN n<=1000000000000) :
  zw.j18 F (fun m r=>(some ((r,()),(m,())):Option zw.sg.R)) (vs.map mk) (mk u,false) n (0,0) =
   some ((mk (bif nK n==11||(nK n==12||nK n==16) then wb vs+nN n else wb vs),()),((mk u,false),())):=by
 have hs:=Sd vs hv;have hsb:wb vs<=21267647932558653966460912964485513216:=by
  have:(vs.length:Int)*BND<=16*BND:=Int.mul_le_mul_of_nonneg_right (by omega) (by rw[ZU]; omega);rw[ZU] at this hs;omega
 have i1:inR (wb vs)=true:=by rw[zP]; omega
 have i2:inR (wb vs+nN n)=true:=by rw[zP]; omega
 unfold zw.j18;rw[wsum_eq F (by
  intro x hx;obtain ⟨v,hv',rfl⟩:=List.mem_map.1 hx;have:=hv v hv';rw[ZU] at this;exact xk (by rw[zP]; omega)) (by simp; omega) (by simp; omega)]
 simp only[zr,za7];rw[VH,(x8 i1).1,(x8 i1).2];simp only[zr];rw[ve F (v:=nN n) (by omega) (by omega)];simp only[zr,Bool.or_false];rw[VF F _ _ (xk i1) (xk (by rw[zP]; omega))];simp only[zr,y9];rw[(x8 i2).1,(x8 i2).2];cases (nK n==11)<;>cases (nK n==12)<;>cases (nK n==16)<;>rfl
theorem VC {n:zb.T} {dims:Nat} (hd:dims<=4) (h:nN n<=Yo n dims) (hg:tS n=true):nN n<=1000000000000:=by
 rcases uE hg with h' | h' | h' | h' | h' | h' | h' | h' | h' | h' | h' | h' | h' | h' | h' | h'<;>rw[uD h'] at h
 ·exact h
 ·exact h
 ·have h:nN n<=(dims:Int)-1:=h; omega
 ·have h:nN n<=(dims:Int)-1:=h; omega
 ·have h:nN n<=0:=h; omega
 ·have h:nN n<=0:=h; omega
 ·have h:nN n<=0:=h; omega
 ·have h:nN n<=0:=h; omega
 ·have h:nN n<=0:=h; omega
 ·have h:nN n<=0:=h; omega
 ·exact h
 ·exact h
 ·have h:nN n<=0:=h; omega
 ·have h:nN n<=0:=h; omega
 ·have h:nN n<=10000:=h; omega
 ·exact h
theorem uZ (F:Nat) (hF:64<F) {u:Int} (p:zQ.T) {n:zb.T} {vs:List Int} {D:List yv.T} (hv:∀v∈vs,0<=v/\v<=BND) (hl:vs.length<=16) (hN:0<=nN n) (hN2:nN n<=1000000000000) {k:Int} (h:nK n=k)
  (hk:k=5\/k=6\/k=7\/k=9\/k=10\/k=11\/k=12\/k=16):NodeR u D n vs (zw.sh F (mk u,false) p n (vs.map mk)):=by
 have hj:=j18_eq F hF (u:=u) (n:=n) hv hl hN hN2;have hs:=Sd vs hv;have hsb:wb vs<=21267647932558653966460912964485513216:=by
  have:(vs.length:Int)*BND<=16*BND:=Int.mul_le_mul_of_nonneg_right (by omega) (by rw[ZU]; omega);rw[ZU] at this hs;omega
 have hm:yM u D n vs=bif nK n==11||(nK n==12||nK n==16) then wb vs+nN n else wb vs:=by
  unfold yM;rw[h];rcases hk with rfl | rfl | rfl | rfl | rfl | rfl | rfl | rfl<;>rfl
 have he:zw.sh F (mk u,false) p n (vs.map mk)=zw.j18 F (fun m r=>(some ((r,()),(m,())):Option zw.sg.R)) (vs.map mk) (mk u,false) n (0,0):=by
  unfold zw.sh;have h':n.1=k:=h;rw[h'];rcases hk with rfl | rfl | rfl | rfl | rfl | rfl | rfl | rfl<;>rfl
 have hf:(nK n==15)=false:=by rw[h]; rcases hk with rfl | rfl | rfl | rfl | rfl | rfl | rfl | rfl<;>rfl
 rw[he,hj];have hb:0<=yM u D n vs/\yM u D n vs<170141183460469231731687303715884105728:=by
  rw[hm];cases (nK n==11||(nK n==12||nK n==16))<;>simp only[cond_true,cond_false]<;>omega
 rw[<-hm];refine ⟨_,_,rfl,xk (by rw[zP]; omega),hb.1,.inr ⟨rfl,rfl,?_⟩⟩;unfold wX;rw[hf];exact hb.2
theorem zce (F:Nat) (hF:64<F) {u:Int} (hu:1<=u) (hu2:u<=1000000000000000000000000) {p:zQ.T} (hD:dE [] p.2.1=0) (hd4:p.2.1.length<=4) {n:zb.T} {pile:Nat} (hn:wq p.2.1.length n pile=0)
  {vs:List Int} (hl:vs.length=ar n) (hv:∀v∈vs,0<=v/\v<=BND):NodeR u p.2.1 n vs (zw.sh F (mk u,false) p n (vs.map mk)):=by
 obtain ⟨g1,g2,g3,g4,g5,g6,g7,g8⟩:=xB hn;have ha:=zaO g1 g4;have hN2:=VC hd4 g3 g1;have iu:inR u=true:=by rw[zP]; omega
 have iN:inR (nN n)=true:=by rw[zP]; omega
 rcases uE g1 with h | h | h | h | h | h | h | h | h | h | h | h | h | h | h | h
 ·refine NodeR.of (v:=nN n) (by unfold yM; rw[h]; rfl) (by rw[h]; rfl) g2 false ?_ rfl
  unfold zw.sh;have h':n.1=1:=h;rw[h',ve F (v:=nN n) (by omega) (by omega),(x8 iN).1,(x8 iN).2];rfl
 ·refine NodeR.of (v:=nN n*u) (by unfold yM; rw[h]; rfl) (by rw[h]; rfl) (Int.mul_nonneg g2 (by omega)) false ?_ rfl
  unfold zw.sh;have h':n.1=2:=h;rw[h',ve F (v:=nN n) (by omega) (by omega)];have e:=ZZ F (mk u) false (xk iN) (xk iu);rw[y9,y9] at e;exact (congrArg (fun x=>oB x fun c_3=>(some ((c_3.1.1,()),(c_3.2.1,())):Option zw.sg.R)) e).trans rfl
 ·refine NodeR.of (v:=1099511627776) (by unfold yM; rw[h]; rfl) (by rw[h]; rfl) (by decide) false ?_ rfl
  unfold zw.sh;have h':n.1=3:=h;rw[h',ve F (v:=1099511627776) (by omega) (by omega)];rfl
 ·have hNd:nN n<=(p.2.1.length:Int)-1:=by have:=g3; rw[uD h] at this; exact this
  have hi:(nN n).toNat<p.2.1.length:=by omega
  have hsz:1<=dS (p.2.1.getD (nN n).toNat (ByteArray.empty,0))/\dS (p.2.1.getD (nN n).toNat (ByteArray.empty,0))<=1000000000000:=by
   rw[List.getD_eq_getElem?_getD,List.getElem?_eq_getElem hi];exact UE p.2.1 [] hD _ (List.getElem_mem _)
  have hc:=R9 hsz.1;have ic:inR (v6 1099511627776 (dS (p.2.1.getD (nN n).toNat (ByteArray.empty,0))))=true:=by rw[zP]; omega
  refine NodeR.of (v:=v6 1099511627776 (dS (p.2.1.getD (nN n).toNat (ByteArray.empty,0)))) (by unfold yM; rw[h]; rfl) (by rw[h]; rfl) hc.1 false ?_ rfl;unfold zw.sh;have h':n.1=4:=h;have hid:idx (nN n) p.2.1.length=true:=YK (by omega) (by omega);have hof:=ve F (v:=dS (p.2.1.getD (nN n).toNat (ByteArray.empty,0))) (by omega) (by omega);have e:=zcM F hsz.1 hsz.2;have e2:=VH F (mk u) false (mk (v6 1099511627776 (dS (p.2.1.getD (nN n).toNat (ByteArray.empty,0))))) 0;rw[h',ve F (v:=1099511627776) (by omega) (by omega),show idx n.2.1 p.2.1.length=true from hid,show zY.sh F (get yv p.2.1 n.2.1.toNat).2=_ from hof];rw[(x8 ic).1,(x8 ic).2];show (oB (xg.sh F (mk 1099511627776) (mk _) 1) fun c_7=>oB (z8.sh F (mk u,false) c_7.1.1 c_7.1.2.1) fun c_8=>some ((c_8.1.1,()),(c_8.2.1,())))=_;rw[e];simp only[zr];rw[e2];rfl
 ·exact uZ F hF p hv (by omega) g2 hN2 h (by decide)
 ·exact uZ F hF p hv (by omega) g2 hN2 h (by decide)
 ·exact uZ F hF p hv (by omega) g2 hN2 h (by decide)
 ·have ea:ar n=2:=by rw[yp h]; rfl
  have b0:=Z3 hv (i:=0) (by omega);have b1:=Z3 hv (i:=1) (by omega);rw[ZU] at b0 b1;refine NodeR.of (v:=vs.getD 0 0*vs.getD 1 0) (by unfold yM; rw[h]; rfl) (by rw[h]; rfl) (Int.mul_nonneg b0.1 b1.1) false ?_ rfl;unfold zw.sh;have h':n.1=8:=h;have e:=ZZ F (mk u) false (xk (v:=vs.getD 0 0) (by rw[zP]; omega)) (xk (v:=vs.getD 1 0) (by rw[zP]; omega));rw[y9,y9] at e;rw[h',WK (n:=(vs.map mk).length) (by simp; omega),idx1 (n:=(vs.map mk).length) (by simp; omega),XQ (i:=0) (by omega),XQ (i:=1) (by omega)];exact (congrArg (fun x=>oB x fun c_3=>(some ((c_3.1.1,()),(c_3.2.1,())):Option zw.sg.R)) e).trans rfl
 ·exact uZ F hF p hv (by omega) g2 hN2 h (by decide)
 ·exact uZ F hF p hv (by omega) g2 hN2 h (by decide)
 ·exact uZ F hF p hv (by omega) g2 hN2 h (by decide)
 ·exact uZ F hF p hv (by omega) g2 hN2 h (by decide)
 ·have ea:ar n=1:=by rw[yp h]; rfl
  have b0:=Z3 hv (i:=0) (by omega);have ht:v8 n=true:=by unfold v8 uj; rw[h]; rfl
  obtain ⟨w,o,q1,q2,q3,q4⟩:=Rh F hF hu hu2 b0.1 b0.2 (g8 ht);have hm:yM u p.2.1 n vs=qn u (vs.getD 0 0) (nT n):=by unfold yM; rw[h]; rfl
  have hf:wX n (yM u p.2.1 n vs)=qn u (vs.getD 0 0) (nT n):=by unfold wX; rw[h,hm]; rfl
  refine ⟨w,o,?_,q2,by rw[hm]; exact q3,by rw[hf,hm]; exact q4⟩;unfold zw.sh;have h':n.1=13:=h;rw[h',WK (n:=(vs.map mk).length) (by simp; omega),XQ (i:=0) (by omega)];exact (congrArg (fun x=>oB x fun c_3=>(some ((c_3.1.1,()),(c_3.2.1,())):Option zw.sg.R)) q1).trans rfl
 ·have ea:ar n=1:=by rw[yp h]; rfl
  have b0:=Z3 hv (i:=0) (by omega);have ht:v8 n=true:=by unfold v8 uj; rw[h]; rfl
  obtain ⟨w,o,q1,q2,q3,q4⟩:=Rh F hF hu hu2 b0.1 b0.2 (g8 ht);have hm:yM u p.2.1 n vs=qn u (vs.getD 0 0) (nT n):=by unfold yM; rw[h]; rfl
  have hf:wX n (yM u p.2.1 n vs)=qn u (vs.getD 0 0) (nT n):=by unfold wX; rw[h,hm]; rfl
  refine ⟨w,o,?_,q2,by rw[hm]; exact q3,by rw[hf,hm]; exact q4⟩;unfold zw.sh;have h':n.1=14:=h;rw[h',WK (n:=(vs.map mk).length) (by simp; omega),XQ (i:=0) (by omega)];exact (congrArg (fun x=>oB x fun c_3=>(some ((c_3.1.1,()),(c_3.2.1,())):Option zw.sg.R)) q1).trans rfl
 ·have ea:ar n=1:=by rw[yp h]; rfl
  have b0:=Z3 hv (i:=0) (by omega);rw[ZU] at b0;have hm:yM u p.2.1 n vs=vs.getD 0 0:=by unfold yM; rw[h]; rfl
  have hf:wX n (yM u p.2.1 n vs)=vs.getD 0 0*10000:=by unfold wX; rw[h,hm]; rfl
  have h':n.1=15:=h;have e:=ZZ F (mk u) false (xk (v:=vs.getD 0 0) (by rw[zP]; omega)) (xk (v:=10000) (by rw[zP]; omega));rw[y9,y9] at e;refine ⟨mk (vs.getD 0 0),vF (vs.getD 0 0*10000) != 0,?_,xk (by rw[zP]; omega),by rw[hm]; exact b0.1,?_⟩
  ·unfold zw.sh
   rw[h',WK (n:=(vs.map mk).length) (by simp; omega),XQ (i:=0) (by omega),ve F (v:=10000) (by omega) (by omega)];exact (congrArg (fun x=>oB x fun c_3=>(some ((mk (vs.getD 0 0),()),(c_3.2.1,())):Option zw.sg.R)) e).trans rfl
  ·rw[hf,hm]
   rcases XO (v:=vs.getD 0 0*10000) (by omega) with ⟨i,b⟩ | ⟨i,b⟩
   ·rw[(x8 i).2]; exact .inr ⟨rfl,rfl,b⟩
   ·rw[Y7 i]; exact .inl ⟨rfl,by rw[ZU]; omega⟩
 ·exact uZ F hF p hv (by omega) g2 hN2 h (by decide)
theorem zda (F:Nat) {n:zb.T} {v:Int} (h0:0<=v) (h:wX n v<170141183460469231731687303715884105728):xf.sh F n (mk v)=some ((decide (wX n v>BND),()),()):=by
 have hB:val (72057594037927936,0)=BND:=rfl;have wB:wfW (72057594037927936,0):=by simp[wfW]
 have hc:∀x:Int,decide (tg x BND>0)=decide (x>BND):=by
  intro x;unfold tg;rcases Int.lt_trichotomy x BND with h | h | h
  ·rw[if_pos h,decide_eq_false (by omega),decide_eq_false (by omega)]
  ·rw[if_neg (by omega),if_pos h,decide_eq_false (by omega),decide_eq_false (by omega)]
  ·rw[if_neg (by omega),if_neg (by omega),decide_eq_true (by omega),decide_eq_true (by omega)]
 unfold xf.sh wX at*;cases h15:(nK n==15) with
 | true =>
  rw[h15] at h;simp only[cond_true] at h ⊢;have iv:inR v=true:=by rw[zP]; omega
  have i2:inR (v*10000)=true:=by rw[zP]; omega
  rw[ve F (v:=10000) (by omega) (by omega)];simp only[zr];rw[ZV F (xk iv) (xk (v:=10000) (by rw[zP]; omega))];simp only[zr,y9];rw[(x8 i2).1,WU F (xk i2) wB];simp only[zr,y9,hB,hc]
 | false =>
  rw[h15] at h;simp only[cond_false] at h ⊢;have iv:inR v=true:=by rw[zP]; omega
  rw[WU F (xk iv) wB];simp only[zr,y9,hB,hc]
theorem zbw (F:Nat) {n:zb.T} (hg:tS n=true) (hk:uw n=true):zS.sh F n=some (((ar n:Int),()),()):=by
 have h9:∀k:Int,(nK n=k)->(k=9\/k=10)->(ar n:Int)=nC n:=by
  intro k h hkk;rw[uG h] at hk;have hk:(decide (nC n>=2)&&decide (nC n<=16))=true:=by rcases hkk with rfl | rfl<;>exact hk
  simp at hk;have:ar n=(nC n).toNat:=by rw[yp h]; rcases hkk with rfl | rfl<;>rfl
  omega
 unfold zS.sh;rcases uE hg with h | h | h | h | h | h | h | h | h | h | h | h | h | h | h | h<;>rw[show n.1=_ from h]
 ·rw[yp h]; rfl
 ·rw[yp h]; rfl
 ·rw[yp h]; rfl
 ·rw[yp h]; rfl
 ·rw[yp h]; rfl
 ·rw[yp h]; rfl
 ·rw[yp h]; rfl
 ·rw[yp h]; rfl
 ·rw[h9 9 h (.inl rfl)]; rfl
 ·rw[h9 10 h (.inr rfl)]; rfl
 ·rw[yp h]; rfl
 ·rw[yp h]; rfl
 ·rw[yp h]; rfl
 ·rw[yp h]; rfl
 ·rw[yp h]; rfl
 ·rw[yp h]; rfl
theorem Ry (F:Nat) (hF:64<F) {R:Type} {u:Int} (hu:1<=u) (hu2:u<=1000000000000000000000000) {p:zQ.T} (hD:dE [] p.2.1=0) (hd4:p.2.1.length<=4) (kE:List zd.T->Int->Option R) (kO:List zd.T->Option R) (L:List zb.T) (N:Int):∀(xs:List zb.T) (st:List Tree) (i:Nat) (mags:List zd.T),
  okS p.2.1.length st xs->(yE st).length+xs.length<=2048->mags.length<=(yE st).length->(∀t∈st,0<=mag u p.2.1 t/\mag u p.2.1 t<=BND)->
  zq.l4.rg F kE (fun _ _ _ _ _ _ mags _=>kO mags) L N xs (i:Int) p (mk u,false) mags (st.map fun t=>mk (mag u p.2.1 t)) =
   match wK (XJ u p.2.1) (news st xs) i with
   | some (j,e)=>kE [] (j:Int)
   | none=>kO (mags++(news st xs).map fun t=>mk (mag u p.2.1 t)):=by
 intro xs;induction xs with
 | nil=>intro st i mags h h2 h3 h4; simp[zq.l4.rg,news,wK]
 | cons n xs ih =>
  intro st i mags h h2 h3 h4;obtain ⟨g1,g2,g3,g4,g5,g6,g7,g8⟩:=xB h.1;have hst:=wM st;have hfs:=congrArg List.length (vE st n);simp only[List.length_cons,List.length_append,List.length_nil] at h2 hfs;have hdr:∀t∈st.drop (st.length-ar n),0<=mag u p.2.1 t/\mag u p.2.1 t<=BND:=fun t ht=>h4 t (List.mem_of_mem_drop ht)
  have hmm:mag u p.2.1 (wa st n)=yM u p.2.1 n ((st.drop (st.length-ar n)).map (mag u p.2.1)):=by unfold wa; rw[uq]
  have hnode:=zce F hF hu hu2 hD hd4 h.1 (vs:=(st.drop (st.length-ar n)).map (mag u p.2.1)) (by simp; omega) (by
   intro v hv;obtain ⟨t,ht,rfl⟩:=List.mem_map.1 hv;exact hdr t ht)
  obtain ⟨w,o,q1,q2,q3,q4⟩:=hnode;rw[<-hmm] at q3 q4;have hl:(st.map fun t=>mk (mag u p.2.1 t)).length=st.length:=by simp
  have hE:XJ u p.2.1 (wa st n)=bif decide (wX n (mag u p.2.1 (wa st n))>BND) then 90 else 0:=rfl
  have hdm:(st.map fun t=>mk (mag u p.2.1 t)).drop (st.length-ar n)=((st.drop (st.length-ar n)).map (mag u p.2.1)).map mk:=by
   rw[<-List.map_drop,List.map_map]; rfl
  have ew:=Zs g7 (by omega);have hb1:=Z9 (show st.length-ar n<=st.length by omega);have hb2:=qJ (show st.length-ar n<=st.length by omega);have htk:(st.map fun t=>mk (mag u p.2.1 t)).take st.length=st.map fun t=>mk (mag u p.2.1 t):=List.take_of_length_le (by omega)
  have hbl1:∀y,Nat.ble (mags.length+([y]:List zd.T).length) xv=true:=fun y=>vU (by simp; omega)
  have hbl2:∀y,Nat.ble (st.length-ar n+([y]:List zd.T).length) xv=true:=fun y=>vU (by simp; omega)
  simp only[zq.l4.rg];rw[zbw F g1 g4];simp only[zr,hl,ew,hb1,hb2,htk,cond_true,hdm];rw[q1];simp only[zr,news,wK,hE];rcases q4 with ⟨rfl,hbig⟩ | ⟨rfl,rfl,hsm⟩
  ·rw[decide_eq_true hbig]
   rfl
  ·rw[zda F q3 hsm]
   simp only[zr,cond_false];cases hfar:decide (wX n (mag u p.2.1 (wa st n))>BND) with
   | true=>rfl
   | false =>
    have hfar:=of_decide_eq_false hfar;have hle:mag u p.2.1 (wa st n)<=BND:=by
     unfold wX at hfar;cases h15:(nK n==15) with
     | true=>rw[h15] at hfar; simp only[cond_true] at hfar; omega
     | false=>rw[h15] at hfar; simp only[cond_false] at hfar; omega
    have hstep:(wi st n).map (fun t=>mk (mag u p.2.1 t))=(st.map fun t=>mk (mag u p.2.1 t)).take (st.length-ar n)++[mk (mag u p.2.1 (wa st n))]:=by
     unfold wi; simp[List.map_take]
    have IH:=ih (wi st n) (i+1) (mags++[mk (mag u p.2.1 (wa st n))]) h.2 (by omega) (by simp; omega) (by
     intro t ht;rcases List.mem_append.1 ht with ht | ht
     ·exact h4 t (List.mem_of_mem_take ht)
     ·rw[List.mem_singleton.1 ht]; exact ⟨q3,hle⟩)
    rw[hstep,xz] at IH;simp only[hbl1,hbl2,cond_true,cond_false];refine IH.trans ?_;simp only[List.append_assoc,List.singleton_append,List.map_cons];rfl
def tk (u:Int) (D:List yv.T) (t:Tree):List zd.T×Int :=
 match wK (XJ u D) t.subs 0 with
 | some (j,e)=>([],(j:Int))
 | none=>(t.subs.map fun t=>mk (mag u D t),-1)
theorem W8 (F:Nat) (hF:4096<F) {u:Int} (hu:1<=u) (hu2:u<=1000000000000000000000000) {p:zQ.T} {t:Tree} (h:Good p t):zq.sh F p (mk u)=some (((tk u p.2.1 t).1,(tk u p.2.1 t).2,()),()):=by
 unfold zq.sh;have hl:=h.len;have hh:=uQ h.head;refine Eq.trans (zq.l4.rg_eq F _ _ p.2.2.2 _ rfl (by omega) p.2.2.2 0 F _ _ _ _ (by simp) (by omega)) ?_;refine (Ry F (by omega) hu hu2 hh.2.2.1 hh.2.1 (fun r44 r54=>(some ((r44,r54,()),()):Option zq.sg.R)) (fun mags=>zq.j13 F (fun r46 r56=>some ((r46,r56,()),())) mags) p.2.2.2 _ p.2.2.2 [] 0 [] h.ok (by simp[yE]; omega) (by simp) (by simp)).trans ?_;rw[h.subs];unfold tk;cases wK (XJ u p.2.1) t.subs 0 with
 | some x=>rfl
 | none=>rfl
def wn (t:Tree):Int:=10000^(deep t).toNat
theorem YY {t:Tree} (h:deep t<=6):1<=wn t/\wn t<=1000000000000000000000000:=by
 have:=(uK t).1;unfold wn;have:(deep t).toNat=0\/(deep t).toNat=1\/(deep t).toNat=2\/(deep t).toNat=3\/(deep t).toNat=4\/(deep t).toNat=5\/(deep t).toNat=6:=by omega
 rcases this with h | h | h | h | h | h | h<;>rw[h]<;>decide
def wo (D:List yv.T) (t:Tree):zd.T×Int×Int :=
 bif (uo t).2.2 != 0 then ((0,0),(uo t).2.1,(uo t).2.2)
 else bif decide (deep t>6) then ((0,0),(t.size:Int)-1,90)
 else bif decide ((tk (wn t) D t).2>=0) then ((0,0),(tk (wn t) D t).2,90)
 else (mk (wn t),0,0)
def Zi (D:List yv.T) (t:Tree):List zd.T×Int×Int :=
 bif (wo D t).2.2 != 0 then ([],(wo D t).2.1,(wo D t).2.2)
 else ((tk (wn t) D t).1,0,0)
theorem vN:4096<FU:=by decide
theorem zaP {p:zQ.T} {t:Tree} (h:Good p t):y7.sh FU p=some (((wo p.2.1 t).1,(wo p.2.1 t).2.1,(wo p.2.1 t).2.2,()),()):=by
 have hl:=h.len;have hs:t.size=p.2.2.2.length:=by rw[Tree.size,h.flat]
 have hp:=Y1 t;unfold y7.sh wo;rw[zdb FU vN h];simp only[zr];cases h1:((uo t).2.2 != 0) with
 | true=>rfl
 | false =>
  simp only[cond_false];rw[UP FU vN h];simp only[zr];rw[<-hs,yV (n:=(t.size:Int)-1) (by omega) (by omega)];cases h2:decide (deep t>6) with
  | true=>rfl
  | false =>
   have h2:=of_decide_eq_false h2;have hd:=(uK t).1;have hu:=YY (t:=t) (by omega);simp only[cond_false];rw[zbW hd (by omega)];simp only[zr];have:=W8 FU vN hu.1 hu.2 h;unfold wn at*;rw[this];simp only[zr];cases decide ((tk (10000^(deep t).toNat) p.2.1 t).2>=0)<;>rfl
theorem Qg {p:zQ.T} (h:(wg p).2≠0):y7.sh FU p=some (((0,0),(wg p).1,(wg p).2,()),()):=by
 unfold y7.sh;rw[zby FU vN h];simp only[zr];rw[show ((wg p).2 != 0)=true by simpa using h];rfl
theorem S8 {D:List yv.T} {t:Tree} (h:(wo D t).2.2=0):(uo t).2.2=0/\deep t<=6/\(tk (wn t) D t).2<0/\wo D t=(mk (wn t),0,0):=by
 unfold wo at*;cases h1:((uo t).2.2 != 0) with
 | true =>
  rw[h1] at h;have h:(uo t).2.2=0:=h;rw[h] at h1;exact absurd h1 (by decide)
 | false =>
  rw[h1] at h;cases h2:decide (deep t>6) with
  | true=>rw[h2] at h; exact absurd (show (90:Int)=0 from h) (by decide)
  | false =>
   rw[h2] at h;cases h3:decide ((tk (wn t) D t).2>=0) with
   | true=>rw[h3] at h; exact absurd (show (90:Int)=0 from h) (by decide)
   | false =>
    have h2:=of_decide_eq_false h2;have h3:=of_decide_eq_false h3;exact ⟨by simpa using h1,by omega,by omega,rfl⟩
theorem zd8:yt.sh FU=some ((true,()),()):=by kernel_rfl
theorem YO {E:Tree->Int}:∀{l:List Tree} (i:Nat),(∀t∈l,E t=0)->wK E l i=none
 | [],i,h=>rfl
 | t::r,i,h=>by
  simp only[wK,h t (by simp)];exact YO (i+1) (fun x hx=>h x (by simp[hx]))
theorem YN {E:Tree->Int}:∀{l:List Tree} {i:Nat},wK E l i=none->∀t∈l,E t=0
 | [],i,h,t,ht=>by simp at ht
 | x::r,i,h,t,ht=>by
  simp only[wK] at h;cases hx:(E x != 0) with
  | true=>rw[hx] at h; cases h
  | false =>
   rw[hx] at h;rcases List.mem_cons.1 ht with rfl | ht
   ·simpa using hx
   ·exact YN (i:=i+1) h t ht
theorem zci {u:Int} {D:List yv.T} {t:Tree} (h:(tk u D t).2<0):wK (XJ u D) t.subs 0=none/\tk u D t=(t.subs.map fun t=>mk (mag u D t),-1):=by
 unfold tk at*;cases hf:wK (XJ u D) t.subs 0 with
 | some x=>rw[hf] at h; obtain ⟨j,e⟩:=x; exact absurd h (by simp only; omega)
 | none=>exact ⟨rfl,rfl⟩
theorem U3 {t:Tree} (h:(uo t).2.2=0):wK tyE t.subs 0=none/\ty t=1:=by
 unfold uo at h;cases hf:wK tyE t.subs 0 with
 | some x =>
  rw[hf] at h;have hne:∀(l:List Tree) (i:Nat),wK tyE l i=some x->x.2≠0:=by
   intro l;induction l with
   | nil=>intro i h; cases h
   | cons t r ih =>
    intro i h;simp only[wK] at h;cases he:(tyE t != 0) with
    | true =>
     rw[he] at h;simp only[cond_true,Option.some.injEq] at h;rw[<-h];simpa using he
    | false=>rw[he] at h; exact ih _ h
  exact absurd h (hne _ _ hf)
 | none =>
  rw[hf] at h;refine ⟨rfl,?_⟩;cases ht:(ty t != 1) with
  | true=>rw[ht] at h; exact absurd (show (80:Int)=0 from h) (by decide)
  | false=>simpa using ht
theorem zaT {t:Tree} (h1:wK tyE t.subs 0=none) (h2:ty t=1):uo t=(t.subs.map ty,0,0):=by
 unfold uo;rw[h1,h2];rfl
theorem zbI {D:List yv.T} {t:Tree} (h1:wK tyE t.subs 0=none) (h2:ty t=1) (h3:deep t<=6):wo D t=bif decide ((tk (wn t) D t).2>=0) then ((0,0),(tk (wn t) D t).2,90) else (mk (wn t),0,0):=by
 unfold wo;rw[zaT h1 h2,decide_eq_false (show ¬deep t>6 by omega)];rfl
theorem zcY {x s:Int} (h0:0<=x) (h:x<=1099511627776) (h1:1<=s):0<=v6 x s/\v6 x s<=v6 1099511627776 s:=by
 have hq1:0<=x/s:=Int.ediv_nonneg (by omega) (by omega);have e1:=Int.mul_ediv_add_emod x s;have e2:=Int.mul_ediv_add_emod 1099511627776 s;have r1:=Int.emod_nonneg x (show s≠0 by omega);have r2:=Int.emod_nonneg 1099511627776 (show s≠0 by omega);have hm:x/s<=1099511627776/s:=Int.ediv_le_ediv (by omega) h;unfold v6;refine ⟨by split<;>omega,?_⟩;split
 ·split<;>omega
 ·split
  ·rename_i a b
   rcases Int.lt_or_eq_of_le hm with hlt | heq
   ·omega
   ·rw[heq] at e1; omega
  ·omega
theorem Mags_eq {p:zQ.T} {t:Tree} (h:Good p t):xa.sh FU p=some (((Zi p.2.1 t).1,(Zi p.2.1 t).2.1,(Zi p.2.1 t).2.2,()),()):=by
 unfold xa.sh Zi;rw[zaP h];simp only[zr];cases h1:((wo p.2.1 t).2.2 != 0) with
 | true=>rfl
 | false =>
  have h1:(wo p.2.1 t).2.2=0:=by simpa using h1
  obtain ⟨a1,a2,a3,a4⟩:=S8 h1;have hu:=YY (t:=t) (by omega);simp only[cond_false];rw[a4];simp only;rw[W8 FU vN hu.1 hu.2 h];simp only[zr];rw[decide_eq_false (show ¬(tk (wn t) p.2.1 t).2>=0 by omega)];rfl
theorem zdc {p:zQ.T} (h:(wg p).2≠0):xa.sh FU p=some (([],(wg p).1,(wg p).2,()),()):=by
 unfold xa.sh;rw[Qg h];simp only[zr];rw[show ((wg p).2 != 0)=true by simpa using h];rfl
def Tv (x:Int) (L:Nat):Prop:=1<=L/\(2:Int)^(L-1)<=x/\x<2^L
theorem Uf {x:Int} {L:Nat} (m:Nat) (h:Tv (x/2^m) L):Tv x (L+m):=by
 obtain ⟨h1,h2,h3⟩:=h;have hp:(0:Int)<2^m:=Int.pow_pos (by decide);refine ⟨by omega,?_,?_⟩
 ·rw[show L+m-1=(L-1)+m by omega,Int.pow_add]
  have:=Int.mul_le_of_le_ediv hp h2;exact this
 ·rw[Int.pow_add]
  exact Int.lt_mul_of_ediv_lt hp h3
theorem len_tab:∃tab:ByteArray,(∀(R:Type) (F:Nat) (k:Int->Option R) (x n:Int),zI.j7 F k x n=bif decide (x>=256) then bif idx (IntKind.u8.wrap (x.fdiv (2^(min (8:Int).toNat IntKind.u64.bits)))) tab.size then k (i64.wrap ((i64.wrap (n+8))+(i64.wrap (bt tab (IntKind.u8.wrap (x.fdiv (2^(min (8:Int).toNat IntKind.u64.bits)))))))) else none
  else bif idx (IntKind.u8.wrap x) tab.size then k (i64.wrap (n+(i64.wrap (bt tab (IntKind.u8.wrap x))))) else none)/\tab.size=256 /\
  (List.range 256).all (fun v=>Nat.beq v 0||(decide (1<=(bt tab (v:Int)).toNat)&&(decide (bt tab (v:Int)<=8)&&(decide ((2:Int)^((bt tab (v:Int)).toNat-1)<=(v:Int))&&decide ((v:Int)<2^(bt tab (v:Int)).toNat)))))=true :=
 ⟨_,fun _ _ _ _ _=>rfl,rfl,by kernel_rfl⟩
theorem zau {n:Int} {len:Nat} (h1:0<=n) (h2:n<(len:Int)):idx n len=true:=by
 unfold idx; rw[decide_eq_true h1,decide_eq_true h2]; rfl
theorem za4 {n:Int} (h1:0<=n) (h2:n<256):IntKind.u8.wrap n=n:=by
 show (if (false&&decide (n%256>=128))=true then n%256-256 else n%256)=_;simp; omega
theorem zcm {R:Type} (F:Nat) (k:Int->Option R) {x n:Int} (h1:1<=x) (h2:x<65536) (n1:0<=n) (n2:n<=1000):∃L:Nat,zI.j7 F k x n=k (n+(L:Int))/\L<=16/\Tv x L:=by
 obtain ⟨tab,t1,t2,t3⟩:=len_tab;have small:∀v:Int,1<=v->v<256->∃L:Nat,bt tab v=(L:Int)/\L<=8/\Tv v L:=by
  intro v v1 v2;have:=List.all_eq_true.1 t3 v.toNat (by simp; omega);rw[show ((v.toNat:Nat):Int)=v by omega] at this;have hb:Nat.beq v.toNat 0=false:=by
   cases hv:v.toNat with
   | zero=>omega
   | succ m=>rfl
  rw[hb] at this;simp only[Bool.false_or,Bool.and_eq_true,decide_eq_true_eq] at this;obtain ⟨a,b,c,d⟩:=this;exact ⟨(bt tab v).toNat,by omega,by omega,a,c,d⟩
 rw[t1,t2];have e8:(2^(min (8:Int).toNat IntKind.u64.bits):Int)=256:=by decide
 rw[e8,Int.fdiv_eq_ediv_of_nonneg _ (by omega)];by_cases h:x>=256
 ·obtain ⟨L,q1,q2,q3⟩:=small (x/256) (by omega) (by omega)
  have q4:=Uf 8 (x:=x) (L:=L) q3;rw[decide_eq_true h,za4 (n:=x/256) (by omega) (by omega),zau (n:=x/256) (by omega) (by omega),q1];simp only[cond_true];rw[yV (n:=n+8) (by omega) (by omega),yV (n:=(L:Int)) (by omega) (by omega),yV (by omega) (by omega)];exact ⟨L+8,by congr 1; omega,by omega,q4⟩
 ·obtain ⟨L,q1,q2,q3⟩:=small x (by omega) (by omega)
  rw[decide_eq_false h,za4 (n:=x) (by omega) (by omega),zau (n:=x) (by omega) (by omega),q1];simp only[cond_true,cond_false];rw[yV (n:=(L:Int)) (by omega) (by omega),yV (by omega) (by omega)];exact ⟨L,rfl,by omega,q3⟩
theorem zcn {R:Type} (F:Nat) (k:Int->Option R) {x n:Int} (h1:1<=x) (h2:x<4294967296) (n1:0<=n) (n2:n<=100):∃L:Nat,zI.j4 F k x n=k (n+(L:Int))/\L<=32/\Tv x L:=by
 unfold zI.j4;have e:(2^(min (16:Int).toNat IntKind.u64.bits):Int)=65536:=by decide
 rw[e,Int.fdiv_eq_ediv_of_nonneg _ (by omega)];by_cases h:x>=65536
 ·rw[decide_eq_true h,yV (n:=n+16) (by omega) (by omega)]
  obtain ⟨L,q1,q2,q3⟩:=zcm F (fun n1=>k n1) (x:=x/65536) (n:=n+16) (by omega) (by omega) (by omega) (by omega);exact ⟨L+16,by simp only[cond_true]; rw[q1]; congr 1; omega,by omega,Uf 16 q3⟩
 ·rw[decide_eq_false h]
  obtain ⟨L,q1,q2,q3⟩:=zcm F (fun n1=>k n1) (x:=x) (n:=n) (by omega) (by omega) (by omega) (by omega);exact ⟨L,by simp only[cond_false]; rw[q1],by omega,q3⟩
theorem zco (F:Nat) {x:Int} (h1:1<=x) (h2:x<18446744073709551616):∃L:Nat,zI.sh F x=some (((L:Int),()),())/\L<=64/\Tv x L:=by
 unfold zI.sh;have e:(2^(min (32:Int).toNat IntKind.u64.bits):Int)=4294967296:=by decide
 rw[e,Int.fdiv_eq_ediv_of_nonneg _ (by omega)];by_cases h:x>=4294967296
 ·rw[decide_eq_true h]
  obtain ⟨L,q1,q2,q3⟩:=zcn F (fun n3=>(some ((n3,()),()):Option zI.sg.R)) (x:=x/4294967296) (n:=32) (by omega) (by omega) (by omega) (by omega);exact ⟨L+32,by simp only[cond_true]; rw[q1,show (32:Int)+(L:Int)=((L+32:Nat):Int) by omega],by omega,Uf 32 q3⟩
 ·rw[decide_eq_false h]
  obtain ⟨L,q1,q2,q3⟩:=zcn F (fun n3=>(some ((n3,()),()):Option zI.sg.R)) (x:=x) (n:=0) (by omega) (by omega) (by omega) (by omega);exact ⟨L,by simp only[cond_false]; rw[q1,Int.zero_add],by omega,q3⟩
theorem lz_eq (F:Nat) {y:Int} (h1:1<=y) (h2:y<18446744073709551616):∃s:Nat,zT.sh F y=some (((s:Int),()),())/\s<=63/\9223372036854775808<=y*2^s/\y*2^s<18446744073709551616:=by
 obtain ⟨L,q1,q2,q3,q4,q5⟩:=zco F h1 h2;unfold zT.sh;rw[q1];simp only[zr];rw[yV (n:=64-(L:Int)) (by omega) (by omega)];have hp:(0:Int)<=2^(64-L):=Int.le_of_lt (Int.pow_pos (by decide));have hp':(0:Int)<2^(64-L):=Int.pow_pos (by decide);refine ⟨64-L,by rw[show (64:Int)-(L:Int)=((64-L:Nat):Int) by omega],by omega,?_,?_⟩
 ·have:=Int.mul_le_mul_of_nonneg_right q4 hp
  rw[<-Int.pow_add,show L-1+(64-L)=63 by omega] at this;exact this
 ·have:=Int.mul_lt_mul_of_pos_right q5 hp'
  rw[<-Int.pow_add,show L+(64-L)=64 by omega] at this;exact this
structure Guess (y1 y0 u un q qh rh:Int):Prop where
 y1a:2147483648<=y1
 y1b:y1<4294967296
 y0a:0<=y0
 y0b:y0<4294967296
 una:0<=un
 unb:un<4294967296
 ua:0<=u
 ub:u<y1*4294967296+y0
 q0:0<=q
 qle:q*(y1*4294967296+y0)<=u*4294967296+un
 qlt:u*4294967296+un<(q+1)*(y1*4294967296+y0)
 rh0:0<=rh
 rhb:rh<4294967296
 eq:qh*y1+rh=u
 le:q<=qh
 hi:qh<=4294967297
theorem Guess.qh_y {y1 y0 u un q qh rh:Int} (g:Guess y1 y0 u un q qh rh):qh*(y1*4294967296+y0)=(u-rh)*4294967296+qh*y0:=by
 rw[Int.mul_add,<-Int.mul_assoc,<-g.eq];congr 2
 omega
theorem Guess.qsm {y1 y0 u un q qh rh:Int} (g:Guess y1 y0 u un q qh rh):q<4294967296:=by
 have h:=g.qle;have h1:=g.ub;have hy:0<y1*4294967296+y0:=by have:=g.y1a; have:=g.y0a; omega
 rcases Int.lt_or_le q 4294967296 with h' | h'
 ·exact h'
 ·have:=Int.mul_le_mul_of_nonneg_right h' (Int.le_of_lt hy)
  have:=g.unb;omega
theorem Guess.good {y1 y0 u un q qh rh:Int} (g:Guess y1 y0 u un q qh rh) (h:qh*y0<=4294967296*rh+un):qh=q:=by
 have h1:=g.qh_y;have h2:=g.qlt;have hy:0<y1*4294967296+y0:=by have:=g.y1a; have:=g.y0a; omega
 have h3:qh*(y1*4294967296+y0)<(q+1)*(y1*4294967296+y0):=by omega
 have:=Int.lt_of_mul_lt_mul_right h3 (Int.le_of_lt hy);have:=g.le;omega
theorem Guess.big {y1 y0 u un q qh rh:Int} (g:Guess y1 y0 u un q qh rh) (h:4294967296<=qh\/4294967296*rh+un<qh*y0):q+1<=qh:=by
 rcases h with h | h
 ·have:=g.qsm; omega
 ·have h1:=g.qh_y
  have h2:=g.qle;have hy:0<y1*4294967296+y0:=by have:=g.y1a; have:=g.y0a; omega
  have h3:q*(y1*4294967296+y0)<qh*(y1*4294967296+y0):=by omega
  have:=Int.lt_of_mul_lt_mul_right h3 (Int.le_of_lt hy);omega
theorem Guess.next {y1 y0 u un q qh rh:Int} (g:Guess y1 y0 u un q qh rh) (h:q+1<=qh):(rh+y1<4294967296->Guess y1 y0 u un q (qh-1) (rh+y1))/\(4294967296<=rh+y1->qh-1=q):=by
 have e:(qh-1)*y1+(rh+y1)=u:=by rw[Int.sub_mul,Int.one_mul]; have:=g.eq; omega
 constructor
 ·intro hr
  exact {g with rh0:=by have:=g.rh0; have:=g.y1a; omega,rhb:=hr,eq:=e,le:=by omega,hi:=by have:=g.hi; omega}
 ·intro hr
  have hy0:=g.y0a;have hm:(qh-1)*y0<=4294967296*y0:=Int.mul_le_mul_of_nonneg_right (by have:=g.hi; omega) hy0;have hy:0<y1*4294967296+y0:=by have:=g.y1a; omega
  have h1:(qh-1)*(y1*4294967296+y0)=(u-(rh+y1))*4294967296+(qh-1)*y0:=by
   rw[Int.mul_add,<-Int.mul_assoc,<-e];congr 2
   omega
  have h2:=g.qlt;have:=g.y0b;have:=g.una;have h3:(qh-1)*(y1*4294967296+y0)<(q+1)*(y1*4294967296+y0):=by omega
  have:=Int.lt_of_mul_lt_mul_right h3 (Int.le_of_lt hy);omega
theorem zar (F:Nat) {R:Type} (k:Int->Int->Int->Int->Int->Int->Int->Int->Option R) (y s u0:Int) {y1 y0 u un q:Int}:∀(m fu:Nat) (qh rh:Int),m<fu->4294967296<=rh+m*2147483648->Guess y1 y0 u un q qh rh->
  zl.l17 F (fun y s a b c d e q _ _=>k y s a b c d e q) (fun y s a b c d e q _ _=>k y s a b c d e q) fu y s y1 y0 u un u0 qh rh=k y s y1 y0 u un u0 q
 | 0,fu,qh,rh,hf,hm,g=>by have:=g.rhb; omega
 | m+1,fu,qh,rh,hf,hm,g=>by
  obtain ⟨fu,rfl⟩:∃j,fu=j+1:=⟨fu-1,by omega⟩;have r0:=g.rh0;have rb:=g.rhb;have q0:=g.q0;have ql:=g.le;have qhi:=g.hi;have a1:=g.y1a;have a2:=g.y1b;have b1:=g.y0a;have b2:=g.y0b;have un1:=g.una;have un2:=g.unb;have step:q+1<=qh->(bif decide ((u64.wrap (rh+y1))>=4294967296) then k y s y1 y0 u un u0 (u64.wrap (qh-1)) else zl.l17 F (fun y s a b c d e q _ _=>k y s a b c d e q) (fun y s a b c d e q _ _=>k y s a b c d e q) fu y s y1 y0 u un u0 (u64.wrap (qh-1)) (u64.wrap (rh+y1)))=k y s y1 y0 u un u0 q:=by
   intro h;have hn:=g.next h;rw[y4 (n:=rh+y1) (by omega) (by omega),y4 (n:=qh-1) (by omega) (by omega)];by_cases hr:rh+y1>=4294967296
   ·rw[decide_eq_true hr,hn.2 hr]; rfl
   ·rw[decide_eq_false hr]
    exact zar F k y s u0 m fu (qh-1) (rh+y1) (by omega) (by push_cast at hm; omega) (hn.1 (by omega))
  simp only[zl.l17,zl.l17.body];by_cases hq:qh>=4294967296
  ·rw[decide_eq_true hq]
   exact step (g.big (.inl hq))
  ·rw[decide_eq_false hq]
   have hz:=qv (show 0<=qh by omega) (show qh<=4294967295 by omega) b1 (show y0<=4294967295 by omega);simp only[cond_false];rw[y4 (n:=qh*y0) (by omega) (by omega),y4 (n:=4294967296*rh) (by omega) (by omega),y4 (n:=4294967296*rh+un) (by omega) (by omega)];by_cases hc:qh*y0>4294967296*rh+un
   ·rw[decide_eq_true hc]
    exact step (g.big (.inr hc))
   ·rw[decide_eq_false hc,g.good (by omega)]
    rfl
theorem zaq (F:Nat) {R:Type} (k:Int->Int->Int->Int->Int->Int->Int->Int->Option R) (y s Q1:Int) {y1 y0 u un q:Int}:∀(m fu:Nat) (qh rh:Int),m<fu->4294967296<=rh+m*2147483648->Guess y1 y0 u un q qh rh->
  zl.l24 F (fun y s a b c d _ e q _=>k y s a b c d e q) (fun y s a b c d _ e q _=>k y s a b c d e q) fu y s y1 y0 un Q1 rh u qh=k y s y1 y0 un Q1 u q
 | 0,fu,qh,rh,hf,hm,g=>by have:=g.rhb; omega
 | m+1,fu,qh,rh,hf,hm,g=>by
  obtain ⟨fu,rfl⟩:∃j,fu=j+1:=⟨fu-1,by omega⟩;have r0:=g.rh0;have rb:=g.rhb;have q0:=g.q0;have ql:=g.le;have qhi:=g.hi;have a1:=g.y1a;have a2:=g.y1b;have b1:=g.y0a;have b2:=g.y0b;have un1:=g.una;have un2:=g.unb;have step:q+1<=qh->(bif decide ((u64.wrap (rh+y1))>=4294967296) then k y s y1 y0 un Q1 u (u64.wrap (qh-1)) else zl.l24 F (fun y s a b c d _ e q _=>k y s a b c d e q) (fun y s a b c d _ e q _=>k y s a b c d e q) fu y s y1 y0 un Q1 (u64.wrap (rh+y1)) u (u64.wrap (qh-1)))=k y s y1 y0 un Q1 u q:=by
   intro h;have hn:=g.next h;rw[y4 (n:=rh+y1) (by omega) (by omega),y4 (n:=qh-1) (by omega) (by omega)];by_cases hr:rh+y1>=4294967296
   ·rw[decide_eq_true hr,hn.2 hr]; rfl
   ·rw[decide_eq_false hr]
    exact zaq F k y s Q1 m fu (qh-1) (rh+y1) (by omega) (by push_cast at hm; omega) (hn.1 (by omega))
  simp only[zl.l24,zl.l24.body];by_cases hq:qh>=4294967296
  ·rw[decide_eq_true hq]
   exact step (g.big (.inl hq))
  ·rw[decide_eq_false hq]
   have hz:=qv (show 0<=qh by omega) (show qh<=4294967295 by omega) b1 (show y0<=4294967295 by omega);simp only[cond_false];rw[y4 (n:=qh*y0) (by omega) (by omega),y4 (n:=4294967296*rh) (by omega) (by omega),y4 (n:=4294967296*rh+un) (by omega) (by omega)];by_cases hc:qh*y0>4294967296*rh+un
   ·rw[decide_eq_true hc]
    exact step (g.big (.inr hc))
   ·rw[decide_eq_false hc,g.good (by omega)]
    rfl
theorem Guess.first {y1 y0 u un:Int} (y1a:2147483648<=y1) (y1b:y1<4294967296) (y0a:0<=y0) (y0b:y0<4294967296) (una:0<=un) (unb:un<4294967296) (ua:0<=u) (ub:u<y1*4294967296+y0) :
  Guess y1 y0 u un ((u*4294967296+un)/(y1*4294967296+y0)) (u/y1) (u%y1):=by
 have hy:0<y1*4294967296+y0:=by omega
 have e:=Int.emod_add_mul_ediv u y1;have e2:u/y1*y1+u%y1=u:=by rw[Int.mul_comm]; omega
 have r1:=Int.emod_nonneg u (show y1≠0 by omega);have r2:=Int.emod_lt_of_pos u (show 0<y1 by omega);have hq0:0<=u/y1:=Int.ediv_nonneg ua (by omega);have hqy:0<=u/y1*y0:=Int.mul_nonneg hq0 y0a;refine ⟨y1a,y1b,y0a,y0b,una,unb,ua,ub,Int.ediv_nonneg (by omega) (by omega),Int.ediv_mul_le _ (by omega),Int.lt_ediv_add_one_mul_self _ hy,r1,by omega,e2,?_,?_⟩
 ·have h1:(u*4294967296+un)/(y1*4294967296+y0)<u/y1+1:=by
   refine Int.ediv_lt_of_lt_mul hy ?_;rw[Int.add_mul,Int.one_mul,Int.mul_add,<-Int.mul_assoc];have:(u-u%y1)*4294967296=u/y1*y1*4294967296:=by congr 1; omega
   omega
  omega
 ·have h1:u/y1<4294967298:=by
   refine Int.ediv_lt_of_lt_mul (by omega) ?_;omega
  omega
theorem Ss {s:Nat} {a b:Int} (h0:0<=a) (h1:a*2^s<18446744073709551616) (h2:0<=b) (h3:b<2^s) (h4:b<18446744073709551616) (h5:a*2^s+b<18446744073709551616) :
  u64.wrap ((BitVec.ofInt IntKind.u64.bits (a*2^s) ||| BitVec.ofInt IntKind.u64.bits b).toNat:Int)=a*2^s+b:=by
 obtain ⟨A,rfl⟩:=Int.eq_ofNat_of_zero_le h0;obtain ⟨B,rfl⟩:=Int.eq_ofNat_of_zero_le h2;have e:((A:Int)*2^s)=((A*2^s:Nat):Int):=by push_cast; rfl
 have e2:((2:Int)^s)=((2^s:Nat):Int):=by push_cast; rfl
 rw[e] at h1 h5 ⊢;rw[e2] at h3;show u64.wrap ((BitVec.ofInt 64 ((A*2^s:Nat):Int) ||| BitVec.ofInt 64 (B:Int)).toNat:Int)=_
 rw[BitVec.ofInt_natCast,BitVec.ofInt_natCast,BitVec.toNat_or,BitVec.toNat_ofNat,BitVec.toNat_ofNat,Nat.mod_eq_of_lt (by omega:A*2^s<2^64),Nat.mod_eq_of_lt (by omega)];have:=Nat.two_pow_add_eq_or_of_lt (i:=s) (b:=B) (by omega) A;rw[Nat.mul_comm] at this;rw[<-this,y4 (by omega) (by omega)];push_cast;rfl
theorem Yv {M y Q R':Int} (hy:0<y) (h:M=Q*y+R') (h0:0<=R') (h1:R'<y):M/y=Q/\M%y=R':=by
 have e:M=R'+y*Q:=by rw[Int.mul_comm] at h; omega
 rw[e,Int.add_mul_ediv_left _ _ (by omega),Int.add_mul_emod_self_left,Int.ediv_eq_zero_of_lt h0 h1,Int.emod_eq_of_lt h0 h1];omega
theorem div_j28 (F:Nat) {R:Type} (k:Int->Int->Option R) {Y un0 q1 r1 q0:Int} {s:Nat} (hs:s<=63) (hY:Y<18446744073709551616) (a1:0<=q1) (a2:q1<4294967296) (b1:0<=q0) (b2:q0<4294967296)
  (c1:0<=un0) (c2:un0<4294967296) (d1:0<=r1) (e1:q0*Y<=r1*4294967296+un0) (e2:r1*4294967296+un0<(q0+1)*Y) :
  zl.j28 F k Y (s:Int) un0 q1 r1 q0=k (q1*4294967296+q0) ((r1*4294967296+un0-q0*Y)/2^s):=by
 unfold zl.j28;rw[Int.add_mul,Int.one_mul] at e2;rw[decide_eq_true (show (0:Int)<=(s:Int) by omega),Int.toNat_natCast,show min s IntKind.u64.bits=s from Nat.min_eq_left (by show s<=64; omega)];simp only[cond_true];rw[y4 (n:=q1*4294967296) (by omega) (by omega),y4 (n:=q1*4294967296+q0) (by omega) (by omega)];rw[Int.fdiv_eq_ediv_of_nonneg _ (Int.le_of_lt (Int.pow_pos (by decide)))];congr 2
 simp only[wm];generalize q0*Y=t at*;omega
theorem div_j21 (F:Nat) (hF:4<F) {R:Type} (k:Int->Int->Option R) {y1 y0 u un1 un0:Int} {s:Nat} (hs:s<=63) (y1a:2147483648<=y1) (y1b:y1<4294967296) (y0a:0<=y0) (y0b:y0<4294967296)
  (ua:0<=u) (ub:u<y1*4294967296+y0) (una:0<=un1) (unb:un1<4294967296) (c1:0<=un0) (c2:un0<4294967296) :
  ∃Q r,zl.j21 F k (y1*4294967296+y0) (s:Int) y1 y0 u un1 un0 ((u*4294967296+un1)/(y1*4294967296+y0))=k Q (r/2^s)/\0<=r/\r<y1*4294967296+y0 /\
   (u*4294967296+un1)*4294967296+un0=Q*(y1*4294967296+y0)+r:=by
 have hy:0<y1*4294967296+y0:=by omega
 have g:=Guess.first y1a y1b y0a y0b una unb ua ub;have q1:=g.qsm;have q1':=g.q0;have em:=Int.mul_ediv_add_emod (u*4294967296+un1) (y1*4294967296+y0);have r0:=Int.emod_nonneg (u*4294967296+un1) (show y1*4294967296+y0≠0 by omega);have r1:=Int.emod_lt_of_pos (u*4294967296+un1) hy;rw[Int.mul_comm] at em;generalize hq:(u*4294967296+un1)/(y1*4294967296+y0)=Q1 at*;generalize hr:(u*4294967296+un1)%(y1*4294967296+y0)=R1 at*;have hw:u64.wrap ((u64.wrap ((u64.wrap (u*4294967296))+un1))-(u64.wrap (Q1*(y1*4294967296+y0))))=R1:=by
  simp only[wm];generalize Q1*(y1*4294967296+y0)=t at*;omega
 have g2:=Guess.first (u:=R1) (un:=un0) y1a y1b y0a y0b c1 c2 r0 r1;have em2:=Int.mul_ediv_add_emod R1 y1;have rr0:=Int.emod_nonneg R1 (show y1≠0 by omega);have rr1:=Int.emod_lt_of_pos R1 (show 0<y1 by omega);rw[Int.mul_comm] at em2;have gh:=g2.hi;have gl:=Int.ediv_nonneg r0 (show 0<=y1 by omega);have gm:=Int.mul_nonneg gl (show 0<=y1 by omega);unfold zl.j21;rw[hw,show (y1 != 0)=true from bne_iff_ne.2 (by omega),Int.tdiv_eq_ediv_of_nonneg r0];rw[y4 (n:=R1/y1) (by omega) (by omega),y4 (n:=R1/y1*y1) (by omega) (by omega),y4 (n:=R1-R1/y1*y1) (by omega) (by omega),show R1-R1/y1*y1=R1%y1 by omega];simp only[cond_true];have hk:=zaq F (fun y s a b c d e q=>zl.j28 F (fun quo4 rem4=>k quo4 rem4) y s c d e q) (y1*4294967296+y0) (s:Int) Q1 2 F (R1/y1) (R1%y1) (by omega) (by omega) g2;rw[hk];have q2:=g2.qsm;have q2':=g2.q0;have q2l:=g2.qle;have q2u:=g2.qlt;generalize (R1*4294967296+un0)/(y1*4294967296+y0)=Q0 at*;refine ⟨Q1*4294967296+Q0,R1*4294967296+un0-Q0*(y1*4294967296+y0),?_,by omega,by rw[Int.add_mul,Int.one_mul] at q2u; omega,?_⟩
 ·exact div_j28 F _ hs (by omega) q1' q1 q2' q2 c1 c2 r0 q2l q2u
 ·rw[Int.add_mul (Q1*4294967296),Int.mul_right_comm Q1]
  omega
theorem zcO (F:Nat) (hF:4<F) {hi lo y:Int} (h1:0<=hi) (h2:hi<y) (h3:0<=lo) (h4:lo<18446744073709551616) (h5:y<18446744073709551616) :
  zl.sh F hi lo y=some (((hi*18446744073709551616+lo)/y,(hi*18446744073709551616+lo)%y,()),()):=by
 unfold zl.sh;rw[show (y==0)=false by rw[beq_eq_false_iff_ne]; omega,show (y != 0)=true from bne_iff_ne.2 (by omega),decide_eq_false (show ¬y<=hi by omega)];simp only[cond_false,cond_true];by_cases h0:hi=0
 ·subst h0
  have hq:lo/y<=lo:=Int.ediv_le_self _ h3;have hq0:0<=lo/y:=Int.ediv_nonneg h3 (by omega);rw[beq_self_eq_true,Int.tdiv_eq_ediv_of_nonneg h3,Int.tmod_eq_emod_of_nonneg h3,y4 hq0 (by omega)];simp
 ·rw[show (hi==0)=false by rw[beq_eq_false_iff_ne]; exact h0]
  obtain ⟨s,z1,z2,z3,z4⟩:=lz_eq F (y:=y) (by omega) h5;rw[z1];simp only[zr,cond_false];rw[y4 (n:=(s:Int)) (by omega) (by omega),y4 (n:=64-(s:Int)) (by omega) (by omega),show (64:Int)-(s:Int)=((64-s:Nat):Int) by omega,decide_eq_true (show (0:Int)<=(s:Int) by omega),
   decide_eq_true (show (0:Int)<=((64-s:Nat):Int) by omega),Int.toNat_natCast,Int.toNat_natCast,show min s IntKind.u64.bits=s from Nat.min_eq_left (by show s<=64; omega),show min (64-s) IntKind.u64.bits=64-s from Nat.min_eq_left (by show 64-s<=64; omega)]
  simp only[cond_true];have hP:(0:Int)<2^s:=Int.pow_pos (by decide);have hQ:(0:Int)<2^(64-s):=Int.pow_pos (by decide);have hPQ:(2:Int)^s*2^(64-s)=18446744073709551616:=by rw[<-Int.pow_add,show s+(64-s)=64 by omega]; rfl
  have hYw:u64.wrap (y*2^s)=y*2^s:=y4 (by omega) (by omega);have hhi:hi*2^s<y*2^s:=Int.mul_lt_mul_of_pos_right h2 hP;have hhi0:0<=hi*2^s:=Int.mul_nonneg h1 (Int.le_of_lt hP);have hHw:u64.wrap (hi*2^s)=hi*2^s:=y4 hhi0 (by omega);have hlo1:0<=lo/2^(64-s):=Int.ediv_nonneg h3 (Int.le_of_lt hQ);have hlo2:lo/2^(64-s)<2^s:=Int.ediv_lt_of_lt_mul hQ (by rw[hPQ]; exact h4);have hlo3:lo/2^(64-s)=lo*2^s/18446744073709551616:=by
   rw[<-hPQ,Int.mul_comm lo,Int.mul_ediv_mul_of_pos _ _ hP]
  have hM:(hi*2^s+lo/2^(64-s))*18446744073709551616+lo*2^s%18446744073709551616=(hi*18446744073709551616+lo)*2^s:=by
   rw[hlo3,Int.add_mul (hi*18446744073709551616),Int.mul_right_comm hi];omega
  have hMl:(hi*18446744073709551616+lo)*2^s<y*2^s*18446744073709551616:=by
   rw[Int.mul_right_comm y];exact Int.mul_lt_mul_of_pos_right (by omega) hP
  have hu:hi*2^s+lo/2^(64-s)<y*2^s:=by omega
  have hu0:0<=hi*2^s+lo/2^(64-s):=by omega
  have hor:=Ss (s:=s) (a:=hi) (b:=lo/2^(64-s)) h1 (by omega) hlo1 hlo2 (by omega) (by omega);rw[hYw,hHw,Int.fdiv_eq_ediv_of_nonneg lo (Int.le_of_lt hQ),hor,Ua (by omega) (by omega),VW (by omega),wm,Ua (by omega) (by omega),VW (by omega)];generalize hi*2^s+lo/2^(64-s)=u at*;generalize hL:lo*2^s%18446744073709551616=L at*;generalize hYY:y*2^s=Y at*;have hL0:0<=L:=by omega
  have hL1:L<18446744073709551616:=by omega
  have g:=Guess.first (y1:=Y/4294967296) (y0:=Y%4294967296) (u:=u) (un:=L/4294967296) (by omega) (by omega) (by omega) (by omega) (by omega) (by omega) hu0 (by omega);have em2:=Int.mul_ediv_add_emod u (Y/4294967296);have rr0:=Int.emod_nonneg u (show Y/4294967296≠0 by omega);have rr1:=Int.emod_lt_of_pos u (show 0<Y/4294967296 by omega);rw[Int.mul_comm] at em2;have gh:=g.hi;have gl:=Int.ediv_nonneg hu0 (show 0<=Y/4294967296 by omega);have gm:=Int.mul_nonneg gl (show 0<=Y/4294967296 by omega);rw[show (Y/4294967296 != 0)=true from bne_iff_ne.2 (by omega),Int.tdiv_eq_ediv_of_nonneg hu0];rw[y4 (n:=u/(Y/4294967296)) gl (by omega),y4 (n:=u/(Y/4294967296)*(Y/4294967296)) (by omega) (by omega),y4 (n:=u-u/(Y/4294967296)*(Y/4294967296)) (by omega) (by omega),show u-u/(Y/4294967296)*(Y/4294967296)=u%(Y/4294967296) by omega];simp only[cond_true];have hk:=zar F (fun y s a b c d e q=>zl.j21 F (fun quo7 rem7=>(some ((quo7,rem7,()),()):Option zl.sg.R)) y s a b c d e q) Y (s:Int) (L%4294967296) 2 F (u/(Y/4294967296)) (u%(Y/4294967296)) (by omega) (by omega) g;rw[hk];have hj:=div_j21 F hF (fun quo7 rem7=>(some ((quo7,rem7,()),()):Option zl.sg.R)) (y1:=Y/4294967296) (y0:=Y%4294967296) (u:=u) (un1:=L/4294967296) (un0:=L%4294967296) z2 (by omega) (by omega) (by omega) (by omega) hu0 (by omega) (by omega) (by omega) (by omega) (by omega);rw[show Y/4294967296*4294967296+Y%4294967296=Y by omega] at hj ⊢;obtain ⟨Q,r,e1,e2,e3,e4⟩:=hj;rw[e1];have e5:(hi*18446744073709551616+lo)*2^s=Q*Y+r:=by rw[<-hM,<-e4]; omega
  have e6:r=(hi*18446744073709551616+lo-Q*y)*2^s:=by
   rw[Int.sub_mul,Int.mul_assoc Q,hYY]; omega
  have e7:r/2^s=hi*18446744073709551616+lo-Q*y:=by rw[e6,Int.mul_ediv_cancel _ (Int.ne_of_gt hP)]
  rw[e7];have e8:0<=hi*18446744073709551616+lo-Q*y:=by rw[<-e7]; exact Int.ediv_nonneg e2 (Int.le_of_lt hP)
  have e9:hi*18446744073709551616+lo-Q*y<y:=by rw[<-e7]; exact Int.ediv_lt_of_lt_mul hP (by rw[hYY]; exact e3)
  obtain ⟨f1,f2⟩:=Yv (M:=hi*18446744073709551616+lo) (y:=y) (Q:=Q) (R':=hi*18446744073709551616+lo-Q*y) (by omega) (by omega) e8 e9;rw[f1,f2]
theorem mask1 {x:Int} (h1:0<=x) (h2:x<18446744073709551616):u64.wrap ((BitVec.ofInt IntKind.u64.bits x &&& BitVec.ofInt IntKind.u64.bits 1).toNat:Int)=x%2:=by
 obtain ⟨X,rfl⟩:=Int.eq_ofNat_of_zero_le h1;show u64.wrap ((BitVec.ofInt 64 (X:Int) &&& BitVec.ofInt 64 ((1:Nat):Int)).toNat:Int)=_;rw[BitVec.ofInt_natCast,BitVec.ofInt_natCast,BitVec.toNat_and,BitVec.toNat_ofNat,BitVec.toNat_ofNat,Nat.mod_eq_of_lt (by omega:X<2^64),Nat.mod_eq_of_lt (by decide)];have:X &&& 1=X%2:=Nat.and_two_pow_sub_one_eq_mod X 1;rw[this,y4 (by omega) (by omega)];omega
theorem shl1 {x:Int}:x*2^(min (1:Int).toNat IntKind.u64.bits)=x*2:=by
 have e:(2^(min (1:Int).toNat IntKind.u64.bits):Int)=2:=by decide
 rw[e]
theorem shr63u {x:Int} (h:0<=x):x.fdiv (2^(min (63:Int).toNat IntKind.u64.bits))=x/9223372036854775808:=by
 have e:(2^(min (63:Int).toNat IntKind.u64.bits):Int)=9223372036854775808:=by decide
 rw[e,Int.fdiv_eq_ediv_of_nonneg _ (by omega)]
theorem qr_body (F:Nat) {R:Type} (k0:Int->Int->Int->Int->Int->Int->Int->Bool->Option R) (rec:Int->Int->Int->Int->Int->Int->Int->Option R) {al bh bl q r B:Int} {i:Nat} (hi:i<64)
  (ha1:0<=al) (ha2:al<18446744073709551616) (hb1:0<=bh) (hb2:bh<=9223372036854775808) (hl1:0<=bl) (hl2:bl<18446744073709551616) (hB:B=bh*18446744073709551616+bl) (hB2:B<=170141183460469231731687303715884105728)
  (hq1:0<=q) (hq2:q*2^(i+1)+2^(i+1)<=18446744073709551616) (hr1:0<=r) (hr2:r<B) :
  zM.l7.body F k0 rec al bh bl (q*2^(i+1)) (r/18446744073709551616) (r%18446744073709551616) (i:Int) =
   if B<=2*r+al/2^i%2 then rec al bh bl ((2*q+1)*2^i) ((2*r+al/2^i%2-B)/18446744073709551616) ((2*r+al/2^i%2-B)%18446744073709551616) (i64.wrap ((i:Int)-1))
   else rec al bh bl ((2*q)*2^i) ((2*r+al/2^i%2)/18446744073709551616) ((2*r+al/2^i%2)%18446744073709551616) (i64.wrap ((i:Int)-1)):=by
 have hP:(0:Int)<2^i:=Int.pow_pos (by decide);have hP2:(2:Int)^(i+1)=2*2^i:=by rw[Int.pow_succ,Int.mul_comm]
 have hb0:0<=al/2^i:=Int.ediv_nonneg ha1 (Int.le_of_lt hP);have hbl:al/2^i<=al:=Int.ediv_le_self _ ha1;have hsh:al.fdiv (2^(min (i:Int).toNat IntKind.u64.bits))=al/2^i:=by
  rw[Int.toNat_natCast,show min i IntKind.u64.bits=i from Nat.min_eq_left (by show i<=64; omega),Int.fdiv_eq_ediv_of_nonneg _ (Int.le_of_lt hP)]
 have hbit:al/2^i%2=0\/al/2^i%2=1:=by omega
 have hq3:q*2^(i+1)=2*q*2^i:=by rw[hP2,<-Int.mul_assoc,Int.mul_comm q]
 have w1:u64.wrap (r/18446744073709551616*2)=r/18446744073709551616*2^1:=by rw[y4 (by omega) (by omega)]; rfl
 have w2:u64.wrap (r%18446744073709551616*2)=(r%18446744073709551616%9223372036854775808)*2^1:=by rw[wm]; omega
 have o1:=Ss (s:=1) (a:=r/18446744073709551616) (b:=r%18446744073709551616/9223372036854775808) (by omega) (by omega) (by omega) (by omega) (by omega) (by omega);have o2:=Ss (s:=1) (a:=r%18446744073709551616%9223372036854775808) (b:=al/2^i%2) (by omega) (by omega) (by omega) (by omega) (by omega) (by omega);have o3:u64.wrap ((BitVec.ofInt IntKind.u64.bits (q*2^(i+1)) ||| BitVec.ofInt IntKind.u64.bits (u64.wrap (1*2^(min (i:Int).toNat IntKind.u64.bits)))).toNat:Int)=(2*q+1)*2^i:=by
  have hm:=Int.mul_nonneg hq1 (Int.le_of_lt hP);rw[Int.toNat_natCast,show min i IntKind.u64.bits=i from Nat.min_eq_left (by show i<=64; omega),Int.one_mul,y4 (n:=2^i) (by omega) (by rw[hq3,hP2,Int.mul_assoc] at hq2; omega)];rw[Ss (s:=i+1) (a:=q) (b:=2^i) hq1 (by omega) (by omega) (by omega) (by rw[hq3,hP2,Int.mul_assoc] at hq2; omega) (by omega),hq3,Int.add_mul,Int.one_mul]
 unfold zM.l7.body;rw[decide_eq_true (show (i:Int)>=0 by omega),shl1,shl1,w1,w2,shr63u (by omega),o1,hsh,mask1 (x:=al/2^i) (by omega) (by omega),o2,o3];simp only[cond_true];rw[hq3];generalize al/2^i%2=c at*;have e1:r/18446744073709551616*2^1+r%18446744073709551616/9223372036854775808=(2*r+c)/18446744073709551616:=by omega
 have e2:r%18446744073709551616%9223372036854775808*2^1+c=(2*r+c)%18446744073709551616:=by omega
 rw[e1,e2];have hn1:0<=2*r+c:=by omega
 have hn2:2*r+c<2*B:=by omega
 generalize 2*r+c=N at*;clear e1 e2 o1 o2 o3 w1 w2;have sub:∀bo:Int,(N%18446744073709551616<bl/\bo=1)\/(bl<=N%18446744073709551616/\bo=0)->B<=N->(N/18446744073709551616-bh-bo)%18446744073709551616=(N-B)/18446744073709551616:=by
  intro bo h h';omega
 have s1:=uY F (x:=N%18446744073709551616) (y:=bl) (c:=0) (by omega) hl1 hl2 (by omega) (by omega);have hbo:(N%18446744073709551616<bl/\(if N%18446744073709551616<bl+0 then (1:Int) else 0)=1)\/(bl<=N%18446744073709551616/\(if N%18446744073709551616<bl+0 then (1:Int) else 0)=0):=by split<;>omega
 rw[s1];generalize (if N%18446744073709551616<bl+0 then (1:Int) else 0)=bo at*;have s2:=uY F (x:=N/18446744073709551616) (y:=bh) (c:=bo) (by omega) hb1 (by omega) (by omega) (by omega);simp only[zr];rw[s2];simp only[zr];by_cases hle:B<=N
 ·rw[if_pos hle,sub bo hbo hle,show (N%18446744073709551616-bl-0)%18446744073709551616=(N-B)%18446744073709551616 by omega]
  by_cases hg:N/18446744073709551616>bh
  ·rw[decide_eq_true hg]; rfl
  ·rw[decide_eq_false hg,show (N/18446744073709551616==bh)=true by rw[beq_iff_eq]; omega,decide_eq_true (show N%18446744073709551616>=bl by omega)]; rfl
 ·rw[if_neg hle,decide_eq_false (show ¬N/18446744073709551616>bh by omega)]
  by_cases he:N/18446744073709551616=bh
  ·rw[show (N/18446744073709551616==bh)=true by rw[beq_iff_eq]; exact he,decide_eq_false (show ¬N%18446744073709551616>=bl by omega)]; rfl
  ·rw[show (N/18446744073709551616==bh)=false by rw[beq_eq_false_iff_ne]; exact he]; rfl
theorem bit_of {ah al:Int} (ha:0<=al) {n:Nat} (hn:n<64):(ah*18446744073709551616+al)/2^n=2*((ah*18446744073709551616+al)/2^(n+1))+al/2^n%2:=by
 have hP:(0:Int)<2^n:=Int.pow_pos (by decide);have e:ah*18446744073709551616+al=al+2^n*(2*(2^(63-n)*ah)):=by
  have:(2:Int)^n*(2*(2^(63-n)*ah))=(2^n*2^(63-n))*(2*ah):=by rw[Int.mul_left_comm 2,Int.mul_assoc]
  rw[this,<-Int.pow_add,show n+(63-n)=63 by omega];omega
 have e2:(ah*18446744073709551616+al)/2^(n+1)=(ah*18446744073709551616+al)/2^n/2:=by
  rw[Int.pow_succ,Int.ediv_ediv_of_nonneg (Int.le_of_lt hP)]
 have e3:(ah*18446744073709551616+al)/2^n=al/2^n+2*(2^(63-n)*ah):=by
  rw[e,Int.add_mul_ediv_left _ _ (by omega)]
 rw[e2,e3];generalize al/2^n=x at*;generalize (2:Int)^(63-n)*ah=z at*;omega
theorem Sm (F:Nat) {R:Type} (k:Int->Int->Int->Option R) {ah al bh bl B:Int} (ha1:0<=al) (ha2:al<18446744073709551616) (hb1:0<=bh) (hb2:bh<=9223372036854775808) (hl1:0<=bl) (hl2:bl<18446744073709551616)
  (hB:B=bh*18446744073709551616+bl) (hB2:B<=170141183460469231731687303715884105728):∀(n fu:Nat) (q r:Int),n<fu->n<=64->0<=q->q*2^n+2^n<=18446744073709551616->0<=r->r<B->
  (ah*18446744073709551616+al)/2^n=q*B+r->
  zM.l7 F (fun _ _ _ ql rh rl _ _=>k ql rh rl) fu al bh bl (q*2^n) (r/18446744073709551616) (r%18446744073709551616) ((n:Int)-1) =
   k ((ah*18446744073709551616+al)/B) ((ah*18446744073709551616+al)%B/18446744073709551616) ((ah*18446744073709551616+al)%B%18446744073709551616)
 | 0,fu,q,r,hf,hn,hq1,hq2,hr1,hr2,he=>by
  obtain ⟨fu,rfl⟩:∃j,fu=j+1:=⟨fu-1,by omega⟩;simp only[Int.pow_zero,Int.ediv_one] at he;obtain ⟨f1,f2⟩:=Yv (M:=ah*18446744073709551616+al) (y:=B) (Q:=q) (R':=r) (by omega) he hr1 hr2;rw[f1,f2];simp only[zM.l7,zM.l7.body];rw[decide_eq_false (show ¬(((0:Nat):Int)-1)>=0 by omega)];simp
 | n+1,fu,q,r,hf,hn,hq1,hq2,hr1,hr2,he=>by
  obtain ⟨fu,rfl⟩:∃j,fu=j+1:=⟨fu-1,by omega⟩;have hP:(0:Int)<2^n:=Int.pow_pos (by decide);have hP2:(2:Int)^(n+1)=2*2^n:=by rw[Int.pow_succ,Int.mul_comm]
  have hq3:q*2^(n+1)=2*(q*2^n):=by rw[hP2,Int.mul_left_comm]
  simp only[zM.l7];rw[show ((n+1:Nat):Int)-1=((n:Nat):Int) by omega];rw[qr_body F _ _ (by omega) ha1 ha2 hb1 hb2 hl1 hl2 hB hB2 hq1 hq2 hr1 hr2,yV (n:=(n:Int)-1) (by omega) (by omega)];have hbit:=bit_of (ah:=ah) ha1 (n:=n) (by omega);have hbb:al/2^n%2=0\/al/2^n%2=1:=by omega
  rw[he] at hbit;have hq4:2*q*2^n=2*(q*2^n):=by rw[Int.mul_assoc]
  split
  ·refine Sm F k ha1 ha2 hb1 hb2 hl1 hl2 hB hB2 n fu _ _ (by omega) (by omega) (by omega) ?_ (by omega) (by omega) ?_
   ·rw[Int.add_mul,Int.one_mul,hq4]; omega
   ·rw[hbit,Int.add_mul,Int.one_mul,Int.mul_assoc]; omega
  ·refine Sm F k ha1 ha2 hb1 hb2 hl1 hl2 hB hB2 n fu _ _ (by omega) (by omega) (by omega) ?_ (by omega) (by omega) ?_
   ·rw[hq4]; omega
   ·rw[hbit,Int.mul_assoc]; omega
theorem QA (F:Nat) (hF:70<F) {ah al bh bl:Int} (h1:0<=ah) (h1':ah<18446744073709551616) (ha1:0<=al) (ha2:al<18446744073709551616) (hb1:0<=bh) (hb2:bh<=9223372036854775808) (hl1:0<=bl) (hl2:bl<18446744073709551616)
  (hB0:0<bh*18446744073709551616+bl) (hB2:bh*18446744073709551616+bl<=170141183460469231731687303715884105728) :
  zM.sh F ah al bh bl=some (((ah*18446744073709551616+al)/(bh*18446744073709551616+bl)/18446744073709551616,(ah*18446744073709551616+al)/(bh*18446744073709551616+bl)%18446744073709551616,
   (ah*18446744073709551616+al)%(bh*18446744073709551616+bl)/18446744073709551616,(ah*18446744073709551616+al)%(bh*18446744073709551616+bl)%18446744073709551616,()),()):=by
 unfold zM.sh;by_cases hb:bh=0
 ·subst hb
  rw[beq_self_eq_true,show (bl != 0)=true from bne_iff_ne.2 (by omega),Int.tmod_eq_emod_of_nonneg h1,Int.tdiv_eq_ediv_of_nonneg h1];have m0:=Int.emod_nonneg ah (show bl≠0 by omega);have m1:=Int.emod_lt_of_pos ah (show 0<bl by omega);have d0:=Int.ediv_nonneg h1 hl1;have d1:ah/bl<=ah:=Int.ediv_le_self _ h1;simp only[cond_true];rw[zcO F (by omega) m0 m1 ha1 ha2 hl2,y4 (n:=ah/bl) d0 (by omega)];simp only[zr];have hM0:0<=ah%bl*18446744073709551616+al:=by omega
  have q0:0<=(ah%bl*18446744073709551616+al)/bl:=Int.ediv_nonneg hM0 hl1;have q1:(ah%bl*18446744073709551616+al)/bl<18446744073709551616:=Int.ediv_lt_of_lt_mul (by omega) (by omega);have r0:=Int.emod_nonneg (ah%bl*18446744073709551616+al) (show bl≠0 by omega);have r1:=Int.emod_lt_of_pos (ah%bl*18446744073709551616+al) (show 0<bl by omega);have e1:=Int.mul_ediv_add_emod ah bl;have e2:=Int.mul_ediv_add_emod (ah%bl*18446744073709551616+al) bl;rw[show (0:Int)*18446744073709551616+bl=bl by omega];obtain ⟨f1,f2⟩:=Yv (M:=ah*18446744073709551616+al) (y:=bl) (Q:=ah/bl*18446744073709551616+(ah%bl*18446744073709551616+al)/bl) (R':=(ah%bl*18446744073709551616+al)%bl) (by omega) (by
   rw[Int.add_mul,Int.mul_right_comm,Int.mul_comm _ bl,Int.mul_comm _ bl]; omega) r0 r1
  rw[f1,f2];generalize (ah%bl*18446744073709551616+al)/bl=x at*;generalize (ah%bl*18446744073709551616+al)%bl=z at*;generalize ah/bl=w at*;rw[show (w*18446744073709551616+x)/18446744073709551616=w by omega,show (w*18446744073709551616+x)%18446744073709551616=x by omega,show z/18446744073709551616=0 by omega,show z%18446744073709551616=z by omega]
 ·rw[show (bh==0)=false by rw[beq_eq_false_iff_ne]; exact hb]
  simp only[cond_false];have hl:=Sm F (fun ql rh rl=>(some ((0,ql,rh,rl,()),()):Option zM.sg.R)) (ah:=ah) (al:=al) (bh:=bh) (bl:=bl) ha1 ha2 hb1 hb2 hl1 hl2 rfl hB2 64 F 0 ah (by omega) (by omega) (by omega) (by decide) h1 (by omega) (by
   rw[show (2:Int)^64=18446744073709551616 from rfl]; omega)
  rw[show (0:Int)*2^64=0 by decide,show ah/18446744073709551616=0 by omega,show ah%18446744073709551616=ah by omega,show ((64:Nat):Int)-1=63 from rfl] at hl;rw[hl];have q0:0<=(ah*18446744073709551616+al)/(bh*18446744073709551616+bl):=Int.ediv_nonneg (by omega) (by omega);have q1:(ah*18446744073709551616+al)/(bh*18446744073709551616+bl)<18446744073709551616:=Int.ediv_lt_of_lt_mul (by omega) (by omega);generalize (ah*18446744073709551616+al)/(bh*18446744073709551616+bl)=x at*;rw[show x/18446744073709551616=0 by omega,show x%18446744073709551616=x by omega]
def dsg (a b:Int):Bool:=!(decide (a<0)==decide (b<0))
def aQ (a b:Int):Int:=(a.natAbs:Int)/(b.natAbs:Int)
def aR (a b:Int):Int:=(a.natAbs:Int)%(b.natAbs:Int)
def tq (a b:Int):Int:=bif dsg a b then -aQ a b else aQ a b
def tr (a b:Int):Int:=bif decide (a<0) then -aR a b else aR a b
theorem aQR {a b:Int} (hb:b≠0):0<=aQ a b/\0<=aR a b/\aR a b<b.natAbs/\(b.natAbs:Int)*aQ a b+aR a b=a.natAbs/\aQ a b<=a.natAbs:=by
 unfold aQ aR;exact ⟨Int.ediv_nonneg (by omega) (by omega),Int.emod_nonneg _ (by omega),Int.emod_lt_of_pos _ (by omega),Int.mul_ediv_add_emod _ _,Int.ediv_le_self _ (by omega)⟩
theorem Sy {v:Int}:(((mk v).1==0)&&(((mk v).2==0)&&true))=decide (v=0):=by
 by_cases h:v=0
 ·subst h; rfl
 ·rw[decide_eq_false h]
  simp only[mk,Bool.and_true,Bool.and_eq_false_iff,beq_eq_false_iff_ne];omega
theorem zbG {b:Int×Int} (hb:wfW b):((b.1==0)&&((b.2==0)&&true))=decide (val b=0):=by
 rw[<-zcf hb,Sy,y9]
theorem Tg (F:Nat) (hF:70<F) {a b:Int×Int} (ha:wfW a) (hb:wfW b) (h0:val b≠0) :
  yK.sh F a b=some ((bif inR (tq (val a) (val b)) then mk (tq (val a) (val b)) else (0,0),bif inR (tq (val a) (val b)) then mk (tr (val a) (val b)) else (0,0),vF (tq (val a) (val b)),()),()):=by
 have ba:=WX ha;have bb:=WX hb;have hq:=aQR (a:=val a) h0;have hneg:(!(decide (a.1<0)==decide (b.1<0)))=dsg (val a) (val b):=by rw[tu ha,tu hb]; rfl
 unfold yK.sh;rw[zbG hb,decide_eq_false h0];simp only[cond_false];rw[ZS F ha,ZS F hb];simp only[zr];have e1:((val a).natAbs:Int)/18446744073709551616*18446744073709551616+((val a).natAbs:Int)%18446744073709551616=(val a).natAbs:=by omega
 have e2:((val b).natAbs:Int)/18446744073709551616*18446744073709551616+((val b).natAbs:Int)%18446744073709551616=(val b).natAbs:=by omega
 have hl:=QA F hF (ah:=((val a).natAbs:Int)/18446744073709551616) (al:=((val a).natAbs:Int)%18446744073709551616) (bh:=((val b).natAbs:Int)/18446744073709551616) (bl:=((val b).natAbs:Int)%18446744073709551616)
  (by omega) (by omega) (by omega) (by omega) (by omega) (by omega) (by omega) (by omega) (by omega) (by omega)
 rw[e1,e2] at hl;rw[hl,hneg];simp only[zr];rw[show ((val a).natAbs:Int)/((val b).natAbs:Int)=aQ (val a) (val b) from rfl,show ((val a).natAbs:Int)%((val b).natAbs:Int)=aR (val a) (val b) from rfl];rw[XM F (v:=tq (val a) (val b)) (by omega) (by omega) (by omega) (by omega) (by
  unfold tq;rw[show aQ (val a) (val b)/18446744073709551616*18446744073709551616+aQ (val a) (val b)%18446744073709551616=aQ (val a) (val b) by omega])]
 simp only[zr];cases hi:inR (tq (val a) (val b)) with
 | false=>simp only[vO,vF,hi,cond_false]; rfl
 | true =>
  simp only[vO,vF,hi,cond_true,bne_self_eq_false,cond_false];rw[tu ha];rw[XM F (v:=tr (val a) (val b)) (by omega) (by omega) (by omega) (by omega) (by
   unfold tr;rw[show aR (val a) (val b)/18446744073709551616*18446744073709551616+aR (val a) (val b)%18446744073709551616=aR (val a) (val b) by omega])]
  have hi2:inR (tr (val a) (val b))=true:=by
   rw[zP]; unfold tr;cases decide (val a<0)<;>simp only[cond_true,cond_false]<;>omega
  simp only[zr,vO,vF,hi2,cond_true]
theorem aw1 {x y bo:Int} (h1:0<=x) (h2:x<y) (h3:y<=170141183460469231731687303715884105728)
  (hbo:(y%18446744073709551616<x%18446744073709551616/\bo=1)\/(x%18446744073709551616<=y%18446744073709551616/\bo=0)) :
  (y/18446744073709551616-x/18446744073709551616-bo)%18446744073709551616=(y-x)/18446744073709551616:=by omega
theorem aw2 {x y:Int}:(y%18446744073709551616-x%18446744073709551616-0)%18446744073709551616=(y-x)%18446744073709551616:=by omega
theorem aw3 {x y:Int} (h1:0<=x) (h2:x<y) (h:x/18446744073709551616>(y-x)/18446744073709551616):y<2*x:=by omega
theorem aw4 {x y:Int} (h1:0<=x) (h2:x<y) (h:x/18446744073709551616=(y-x)/18446744073709551616) (h':x%18446744073709551616>(y-x)%18446744073709551616):y<2*x:=by omega
theorem aw5 {x y:Int} (h1:0<=x) (h2:x<y) (h:x/18446744073709551616=(y-x)/18446744073709551616) (h':¬x%18446744073709551616>(y-x)%18446744073709551616):¬y<2*x:=by omega
theorem aw6 {x y:Int} (h:x/18446744073709551616=(y-x)/18446744073709551616) (h':x%18446744073709551616=(y-x)%18446744073709551616):2*x=y:=by omega
theorem aw7 {x y:Int} (h:¬x%18446744073709551616=(y-x)%18446744073709551616):¬2*x=y:=by omega
theorem aw8 {x y:Int} (h:¬x/18446744073709551616>(y-x)/18446744073709551616) (h':¬x/18446744073709551616=(y-x)/18446744073709551616):¬y<2*x:=by omega
theorem aw9 {x y:Int} (h':¬x/18446744073709551616=(y-x)/18446744073709551616):¬2*x=y:=by omega
def awB (m q r b:Int):Bool :=
 bif m==0 then dsg r b else bif m==1 then !dsg r b else bif m==2 then false else
  decide ((b.natAbs:Int)<2*r.natAbs)||(decide (2*(r.natAbs:Int)=b.natAbs)&&(m==3||decide (q%2=1)))
theorem away_eq (F:Nat) {q r b:Int×Int} (hq:wfW q) (hr:wfW r) (hb:wfW b) (m:Int) (hlt:((val r).natAbs:Int)<(val b).natAbs) :
  xj.sh F q r b m=some ((awB m (val q) (val r) (val b),()),()):=by
 have br:=WX hr;have bb:=WX hb;have hq2:u64.wrap ((BitVec.ofInt IntKind.u64.bits q.2 &&& BitVec.ofInt IntKind.u64.bits 1).toNat:Int)=val q%2:=by
  rw[mask1 hq.2.2.1 hq.2.2.2];simp only[val];omega
 unfold xj.sh awB;rw[hq2];rw[tu hr,tu hb];rw[show (!(decide (val r<0)==decide (val b<0)))=dsg (val r) (val b) from rfl];cases h0:(m==0) with
 | true=>simp only[cond_true,cond_false,Bool.true_or,Bool.false_or,Bool.and_true,Bool.true_and]
 | false =>
 cases h1:(m==1) with
 | true=>simp only[cond_true,cond_false,Bool.true_or,Bool.false_or,Bool.and_true,Bool.true_and]
 | false =>
 cases h2:(m==2) with
 | true=>simp only[cond_true,cond_false,Bool.true_or,Bool.false_or,Bool.and_true,Bool.true_and]
 | false =>
 simp only[cond_false];have A:=ZS F hr;have B:=ZS F hb;generalize ((val r).natAbs:Int)=x at*;generalize ((val b).natAbs:Int)=y at*;rw[A,zr,B,zr];have s1:=uY F (x:=y%18446744073709551616) (y:=x%18446744073709551616) (c:=0) (by omega) (by omega) (by omega) (by omega) (by omega);have hbo:(y%18446744073709551616<x%18446744073709551616/\(if y%18446744073709551616<x%18446744073709551616+0 then (1:Int) else 0)=1)\/(x%18446744073709551616<=y%18446744073709551616/\(if y%18446744073709551616<x%18446744073709551616+0 then (1:Int) else 0)=0):=by split<;>omega
 rw[s1];generalize (if y%18446744073709551616<x%18446744073709551616+0 then (1:Int) else 0)=bo at*;have s2:=uY F (x:=y/18446744073709551616) (y:=x/18446744073709551616) (c:=bo) (by omega) (by omega) (by omega) (by omega) (by omega);rw[zr,s2,zr];rw[aw1 br.1 hlt bb.2 hbo,aw2];clear s1 s2 hbo hq2;by_cases g1:x/18446744073709551616>(y-x)/18446744073709551616
 ·rw[decide_eq_true g1,decide_eq_true (aw3 br.1 hlt g1)]; simp only[cond_true,cond_false,Bool.true_or,Bool.or_true,Bool.false_or,Bool.or_false,Bool.and_true,Bool.true_and,Bool.false_and,decide_true,beq_self_eq_true]
 ·rw[decide_eq_false g1]
  by_cases g2:x/18446744073709551616=(y-x)/18446744073709551616
  ·rw[show (x/18446744073709551616==(y-x)/18446744073709551616)=true by rw[beq_iff_eq]; exact g2]
   simp only[cond_true,cond_false];by_cases g3:x%18446744073709551616>(y-x)%18446744073709551616
   ·rw[decide_eq_true g3,decide_eq_true (aw4 br.1 hlt g2 g3)]; simp only[cond_true,cond_false,Bool.true_or,Bool.or_true,Bool.false_or,Bool.or_false,Bool.and_true,Bool.true_and,Bool.false_and,decide_true,beq_self_eq_true]
   ·rw[decide_eq_false g3,decide_eq_false (aw5 br.1 hlt g2 g3)]
    by_cases g4:x%18446744073709551616=(y-x)%18446744073709551616
    ·rw[show (x%18446744073709551616==(y-x)%18446744073709551616)=true by rw[beq_iff_eq]; exact g4,decide_eq_true (aw6 g2 g4)]
     cases (m==3) with
     | true=>simp only[cond_true,cond_false,Bool.true_or,Bool.false_or,Bool.and_true,Bool.true_and]
     | false =>
      simp only[cond_true,cond_false,Bool.false_or,Bool.true_and];by_cases g5:val q%2=1
      ·rw[g5]; simp only[cond_true,cond_false,Bool.true_or,Bool.or_true,Bool.false_or,Bool.or_false,Bool.and_true,Bool.true_and,Bool.false_and,decide_true,beq_self_eq_true]
      ·rw[decide_eq_false g5,show (val q%2==1)=false by rw[beq_eq_false_iff_ne]; exact g5]
    ·rw[show (x%18446744073709551616==(y-x)%18446744073709551616)=false by rw[beq_eq_false_iff_ne]; exact g4,decide_eq_false (aw7 g4)]; simp only[cond_true,cond_false,Bool.true_or,Bool.or_true,Bool.false_or,Bool.or_false,Bool.and_true,Bool.true_and,Bool.false_and,decide_true,beq_self_eq_true]
  ·rw[show (x/18446744073709551616==(y-x)/18446744073709551616)=false by rw[beq_eq_false_iff_ne]; exact g2,decide_eq_false (aw8 g1 g2),decide_eq_false (aw9 g2)]; simp only[cond_true,cond_false,Bool.true_or,Bool.or_true,Bool.false_or,Bool.or_false,Bool.and_true,Bool.true_and,Bool.false_and,decide_true,beq_self_eq_true]
def UD (m a b:Int):Int :=
 bif decide (tr a b=0) then tq a b else bif !awB m (tq a b) (tr a b) b then tq a b else bif dsg a b then tq a b-1 else tq a b+1
theorem zbL (a b:Int) (hb:b≠0):((tr a b).natAbs:Int)=aR a b:=by
 have:=aQR (a:=a) hb;unfold tr;cases decide (a<0)<;>simp only[cond_true,cond_false]<;>omega
theorem zcL (F:Nat) (hF:70<F) {a b m:Int} (ha:inR a=true) (hb:inR b=true) (h0:b≠0) (hq:inR (tq a b)=true) (m0:0<=m) (m4:m<=4):xg.sh F (mk a) (mk b) m=some ((mk (UD m a b),0,()),()):=by
 have qr:=aQR (a:=a) h0;have ha':=zP.1 ha;have hb':=zP.1 hb;have hr:inR (tr a b)=true:=by
  rw[zP]; unfold tr;cases decide (a<0)<;>simp only[cond_true,cond_false]<;>omega
 unfold xg.sh UD;rw[decide_eq_false (show ¬m<0 by omega),decide_eq_false (show ¬m>4 by omega),Tg F hF (xk ha) (xk hb) (by rw[y9]; exact h0)];simp only[y9,hq,cond_true,cond_false,zr,vF,bne_self_eq_false];rw[Sy];by_cases hz:tr a b=0
 ·rw[decide_eq_true hz]; rfl
 ·rw[decide_eq_false hz]
  simp only[cond_false];rw[away_eq F (xk hq) (xk hr) (xk hb) m (by rw[y9,y9,zbL a b h0]; omega)];simp only[zr,y9];cases awB m (tq a b) (tr a b) b with
  | false=>rfl
  | true =>
   have hr0:aR a b≠0:=fun h=>hz (by unfold tr; rw[h]; cases decide (a<0)<;>rfl)
   have hb2:(2:Int)<=b.natAbs:=by omega
   have hq2:2*aQ a b<=a.natAbs:=by
    have:=Int.mul_le_mul_of_nonneg_right hb2 qr.1;omega
   have hw:(!(decide ((mk a).1<0)==decide ((mk b).1<0)))=dsg a b:=by rw[tu (xk ha),tu (xk hb),y9,y9]; rfl
   rw[hw,ve F (by omega) (by omega)];simp only[zr,Bool.not_true,cond_false];cases hd:dsg a b with
   | true =>
    have i:inR (tq a b-1)=true:=by rw[zP]; unfold tq; rw[hd]; simp only[cond_true]; omega
    rw[Se F (xk hq) (xk (by rw[zP]; omega))];simp only[cond_true,zr,y9,vO,vF,i]
   | false =>
    have i:inR (tq a b+1)=true:=by rw[zP]; unfold tq; rw[hd]; simp only[cond_false]; omega
    rw[UO F (xk hq) (xk (by rw[zP]; omega))];simp only[cond_false,cond_true,zr,y9,vO,vF,i]
theorem QY {m c b:Int} (hb:0<b):UD m (c*b) b=c:=by
 have hn:(((c*b).natAbs:Nat):Int)=c.natAbs*b:=by
  rw[Int.natAbs_mul]; push_cast; rw[show ((b.natAbs:Nat):Int)=b by omega]
 have hR:aR (c*b) b=0:=by
  unfold aR;rw[hn,show ((b.natAbs:Nat):Int)=b by omega,Int.mul_emod_left]
 have hQ:aQ (c*b) b=c.natAbs:=by
  unfold aQ;rw[hn,show ((b.natAbs:Nat):Int)=b by omega,Int.mul_ediv_cancel _ (by omega)]
 have h1:tr (c*b) b=0:=by unfold tr; rw[hR]; cases decide (c*b<0)<;>rfl
 unfold UD tq dsg;rw[h1,hQ,decide_eq_false (show ¬b<0 by omega)];by_cases hc:c<0
 ·rw[decide_eq_true (show c*b<0 from Int.mul_neg_of_neg_of_pos hc hb)]
  simp; omega
 ·rw[decide_eq_false (show ¬c*b<0 by have:=Int.mul_nonneg (show 0<=c by omega) (Int.le_of_lt hb); omega)]
  simp; omega
theorem SR (F:Nat) {a b:Int} (ha:inR a=true) (hb:inR b=true) (h:inR (a+b)=true):uh.sh F (mk a) (mk b)=some ((mk (a+b),()),()):=by
 unfold uh.sh;rw[UO F (xk ha) (xk hb),zr,y9,y9,(x8 h).1]
theorem VJ (F:Nat) {a b:Int} (ha:inR a=true) (hb:inR b=true) (h:inR (a-b)=true):vS.sh F (mk a) (mk b)=some ((mk (a-b),()),()):=by
 unfold vS.sh;rw[Se F (xk ha) (xk hb),zr,y9,y9,(x8 h).1]
theorem qi (F:Nat) {a b:Int} (ha:inR a=true) (hb:inR b=true) (h:inR (a*b)=true):vb.sh F (mk a) (mk b)=some ((mk (a*b),()),()):=by
 unfold vb.sh;rw[ZV F (xk ha) (xk hb),zr,y9,y9,(x8 h).1]
def Vu (m:Int) (l:List Int):Int:=l.foldl (fun m x=>if x<m then x else m) m
def Yi:List Int->Int
 | []=>0
 | a::r=>Vu a r
theorem Rx:∀(l:List Int) (m:Int),Vu m l=m\/Vu m l∈l
 | [],m=>.inl rfl
 | x::r,m=>by
  show Vu (if x<m then x else m) r=m\/Vu (if x<m then x else m) r∈x::r;rcases Rx r (if x<m then x else m) with h | h
  ·rw[h]; split
   ·exact .inr (by simp)
   ·exact .inl rfl
  ·exact .inr (by simp[h])
theorem RA:∀(l:List Int) (m:Int),qC m l=m\/qC m l∈l
 | [],m=>.inl rfl
 | x::r,m=>by
  show qC (if x>m then x else m) r=m\/qC (if x>m then x else m) r∈x::r;rcases RA r (if x>m then x else m) with h | h
  ·rw[h]; split
   ·exact .inr (by simp)
   ·exact .inl rfl
  ·exact .inr (by simp[h])
theorem XH {l:List Int} (h:1<=l.length):Yi l∈l:=by
 cases l with
 | nil=>simp at h
 | cons a r =>
  rcases Rx r a with h | h
  ·rw[Yi,h]; simp
  ·rw[Yi]; simp[h]
theorem XI {l:List Int} (h:1<=l.length):uf l∈l:=by
 cases l with
 | nil=>simp at h
 | cons a r =>
  rcases RA r a with h | h
  ·rw[uf,h]; simp
  ·rw[uf]; simp[h]
theorem mind_eq (F:Nat) {a b:Int} (ha:inR a=true) (hb:inR b=true):zj.d26 F xH (mk a,mk b,())=some ((tg a b,()),()):=by
 refine Eq.trans (show zj.d26 F xH (mk a,mk b,())=xp.sh F (mk a) (mk b) from rfl) ?_;rw[WU F (xk ha) (xk hb),y9,y9]
theorem maxd_eq (F:Nat) {a b:Int} (ha:inR a=true) (hb:inR b=true):zk.d26 F xH (mk a,mk b,())=some ((tg a b,()),()):=by
 refine Eq.trans (show zk.d26 F xH (mk a,mk b,())=xp.sh F (mk a) (mk b) from rfl) ?_;rw[WU F (xk ha) (xk hb),y9,y9]
theorem UH {a b:Int}:decide (tg a b<0)=decide (a<b):=by
 unfold tg;by_cases h:a<b
 ·rw[if_pos h,decide_eq_true h]; rfl
 ·rw[if_neg h,decide_eq_false h]; split<;>rfl
theorem R8 {a b:Int}:decide (tg a b>0)=decide (a>b):=by
 unfold tg;by_cases h:a<b
 ·rw[if_pos h,decide_eq_false (show ¬a>b by omega)]; rfl
 ·rw[if_neg h]
  by_cases h':a=b
  ·rw[if_pos h',decide_eq_false (show ¬a>b by omega)]; rfl
  ·rw[if_neg h',decide_eq_true (show a>b by omega)]; rfl
theorem Sz (F:Nat) {R:Type} (k:zd.T->Option R) (X:List zd.T):∀(xs:List Int) (i:Int) (r4:zd.T) (m:Int),(∀v∈xs,inR v=true)->inR m=true->
  zj.l5.rg F (fun _ _ _ _ _ m=>k m) X (xs.map mk) i xH r4 (mk m)=k (mk (Vu m xs))
 | [],i,r4,m,_,_=>rfl
 | x::r,i,r4,m,h,hm=>by
  have hx:=h x (by simp);rw[List.map_cons,zj.l5.rg,mind_eq F hx hm,zr];have e:Vu m (x::r)=Vu (if x<m then x else m) r:=rfl;rw[e];simp only[UH];by_cases hlt:x<m
  ·rw[decide_eq_true hlt,if_pos hlt]
   exact Sz F k X r (i+1) r4 x (fun v hv=>h v (by simp[hv])) hx
  ·rw[decide_eq_false hlt,if_neg hlt]
   exact Sz F k X r (i+1) r4 m (fun v hv=>h v (by simp[hv])) hm
theorem SB (F:Nat) {R:Type} (k:zd.T->Option R) (X:List zd.T):∀(xs:List Int) (i:Int) (r4:zd.T) (m:Int),(∀v∈xs,inR v=true)->inR m=true->
  zk.l5.rg F (fun _ _ _ _ _ m=>k m) X (xs.map mk) i xH r4 (mk m)=k (mk (qC m xs))
 | [],i,r4,m,_,_=>rfl
 | x::r,i,r4,m,h,hm=>by
  have hx:=h x (by simp);rw[List.map_cons,zk.l5.rg,maxd_eq F hx hm,zr];have e:qC m (x::r)=qC (if x>m then x else m) r:=rfl;rw[e];simp only[R8];by_cases hlt:x>m
  ·rw[decide_eq_true hlt,if_pos hlt]
   exact SB F k X r (i+1) r4 x (fun v hv=>h v (by simp[hv])) hx
  ·rw[decide_eq_false hlt,if_neg hlt]
   exact SB F k X r (i+1) r4 m (fun v hv=>h v (by simp[hv])) hm
theorem SA (F:Nat) {l:List Int} (h:∀v∈l,inR v=true) (h1:1<=l.length) (hF:l.length<F) (hL:l.length<4611686018427387904):zj.sh F (l.map mk) xH=some ((mk (Yi l),()),()):=by
 unfold zj.sh;rw[decide_eq_false (show ¬(((l.map mk).length:Nat):Int)<1 by simp; omega),show idx 0 (l.map mk).length=true from WK (by simp; omega)];simp only[cond_false,cond_true];cases l with
 | nil=>simp at h1
 | cons a r =>
  refine Eq.trans (zj.l5.rg_eq F _ ((a::r).map mk) (by simp at hL ⊢; omega) (r.map mk) 1 F xH (0,0) _ (by simp) (by simp at hF ⊢; omega)) ?_;exact Sz F (fun m=>(some ((m,()),()):Option zj.sg.R)) _ r _ _ a (fun v hv=>h v (by simp[hv])) (h a (by simp))
theorem SC (F:Nat) {l:List Int} (h:∀v∈l,inR v=true) (h1:1<=l.length) (hF:l.length<F) (hL:l.length<4611686018427387904):zk.sh F (l.map mk) xH=some ((mk (uf l),()),()):=by
 unfold zk.sh;rw[decide_eq_false (show ¬(((l.map mk).length:Nat):Int)<1 by simp; omega),show idx 0 (l.map mk).length=true from WK (by simp; omega)];simp only[cond_false,cond_true];cases l with
 | nil=>simp at h1
 | cons a r =>
  refine Eq.trans (zk.l5.rg_eq F _ ((a::r).map mk) (by simp at hL ⊢; omega) (r.map mk) 1 F xH (0,0) _ (by simp) (by simp at hF ⊢; omega)) ?_;exact SB F (fun m=>(some ((m,()),()):Option zk.sg.R)) _ r _ _ a (fun v hv=>h v (by simp[hv])) (h a (by simp))
def wS (x:Int):List zL.T->Nat
 | []=>0
 | a::r=>if tF a<x then wS x r+1 else 0
theorem S2 (x:Int):∀l:List zL.T,wS x l<=l.length
 | []=>by simp[wS]
 | a::r=>by
  have:=S2 x r;simp only[wS,List.length_cons];split<;>omega
theorem U5 (F:Nat) {R:Type} (k:Int->Option R) (L:List zL.T) (hL:L.length<=16) {x:Int} (hx:inR x=true):∀(xs:List zL.T) (i fu:Nat) (lo:Int),L.drop i=xs->xs.length<fu->i<=16->-1<=lo->Ul lo xs->
  xF.l2 F (fun _ k1 _ _=>k k1) fu L ((i:Int)-1) (mk x)=k ((i:Int)+(wS x xs:Int)-1)
 | xs,i,0,lo,h,hf,hi,hlo,hinc=>by simp at hf
 | [],i,fu+1,lo,h,hf,hi,hlo,hinc=>by
  have hl:L.length<=i:=by
   have:=congrArg List.length h;simp at this; omega
  simp only[xF.l2,xF.l2.body];rw[yV (n:=(i:Int)-1+1) (by omega) (by omega),decide_eq_false (show ¬(i:Int)-1+1<(L.length:Int) by omega)];simp only[cond_false,wS];exact congrArg k (by omega)
 | a::r,i,fu+1,lo,h,hf,hi,hlo,hinc=>by
  obtain ⟨a1,a2,a3,a4,a5⟩:=hinc;have h0:=wd h;have hg:get zL L ((i:Int)).toNat=a:=by rw[Int.toNat_natCast]; exact wA h
  have IH:=U5 F k L hL hx r (i+1) fu (tF a) (xA h) (by simp at hf; omega) (by omega) (by omega) a5;simp only[xF.l2,xF.l2.body];rw[yV (n:=(i:Int)-1+1) (by omega) (by omega),show (i:Int)-1+1=(i:Int) by omega,decide_eq_true (show (i:Int)<(L.length:Int) by omega),xi h0,hg];simp only[cond_true];rw[ve F (v:=a.1) (show -9223372036854775808<=tF a by omega) (show tF a<9223372036854775808 by omega),zr];rw[WU F (xk (qV (show -9223372036854775808<=tF a by omega) (show tF a<9223372036854775808 by omega))) (xk hx),zr,y9,y9];simp only[UH,wS];rw[show ((i+1:Nat):Int)-1=(i:Int) by omega] at IH;by_cases hlt:tF a<x
  ·rw[decide_eq_true hlt,if_pos hlt]
   simp only[cond_true];rw[IH];exact congrArg k (by omega)
  ·rw[decide_eq_false hlt,if_neg hlt]
   simp only[cond_false];exact congrArg k (by omega)
theorem za6 (F:Nat) (hF:64<F) {l:List zL.T} (hl:qs l=true) {x:Int} (hx:inR x=true):xF.sh F (mk x) l=some (((wS x l:Int)-1,()),()):=by
 obtain ⟨l1,l2,l3⟩:=ud hl;unfold xF.sh;have:=U5 F (fun k=>(some ((k,()),()):Option xF.sg.R)) l l2 hx l 0 F (-1) (by simp) (by omega) (by omega) (by omega) l3;rw[show (((0:Nat):Int)-1)=-1 from rfl] at this;rw[this,show ((0:Nat):Int)+(wS x l:Int)-1=(wS x l:Int)-1 by omega]
def UT:List zL.T->Nat->Int
 | a::b::r,k+1=>tR a*(tF b-tF a)+UT (b::r) k
 | _,_=>0
theorem RU (v:Int):-v7 v<=v/\v<=v7 v:=by unfold v7; split<;>omega
theorem vV {a b m n:Int} (h1:-m<=a) (h2:a<=m) (h3:-n<=b) (h4:b<=n):-(m*n)<=a*b/\a*b<=m*n:=by
 have hm:0<=m:=by omega
 have hn:0<=n:=by omega
 have e1:(a.natAbs:Int)*(b.natAbs:Int)<=m*n:=Int.mul_le_mul (by omega) (by omega) (by omega) hm;have e2:((a*b).natAbs:Int)=(a.natAbs:Int)*(b.natAbs:Int):=by rw[Int.natAbs_mul]; push_cast; rfl
 omega
theorem Sa:∀(l:List zL.T) (lo:Int) (k:Nat),-1<=lo->Ul lo l->-vc l<=UT l k/\UT l k<=vc l
 | [],lo,k,_,h=>by simp[vc,UT]
 | [a],lo,k,_,h=>by simp[vc,UT]
 | a::b::r,lo,0,hlo,h=>by
  have:=(uX (a::b::r) lo hlo h).1;simp only[UT]; omega
 | a::b::r,lo,k+1,hlo,h=>by
  obtain ⟨a1,a2,a3,a4,a5⟩:=h;have ih:=Sa (b::r) (tF a) k (by omega) a5;obtain ⟨b1,b2,b3,b4,b5⟩:=a5;have hf:=RU (tR a);have:=vV hf.1 hf.2 (show -(tF b-tF a)<=tF b-tF a by omega) (show tF b-tF a<=tF b-tF a by omega);simp only[UT,vc];omega
theorem Zx:∀(l:List zL.T) (r0:Int),r0<=wC r0 l/\∀t∈l,v7 (tR t)<=wC r0 l
 | [],r0=>⟨by simp[wC],by simp⟩
 | a::r,r0=>by
  have ih:=Zx r (if v7 (tR a)>r0 then v7 (tR a) else r0);have e:wC r0 (a::r)=wC (if v7 (tR a)>r0 then v7 (tR a) else r0) r:=rfl;have h0:r0<=(if v7 (tR a)>r0 then v7 (tR a) else r0)/\v7 (tR a)<=(if v7 (tR a)>r0 then v7 (tR a) else r0):=by split<;>omega
  rw[e];refine ⟨by omega,fun t ht=>?_⟩;rcases List.mem_cons.1 ht with rfl | ht
  ·omega
  ·exact ih.2 t ht
def wV (x:Int) (l:List zL.T):zL.T:=l.getD (wS x l-1) (0,0)
theorem Sc {x:Int}:∀(l:List zL.T) (lo:Int),-1<=lo->Ul lo l->1<=wS x l->wV x l∈l/\0<=tF (wV x l)/\tF (wV x l)<x/\tF (wV x l)<=1000000000000/\-1000000000000<=tR (wV x l)/\tR (wV x l)<=1000000000000
 | [],lo,hlo,h,hc=>by simp[wS] at hc
 | a::r,lo,hlo,h,hc=>by
  obtain ⟨a1,a2,a3,a4,a5⟩:=h;have hax:tF a<x:=by
   simp only[wS] at hc;by_cases h:tF a<x
   ·exact h
   ·rw[if_neg h] at hc; omega
  have e:wS x (a::r)=wS x r+1:=by simp only[wS]; rw[if_pos hax]
  by_cases h0:wS x r=0
  ·have e2:wV x (a::r)=a:=by unfold wV; rw[e,h0]; rfl
   rw[e2];exact ⟨by simp,by omega,hax,by omega,by omega,by omega⟩
  ·have e2:wV x (a::r)=wV x r:=by
    unfold wV; rw[e,Nat.add_sub_cancel];obtain ⟨m,hm⟩:∃m,wS x r=m+1:=⟨wS x r-1,by omega⟩;rw[hm]; rfl
   have ih:=Sc (x:=x) r (tF a) (by omega) a5 (by omega);rw[e2];exact ⟨by simp[ih.1],ih.2⟩
def RN (x:Int) (l:List zL.T):Int:=if wS x l=0 then 0 else UT l (wS x l-1)+tR (wV x l)*(x-tF (wV x l))
def vol (x:Int) (l:List zL.T):Int:=if wS x l=0 then 0 else x*tR (wV x l)
theorem Y2 {x X:Int} {l:List zL.T} (hl:qs l=true) (hX:x<=X) (hX0:0<=X) (hc:1<=wS x l):(-(wC 0 l*(X+wy l))<=tR (wV x l)*(x-tF (wV x l))/\tR (wV x l)*(x-tF (wV x l))<=wC 0 l*(X+wy l)) /\
  -(wC 0 l*(X+wy l))<=x*tR (wV x l)/\x*tR (wV x l)<=wC 0 l*(X+wy l):=by
 obtain ⟨l1,l2,l3⟩:=ud hl;have ht:=Sc l (-1) (by omega) l3 hc;have hr:=(Zx l 0).2 _ ht.1;have hf:=RU (tR (wV x l));have hlf:=tN l (-1) (by omega) l3;have h1:=vV (show -wC 0 l<=tR (wV x l) by omega) (show tR (wV x l)<=wC 0 l by omega) (show -(X+wy l)<=x-tF (wV x l) by omega) (show x-tF (wV x l)<=X+wy l by omega);have h2:=vV (show -wC 0 l<=tR (wV x l) by omega) (show tR (wV x l)<=wC 0 l by omega) (show -(X+wy l)<=x by omega) (show x<=X+wy l by omega);rw[Int.mul_comm x];exact ⟨h1,h2⟩
theorem zaw {x X:Int} {l:List zL.T} (hl:qs l=true) (hX:x<=X) (hX0:0<=X):-(wC 0 l*(X+wy l)+vc l)<=RN x l/\RN x l<=wC 0 l*(X+wy l)+vc l:=by
 obtain ⟨l1,l2,l3⟩:=ud hl;have hlf:=tN l (-1) (by omega) l3;have hr0:=(Zx l 0).1;have hm:=Int.mul_nonneg hr0 (show 0<=X+wy l by omega);have hw0:=(uX l (-1) (by omega) l3).1;unfold RN;split
 ·omega
 ·have hw:=Sa l (-1) (wS x l-1) (by omega) l3
  have hs:=(Y2 hl hX hX0 (by omega)).1;omega
theorem vol_bd {x X:Int} {l:List zL.T} (hl:qs l=true) (hX:x<=X) (hX0:0<=X):-(wC 0 l*(X+wy l)+vc l)<=vol x l/\vol x l<=wC 0 l*(X+wy l)+vc l:=by
 obtain ⟨l1,l2,l3⟩:=ud hl;have hlf:=tN l (-1) (by omega) l3;have hr0:=(Zx l 0).1;have hm:=Int.mul_nonneg hr0 (show 0<=X+wy l by omega);have hw0:=(uX l (-1) (by omega) l3).1;unfold vol;split
 ·omega
 ·have hs:=(Y2 hl hX hX0 (by omega)).2
  omega
theorem TH (F:Nat) {R:Type} (kk:List zL.T->Int->zd.T->zd.T->Option R) (L:List zL.T) (hL:L.length<=16) (X:zd.T) (r4:zd.T) (K:Nat):∀(n i fu:Nat) (xs:List zL.T) (s lo:Int),L.drop i=xs->n<xs.length->n<fu->K=i+n->-1<=lo->Ul lo xs->
  -20000000000000000000000000<=s-n*1000000000000000000000000->s+n*1000000000000000000000000<=20000000000000000000000000->
  yw.l3 F (fun tiers k _ _ x _ sum=>kk tiers k x sum) fu L (K:Int) (i:Int) X r4 (mk s)=kk L (K:Int) X (mk (s+UT xs n))
 | n,i,0,xs,s,lo,h,hn,hf,hK,hlo,hi,b1,b2=>by omega
 | 0,i,fu+1,xs,s,lo,h,hn,hf,hK,hlo,hi,b1,b2=>by
  simp only[yw.l3,yw.l3.body];rw[decide_eq_false (show ¬(i:Int)<(K:Int) by omega)];have:UT xs 0=0:=by cases xs with
   | nil=>rfl
   | cons a r=>cases r<;>rfl
  rw[this,Int.add_zero];rfl
 | n+1,i,fu+1,[],s,lo,h,hn,hf,hK,hlo,hi,b1,b2=>by simp at hn
 | n+1,i,fu+1,[a],s,lo,h,hn,hf,hK,hlo,hi,b1,b2=>by simp at hn
 | n+1,i,fu+1,a::b::r,s,lo,h,hn,hf,hK,hlo,hi,b1,b2=>by
  obtain ⟨a1,a2,a3,a4,a5⟩:=hi;have ⟨c1,c2,c3,c4,c5⟩:=a5;have h0:=wd h;have h1:=wd (xA h);have hg:get zL L ((i:Int)).toNat=a:=by rw[Int.toNat_natCast]; exact wA h
  have hg1:get zL L (((i+1:Nat):Int)).toNat=b:=by rw[Int.toNat_natCast]; exact wA (xA h)
  push_cast at b1 b2;have hp:=vV (show -1000000000000<=tR a by omega) (show tR a<=1000000000000 by omega) (show -1000000000000<=tF b-tF a by omega) (show tF b-tF a<=1000000000000 by omega);have IH:=TH F kk L hL X r4 K n (i+1) fu (b::r) (s+tR a*(tF b-tF a)) (tF a) (xA h) (by simp at hn ⊢; omega) (by omega) (by omega) (by omega) a5 (by omega) (by omega);simp only[yw.l3,yw.l3.body];rw[decide_eq_true (show (i:Int)<(K:Int) by omega),xi h0,hg,yV (n:=(i:Int)+1) (by omega) (by omega),show (i:Int)+1=((i+1:Nat):Int) by omega,xi h1,hg1];simp only[cond_true];rw[ve F (v:=tR a) (by omega) (by omega),zr,yV (n:=tF b-tF a) (by omega) (by omega),ve F (v:=tF b-tF a) (by omega) (by omega),zr];rw[qi F (qV (by omega) (by omega)) (qV (by omega) (by omega)) (by rw[zP]; omega),zr,SR F (by rw[zP]; omega) (by rw[zP]; omega) (by rw[zP]; omega),zr];rw[IH,Int.add_assoc];rfl
theorem SI (F:Nat) (hF:64<F) {l:List zL.T} (hl:qs l=true) {x X:Int} (hx:inR x=true) (hX:x<=X) (hX0:0<=X) (hb:wC 0 l*(X+wy l)+vc l<=BND) :
  yw.sh F (mk x) l=some ((mk (RN x l),()),()):=by
 obtain ⟨l1,l2,l3⟩:=ud hl;have hgb:=zaw hl hX hX0;have hBND:BND=1329227995784915872903807060280344576:=rfl;have hlf:=tN l (-1) (by omega) l3;have hm:=Int.mul_nonneg (Zx l 0).1 (show 0<=X+wy l by omega);have hw0:=uX l (-1) (by omega) l3;have hcl:=S2 x l;unfold yw.sh;rw[za6 F hF hl hx,zr];by_cases hc:wS x l=0
 ·have hL:∀(fu:Nat) (k:List zL.T->Int->zd.T->zd.T->Option yw.sg.R),yw.l3 F (fun tiers k1 _ _ x _ sum=>k tiers k1 x sum) (fu+1) l (((wS x l:Nat):Int)-1) 0 (mk x) (0,0) (0,0)=k l (((wS x l:Nat):Int)-1) (mk x) (0,0):=by
   intro fu k;simp only[yw.l3,yw.l3.body];rw[decide_eq_false (show ¬(0:Int)<((wS x l:Nat):Int)-1 by omega)];rfl
  obtain ⟨fu,hfu⟩:∃j,F=j+1:=⟨F-1,by omega⟩;have:=hL (F-1) (fun tiers6 k6 x6 sum6=>bif decide (k6>=0) then bif idx k6 tiers6.length then oB (zY.sh F (get zL tiers6 k6.toNat).2) fun c_7 =>
   bif idx k6 tiers6.length then oB (zY.sh F (get zL tiers6 k6.toNat).1) fun c_8 =>
    oB (vS.sh F x6 c_8.1.1) fun c_9 =>
    oB (vb.sh F c_7.1.1 c_9.1.1) fun c_10 =>
    oB (uh.sh F sum6 c_10.1.1) fun c_11 =>
    some ((c_11.1.1,()),())
   else none
  else none
 else some ((sum6,()),()))
  rw[show F-1+1=F by omega] at this;rw[this,decide_eq_false (show ¬((wS x l:Nat):Int)-1>=0 by omega)];unfold RN;rw[if_pos hc];rfl
 ·have ht:=Sc l (-1) (by omega) l3 (x:=x) (by omega)
  have hs:=(Y2 hl hX hX0 (show 1<=wS x l by omega)).1;have hw:=Sa l (-1) (wS x l-1) (by omega) l3;have hlp:=TH F (fun tiers6 k6 x6 sum6=>bif decide (k6>=0) then bif idx k6 tiers6.length then oB (zY.sh F (get zL tiers6 k6.toNat).2) fun c_7 =>
   bif idx k6 tiers6.length then oB (zY.sh F (get zL tiers6 k6.toNat).1) fun c_8 =>
    oB (vS.sh F x6 c_8.1.1) fun c_9 =>
    oB (vb.sh F c_7.1.1 c_9.1.1) fun c_10 =>
    oB (uh.sh F sum6 c_10.1.1) fun c_11 =>
    (some ((c_11.1.1,()),()):Option yw.sg.R)
   else none
  else none
 else some ((sum6,()),())) l l2 (mk x) (0,0) (wS x l-1) (wS x l-1) 0 F l 0 (-1) (by simp) (by omega) (by omega) (by omega) (by omega) l3 (by omega) (by omega)
  rw[show ((wS x l-1:Nat):Int)=((wS x l:Nat):Int)-1 by omega] at hlp;refine Eq.trans hlp ?_;rw[show ((wS x l:Nat):Int)-1=((wS x l-1:Nat):Int) by omega,decide_eq_true (show ((wS x l-1:Nat):Int)>=0 by omega),xi (show wS x l-1<l.length by omega),Int.toNat_natCast,show get zL l (wS x l-1)=wV x l from rfl];simp only[cond_true];have hxx:=zP.1 hx;rw[ve F (v:=tR (wV x l)) (by omega) (by omega),zr,ve F (v:=tF (wV x l)) (by omega) (by omega),zr];rw[VJ F hx (qV (by omega) (by omega)) (by rw[zP]; omega),zr,qi F (qV (by omega) (by omega)) (by rw[zP]; omega) (by rw[zP]; omega),zr];rw[SR F (by rw[zP]; omega) (by rw[zP]; omega) (by rw[zP]; omega),zr];unfold RN;rw[if_neg hc,Int.zero_add]
theorem zaS (F:Nat) (hF:64<F) {l:List zL.T} (hl:qs l=true) {x X:Int} (hx:inR x=true) (hX:x<=X) (hX0:0<=X) (hb:wC 0 l*(X+wy l)+vc l<=BND) :
  ux.sh F (mk x) l=some ((mk (vol x l),()),()):=by
 obtain ⟨l1,l2,l3⟩:=ud hl;have hBND:BND=1329227995784915872903807060280344576:=rfl;have hw0:=uX l (-1) (by omega) l3;have hcl:=S2 x l;unfold ux.sh vol;rw[za6 F hF hl hx,zr];by_cases hc:wS x l=0
 ·rw[if_pos hc,decide_eq_false (show ¬((wS x l:Nat):Int)-1>=0 by omega)]
  rfl
 ·have ht:=Sc l (-1) (by omega) l3 (x:=x) (by omega)
  have hs:=(Y2 hl hX hX0 (show 1<=wS x l by omega)).2;rw[if_neg hc,show ((wS x l:Nat):Int)-1=((wS x l-1:Nat):Int) by omega,decide_eq_true (show ((wS x l-1:Nat):Int)>=0 by omega),xi (show wS x l-1<l.length by omega),Int.toNat_natCast,show get zL l (wS x l-1)=wV x l from rfl];simp only[cond_true];rw[ve F (v:=tR (wV x l)) (by omega) (by omega),zr,qi F hx (qV (by omega) (by omega)) (by rw[zP]; omega),zr]
def XP (op x n:Int):Bool :=
 bif op==1 then decide (x<n) else bif op==2 then decide (x<=n) else bif op==3 then decide (x>n) else bif op==4 then decide (x>=n) else bif op==5 then decide (x=n) else !decide (x=n)
theorem zct (F:Nat) {x n:Int} (hx:inR x=true) (hn:inR n=true) (op:Int):uS.sh F (mk x) (mk n) op=some ((XP op x n,()),()):=by
 unfold uS.sh XP;rw[WU F (xk hx) (xk hn),zr,y9,y9];have h3:(tg x n=-1/\x<n)\/(tg x n=0/\x=n)\/(tg x n=1/\x>n):=by
  unfold tg;split
  ·exact .inl ⟨rfl,by assumption⟩
  ·split
   ·exact .inr (.inl ⟨rfl,by assumption⟩)
   ·exact .inr (.inr ⟨rfl,by omega⟩)
 have e1:decide (tg x n<0)=decide (x<n):=UH;have e3:decide (tg x n>0)=decide (x>n):=R8;have e2:decide (tg x n<=0)=decide (x<=n):=decide_eq_decide.2 (by omega);have e4:decide (tg x n>=0)=decide (x>=n):=decide_eq_decide.2 (by omega);have e5:(tg x n==0)=decide (x=n):=by
  by_cases h:x=n
  ·rw[decide_eq_true h]; have:tg x n=0:=by omega
   rw[this]; rfl
  ·rw[decide_eq_false h,beq_eq_false_iff_ne]; omega
 simp only[e1,e2,e3,e4,e5,bne];cases (op==1)<;>cases (op==2)<;>cases (op==3)<;>cases (op==4)<;>cases (op==5)<;>rfl
def evN (u:Int) (D:List yv.T) (q:List Int) (n:zb.T) (vs:List Int):Int :=
 bif nK n==1 then nN n else bif nK n==2 then nN n*u else bif nK n==3 then q.getD (nN n).toNat 0
 else bif nK n==4 then v6 (q.getD (nN n).toNat 0) (dS (D.getD (nN n).toNat (ByteArray.empty,0)))
 else bif nK n==5 then 0-vs.getD 0 0 else bif nK n==6 then vs.getD 0 0+vs.getD 1 0 else bif nK n==7 then vs.getD 0 0-vs.getD 1 0
 else bif nK n==8 then vs.getD 0 0*vs.getD 1 0 else bif nK n==9 then Yi vs else bif nK n==10 then uf vs
 else bif nK n==11 then uf [0,vs.getD 0 0-nN n] else bif nK n==12 then Yi [nN n,vs.getD 0 0]
 else bif nK n==13 then u*RN (vs.getD 0 0) (nT n) else bif nK n==14 then u*vol (vs.getD 0 0) (nT n)
 else bif nK n==15 then UD 2 (vs.getD 0 0*(10000-nN n)) 10000
 else bif XP (nO n) (vs.getD 0 0) (nN n) then vs.getD 1 0 else vs.getD 2 0
def ev (u:Int) (D:List yv.T) (q:List Int):Tree->Int:=Tree.fold (evN u D q)
theorem uy (u:Int) (D:List yv.T) (q:List Int) (n:zb.T) (ks:List Tree):ev u D q (.nd n ks)=evN u D q n (ks.map (ev u D q)):=Tree.fold_nd _ n ks
theorem za8:∀(l:List Int),(∀v∈l,0<=v)->∀v∈l,v<=wb l
 | [],h,v,hv=>by simp at hv
 | x::r,h,v,hv=>by
  have hx:=h x (by simp);have h0:0<=wb r:=by
   have:∀(l:List Int),(∀v∈l,0<=v)->0<=wb l:=by
    intro l;induction l with
    | nil=>intro _; simp[wb]
    | cons y s ih=>intro hh; have:=ih (fun v hv=>hh v (by simp[hv])); have:=hh y (by simp); simp only[wb,List.sum_cons] at*; omega
   exact this r (fun v hv=>h v (by simp[hv]))
  have ih:=za8 r (fun v hv=>h v (by simp[hv]));simp only[wb,List.sum_cons] at*;rcases List.mem_cons.1 hv with rfl | hv
  ·omega
  ·have:=ih v hv; omega
structure Kids (ks:List Tree) (V M:Tree->Int):Prop where
 lo:∀k∈ks,-M k<=V k
 hi:∀k∈ks,V k<=M k
 bd:∀k∈ks,M k<=BND
theorem Kids.nn {ks:List Tree} {V M:Tree->Int} (h:Kids ks V M):∀k∈ks,0<=M k:=fun k hk=>by
 have:=h.lo k hk; have:=h.hi k hk; omega
theorem Kids.sum {ks:List Tree} {V M:Tree->Int} (h:Kids ks V M):∀k∈ks,M k<=wb (ks.map M):=fun k hk =>
 za8 _ (by simp only[List.mem_map]; rintro v ⟨k,hk,rfl⟩; exact h.nn k hk) _ (List.mem_map_of_mem hk)
theorem Kids.inr {ks:List Tree} {V M:Tree->Int} (h:Kids ks V M):∀v∈ks.map V,inR v=true:=by
 simp only[List.mem_map];rintro v ⟨k,hk,rfl⟩
 have hBND:BND=1329227995784915872903807060280344576:=rfl;have:=h.lo k hk; have:=h.hi k hk; have:=h.bd k hk;rw[zP]; omega
end Go.VS
