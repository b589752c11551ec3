import Derived.Test.YtiliboioeieeoaaGreatDoorQR1
set_option linter.all false
set_option maxRecDepth 100000
namespace Go.VS
open Go IntKind List
variable {R α β:Type} {n:za.T} {p:zO.T} {v y1 y0 u un q qh rh x y a b k ah al bh bl X m c un1 un0 Y q1 r1 q0 r B a' b' M Q R' d hi lo bo mode N:Int} {D:List xB.T} {l vs:List Int} {dims pile i len fr L:Nat} {s name:ByteArray} (F:Nat)
def wfW (w:Int×Int):Prop:=-9223372036854775808<=w.1/\w.1<9223372036854775808/\0<=w.2/\w.2<18446744073709551616
def val (w:Int×Int):Int:=w.1*18446744073709551616+w.2
def mk (v:Int):Int×Int:=(v/18446744073709551616,v%18446744073709551616)
def inR (v:Int):Bool:=decide (-170141183460469231731687303715884105728<=v)&&decide (v<170141183460469231731687303715884105728)
def uA (v:Int):Int×Int:=bif inR v then mk v else (0,0)
def ui (v:Int):Int:=bif inR v then 0 else 10
theorem yB:inR v=true↔-170141183460469231731687303715884105728<=v/\v<170141183460469231731687303715884105728:=by simp[inR]
theorem qK:inR v=false↔(v < -170141183460469231731687303715884105728\/170141183460469231731687303715884105728<=v):=by
 cases h:inR v with
 | true=>simp; have:=yB.1 h; omega
 | false =>
  simp;rcases Int.lt_or_le v (-170141183460469231731687303715884105728) with h' | h'
  ·exact .inl h'
  ·rcases Int.lt_or_le v 170141183460469231731687303715884105728 with h'' | h''
   ·rw[yB.2 ⟨h',h''⟩] at h; cases h
   ·exact .inr h''
theorem zfz {w:Int×Int} (h:wfW w):mk (val w)=w:=by
 obtain ⟨a,b⟩:=w;obtain ⟨h1,h2,h3,h4⟩:=h;simp only[mk,val] at*;ext<;>simp only<;>omega
theorem xR:val (mk v)=v:=by simp only[val,mk]; omega
theorem wu (h:inR v=true):wfW (mk v):=by
 have:=yB.1 h;simp only[wfW,mk];omega
theorem QG {w:Int×Int} (h:wfW w):inR (val w)=true:=by
 rw[yB];obtain ⟨h1,h2,h3,h4⟩:=h;simp only[val];omega
theorem Yf (v:Int):wfW (uA v):=by
 unfold uA;cases h:inR v with
 | true=>exact wu h
 | false=>simp[wfW]
theorem W2 (n:Int):∃k,i64.wrap n=n+18446744073709551616*k/\-9223372036854775808<=i64.wrap n/\i64.wrap n<9223372036854775808:=by
 rw[ZD];split
 ·exact ⟨-(n/18446744073709551616)-1,by omega,by omega,by omega⟩
 ·exact ⟨-(n/18446744073709551616),by omega,by omega,by omega⟩
theorem Zh (h1:-9223372036854775808<=v) (h2:v<9223372036854775808):xV.sh F v=some ((mk v,()),()):=by
 unfold xV.sh;have e:(2^(min (63:Int).toNat IntKind.i64.bits):Int)=9223372036854775808:=by decide
 have e2:v.fdiv 9223372036854775808=v/18446744073709551616:=by rw[Int.fdiv_eq_ediv_of_nonneg _ (by omega)]; omega
 rw[e,e2,wX];rfl
theorem Za (h1:-9223372036854775808<=v) (h2:v<9223372036854775808):inR v=true:=by rw[yB]; omega
theorem X9 (h1:0<=x) (h2:0<=y) (h3:0<=c) (h4:c<=1):xi.sh F x y c=some (((x+y+c)%18446744073709551616,(x+y+c)/18446744073709551616,()),()):=by
 simp[xi.sh,h1,h2,h3,h4]
theorem Ze (h1:0<=x) (h2:0<=y) (h2':y<18446744073709551616) (h3:0<=c) (h4:c<=1):yY.sh F x y c=some (((x-y-c)%18446744073709551616,(if x<y+c then 1 else 0),()),()):=by
 simp[yY.sh,h1,h2,h2',h3,h4]
theorem Q7 {a b:Int×Int} (ha:wfW a) (hb:wfW b):wZ.sh F a b=some ((uA (val a+val b),ui (val a+val b),()),()):=by
 obtain ⟨a1,a2⟩:=a;obtain ⟨b1,b2⟩:=b;obtain ⟨h1,h2,h3,h4⟩:=ha;obtain ⟨g1,g2,g3,g4⟩:=hb;simp only at*;unfold wZ.sh;simp only[wX];rw[X9 F (by omega) (by omega) (by omega) (by omega)];simp only[zh];rw[X9 F (by omega) (by omega) (by omega) (by omega)];simp only[zh,uA,ui,val,mk];obtain ⟨k,e1,e2,e3⟩:=W2 ((a1%18446744073709551616+b1%18446744073709551616+(a2+b2+0)/18446744073709551616)%18446744073709551616);generalize i64.wrap ((a1%18446744073709551616+b1%18446744073709551616+(a2+b2+0)/18446744073709551616)%18446744073709551616)=r at*;cases hr:inR (a1*18446744073709551616+a2+(b1*18446744073709551616+b2)) with
 | true =>
  rw[yB] at hr;have q1:r=(a1*18446744073709551616+a2+(b1*18446744073709551616+b2))/18446744073709551616:=by omega
  have q2:(a2+b2+0)%18446744073709551616=(a1*18446744073709551616+a2+(b1*18446744073709551616+b2))%18446744073709551616:=by omega
  have hs:(decide (a1<0)==decide (b1<0)&&!(decide (r<0)==decide (a1<0)))=false:=by
   by_cases x1:a1<0<;>by_cases x2:b1<0<;>by_cases x3:r<0<;>simp[x1,x2,x3]<;>omega
  simp only[cond_true];rw[<-q1,<-q2];cases hx:(decide (a1<0)==decide (b1<0)) with
  | true =>
   rw[hx] at hs;simp only[Bool.true_and] at hs;simp only[hs,cond_true,cond_false]
  | false=>rfl
 | false =>
  rw[qK] at hr;have hs:(decide (a1<0)==decide (b1<0))=true/\(!(decide (r<0)==decide (a1<0)))=true:=by
   by_cases x1:a1<0<;>by_cases x2:b1<0<;>by_cases x3:r<0<;>simp[x1,x2,x3]<;>omega
  simp only[hs.1,hs.2,cond_true,cond_false]
theorem zbA {a b:Int×Int} (ha:wfW a) (hb:wfW b):wY.sh F a b=some ((uA (val a-val b),ui (val a-val b),()),()):=by
 obtain ⟨a1,a2⟩:=a;obtain ⟨b1,b2⟩:=b;obtain ⟨h1,h2,h3,h4⟩:=ha;obtain ⟨g1,g2,g3,g4⟩:=hb;simp only at*;unfold wY.sh;simp only[wX];rw[Ze F (by omega) (by omega) (by omega) (by omega) (by omega)];simp only[zh];have hbo:(a2<b2/\(if a2<b2+0 then (1:Int) else 0)=1)\/(b2<=a2/\(if a2<b2+0 then (1:Int) else 0)=0):=by split<;>omega
 generalize (if a2<b2+0 then (1:Int) else 0)=bo at*;rw[Ze F (by omega) (by omega) (by omega) (by omega) (by omega)];simp only[zh,uA,ui,val,mk];obtain ⟨k,e1,e2,e3⟩:=W2 ((a1%18446744073709551616-b1%18446744073709551616-bo)%18446744073709551616);generalize i64.wrap ((a1%18446744073709551616-b1%18446744073709551616-bo)%18446744073709551616)=r at*;cases hr:inR (a1*18446744073709551616+a2-(b1*18446744073709551616+b2)) with
 | true =>
  rw[yB] at hr;have q1:r=(a1*18446744073709551616+a2-(b1*18446744073709551616+b2))/18446744073709551616:=by omega
  have q2:(a2-b2-0)%18446744073709551616=(a1*18446744073709551616+a2-(b1*18446744073709551616+b2))%18446744073709551616:=by omega
  have hs:(!(decide (a1<0)==decide (b1<0))&&!(decide (r<0)==decide (a1<0)))=false:=by
   by_cases x1:a1<0<;>by_cases x2:b1<0<;>by_cases x3:r<0<;>simp[x1,x2,x3]<;>omega
  simp only[cond_true];rw[<-q1,<-q2];cases hx:(!(decide (a1<0)==decide (b1<0))) with
  | true =>
   rw[hx] at hs;simp only[Bool.true_and] at hs;simp only[hs,cond_true,cond_false]
  | false=>rfl
 | false =>
  rw[qK] at hr;have hs:(!(decide (a1<0)==decide (b1<0)))=true/\(!(decide (r<0)==decide (a1<0)))=true:=by
   by_cases x1:a1<0<;>by_cases x2:b1<0<;>by_cases x3:r<0<;>simp[x1,x2,x3]<;>omega
  simp only[hs.1,hs.2,cond_true,cond_false]
theorem wf_zero:wfW (0,0):=by simp[wfW]
theorem zfw {a:Int×Int} (ha:wfW a):vi.sh F a=some ((uA (-val a),ui (-val a),()),()):=by
 unfold vi.sh;rw[zbA F wf_zero ha];have:val (0,0)-val a=-val a:=by simp[val]
 rw[this];rfl
def qA (x y:Int):Int:=if x<y then -1 else if x=y then 0 else 1
theorem VC (h:x<y):qA x y=-1:=by unfold qA; rw[if_pos h]
theorem Tc (h:x=y):qA x y=0:=by unfold qA; rw[if_neg (by omega),if_pos h]
theorem VE (h:y<x):qA x y=1:=by unfold qA; rw[if_neg (by omega),if_neg (by omega)]
theorem Un {a b:Int×Int} (ha:wfW a) (hb:wfW b):wV.sh F a b=some ((qA (val a) (val b),()),()):=by
 obtain ⟨a1,a2⟩:=a;obtain ⟨b1,b2⟩:=b;obtain ⟨h1,h2,h3,h4⟩:=ha;obtain ⟨g1,g2,g3,g4⟩:=hb;simp only at*;unfold wV.sh;simp only[Bool.and_true];by_cases x1:a1<b1
 ·have y1:(a1==b1)=false:=by rw[beq_eq_false_iff_ne]; omega
  rw[VC (by simp only[val]; omega)];simp[y1,x1]
 ·by_cases x2:a1=b1
  ·subst x2
   by_cases x3:a2=b2
   ·subst x3
    rw[Tc rfl];simp
   ·have y3:(a2==b2)=false:=by rw[beq_eq_false_iff_ne]; exact x3
    by_cases x4:a2<b2
    ·rw[VC (by simp only[val]; omega)]
     simp[y3,x4]
    ·rw[VE (by simp only[val]; omega)]
     simp[y3,x4]
  ·have y1:(a1==b1)=false:=by rw[beq_eq_false_iff_ne]; omega
   rw[VE (by simp only[val]; omega)];simp[y1,x1]
theorem S3 (h1:a=a') (h2:b=b'):(some ((a,b,()),()):Option ((Int×Int×Unit)×Unit))=some ((a',b',()),()):=by rw[h1,h2]
theorem Wa {a:Int×Int} (ha:wfW a):wS.sh F a=some ((((val a).natAbs:Int)/18446744073709551616,((val a).natAbs:Int)%18446744073709551616,()),()):=by
 obtain ⟨a1,a2⟩:=a;obtain ⟨h1,h2,h3,h4⟩:=ha;simp only at*;unfold wS.sh;simp only[wX];by_cases x:a1>=0
 ·have e:((val (a1,a2)).natAbs:Int)=a1*18446744073709551616+a2:=by simp only[val]; omega
  rw[e];simp only[x,decide_true,cond_true];exact S3 (by omega) (by omega)
 ·have e:((val (a1,a2)).natAbs:Int)=-(a1*18446744073709551616+a2):=by simp only[val]; omega
  rw[e];simp only[x,decide_false,cond_false];rw[Ze F (by omega) (by omega) (by omega) (by omega) (by omega)];simp only[zh];have hbo:(0<a2/\(if 0<a2+0 then (1:Int) else 0)=1)\/(a2=0/\(if 0<a2+0 then (1:Int) else 0)=0):=by split<;>omega
  generalize (if 0<a2+0 then (1:Int) else 0)=bo at*;rw[Ze F (by omega) (by omega) (by omega) (by omega) (by omega)];simp only[zh];exact S3 (by omega) (by omega)
theorem Vp {b:Bool} (h1:0<=hi) (h2:hi<18446744073709551616) (h3:0<=lo) (h4:lo<18446744073709551616) (hv:v=bif b then -(hi*18446744073709551616+lo) else hi*18446744073709551616+lo) :
  wU.sh F b hi lo=some ((uA v,ui v,()),()):=by
 unfold wU.sh;have e:(2^(min (63:Int).toNat IntKind.u64.bits):Int)=9223372036854775808:=by decide
 rw[e,Int.fdiv_eq_ediv_of_nonneg _ (by omega)];by_cases x:hi<9223372036854775808
 ·have e1:(hi/9223372036854775808==0)=true:=by rw[beq_iff_eq]; omega
  rw[e1,yz (by omega) (by omega)];have hw:wfW (hi,lo):=⟨by simp only; omega,x,h3,h4⟩;cases b with
  | true =>
   simp only[cond_true] at hv ⊢;rw[zfw F hw];simp only[zh];have:v=-val (hi,lo):=by rw[hv]; rfl
   rw[this]
  | false =>
   simp only[cond_true,cond_false] at hv ⊢;have:v=val (hi,lo):=by rw[hv]; rfl
   rw[this];simp only[uA,ui,QG hw,cond_true,zfz hw]
 ·have e1:(hi/9223372036854775808==0)=false:=by rw[beq_eq_false_iff_ne]; omega
  rw[e1];cases b with
  | true =>
   simp only[cond_true,cond_false] at hv ⊢;by_cases y:hi=9223372036854775808
   ·subst y
    by_cases z:lo=0
    ·subst z
     subst hv;rfl
    ·have e2:(lo==0)=false:=by rw[beq_eq_false_iff_ne]; exact z
     have hr:inR v=false:=by rw[qK]; omega
     simp only[uA,ui,hr,cond_false,e2,beq_self_eq_true,cond_true]
   ·have e2:(hi==9223372036854775808)=false:=by rw[beq_eq_false_iff_ne]; exact y
    have hr:inR v=false:=by rw[qK]; omega
    simp only[uA,ui,hr,cond_false,e2]
  | false =>
   simp only[cond_false] at hv ⊢;have hr:inR v=false:=by rw[qK]; omega
   simp only[uA,ui,hr,cond_false]
theorem TN (h1:0<=x) (h2:x<18446744073709551616):u64.wrap ((BitVec.ofInt IntKind.u64.bits x &&& BitVec.ofInt IntKind.u64.bits 4294967295).toNat:Int)=x%4294967296:=by
 obtain ⟨X,rfl⟩:=Int.eq_ofNat_of_zero_le h1;show u64.wrap ((BitVec.ofInt 64 (X:Int) &&& BitVec.ofInt 64 ((4294967295:Nat):Int)).toNat:Int)=_;rw[BitVec.ofInt_natCast,BitVec.ofInt_natCast,BitVec.toNat_and,BitVec.toNat_ofNat,BitVec.toNat_ofNat,Nat.mod_eq_of_lt (by omega:X<2^64),Nat.mod_eq_of_lt (by decide)];have:X &&& 4294967295=X%4294967296:=Nat.and_two_pow_sub_one_eq_mod X 32;rw[this,xP (by omega) (by omega)];omega
theorem zcS (h1:0<=x) (h2:x<18446744073709551616):u64.wrap ((BitVec.ofInt IntKind.u64.bits x ||| BitVec.ofInt IntKind.u64.bits 0).toNat:Int)=x:=by
 obtain ⟨X,rfl⟩:=Int.eq_ofNat_of_zero_le h1;show u64.wrap ((BitVec.ofInt 64 (X:Int) ||| BitVec.ofInt 64 ((0:Nat):Int)).toNat:Int)=_
 rw[BitVec.ofInt_natCast,BitVec.ofInt_natCast,BitVec.toNat_or,BitVec.toNat_ofNat,BitVec.toNat_ofNat,Nat.mod_eq_of_lt (by omega:X<2^64)];simp;rw[xP (by omega) (by omega)]
theorem zero_or (h1:0<=x) (h2:x<18446744073709551616):u64.wrap ((BitVec.ofInt IntKind.u64.bits 0 ||| BitVec.ofInt IntKind.u64.bits x).toNat:Int)=x:=by
 rw[BitVec.or_comm]; exact zcS h1 h2
theorem To (h:0<=x):x.fdiv (2^(min (32:Int).toNat IntKind.u64.bits))=x/4294967296:=by
 have e:(2^(min (32:Int).toNat IntKind.u64.bits):Int)=4294967296:=by decide
 rw[e,Int.fdiv_eq_ediv_of_nonneg _ (by omega)]
theorem qV {a b m n:Int} (ha:0<=a) (ha':a<=m) (hb:0<=b) (hb':b<=n):0<=a*b/\a*b<=m*n :=
 ⟨Int.mul_nonneg ha hb,Int.mul_le_mul ha' hb' hb (by omega)⟩
theorem Vl (h1:0<=x) (h2:x<18446744073709551616) (h3:0<=y) (h4:y<18446744073709551616) :
  x9.sh F x y=some ((x*y/18446744073709551616,x*y%18446744073709551616,()),()):=by
 unfold x9.sh;rw[TN h1 h2,TN h3 h4,To h1,To h3];have hx:x=x/4294967296*4294967296+x%4294967296:=by omega
 have hy:y=y/4294967296*4294967296+y%4294967296:=by omega
 have bx1:0<=x/4294967296/\x/4294967296<=4294967295:=by omega
 have bx0:0<=x%4294967296/\x%4294967296<=4294967295:=by omega
 have by1:0<=y/4294967296/\y/4294967296<=4294967295:=by omega
 have by0:0<=y%4294967296/\y%4294967296<=4294967295:=by omega
 have hxy:x*y=(x/4294967296)*(y/4294967296)*18446744073709551616+((x/4294967296)*(y%4294967296)+(x%4294967296)*(y/4294967296))*4294967296+(x%4294967296)*(y%4294967296):=by
  generalize x/4294967296=x1 at*;generalize x%4294967296=x0 at*;generalize y/4294967296=y1 at*;generalize y%4294967296=y0 at*;rw[hx,hy];simp only[Int.add_mul,Int.mul_add];have r1:x1*4294967296*(y1*4294967296)=x1*y1*18446744073709551616:=by
   rw[Int.mul_assoc,Int.mul_left_comm 4294967296,<-Int.mul_assoc]; rfl
  have r2:x1*4294967296*y0=x1*y0*4294967296:=by rw[Int.mul_right_comm]
  have r3:x0*(y1*4294967296)=x0*y1*4294967296:=by rw[Int.mul_assoc]
  rw[r1,r2,r3];omega
 have A:=qV bx1.1 bx1.2 by1.1 by1.2;have B:=qV bx1.1 bx1.2 by0.1 by0.2;have C:=qV bx0.1 bx0.2 by1.1 by1.2;have D:=qV bx0.1 bx0.2 by0.1 by0.2;rw[hxy];generalize (x/4294967296)*(y/4294967296)=a at*;generalize (x/4294967296)*(y%4294967296)=b at*;generalize (x%4294967296)*(y/4294967296)=c at*;generalize (x%4294967296)*(y%4294967296)=d at*;clear hxy hx hy bx1 bx0 by1 by0;have w1:u64.wrap a=a:=xP (by omega) (by omega);have w2:u64.wrap b=b:=xP (by omega) (by omega);have w3:u64.wrap c=c:=xP (by omega) (by omega);have w4:u64.wrap d=d:=xP (by omega) (by omega);rw[w1,w2,w3,w4,To D.1];have w5:u64.wrap (b+d/4294967296)=b+d/4294967296:=xP (by omega) (by omega);rw[w5,TN (by omega) (by omega),To (by omega)];have w6:u64.wrap ((b+d/4294967296)%4294967296+c)=(b+d/4294967296)%4294967296+c:=xP (by omega) (by omega);rw[w6,To (by omega)];have w7:u64.wrap (a+(b+d/4294967296)/4294967296)=a+(b+d/4294967296)/4294967296:=xP (by omega) (by omega);rw[w7];have w8:u64.wrap (a+(b+d/4294967296)/4294967296+((b+d/4294967296)%4294967296+c)/4294967296)=a+(b+d/4294967296)/4294967296+((b+d/4294967296)%4294967296+c)/4294967296:=xP (by omega) (by omega);rw[w8,wX];exact S3 (by omega) (by omega)
theorem tA {a:Int×Int} (ha:wfW a):decide (a.1<0)=decide (val a<0):=by
 obtain ⟨a1,a2⟩:=a;obtain ⟨h1,h2,h3,h4⟩:=ha;have:a1<0↔val (a1,a2)<0:=by simp only[val] at*; omega
 simp[this]
theorem Zy {a:Int×Int} (ha:wfW a):0<=((val a).natAbs:Int)/\((val a).natAbs:Int)<=170141183460469231731687303715884105728:=by
 have:=yB.1 (QG ha);omega
theorem VW {x y m n:Int} (hm:m=x.natAbs) (hn:n=y.natAbs):x*y=bif !(decide (x<0)==decide (y<0)) then -(m*n) else m*n:=by
 subst hm hn;by_cases h1:x<0
 ·have e1:(x.natAbs:Int)=-x:=by omega
  by_cases h2:y<0
  ·have e2:(y.natAbs:Int)=-y:=by omega
   simp[h1,h2,e1,e2,Int.neg_mul_neg]
  ·have e2:(y.natAbs:Int)=y:=by omega
   simp[h1,h2,e1,e2,Int.neg_mul]
 ·have e1:(x.natAbs:Int)=x:=by omega
  by_cases h2:y<0
  ·have e2:(y.natAbs:Int)=-y:=by omega
   simp[h1,h2,e1,e2,Int.mul_neg]
  ·have e2:(y.natAbs:Int)=y:=by omega
   simp[h1,h2,e1,e2]
theorem wmul_j (k:(Int×Int)->Int->Option R) {a b:Int×Int} (ha:wfW a) (hb:wfW b) (r:Int×Int)
  (h1:0<=ah/\ah<=9223372036854775808) (h2:0<=al/\al<18446744073709551616) (h3:0<=bh/\bh<=9223372036854775808) (h4:0<=bl/\bl<18446744073709551616)
  (hA:((val a).natAbs:Int)=ah*18446744073709551616+al) (hB:((val b).natAbs:Int)=bh*18446744073709551616+bl) (h0:ah=0\/bh=0) :
  xC.j5 F (fun e w=>k w e) (fun e w=>k w e) ah al bh bl a b r=k (uA (val a*val b)) (ui (val a*val b)):=by
 unfold xC.j5;rw[Vl F h2.1 h2.2 h4.1 h4.2];simp only[zh];have hp:va.sh F (ah != 0) bl al=some ((if ah≠0 then bl else al,()),()):=by
  unfold va.sh;by_cases h:ah=0
  ·simp[h]
  ·have:(ah != 0)=true:=by simp[h]
   simp[this,h]
 rw[hp];simp only[zh];obtain ⟨c,hc1,hc2,hc3⟩:∃c,c=ah*bl+bh*al/\x9.sh F (u64.wrap ((BitVec.ofInt IntKind.u64.bits ah ||| BitVec.ofInt IntKind.u64.bits bh).toNat:Int)) (if ah≠0 then bl else al) =
   some ((c/18446744073709551616,c%18446744073709551616,()),())/\0<=c:=by
  rcases h0 with rfl | rfl
  ·refine ⟨bh*al,by simp,?_,Int.mul_nonneg h3.1 h2.1⟩
   rw[zero_or h3.1 (by omega),if_neg (by simp),Vl F h3.1 (by omega) h2.1 h2.2]
  ·refine ⟨ah*bl,by simp,?_,Int.mul_nonneg h1.1 h4.1⟩
   rw[zcS h1.1 (by omega)];by_cases h:ah=0
   ·subst h
    rw[if_neg (by simp),Vl F (by omega) (by omega) h2.1 h2.2];simp
   ·rw[if_pos h,Vl F h1.1 (by omega) h4.1 h4.2]
 rw[hc2];simp only[zh];have hd:0<=al*bl:=Int.mul_nonneg h2.1 h4.1;have hd':al*bl<=340282366920938463426481119284349108225:=(qV h2.1 (by omega:al<=18446744073709551615) h4.1 (by omega:bl<=18446744073709551615)).2;have hm:((val a).natAbs:Int)*((val b).natAbs:Int)=c*18446744073709551616+al*bl:=by
  rw[hA,hB,hc1];rcases h0 with rfl | rfl
  ·simp only[Int.zero_mul,Int.zero_add,Int.mul_add]
   have:al*(bh*18446744073709551616)=bh*al*18446744073709551616:=by rw[Int.mul_left_comm,<-Int.mul_assoc]
   omega
  ·simp only[Int.zero_mul,Int.zero_add,Int.add_zero,Int.add_mul]
   have:ah*18446744073709551616*bl=ah*bl*18446744073709551616:=by rw[Int.mul_right_comm]
   omega
 have hs:=VW (x:=val a) (y:=val b) rfl rfl;rw[hm,<-tA ha,<-tA hb] at hs;generalize al*bl=d at*;generalize hsg:(!(decide (a.1<0)==decide (b.1<0)))=sg at*;rw[X9 F (by omega) (by omega) (by omega) (by omega)];simp only[zh];by_cases q1:c/18446744073709551616=0
 ·have e1:(c/18446744073709551616 != 0)=false:=by simp[q1]
  rw[e1];simp only[cond_false];by_cases q2:(d/18446744073709551616+c%18446744073709551616+0)/18446744073709551616=0
  ·have e2:((d/18446744073709551616+c%18446744073709551616+0)/18446744073709551616 != 0)=false:=by rw[q2]; rfl
   rw[e2];simp only[cond_false];rw[Vp F (v:=val a*val b) (by omega) (by omega) (by omega) (by omega) (by rw[hs]; cases sg<;>simp only[cond_true,cond_false]<;>omega)];simp only[zh]
  ·have e2:((d/18446744073709551616+c%18446744073709551616+0)/18446744073709551616 != 0)=true:=bne_iff_ne.2 q2
   rw[e2];simp only[cond_true];have hr:inR (val a*val b)=false:=by rw[qK,hs]; cases sg<;>simp only[cond_true,cond_false]<;>omega
   simp only[uA,ui,hr,cond_false]
 ·have e1:(c/18446744073709551616 != 0)=true:=by simp[q1]
  rw[e1];simp only[cond_true];have hr:inR (val a*val b)=false:=by rw[qK,hs]; cases sg<;>simp only[cond_true,cond_false]<;>omega
  simp only[uA,ui,hr,cond_false]
theorem W3 {a b:Int×Int} (ha:wfW a) (hb:wfW b):xC.sh F a b=some ((uA (val a*val b),ui (val a*val b),()),()):=by
 have ba:=Zy ha;have bb:=Zy hb;unfold xC.sh;rw[Wa F ha,Wa F hb];simp only[zh];have key:∀(h0:((val a).natAbs:Int)/18446744073709551616=0\/((val b).natAbs:Int)/18446744073709551616=0),xC.j5 F (fun e w=>some ((w,e,()),())) (fun e w=>some ((w,e,()),()))
   (((val a).natAbs:Int)/18446744073709551616) (((val a).natAbs:Int)%18446744073709551616) (((val b).natAbs:Int)/18446744073709551616) (((val b).natAbs:Int)%18446744073709551616) a b (0,0) =
   (some ((uA (val a*val b),ui (val a*val b),()),()):Option xC.sg.R):=fun h0 =>
  wmul_j F (fun w e=>some ((w,e,()),())) ha hb (0,0) (by omega) (by omega) (by omega) (by omega) (by omega) (by omega) h0
 by_cases q1:((val a).natAbs:Int)/18446744073709551616=0
 ·have e1:(((val a).natAbs:Int)/18446744073709551616 != 0)=false:=by simp[q1]
  rw[e1];simp only[cond_false];exact key (.inl q1)
 ·have e1:(((val a).natAbs:Int)/18446744073709551616 != 0)=true:=by simp[q1]
  rw[e1];simp only[cond_true];by_cases q2:((val b).natAbs:Int)/18446744073709551616=0
  ·have e2:(((val b).natAbs:Int)/18446744073709551616 != 0)=false:=by simp[q2]
   rw[e2];simp only[cond_false];exact key (.inr q2)
  ·have e2:(((val b).natAbs:Int)/18446744073709551616 != 0)=true:=by simp[q2]
   rw[e2];simp only[cond_true];have hs:=VW (x:=val a) (y:=val b) rfl rfl;have hp:(18446744073709551616:Int)*18446744073709551616<=((val a).natAbs:Int)*((val b).natAbs:Int):=Int.mul_le_mul (by omega) (by omega) (by omega) (by omega);have hr:inR (val a*val b)=false:=by
    rw[qK,hs];generalize ((val a).natAbs:Int)*((val b).natAbs:Int)=m at*;cases (!(decide (val a<0)==decide (val b<0)))<;>simp only[cond_true,cond_false]<;>omega
   simp only[uA,ui,hr,cond_false]
def FU:Nat:=4194304
def zbz (l:List (Int×Int)):Int:=(l.map val).sum
theorem zeT (h1:-9223372036854775808<=x) (h2:x<9223372036854775808):x.fdiv (2^(min (63:Int).toNat IntKind.i64.bits))=if x<0 then -1 else 0:=by
 have e:(2^(min (63:Int).toNat IntKind.i64.bits):Int)=9223372036854775808:=by decide
 rw[e,Int.fdiv_eq_ediv_of_nonneg _ (by omega)];split<;>omega
theorem zcR (h1:a=c) (h2:b=d):(a,b)=(c,d):=by rw[h1,h2]
theorem sum_rg (k:Int->Int->Int->Option R) (l:List (Int×Int)) (N:Int) (xs:List (Int×Int)):∀(i lo hi top:Int) (r:Int×Int),(∀x∈xs,wfW x)->0<=lo->lo<18446744073709551616->0<=hi->hi<18446744073709551616->
  -4611686018427387904+xs.length<=top->top<=4611686018427387904-xs.length->
  ∃lo' hi' top',xw.l4.rg F (fun lo hi top _ _ _ _ _=>k lo hi top) l N xs i lo hi top r=k lo' hi' top'/\0<=lo'/\lo'<18446744073709551616/\0<=hi'/\hi'<18446744073709551616 /\
   -4611686018427387904<=top'/\top'<=4611686018427387904/\top'*340282366920938463463374607431768211456+hi'*18446744073709551616+lo'=top*340282366920938463463374607431768211456+hi*18446744073709551616+lo+zbz xs:=by
 induction xs with
 | nil =>
  intro i lo hi top r _ h1 h2 h3 h4 h5 h6;exact ⟨lo,hi,top,by simp only[xw.l4.rg],h1,h2,h3,h4,by simp at h5; omega,by simp at h6; omega,by simp[zbz]⟩
 | cons x xs ih =>
  intro i lo hi top r hw h1 h2 h3 h4 h5 h6;obtain ⟨x1,x2⟩:=x;obtain ⟨g1,g2,g3,g4⟩:=hw (x1,x2) (by simp);simp only at g1 g2 g3 g4;simp only[xw.l4.rg,wX];rw[X9 F h1 g3 (by omega) (by omega)];simp only[zh];rw[X9 F h3 (by omega) (by omega) (by omega)];simp only[zh];rw[zeT g1 g2];obtain ⟨s,hs⟩:∃s:Int,s=(if x1<0 then -1 else 0)/\(x1<0/\s=-1\/0<=x1/\s=0):=⟨_,rfl,by split<;>omega⟩;rw[<-hs.1];simp only[length_cons] at h5 h6;rw[yz (n:=(hi+x1%18446744073709551616+(lo+x2+0)/18446744073709551616)/18446744073709551616) (by omega) (by omega)];rw[yz (n:=s+_) (by omega) (by omega),yz (n:=top+_) (by omega) (by omega)];obtain ⟨lo',hi',top',e1,e2,e3,e4,e5,e6,e7,e8⟩:=ih (i+1) ((lo+x2+0)%18446744073709551616) ((hi+x1%18446744073709551616+(lo+x2+0)/18446744073709551616)%18446744073709551616)
   (top+(s+(hi+x1%18446744073709551616+(lo+x2+0)/18446744073709551616)/18446744073709551616)) r (fun y hy=>hw y (by simp[hy])) (by omega) (by omega) (by omega) (by omega) (by omega) (by omega)
  refine ⟨lo',hi',top',e1,e2,e3,e4,e5,e6,e7,?_⟩;rw[e8];simp only[zbz,map_cons,sum_cons,val];omega
theorem wsum_eq {l:List (Int×Int)} (hw:∀x∈l,wfW x) (hl:l.length<F) (hL:l.length<4611686018427387904):xw.sh F l=some ((uA (zbz l),ui (zbz l),()),()):=by
 unfold xw.sh;rw[show (0:Int)=((0:Nat):Int) from rfl,xw.l4.rq F _ l _ rfl (by omega) l 0 F _ _ _ _ (by simp) hl];obtain ⟨lo,hi,top,e1,e2,e3,e4,e5,e6,e7,e8⟩:=sum_rg F (fun lo hi top=>bif (top != ((i64.wrap hi).fdiv (2^(min (63:Int).toNat IntKind.i64.bits)))) then (some (((0,0),10,()),()):Option xw.sg.R) else some (((i64.wrap hi,lo),0,()),()))
  l (l.length:Int) l 0 0 0 0 (0,0) hw (by omega) (by omega) (by omega) (by omega) (by omega) (by omega)
 refine e1.trans ?_;obtain ⟨k,f1,f2,f3⟩:=W2 hi;rw[zeT f2 f3];simp only[Int.zero_mul,Int.zero_add] at e8;rw[<-e8];generalize i64.wrap hi=r at*;by_cases hr:r<0
 ·rw[if_pos hr]
  by_cases ht:top=-1
  ·have hb:(top != -1)=false:=by rw[ht]; rfl
   have hin:inR (top*340282366920938463463374607431768211456+hi*18446744073709551616+lo)=true:=by rw[yB]; omega
   simp only[hb,cond_false,uA,ui,hin,cond_true,mk];rw[zcR (a:=r) (b:=lo) (c:=(top*340282366920938463463374607431768211456+hi*18446744073709551616+lo)/18446744073709551616) (d:=(top*340282366920938463463374607431768211456+hi*18446744073709551616+lo)%18446744073709551616) (by omega) (by omega)]
  ·have hb:(top != -1)=true:=bne_iff_ne.2 ht
   have hin:inR (top*340282366920938463463374607431768211456+hi*18446744073709551616+lo)=false:=by rw[qK]; omega
   simp only[hb,cond_true,uA,ui,hin,cond_false]
 ·rw[if_neg hr]
  by_cases ht:top=0
  ·have hb:(top != 0)=false:=by rw[ht]; rfl
   have hin:inR (top*340282366920938463463374607431768211456+hi*18446744073709551616+lo)=true:=by rw[yB]; omega
   simp only[hb,cond_false,uA,ui,hin,cond_true,mk];rw[zcR (a:=r) (b:=lo) (c:=(top*340282366920938463463374607431768211456+hi*18446744073709551616+lo)/18446744073709551616) (d:=(top*340282366920938463463374607431768211456+hi*18446744073709551616+lo)%18446744073709551616) (by omega) (by omega)]
  ·have hb:(top != 0)=true:=bne_iff_ne.2 ht
   have hin:inR (top*340282366920938463463374607431768211456+hi*18446744073709551616+lo)=false:=by rw[qK]; omega
   simp only[hb,cond_true,uA,ui,hin,cond_false]
theorem power_0:yR.sh FU 0=some ((mk (10000^(0:Int).toNat),0,()),()):=by kernel_rfl
theorem power_1:yR.sh FU 1=some ((mk (10000^(1:Int).toNat),0,()),()):=by kernel_rfl
theorem power_2:yR.sh FU 2=some ((mk (10000^(2:Int).toNat),0,()),()):=by kernel_rfl
theorem power_3:yR.sh FU 3=some ((mk (10000^(3:Int).toNat),0,()),()):=by kernel_rfl
theorem power_4:yR.sh FU 4=some ((mk (10000^(4:Int).toNat),0,()),()):=by kernel_rfl
theorem power_5:yR.sh FU 5=some ((mk (10000^(5:Int).toNat),0,()),()):=by kernel_rfl
theorem power_6:yR.sh FU 6=some ((mk (10000^(6:Int).toNat),0,()),()):=by kernel_rfl
theorem power_7:yR.sh FU 7=some ((mk (10000^(7:Int).toNat),0,()),()):=by kernel_rfl
theorem power_8:yR.sh FU 8=some ((mk (10000^(8:Int).toNat),0,()),()):=by kernel_rfl
theorem power_9:yR.sh FU 9=some ((mk (10000^(9:Int).toNat),0,()),()):=by kernel_rfl
theorem zfc (h1:0<=k) (h2:k<=9):yR.sh FU k=some ((mk (10000^k.toNat),0,()),()):=by
 have:k=0\/k=1\/k=2\/k=3\/k=4\/k=5\/k=6\/k=7\/k=8\/k=9:=by omega
 rcases this with rfl | rfl | rfl | rfl | rfl | rfl | rfl | rfl | rfl | rfl
 ·exact power_0
 ·exact power_1
 ·exact power_2
 ·exact power_3
 ·exact power_4
 ·exact power_5
 ·exact power_6
 ·exact power_7
 ·exact power_8
 ·exact power_9
def tK (a b:Int):Int:=a/b+if a%b=0 then 0 else 1
theorem zgd {s:Int} (h1:1<=s) (h2:s<=1000000000000):wN.sh F (mk 1099511627776) (mk s) 1=some ((mk (tK 1099511627776 s),0,()),()):=by
 have hq1:0<=1099511627776/s:=Int.ediv_nonneg (by omega) (by omega);have hq2:1099511627776/s<=1099511627776:=Int.ediv_le_self _ (by omega);have hr1:0<=1099511627776%s:=Int.emod_nonneg _ (by omega);have hr2:1099511627776%s<s:=Int.emod_lt_of_pos _ (by omega);have ms:mk s=(0,s):=by simp only[mk]; ext<;>simp only<;>omega
 have ma:mk 1099511627776=(0,1099511627776):=by rfl
 have mks:∀{v:Int},0<=v->v<18446744073709551616->mk v=(0,v):=fun h h'=>by simp only[mk]; ext<;>simp only<;>omega
 have hQ:wk.sh F (mk 1099511627776) (mk s)=some ((mk (1099511627776/s),mk (1099511627776%s),0,()),()):=by
  unfold wk.sh;have hb:(((mk s).1==0)&&(((mk s).2==0)&&true))=false:=by
   rw[ms]; simp; omega
  rw[hb];simp only[cond_false];rw[Wa F (wu (by rw[yB]; omega)),Wa F (wu (by rw[yB]; omega))];simp only[zh,xR];have n1:((1099511627776:Int).natAbs:Int)=1099511627776:=rfl;have n2:(s.natAbs:Int)=s:=by omega
  rw[n1,n2];have d1:(1099511627776:Int)/18446744073709551616=0:=by decide
  have d2:(1099511627776:Int)%18446744073709551616=1099511627776:=by decide
  have d3:s/18446744073709551616=0:=by omega
  have d4:s%18446744073709551616=s:=by omega
  rw[d1,d2,d3,d4];have hsne:(s != 0)=true:=bne_iff_ne.2 (by omega);have hs0:(s==0)=false:=by rw[beq_eq_false_iff_ne]; omega
  have hq:yJ.sh F 0 1099511627776 0 s=some ((0,1099511627776/s,0,1099511627776%s,()),()):=by
   unfold yJ.sh zt.sh;have e0:(0:Int).tmod s=0:=by simp
   have e1:(0:Int).tdiv s=0:=by simp
   have e2:(1099511627776:Int).tdiv s=1099511627776/s:=Int.tdiv_eq_ediv_of_nonneg (by omega);have e3:(1099511627776:Int).tmod s=1099511627776%s:=Int.tmod_eq_emod_of_nonneg (by omega);have e4:decide (s<=0)=false:=by simp; omega
   simp only[beq_self_eq_true,cond_true,hsne,e0,e1,hs0,cond_false,e4,zh,e2,e3];rw[xP (by omega) (by omega),xP (n:=1099511627776/s) (by omega) (by omega)]
  rw[hq];simp only[zh];have hng:(!(decide ((mk 1099511627776).1<0)==decide ((mk s).1<0)))=false:=by rw[ma,ms]; rfl
  rw[hng,Vp F (v:=1099511627776/s) (by omega) (by omega) (by omega) (by omega) (by simp)];simp only[zh];have i1:inR (1099511627776/s)=true:=by rw[yB]; omega
  have i2:inR (1099511627776%s)=true:=by rw[yB]; omega
  have hz:decide ((mk 1099511627776).1<0)=false:=by rw[ma]; rfl
  simp only[ui,uA,i1,cond_true,bne_self_eq_false,cond_false];rw[hz,Vp F (v:=1099511627776%s) (by omega) (by omega) (by omega) (by omega) (by simp)];simp only[zh,ui,uA,i2,cond_true]
 unfold wN.sh;rw[hQ];have c1:decide ((1:Int)<0)=false:=by decide
 have c2:decide ((1:Int)>4)=false:=by decide
 simp only[c1,c2,cond_false,zh,bne_self_eq_false];by_cases hz:1099511627776%s=0
 ·have e:(((mk (1099511627776%s)).1==0)&&(((mk (1099511627776%s)).2==0)&&true))=true:=by rw[hz]; rfl
  rw[e];simp only[cond_true,tK,hz,if_true,Int.add_zero]
 ·have e:(((mk (1099511627776%s)).1==0)&&(((mk (1099511627776%s)).2==0)&&true))=false:=by
   rw[mks hr1 (by omega)]; simp; exact hz
  rw[e];simp only[cond_false];have ha:wO.sh F (mk (1099511627776/s)) (mk (1099511627776%s)) (mk s) 1=some ((true,()),()):=by
   unfold wO.sh;rw[mks hr1 (by omega),ms];rfl
  rw[ha];simp only[zh,Bool.not_true,cond_false];have hng:(!(decide ((mk 1099511627776).1<0)==decide ((mk s).1<0)))=false:=by rw[ma,ms]; rfl
  rw[hng];simp only[cond_false];rw[Zh F (by omega) (by omega)];simp only[zh];rw[Q7 F (wu (by rw[yB]; omega)) (wu (by rw[yB]; omega))];simp only[zh,xR];have i1:inR (1099511627776/s+1)=true:=by rw[yB]; omega
  simp only[ui,uA,i1,cond_true,tK,hz,if_false]
def Xu (c:Int):Bool:=decide (c>=97)&&decide (c<=122)
def zco (c:Int):Bool:=decide (c>=48)&&decide (c<=57)
def UT (c:Int):Bool:=Xu c||(zco c||c==95)
theorem V8 (c:Int):wv.sh F c=some ((Xu c,()),()):=by
 unfold wv.sh Xu;cases decide (c>=97)<;>rfl
theorem zgf (c:Int):vb.sh F c=some ((zco c,()),()):=by
 unfold vb.sh zco;cases decide (c>=48)<;>rfl
theorem zfQ (c:Int):wW.sh F c=some ((UT c,()),()):=by
 unfold wW.sh UT;rw[V8,zgf];simp only[zh];cases Xu c<;>cases zco c<;>rfl
def cI (c:UInt8):Int:=(c.toNat:Int)
theorem zdq {n:Nat} {c:UInt8} {r:List UInt8} (h:s.data.toList.drop n=c::r):bt s (n:Int)=cI c:=by
 have:s.data.toList[n]?=some c:=by
  have:=congrArg (·[0]?) h
  simpa using this
 simp only[bt,Int.toNat_natCast,getD_eq_getElem?_getD,this,Option.getD_some,cI]
theorem uD (s:ByteArray):s.size=s.data.toList.length:=by rw[Array.length_toList]; rfl
theorem run_l2 (k:Int->Option R) (s:ByteArray) (of:Nat) (p:Int->Bool) (hp:∀c,xm.d15 F of (c,())=some ((p c,()),())) (hs:s.size<4611686018427387904) :
  ∀(xs:List UInt8) (n fu:Nat),s.data.toList.drop n=xs->xs.length<fu->xm.l2 F (fun _ _ n _=>k n) fu s of (n:Int)=k ((n+(xs.takeWhile fun c=>p (cI c)).length:Nat):Int):=by
 intro xs;induction xs with
 | nil =>
  intro n fu h hf;obtain ⟨fu,rfl⟩:∃j,fu=j+1:=⟨fu-1,by simp at hf; omega⟩;have hn:s.size<=n:=by rw[uD]; simpa using h
  have e1:decide ((n:Int)<(s.size:Int))=false:=by simp; exact hn
  simp only[xm.l2,xm.l2.y,e1,cond_false,List.takeWhile_nil,length_nil,Nat.add_zero]
 | cons c xs ih =>
  intro n fu h hf;obtain ⟨fu,rfl⟩:∃j,fu=j+1:=⟨fu-1,by simp at hf; omega⟩;have hn:n<s.size:=by rw[uD]; exact vc h
  have e1:decide ((n:Int)<(s.size:Int))=true:=by simp; exact hn
  have e2:idx (n:Int) s.size=true:=xS hn;simp only[xm.l2,xm.l2.y,e1,e2,cond_true,zdq h,hp,zh];cases hc:p (cI c) with
  | true =>
   simp only[cond_true];rw[yz (by omega) (by omega),<-wd,ih (n+1) fu (wz h) (by simp at hf; omega)];simp only[List.takeWhile_cons,hc,if_true,length_cons];congr 2
   omega
  | false =>
   simp only[cond_false,List.takeWhile_cons,hc];simp
theorem zeZ {of:Nat} {p:Int->Bool} (hp:∀c,xm.d15 F of (c,())=some ((p c,()),())) (hs:s.size<4611686018427387904) (hF:s.size<F) :
  xm.sh F s of=some ((((s.data.toList.takeWhile fun c=>p (cI c)).length:Int),()),()):=by
 unfold xm.sh;have:=run_l2 F (fun n=>(some ((n,()),()):Option xm.sg.R)) s of p hp hs s.data.toList 0 F (by simp) (by rw[<-uD]; exact hF);simpa using this
theorem zcp (c:Int):xm.d15 F tE (c,())=some ((Xu c,()),()):=by
 unfold xm.d15;rw[show mkT xm.ds15 [(tT,wW.sp F),(tE,wv.sp F)] tE (c,())=wv.sh F c from rfl,V8]
theorem zep (c:Int):xm.d15 F tT (c,())=some ((UT c,()),()):=by
 unfold xm.d15;rw[show mkT xm.ds15 [(tT,wW.sp F),(tE,wv.sp F)] tT (c,())=wW.sh F c from rfl,zfQ]
theorem qj {α:Type} {p:α->Bool}:∀{l:List α},((l.takeWhile p).length=l.length)↔l.all p=true
 | []=>by simp
 | a::l=>by
  simp only[List.takeWhile_cons,all_cons];cases h:p a with
  | true=>simp only[if_true,length_cons,Bool.true_and]; rw[<-qj (l:=l)]; omega
  | false=>simp
def zeA:List UInt8:=[32,112,108,97,110,32,114,111,117,110,100,32,98,121,32,98,108,111,99,107,115,32,109,105,110,32,109,97,120,32,111,118,101,114,32,117,112,116,111,32,103,114,97,100,117,97,116,101,100,32,118,111,108,117,109,101,32,111,102,102,32,105,102,32,102,108,111,111,114,32,99,101,105,108,32,122,101,114,111,32,104,97,108,102,32,101,118,101,110,32]
def Te (l:List UInt8):Bool:=!l.isEmpty&&(l.all (fun c=>Xu (cI c))&&Lib.contains zeA ([32]++l++[32]))
def YG (l:List UInt8):Bool:=!l.isEmpty&&(decide (l.length<=32)&&(Xu (cI (l.headD 0))&&(l.all (fun c=>UT (cI c))&&!Te l)))
theorem zaC (s:ByteArray):(!(s.toList==(⟨#[]⟩:ByteArray).toList))=!s.data.toList.isEmpty:=by
 rw[ByteArray.toList_eq,ByteArray.toList_eq];cases s.data.toList<;>rfl
theorem word_eq (hs:s.size<=1048576) (hF:s.size<F):vB.sh F s=some ((Te s.data.toList,()),()):=by
 unfold vB.sh;rw[zaC,zeZ F (zcp F) (by omega) hF];unfold Te;cases hE:s.data.toList.isEmpty with
 | true=>rfl
 | false =>
  simp only[Bool.not_false,cond_true,zh,Bool.true_and];by_cases ha:s.data.toList.all (fun c=>Xu (cI c))=true
  ·have e1:(((s.data.toList.takeWhile fun c=>Xu (cI c)).length:Int)==(s.size:Int))=true:=by
    rw[qj.2 ha,<-uD]; simp
   have s1:(⟨#[32]⟩:ByteArray).size=1:=rfl;have s2:((⟨#[32]⟩:ByteArray)++s).size=1+s.size:=by rw[ByteArray.size_append]; rfl
   have e2:Nat.ble ((⟨#[32]⟩:ByteArray).size+s.size) wF=true:=by rw[s1,Nat.ble_eq]; unfold wF; omega
   have e3:Nat.ble (((⟨#[32]⟩:ByteArray)++s).size+(⟨#[32]⟩:ByteArray).size) wF=true:=by rw[s1,s2,Nat.ble_eq]; unfold wF; omega
   rw[e1,e2,e3,ha];simp only[cond_true,Bool.true_and];have hd:((⟨#[32]⟩:ByteArray)++s++(⟨#[32]⟩:ByteArray)).data.toList=[32]++s.data.toList++[32]:=by simp[ByteArray.data_append]
   unfold wj.sh;rw[hd];rfl
  ·have e1:(((s.data.toList.takeWhile fun c=>Xu (cI c)).length:Int)==(s.size:Int))=false:=by
    rw[beq_eq_false_iff_ne];intro h;apply ha;rw[<-qj];rw[uD] at h;exact_mod_cast h
   rw[e1];simp only[cond_false];rw[Bool.not_eq_true] at ha;rw[ha];rfl
theorem zcV (hF:64<F):vj.sh F s=some ((YG s.data.toList,()),()):=by
 unfold vj.sh YG;rw[zaC];cases hE:s.data.toList.isEmpty with
 | true=>rfl
 | false =>
  simp only[Bool.not_false,cond_true,Bool.true_and];by_cases hl:s.data.toList.length<=32
  ·have e1:decide ((s.size:Int)<=32)=true:=decide_eq_true (by have:=uD s; omega)
   have hpos:0<s.size:=by rw[uD]; cases h:s.data.toList with | nil=>rw[h] at hE; cases hE | cons=>simp
   have e2:idx 0 s.size=true:=xS (i:=0) hpos;have e3:bt s 0=cI (s.data.toList.headD 0):=by
    cases h:s.data.toList with
    | nil=>rw[h] at hE; cases hE
    | cons c r=>exact zdq (n:=0) (r:=r) (by simpa using h)
   have hsz:s.size<=32:=by rw[uD]; exact hl
   rw[e1,e2,e3,V8,zeZ F (zep F) (by omega) (by omega),word_eq F (by omega) (by omega)];simp only[cond_true,zh,hl,decide_true,Bool.true_and];cases Xu (cI (s.data.toList.headD 0)) with
   | false=>rfl
   | true =>
    simp only[cond_true,Bool.true_and];by_cases ha:s.data.toList.all (fun c=>UT (cI c))=true
    ·have e4:(((s.data.toList.takeWhile fun c=>UT (cI c)).length:Int)==(s.size:Int))=true:=by
      rw[qj.2 ha,<-uD]; simp
     rw[e4,ha];rfl
    ·have e4:(((s.data.toList.takeWhile fun c=>UT (cI c)).length:Int)==(s.size:Int))=false:=by
      rw[beq_eq_false_iff_ne];intro h;apply ha;rw[<-qj];rw[uD] at h;exact_mod_cast h
     rw[e4];rw[Bool.not_eq_true] at ha;rw[ha];rfl
  ·have e1:decide ((s.size:Int)<=32)=false:=decide_eq_false (by have:=uD s; omega)
   have e2:decide (s.data.toList.length<=32)=false:=decide_eq_false hl;rw[e1,e2];rfl
theorem Y4 {n:Int} (h1:0<=n) (h2:n<(len:Int)):idx n len=true:=by
 unfold idx; rw[decide_eq_true h1,decide_eq_true h2]; rfl
def ZU (a b:ByteArray):Bool:=a.toList==b.toList
theorem d16_eq (e d:xB.T):zr.d16 F (uF+1) (e,d,())=some ((ZU e.1 d.1,()),()):=by
 unfold zr.d16;rw[show mkT zr.ds16 [(Xn,wJ.sp F)] (uF+1) (e,d,())=wJ.sh F e d from rfl];rfl
theorem ze8 (k:Int->Option R) (k':Option R) (L:List xB.T) (N:Int) (d:xB.T):∀(xs:List xB.T) (i:Nat),
  zr.l2.rg F k (fun _ _ _ _ _=>k') L N xs (i:Int) (uF,d)=match xs.findIdx? (fun e=>ZU e.1 d.1) with | some j=>k ((i+j:Nat):Int) | none=>k':=by
 intro xs;induction xs with
 | nil=>intro i; rfl
 | cons x xs ih =>
  intro i;simp only[zr.l2.rg];rw[d16_eq];simp only[zh];cases h:ZU x.1 d.1 with
  | true=>simp[List.findIdx?_cons,h]
  | false =>
   simp only[cond_false];rw[<-wd,ih (i+1)];simp only[List.findIdx?_cons,h];cases hj:xs.findIdx? (fun e=>ZU e.1 d.1) with
   | none=>simp
   | some j=>simp; congr 1; omega
theorem QZ {l:List xB.T} {d:xB.T} (hl:l.length<F) (hL:l.length<4611686018427387904):yW.sh F l (uF,d)=some ((l.any (fun e=>ZU e.1 d.1),()),()):=by
 unfold yW.sh zr.sh;have h1:=zr.l2.rq F (fun r42=>(some ((r42,()),()):Option zr.sg.R)) (fun s3 f3 t73 t83 t93=>some (((-1),()),())) l (l.length:Int) rfl (by omega) l 0 F (uF,d) (by simp) hl;have h2:=ze8 F (fun r=>(some ((r,()),()):Option zr.sg.R)) (some (((-1),()),())) l (l.length:Int) d l 0;have h3:=h1.trans h2;rw[show ((0:Nat):Int)=0 from rfl] at h3;rw[h3];cases h:l.findIdx? (fun e=>ZU e.1 d.1) with
 | none =>
  have:l.any (fun e=>ZU e.1 d.1)=false:=by
   rw[List.findIdx?_eq_none_iff] at h;rw[List.any_eq_false];intro x hx;simpa using h x hx
  simp only[zh,this];rfl
 | some j =>
  have:l.any (fun e=>ZU e.1 d.1)=true:=by
   rw[List.findIdx?_eq_some_iff_getElem] at h;obtain ⟨h1,h2,_⟩:=h;rw[List.any_eq_true];exact ⟨l[j],getElem_mem _,h2⟩
  simp only[zh,this];have:decide (((0+j:Nat):Int)>=0)=true:=decide_eq_true (by omega);rw[this]
abbrev dS (d:xB.T):Int:=d.2
def dE (pre:List xB.T):List xB.T->Int
 | []=>0
 | d::r=>bif !YG d.1.data.toList then 61 else bif pre.any (fun e=>ZU e.1 d.1) then 61 else bif decide (dS d<1) then 50 else bif decide (dS d>1000000000000) then 50 else dE (pre++[d]) r
def ZA (name:ByteArray) (dims:List xB.T) (mode:Int):Int :=
 bif !YG name.data.toList then 61 else bif decide ((dims.length:Int)<1) then 100 else bif decide ((dims.length:Int)>4) then 100 else bif dE [] dims != 0 then dE [] dims else bif decide (mode<0) then 50 else bif decide (mode>4) then 50 else 0
theorem q8 {n i:Nat} (h:i<=n):zJ n none (some (i:Int))=(true,0,i):=by
 unfold zJ;have e1:decide ((0:Int)<=((i:Nat):Int))=true:=decide_eq_true (by omega);have e2:decide (((i:Nat):Int)<=(n:Int))=true:=decide_eq_true (by omega);simp only[Option.getD_none,Option.getD_some,e1,e2,Int.toNat_natCast];rfl
theorem qZ {n i:Nat} (h:i<=n):zJ n (some (i:Int)) none=(true,i,n):=by
 unfold zJ;have e1:decide ((0:Int)<=((i:Nat):Int))=true:=decide_eq_true (by omega);have e2:decide (((i:Nat):Int)<=(n:Int))=true:=decide_eq_true (by omega);have e3:decide ((n:Int)<=(n:Int))=true:=decide_eq_true (by omega);simp only[Option.getD_none,Option.getD_some,e1,e2,e3,Int.toNat_natCast];rfl
theorem head_rg (hF:64<F) (k:Int->Option R) (k2:zO.T->Option R) (L:List xB.T) (N:Int) (p:zO.T) (hp:p.2.1=L) (hL:L.length<=32):∀(xs:List xB.T) (i:Nat),L.drop i=xs->
  yZ.l6.rg F k k (fun _ _ _ _ p=>k2 p) L N xs (i:Int) p=bif dE (L.take i) xs != 0 then k (dE (L.take i) xs) else k2 p:=by
 intro xs;induction xs with
 | nil=>intro i h; rfl
 | cons d xs ih =>
  intro i h;have hi:=vc h;have hd:L[i]?=some d:=by have:=congrArg (·[0]?) h; simpa using this
  have htake:L.take (i+1)=L.take i++[d]:=by rw[List.take_add_one,hd]; rfl
  simp only[yZ.l6.rg];rw[zcV F hF];simp only[zh,dE];rw[<-wd,ih (i+1) (wz h),htake];cases hn:YG d.1.data.toList with
  | false=>rfl
  | true =>
   simp only[Bool.not_true,cond_false];rw[hp,q8 (by omega)];simp only[cond_true,List.drop_zero];rw[QZ F (by simp; omega) (by simp; omega)];simp only[zh];cases hc:(L.take i).any (fun e=>ZU e.1 d.1) with
   | true=>rfl
   | false =>
    simp only[cond_false];cases decide (dS d<1) with
    | true=>rfl
    | false =>
     cases decide (dS d>1000000000000) with
     | true=>rfl
     | false=>rfl
theorem head_eq (hF:64<F) (p:zO.T):yZ.sh F p=some ((ZA p.1 p.2.1 p.2.2.1,()),()):=by
 unfold yZ.sh ZA;rw[zcV F hF];simp only[zh];cases hn:YG p.1.data.toList with
 | false=>rfl
 | true =>
  simp only[Bool.not_true,cond_false];cases h1:decide ((p.2.1.length:Int)<1) with
  | true=>rfl
  | false =>
   cases h2:decide ((p.2.1.length:Int)>4) with
   | true=>rfl
   | false =>
    have h2:=of_decide_eq_false h2;simp only[cond_false];refine Eq.trans (yZ.l6.rq F _ _ _ p.2.1 _ rfl (by omega) p.2.1 0 F _ (by simp) (by omega)) ?_;refine (head_rg F hF (fun r=>(some ((r,()),()):Option yZ.sg.R)) (fun p=>bif decide (p.2.2.1<0) then some ((50,()),()) else bif decide (p.2.2.1>4) then some ((50,()),()) else some ((0,()),())) p.2.1 (p.2.1.length:Int) p rfl (by omega) p.2.1 0 (by simp)).trans ?_;simp only[List.take_zero];cases (dE [] p.2.1 != 0) with
    | true=>rfl
    | false =>
     cases decide (p.2.2.1<0) with
     | true=>rfl
     | false=>cases decide (p.2.2.1>4)<;>rfl
abbrev nK (n:za.T):Int:=n.1
abbrev nN (n:za.T):Int:=n.2.1
abbrev nO (n:za.T):Int:=n.2.2.1
abbrev nC (n:za.T):Int:=n.2.2.2.1
abbrev nT (n:za.T):List yp.T:=n.2.2.2.2.1
abbrev tI (n:za.T):Int×Int×Bool×Bool:=get wt uK (nK n).toNat
abbrev aK (n:za.T):Int:=(tI n).1
def ar (n:za.T):Nat:=bif decide (aK n>=0) then (aK n).toNat else (nC n).toNat
def tz (n:za.T):Bool:=decide (1<=nK n)&&decide (nK n<=16)
def uV (n:za.T):Bool:=bif decide (aK n<0) then decide (nC n>=2)&&decide (nC n<=16) else nC n==0
theorem ZP:tz n=true↔1<=nK n/\nK n<=16:=by simp[tz]
theorem W7 (h:tz n=true) (hk:uV n=true):wi.sh F n=some (((ar n:Int),()),()):=by
 unfold wi.sh;have hg:=ZP.1 h;have e1:idx (nK n) 17=true:=Y4 (by omega) (by omega);unfold ar;unfold uV at hk;rw[show idx n.1 17=true from e1];simp only[cond_true];cases ha:decide (aK n>=0) with
 | true =>
  have ha':=of_decide_eq_true ha;simp only[cond_true];have:(((aK n).toNat:Nat):Int)=aK n:=by omega
  rw[this]
 | false =>
  have ha':=of_decide_eq_false ha;simp only[cond_false];rw[decide_eq_true (show aK n<0 by omega)] at hk;simp at hk;have:(((nC n).toNat:Nat):Int)=nC n:=by omega
  rw[this]
abbrev tF (x:yp.T):Int:=x.1
abbrev tR (x:yp.T):Int:=x.2
def Qu (l:List yp.T) (i:Nat) (x:yp.T):Bool:=(decide (i=0)||!decide (tF x<=tF (l.getD (i-1) (0,0))))&&(!decide (tF x>1000000000000)&&(!decide (tR x < -1000000000000)&&!decide (tR x>1000000000000)))
def qf (l:List yp.T):List yp.T->Nat->Bool
 | [],_=>true
 | x::r,i=>Qu l i x&&qf l r (i+1)
def Zg (l:List yp.T):Bool:=decide (1<=l.length)&&(decide (l.length<=16)&&(decide (tF (l.getD 0 (0,0))=0)&&qf l l 0))
theorem zdM (k:Bool->Option R) (k1:Option R) (l:List yp.T) (N:Int) (hl:l.length<=32):∀(xs:List yp.T) (i:Nat),l.drop i=xs->
  yy.l4.rg F k (fun _ _ _ _ _=>k1) l N xs (i:Int) l=bif qf l xs i then k1 else k false:=by
 intro xs;induction xs with
 | nil=>intro i h; simp[yy.l4.rg,qf]
 | cons x xs ih =>
  intro i h;have hi:=vc h;have ih:=ih (i+1) (wz h);rw[wd] at ih;simp only[yy.l4.rg,qf,Qu];by_cases h0:i=0
  ·subst h0
   have e1:decide (((0:Nat):Int)>0)=false:=rfl;simp only[e1,cond_false,decide_true,Bool.true_or,Bool.true_and];cases decide (tF x>1000000000000)<;>cases decide (tR x < -1000000000000)<;>cases decide (tR x>1000000000000)<;>first | rfl | exact ih
  ·have e1:decide (((i:Nat):Int)>0)=true:=decide_eq_true (by omega)
   have e2:i64.wrap ((i:Int)-1)=((i-1:Nat):Int):=by rw[yz (by omega) (by omega)]; omega
   have e3:idx ((i-1:Nat):Int) l.length=true:=xS (by omega);have e4:get yp l (((i-1:Nat):Int).toNat)=l.getD (i-1) (0,0):=rfl;have e5:decide (i=0)=false:=decide_eq_false h0;simp only[e1,e2,e3,e4,e5,cond_true,Bool.false_or];cases decide (tF x<=tF (l.getD (i-1) (0,0)))<;>cases decide (tF x>1000000000000)<;>cases decide (tR x < -1000000000000)<;>cases decide (tR x>1000000000000)<;>first | rfl | exact ih
theorem zdN (hF:64<F) (l:List yp.T):yy.sh F l=some ((Zg l,()),()):=by
 unfold yy.sh Zg;by_cases h1:1<=l.length
 ·have e1:decide ((l.length:Int)<1)=false:=decide_eq_false (by omega)
  by_cases h2:l.length<=16
  ·have e2:decide ((l.length:Int)>16)=false:=decide_eq_false (by omega)
   have e3:idx 0 l.length=true:=xS (i:=0) (by omega);simp only[e1,e2,e3,cond_false,cond_true,h1,h2,decide_true,Bool.true_and];have e4:get yp l 0=l.getD 0 (0,0):=rfl;rw[e4];by_cases h3:tF (l.getD 0 (0,0))=0
   ·have e5:(tF (l.getD 0 (0,0)) != 0)=false:=by rw[h3]; rfl
    rw[e5,h3];simp only[cond_false,decide_true,Bool.true_and];refine Eq.trans (yy.l4.rq F _ _ l _ rfl (by omega) l 0 F _ (by simp) (by omega)) ?_;refine Eq.trans (zdM F (fun r=>(some ((r,()),()):Option yy.sg.R)) (some ((true,()),())) l (l.length:Int) (by omega) l 0 (by simp)) ?_;cases qf l l 0<;>rfl
   ·have e5:(tF (l.getD 0 (0,0)) != 0)=true:=bne_iff_ne.2 h3
    have e6:decide (tF (l.getD 0 (0,0))=0)=false:=decide_eq_false h3;rw[e5,e6];rfl
  ·have e2:decide ((l.length:Int)>16)=true:=decide_eq_true (by omega)
   have e3:decide (l.length<=16)=false:=decide_eq_false h2;rw[e1,e2,e3];simp
 ·have e1:decide ((l.length:Int)<1)=true:=decide_eq_true (by omega)
  have e3:decide (1<=l.length)=false:=decide_eq_false h1;rw[e1,e3];rfl
def Yh (n:za.T) (dims:Nat):Int:=bif decide ((tI n).2.1<0) then (dims:Int)-1 else (tI n).2.1
def opB (n:za.T):Bool:=bif (tI n).2.2.2 then decide (nO n>=1)&&decide (nO n<=6) else nO n==0
def ue (n:za.T):Bool:=(tI n).2.2.1
def vA (dims:Nat) (n:za.T) (pile:Nat):Int :=
 bif !tz n then 50 else bif decide (nN n<0) then 50 else bif decide (nN n>Yh n dims) then 50 else bif !uV n then 50 else bif !opB n then 50
 else bif !ue n&&decide (((nT n).length:Int)>0) then 50 else bif decide ((pile:Int)<(ar n:Int)) then 50 else bif ue n&&!Zg (nT n) then 51 else 0
theorem zfs (hF:64<F) (k:Int->Option R) (hg:tz n=true) (pile:Nat) (most:Int) (kids op:Bool) (hk:kids=true->uV n=true) (a:wt.T) :
  yV.j13 F k k k (pile:Int) most kids op n a=k (bif decide (nN n<0) then 50 else bif decide (nN n>most) then 50 else bif !kids then 50 else bif !op then 50
 else bif !a.2.2.1&&decide (((nT n).length:Int)>0) then 50 else bif decide ((pile:Int)<(ar n:Int)) then 50 else bif a.2.2.1&&!Zg (nT n) then 51 else 0):=by
 unfold yV.j13;cases h1:decide (nN n<0) with
 | true=>rfl
 | false =>
  cases h2:decide (nN n>most) with
  | true=>rfl
  | false =>
   cases kids with
   | false=>rfl
   | true =>
    cases op with
    | false=>rfl
    | true =>
     simp only[Bool.not_true,cond_false];rw[W7 F hg (hk rfl)];simp only[zh];rw[zdN F hF];simp only[zh];cases h3:a.2.2.1 with
     | false =>
      simp only[Bool.not_false,cond_true,Bool.true_and,cond_false,Bool.false_and];cases decide (((nT n).length:Int)>0) with
      | true=>rfl
      | false=>cases decide ((pile:Int)<(ar n:Int))<;>rfl
     | true =>
      simp only[Bool.not_true,cond_true,Bool.true_and,cond_false,Bool.false_and];cases decide ((pile:Int)<(ar n:Int)) with
      | true=>rfl
      | false=>cases Zg (nT n)<;>rfl
theorem node_eq (hF:64<F) (n:za.T) (hd:dims<4611686018427387904) (pile:Nat):yV.sh F n (dims:Int) (pile:Int)=some ((vA dims n pile,()),()):=by
 unfold yV.sh vA;cases hg:tz n with
 | false =>
  have:decide ((n.1:Int)<1)=true\/decide ((n.1:Int)>16)=true:=by
   rcases Int.lt_or_le (nK n) 1 with h | h
   ·exact .inl (decide_eq_true h)
   ·rcases Int.lt_or_le 16 (nK n) with h' | h'
    ·exact .inr (decide_eq_true h')
    ·rw[ZP.2 ⟨h,h'⟩] at hg; cases hg
  rcases this with h | h
  ·rw[h]; rfl
  ·rw[h]; cases decide ((n.1:Int)<1)<;>rfl
 | true =>
  have hg':=ZP.1 hg;have e1:decide ((nK n:Int)<1)=false:=decide_eq_false (by omega);have e2:decide ((nK n:Int)>16)=false:=decide_eq_false (by omega);have e3:idx (nK n) 17=true:=Y4 (by omega) (by omega);rw[show decide (n.1<1)=false from e1,show decide (n.1>16)=false from e2,show idx n.1 17=true from e3];simp only[cond_false,cond_true,Bool.not_true];have hw:i64.wrap ((dims:Int)-1)=(dims:Int)-1:=yz (by omega) (by omega);rw[hw];have key:∀most:Int,yV.j7 F (fun r=>(some ((r,()),()):Option yV.sg.R)) (fun r=>some ((r,()),())) (fun r=>some ((r,()),())) (pile:Int) most n (tI n) =
   some ((bif decide (nN n<0) then 50 else bif decide (nN n>most) then 50 else bif !uV n then 50 else bif !opB n then 50
    else bif !ue n&&decide (((nT n).length:Int)>0) then 50 else bif decide ((pile:Int)<(ar n:Int)) then 50 else bif ue n&&!Zg (nT n) then 51 else 0,()),()):=by
   intro most;have k10:∀kids:Bool,kids=uV n->yV.j10 F (fun r=>(some ((r,()),()):Option yV.sg.R)) (fun r=>some ((r,()),())) (fun r=>some ((r,()),())) (pile:Int) most kids n (tI n) =
    some ((bif decide (nN n<0) then 50 else bif decide (nN n>most) then 50 else bif !uV n then 50 else bif !opB n then 50
     else bif !ue n&&decide (((nT n).length:Int)>0) then 50 else bif decide ((pile:Int)<(ar n:Int)) then 50 else bif ue n&&!Zg (nT n) then 51 else 0,()),()):=by
    intro kids hkk;have k13:=fun op:Bool=>zfs F hF (fun r=>(some ((r,()),()):Option yV.sg.R)) hg pile most kids op (fun h=>by rw[<-hkk,h]) (tI n)
    unfold yV.j10;rw[show (fun r=>(some ((r,()),()):Option yV.sg.R))=(fun r=>some ((r,()),())) from rfl] at k13;rw[k13,k13,k13,hkk];unfold opB ue;cases (tI n).2.2.2 with
    | false=>rfl
    | true=>cases decide (nO n>=1)<;>rfl
   unfold yV.j7;cases ha:decide (aK n<0) with
   | true =>
    cases hc:decide (nC n>=2) with
    | true=>exact k10 _ (by unfold uV; rw[ha,hc]; rfl)
    | false=>exact k10 _ (by unfold uV; rw[ha,hc]; rfl)
   | false=>exact k10 _ (by unfold uV; rw[ha]; rfl)
  unfold Yh;cases hm:decide ((tI n).2.1<0) with
  | true=>exact key _
  | false=>exact key _
def WX (dims:Nat):List za.T->Nat->Nat->Option (Nat×Int)
 | [],_,_=>none
 | n::r,pile,i=>bif vA dims n pile != 0 then some (i,vA dims n pile) else WX dims r (pile-ar n+1) (i+1)
def Uo:List za.T->Nat->Nat
 | [],pile=>pile
 | n::r,pile=>Uo r (pile-ar n+1)
theorem wD (h:vA dims n pile=0) :
  tz n=true/\0<=nN n/\nN n<=Yh n dims/\uV n=true/\opB n=true/\(ue n=false->nT n=[])/\ar n<=pile/\(ue n=true->Zg (nT n)=true):=by
 unfold vA at h;cases h1:tz n with
 | false=>rw[h1] at h; exact absurd (show (50:Int)=0 from h) (by decide)
 | true =>
 rw[h1] at h;cases h2:decide (nN n<0) with
 | true=>rw[h2] at h; exact absurd (show (50:Int)=0 from h) (by decide)
 | false =>
 rw[h2] at h;cases h3:decide (nN n>Yh n dims) with
 | true=>rw[h3] at h; exact absurd (show (50:Int)=0 from h) (by decide)
 | false =>
 rw[h3] at h;cases h4:uV n with
 | false=>rw[h4] at h; exact absurd (show (50:Int)=0 from h) (by decide)
 | true =>
 rw[h4] at h;cases h5:opB n with
 | false=>rw[h5] at h; exact absurd (show (50:Int)=0 from h) (by decide)
 | true =>
 rw[h5] at h;cases h6:(!ue n&&decide (((nT n).length:Int)>0)) with
 | true=>rw[h6] at h; exact absurd (show (50:Int)=0 from h) (by decide)
 | false =>
 rw[h6] at h;cases h7:decide ((pile:Int)<(ar n:Int)) with
 | true=>rw[h7] at h; exact absurd (show (50:Int)=0 from h) (by decide)
 | false =>
 rw[h7] at h;cases h8:(ue n&&!Zg (nT n)) with
 | true=>rw[h8] at h; exact absurd (show (51:Int)=0 from h) (by decide)
 | false =>
 have h2:=of_decide_eq_false h2;have h3:=of_decide_eq_false h3;have h7:=of_decide_eq_false h7;refine ⟨rfl,by omega,by omega,rfl,rfl,fun ht=>?_,by omega,fun ht=>?_⟩
 ·rw[ht] at h6
  simp only[Bool.not_false,Bool.true_and] at h6;have h6:=of_decide_eq_false h6;exact eq_nil_of_length_eq_zero (by omega)
 ·rw[ht] at h8
  simp only[Bool.true_and] at h8;cases hr:Zg (nT n) with
  | true=>rfl
  | false=>rw[hr] at h8; cases h8
theorem Xq (hg:tz n=true) (hk:uV n=true):ar n<=16:=by
 unfold ar;unfold uV at hk;cases h:decide (aK n<0) with
 | true =>
  have h':=of_decide_eq_true h;rw[h] at hk;simp at hk;rw[decide_eq_false (show ¬aK n>=0 by omega)];simp only[cond_false];omega
 | false =>
  have h':=of_decide_eq_false h;rw[decide_eq_true (show aK n>=0 by omega)];simp only[cond_true];have hg:=ZP.1 hg;have:∀i:Nat,(get wt uK i).1<=(16:Int):=by
   intro i;rcases Nat.lt_or_ge i 17 with hi | hi
   ·have:∀j:Fin 17,(get wt uK j.1).1<=(16:Int):=by decide
    exact this ⟨i,hi⟩
   ·have:get wt uK i=Ty.dflt wt:=by
     unfold get;rw[getD_eq_getElem?_getD,List.getElem?_eq_none (by exact hi)];rfl
    rw[this]; decide
  have:aK n<=(16:Int):=this _;omega
theorem zgp (hF:64<F) (k0:Int->Int->Option R) (k1:Int->zO.T->Option R) (L:List za.T) (N:Int) (p:zO.T) (hp:p.2.1.length<=32):∀(xs:List za.T) (i pile:Nat),pile+xs.length<4611686018427387904->
  yE.l8.rg F k0 (fun pile _ _ _ _ p=>k1 pile p) L N xs (i:Int) (pile:Int) p=match WX p.2.1.length xs pile i with | some (j,e)=>k0 (j:Int) e | none=>k1 (Uo xs pile:Int) p:=by
 intro xs;induction xs with
 | nil=>intro i pile h; rfl
 | cons n xs ih =>
  intro i pile h;simp only[length_cons] at h;simp only[yE.l8.rg];rw[node_eq F hF n (by omega)];simp only[zh,WX,Uo];cases he:(vA p.2.1.length n pile != 0) with
  | true=>rfl
  | false =>
   simp only[cond_false];have he:vA p.2.1.length n pile=0:=by simpa using he
   obtain ⟨h1,h2,h3,h4,h5,h6,h7,h8⟩:=wD he;have ha:=Xq h1 h4;rw[W7 F h1 h4];simp only[zh];rw[yz (n:=1-(ar n:Int)) (by omega) (by omega),yz (by omega) (by omega)];rw[show (pile:Int)+(1-(ar n:Int))=((pile-ar n+1:Nat):Int) by omega];have:=ih (i+1) (pile-ar n+1) (by omega);rw[wd] at this;exact this
def uG (p:zO.T):Int×Int :=
 bif ZA p.1 p.2.1 p.2.2.1 != 0 then (-1,ZA p.1 p.2.1 p.2.2.1) else bif decide ((p.2.2.2.length:Int)>1024) then (1024,2) else
 match WX p.2.1.length p.2.2.2 0 0 with
 | some (j,e)=>((j:Int),e)
 | none=>bif ((Uo p.2.2.2 0:Int) != 1) then ((p.2.2.2.length:Int),50) else (0,0)
theorem tg {dims:List xB.T} (h:ZA name dims mode=0):1<=dims.length/\dims.length<=4/\dE [] dims=0/\YG name.data.toList=true/\0<=mode/\mode<=4:=by
 unfold ZA at h;cases h0:YG name.data.toList with
 | false=>rw[h0] at h; exact absurd (show (61:Int)=0 from h) (by decide)
 | true =>
 rw[h0] at h;cases h1:decide ((dims.length:Int)<1) with
 | true=>rw[h1] at h; exact absurd (show (100:Int)=0 from h) (by decide)
 | false =>
 rw[h1] at h;cases h2:decide ((dims.length:Int)>4) with
 | true=>rw[h2] at h; exact absurd (show (100:Int)=0 from h) (by decide)
 | false =>
 rw[h2] at h;cases h3:(dE [] dims != 0) with
 | true=>rw[h3] at h; simp only[Bool.not_true,cond_false,cond_true] at h; rw[h] at h3; exact absurd h3 (by decide)
 | false =>
 rw[h3] at h;cases h4:decide (mode<0) with
 | true=>rw[h4] at h; exact absurd (show (50:Int)=0 from h) (by decide)
 | false =>
 rw[h4] at h;cases h5:decide (mode>4) with
 | true=>rw[h5] at h; exact absurd (show (50:Int)=0 from h) (by decide)
 | false =>
 have h1:=of_decide_eq_false h1;have h2:=of_decide_eq_false h2;have h4:=of_decide_eq_false h4;have h5:=of_decide_eq_false h5;refine ⟨by omega,by omega,by simpa using h3,rfl,by omega,by omega⟩
theorem VF (hF:2048<F) (p:zO.T):yE.sh F p=some (((uG p).1,(uG p).2,()),()):=by
 unfold yE.sh uG;rw[head_eq F (by omega)];simp only[zh];cases h:(ZA p.1 p.2.1 p.2.2.1 != 0) with
 | true=>rfl
 | false =>
  have hh:=tg (show ZA p.1 p.2.1 p.2.2.1=0 by simpa using h);cases h1:decide ((p.2.2.2.length:Int)>1024) with
  | true=>rfl
  | false =>
   have h1:=of_decide_eq_false h1;simp only[cond_false];refine Eq.trans (yE.l8.rq F _ _ p.2.2.2 _ rfl (by omega) p.2.2.2 0 F _ _ (by simp) (by omega)) ?_;refine (zgp F (by omega) (fun r24 r34=>(some ((r24,r34,()),()):Option yE.sg.R)) (fun pile5 p5=>bif (pile5 != 1) then some (((p5.2.2.2.length:Int),50,()),()) else some ((0,0,()),())) p.2.2.2 (p.2.2.2.length:Int) p (by omega) p.2.2.2 0 0 (by omega)).trans ?_;cases WX p.2.1.length p.2.2.2 0 0 with
   | some x=>rfl
   | none=>cases hc:((Uo p.2.2.2 0:Int) != 1)<;>simp only[cond_true,cond_false,hc]
inductive Tree:Type
 | nd:za.T->List Tree->Tree
variable {t:Tree} {ks st:List Tree}
mutual
def Tree.fold {α:Type} (f:za.T->List α->α):Tree->α
 | .nd n ks=>f n (Tree.foldL f ks)
def Tree.foldL {α:Type} (f:za.T->List α->α):List Tree->List α
 | []=>[]
 | t::r=>Tree.fold f t::Tree.foldL f r
end
theorem Tree.foldL_map {α:Type} (f:za.T->List α->α):∀l:List Tree,Tree.foldL f l=l.map (Tree.fold f)
 | []=>rfl
 | t::r=>by rw[Tree.foldL,Tree.foldL_map f r]; rfl
theorem Tree.fold_nd (f:za.T->List α->α) (n:za.T) (ks:List Tree):Tree.fold f (.nd n ks)=f n (ks.map (Tree.fold f)):=by
 rw[Tree.fold,Tree.foldL_map]
theorem Tree.ind {P:Tree->Prop} (h:∀n ks,(∀k∈ks,P k)->P (.nd n ks)) (t:Tree):P t :=
 Tree.rec (motive_1:=P) (motive_2:=fun l=>∀k∈l,P k) (fun n ks ih=>h n ks ih) (by simp) (fun t r h1 h2 k hk=>by
  rcases mem_cons.1 hk with rfl | hk
  ·exact h1
  ·exact h2 k hk) t
def Tree.root:Tree->za.T | .nd n _=>n
def Tree.kids:Tree->List Tree | .nd _ ks=>ks
def Tree.flat:Tree->List za.T:=Tree.fold (fun n ks=>ks.flatten++[n])
def zS (l:List Tree):List za.T:=(l.map Tree.flat).flatten
theorem tM (n:za.T) (ks:List Tree):Tree.flat (.nd n ks)=zS ks++[n]:=Tree.fold_nd _ n ks
def Tree.size (t:Tree):Nat:=t.flat.length
def W8:Tree->Tree×List Tree:=Tree.fold (fun n ks=>(.nd n (ks.map (·.1)),(ks.map (·.2)).flatten++[.nd n (ks.map (·.1))]))
theorem zdB (t:Tree):(W8 t).1=t:=by
 refine Tree.ind (P:=fun t=>(W8 t).1=t) (fun n ks ih=>?_) t;unfold W8 at*;rw[Tree.fold_nd];simp only[map_map];congr 1
 exact (map_congr_left ih).trans (List.map_id' ks)
def Tree.subs (t:Tree):List Tree:=(W8 t).2
def vW (l:List Tree):List Tree:=(l.map Tree.subs).flatten
theorem q9 (n:za.T) (ks:List Tree):Tree.subs (.nd n ks)=vW ks++[.nd n ks]:=by
 have:(ks.map (fun k=>(W8 k).1))=ks:=(map_congr_left (fun k _=>zdB k)).trans (List.map_id' ks);unfold Tree.subs vW;rw[W8,Tree.fold_nd,<-W8];simp only[map_map];rw[show ((fun x:Tree×List Tree=>x.1) ∘ W8)=(fun k=>(W8 k).1) from rfl,this];rfl
theorem ZS (t:Tree):t.subs.length=t.flat.length:=by
 refine Tree.ind (P:=fun t=>t.subs.length=t.flat.length) (fun n ks ih=>?_) t;rw[q9,tM];simp only[length_append,length_cons,length_nil,vW,zS,length_flatten,map_map];congr 2
 exact map_congr_left (fun k hk=>ih k hk)
def wH (st:List Tree) (n:za.T):Tree:=.nd n (st.drop (st.length-ar n))
def w9 (st:List Tree) (n:za.T):List Tree:=st.take (st.length-ar n)++[wH st n]
def news:List Tree->List za.T->List Tree
 | _,[]=>[]
 | st,n::r=>wH st n::news (w9 st n) r
def tW:List Tree->List za.T->List Tree
 | st,[]=>st
 | st,n::r=>tW (w9 st n) r
def okS (dims:Nat):List Tree->List za.T->Prop
 | _,[]=>True
 | st,n::r=>vA dims n st.length=0/\okS dims (w9 st n) r
theorem S2 (h:ar n<=st.length):(w9 st n).length=st.length-ar n+1:=by
 simp[w9]
theorem zgo (dims:Nat):∀(xs:List za.T) (st:List Tree) (i:Nat),WX dims xs st.length i=none->okS dims st xs/\(tW st xs).length=Uo xs st.length
 | [],st,i,h=>⟨trivial,rfl⟩
 | n::r,st,i,h=>by
  simp only[WX] at h;cases he:(vA dims n st.length != 0) with
  | true=>rw[he] at h; cases h
  | false =>
   rw[he] at h;have he:vA dims n st.length=0:=by simpa using he
   have hl:=S2 (wD he).2.2.2.2.2.2.1;simp only[cond_false] at h;rw[<-hl] at h;have:=zgo dims r (w9 st n) (i+1) h;refine ⟨⟨he,this.1⟩,?_⟩;rw[tW,this.2,hl];rfl
theorem zfm (dims:Nat):∀(xs:List za.T) (st:List Tree) (i:Nat),okS dims st xs->WX dims xs st.length i=none/\Uo xs st.length=(tW st xs).length
 | [],st,i,h=>⟨rfl,rfl⟩
 | n::r,st,i,h=>by
  have hl:=S2 (wD h.1).2.2.2.2.2.2.1;have:=zfm dims r (w9 st n) (i+1) h.2;rw[hl] at this;simp only[WX,h.1,Uo,tW];exact this
theorem ud (a b:List Tree):zS (a++b)=zS a++zS b:=by simp[zS]
theorem u7 (t:Tree):zS [t]=t.flat:=by simp[zS]
theorem vQ (st:List Tree) (n:za.T):zS (w9 st n)=zS st++[n]:=by
 unfold w9 wH;rw[ud,u7,tM,<-append_assoc,<-ud,take_append_drop]
theorem RF:∀(xs:List za.T) (st:List Tree),zS (tW st xs)=zS st++xs
 | [],st=>by simp[tW]
 | n::r,st=>by rw[tW,RF r,vQ]; simp
theorem Yy (a b:List Tree):vW (a++b)=vW a++vW b:=by simp[vW]
theorem ZI (t:Tree):vW [t]=t.subs:=by simp[vW]
theorem Tl (st:List Tree) (n:za.T):vW (w9 st n)=vW st++[wH st n]:=by
 unfold w9;rw[Yy,ZI,wH,q9,<-append_assoc,<-Yy,take_append_drop]
theorem S0:∀(xs:List za.T) (st:List Tree),vW (tW st xs)=vW st++news st xs
 | [],st=>by simp[tW,news]
 | n::r,st=>by rw[tW,S0 r,Tl,news]; simp
theorem zbB {b st:List Tree} (h:ar n<=st.length):wH (b++st) n=wH st n/\w9 (b++st) n=b++w9 st n:=by
 have e:(b++st).length-ar n=b.length+(st.length-ar n):=by simp; omega
 have e1:wH (b++st) n=wH st n:=by
  unfold wH;rw[e,List.drop_append];simp
 refine ⟨e1,?_⟩;unfold w9;rw[e1,e,List.take_append,take_of_length_le (by omega)];simp
theorem TD {p q:Nat} (h:vA dims n p=0) (hq:p<=q):vA dims n q=0:=by
 have hh:=wD h;have h7:decide ((p:Int)<(ar n:Int))=false:=decide_eq_false (by have:=hh.2.2.2.2.2.2.1; omega);have h7':decide ((q:Int)<(ar n:Int))=false:=decide_eq_false (by have:=hh.2.2.2.2.2.2.1; omega);unfold vA at*;rw[h7] at h;rw[h7'];exact h
theorem frame (dims:Nat) (b:List Tree):∀(xs:List za.T) (st:List Tree),okS dims st xs->okS dims (b++st) xs/\news (b++st) xs=news st xs/\tW (b++st) xs=b++tW st xs
 | [],st,h=>⟨trivial,rfl,rfl⟩
 | n::r,st,h=>by
  have hf:=zbB (b:=b) (wD h.1).2.2.2.2.2.2.1;have:=frame dims b r (w9 st n) h.2;simp only[okS,news,tW,hf.1,hf.2];refine ⟨⟨TD h.1 (by simp),this.1⟩,?_,this.2.2⟩;rw[this.2.1]
theorem vn (n:za.T) (ks:List Tree):Tree.size (.nd n ks)=(zS ks).length+1:=by simp[Tree.size,tM]
theorem qE (t:Tree):1<=t.size:=by
 cases t with
 | nd n ks=>rw[vn]; omega
theorem vN (t:Tree) (l:List Tree):zS (t::l)=t.flat++zS l:=by simp[zS]
theorem vo:∀st:List Tree,st.length<=(zS st).length
 | []=>by simp
 | t::r=>by
  have:=vo r;have:=qE t;rw[vN];simp only[length_append,length_cons];unfold Tree.size at this;omega
theorem uq {a:Nat} (h:a<=4194304):Nat.ble a wF=true:=by rw[Nat.ble_eq]; exact Nat.le_trans h (by decide)
theorem ZQ {a b:Nat} (h:b<=a) (ha:a<4611686018427387904):i64.wrap ((a:Int)-(b:Int))=((a-b:Nat):Int):=by
 rw[yz (by omega) (by omega)]; omega
theorem Yw:(wH st n).size+(zS (st.take (st.length-ar n))).length=(zS st).length+1:=by
 unfold wH;rw[vn];have:zS st=zS (st.take (st.length-ar n))++zS (st.drop (st.length-ar n)):=by rw[<-ud,take_append_drop]
 have:=congrArg List.length this;simp only[length_append] at this;omega
def uI:Nat->List Tree->List Int
 | _,[]=>[]
 | b,t::r=>(b:Int)::uI (b+t.size) r
def XW:Nat->List Tree->List Int
 | _,[]=>[]
 | i,t::r=>((i+1-t.size:Nat):Int)::XW (i+1) r
theorem tY:∀(l:List Tree) (b:Nat),(uI b l).length=l.length
 | [],b=>rfl
 | t::r,b=>by simp[uI,tY r]
theorem T6:∀(l:List Tree) (b:Nat),(XW b l).length=l.length
 | [],b=>rfl
 | t::r,b=>by simp[XW,T6 r]
theorem YT:∀(a c:List Tree) (b:Nat),uI b (a++c)=uI b a++uI (b+(zS a).length) c
 | [],c,b=>by simp[uI,zS]
 | t::r,c,b=>by
  simp only[cons_append,uI,YT r c,vN,length_append];rw[show b+t.size+(zS r).length=b+(t.flat.length+(zS r).length) by unfold Tree.size; omega]
theorem zaa (a:List Tree) (b m:Nat):(uI b a).take m=uI b (a.take m):=by
 have:uI b a=uI b (a.take m++a.drop m):=by rw[take_append_drop]
 rw[this,YT,List.take_append];simp only[tY,length_take];rcases Nat.le_total m a.length with h | h
 ·rw[Nat.min_eq_left h,Nat.sub_self,List.take_zero,append_nil,take_of_length_le (by rw[tY,length_take]; omega)]
 ·rw[drop_of_length_le h]
  simp only[uI,List.take_nil,append_nil];rw[take_of_length_le (by rw[tY,length_take]; omega)]
theorem zab (st:List Tree) (n:za.T):uI 0 (w9 st n)=(uI 0 st).take (st.length-ar n)++[(((zS (st.take (st.length-ar n))).length:Nat):Int)]:=by
 unfold w9;rw[YT,zaa];simp only[uI,Nat.zero_add]
theorem zbC {m:Nat} (h:m<st.length):(uI 0 st).getD m 0=(((zS (st.take m)).length:Nat):Int):=by
 have e:st=st.take m++st.drop m:=by rw[take_append_drop]
 have:uI 0 st=uI 0 (st.take m)++uI (0+(zS (st.take m)).length) (st.drop m):=by rw[<-YT,take_append_drop]
 have hl:(uI 0 (st.take m)).length=m:=by rw[tY,length_take]; omega
 rw[getD_eq_getElem?_getD,this,List.getElem?_append_right (by omega),hl,Nat.sub_self];cases hd:st.drop m with
 | nil =>
  have:=congrArg List.length hd;simp at this;omega
 | cons t r=>simp[uI]
theorem zee (dims:Nat) (k:List Int->Option R) (L:List za.T) (N:Int):∀(xs:List za.T) (st:List Tree) (list:List Int),okS dims st xs->(zS st).length+xs.length<=2048->list.length<=(zS st).length->
  yi.l3.rg F (fun _ _ _ _ list _=>k list) L N xs ((zS st).length:Int) list (uI 0 st)=k (list++XW (zS st).length (news st xs)):=by
 intro xs;induction xs with
 | nil=>intro st list h h2 h3; simp[yi.l3.rg,news,XW]
 | cons n xs ih =>
  intro st list h h2 h3;obtain ⟨g1,g2,g3,g4,g5,g6,g7,g8⟩:=wD h.1;have hst:=vo st;have hfs:=congrArg List.length (vQ st n);have hts:=Yw (st:=st) (n:=n);have htp:=qE (wH st n);simp only[length_cons,length_append,length_nil] at h2 hfs;have IH:=ih (w9 st n) (list++[(((zS st).length+1-(wH st n).size:Nat):Int)]) h.2 (by omega) (by simp; omega);have e1:(zS st).length+1-(wH st n).size=(zS (st.take (st.length-ar n))).length:=by omega
  rw[hfs,zab,<-e1] at IH;simp only[yi.l3.rg];rw[W7 F g1 g4];simp only[zh,tY];rw[ZQ g7 (by omega)];rw[q8 (by omega)];simp only[news,XW,Int.toNat_natCast];simp only[Nat.zero_add,append_assoc,singleton_append] at IH;rw[wd] at IH;cases hk:decide ((ar n:Int)>0) with
  | true =>
   have hk:=of_decide_eq_true hk;have hm:st.length-ar n<st.length:=by omega
   have e2:get (.int .i64) (uI 0 st) (st.length-ar n)=(((zS st).length+1-(wH st n).size:Nat):Int):=by rw[e1]; exact zbC hm
   rw[xS hm,e2];simp only[cond_true];rw[uq (by simp[tY]; omega),uq (by simp; omega)];simp only[cond_true];exact IH
  | false =>
   have hk:=of_decide_eq_false hk;have hk0:ar n=0:=by omega
   have e2:(zS st).length+1-(wH st n).size=(zS st).length:=by
    rw[e1,hk0,Nat.sub_zero,List.take_length]
   simp only[cond_false];rw[uq (by simp; omega),uq (by simp; omega)];simp only[cond_true];rw[hk0,Nat.sub_zero,take_of_length_le (by rw[tY]; omega),e2] at IH;rw[e2];exact IH
def isQ (n:za.T):Bool:=nK n==3||nK n==4
def noQ (t:Tree):Bool:=t.flat.all fun n=>!isQ n
def ZZ:List za.T->Int×Int->Int×Int
 | [],s=>s
 | n::r,s=>ZZ r (s.1+1,bif isQ n then s.1 else s.2)
theorem Wl:∀(a b:List za.T) (s:Int×Int),ZZ (a++b) s=ZZ b (ZZ a s)
 | [],b,s=>rfl
 | n::r,b,s=>Wl r b _
theorem V9:∀(a:List za.T) (s:Int×Int),(ZZ a s).1=s.1+a.length
 | [],s=>by simp[ZZ]
 | n::r,s=>by rw[ZZ,V9 r]; simp; omega
theorem zaM:∀(c:List za.T) (s:Int×Int) (b:Int),b<=s.1->(decide ((ZZ c s).2<b)=((c.all fun n=>!isQ n)&&decide (s.2<b)))
 | [],s,b,h=>by rw[List.all_nil,Bool.true_and]; rfl
 | n::r,s,b,h=>by
  rw[ZZ,zaM r _ b (by simp; omega)];simp only[all_cons];cases hq:isQ n with
  | true =>
   have:decide (s.1<b)=false:=decide_eq_false (by omega);simp[this]
  | false=>simp
theorem zaN:∀(a:List za.T) (s:Int×Int),s.2<s.1->(ZZ a s).2<(ZZ a s).1
 | [],s,h=>h
 | n::r,s,h=>by
  rw[ZZ];refine zaN r _ ?_;cases isQ n with
  | true=>simp only[cond_true]; omega
  | false=>simp only[cond_false]; omega
theorem noQ_top (st:List Tree) (n:za.T):decide ((ZZ (zS st++[n]) (0,-1)).2<(((zS st).length+1-(wH st n).size:Nat):Int))=noQ (wH st n):=by
 have hts:=Yw (st:=st) (n:=n);have e1:(zS st).length+1-(wH st n).size=(zS (st.take (st.length-ar n))).length:=by omega
 have e2:zS st++[n]=zS (st.take (st.length-ar n))++(wH st n).flat:=by
  rw[<-vQ]; unfold w9; rw[ud,u7]
 rw[e1,e2,Wl];have h1:=V9 (zS (st.take (st.length-ar n))) (0,-1);rw[zaM _ _ _ (by rw[h1]; simp)];have h2:=zaN (zS (st.take (st.length-ar n))) (0,-1) (by decide);rw[h1] at h2;simp only[Int.zero_add] at h2;rw[decide_eq_true h2,Bool.and_true];rfl
theorem zbd (dims:Nat) (k:List Bool->Option R) (L:List za.T) (N:Int) (list:List Int):∀(xs:List za.T) (st:List Tree) (pre:List Int) (out:List Bool),okS dims st xs->(zS st).length+xs.length<=2048->
  list=pre++XW (zS st).length (news st xs)->pre.length=(zS st).length->out.length=(zS st).length->
  zT.l7.rg F (fun _ _ _ _ _ _ out=>k out) L N xs ((zS st).length:Int) list (ZZ (zS st) (0,-1)).2 (out++List.replicate xs.length false)=k (out++(news st xs).map noQ):=by
 intro xs;induction xs with
 | nil=>intro st pre out h h2 h3 h4 h5; simp[zT.l7.rg,news]
 | cons n xs ih =>
  intro st pre out h h2 h3 h4 h5;have hfs:=congrArg List.length (vQ st n);simp only[length_cons,length_append,length_nil] at h2 hfs;simp only[news,XW] at h3;have IH:=ih (w9 st n) (pre++[(((zS st).length+1-(wH st n).size:Nat):Int)]) (out++[noQ (wH st n)]) h.2 (by omega) (by rw[h3,hfs]; simp) (by simp; omega) (by simp; omega);have hq:=noQ_top st n;rw[Wl] at hq;have hl:=V9 (zS st) (0,-1);simp only[Int.zero_add] at hl;rw[hfs,wd,vQ,Wl] at IH;simp only[ZZ,hl] at IH hq;have hg:get (.int .i64) list (Int.toNat ((zS st).length:Int))=(((zS st).length+1-(wH st n).size:Nat):Int):=by
   rw[Int.toNat_natCast,get,h3,getD_eq_getElem?_getD,List.getElem?_append_right (by omega),h4,Nat.sub_self];rfl
  have hi1:idx ((zS st).length:Int) list.length=true:=xS (by rw[h3]; simp; omega);have hi2:idx ((zS st).length:Int) (out++List.replicate (n::xs).length false).length=true:=xS (by simp; omega);have hset:∀b:Bool,(out++List.replicate (n::xs).length false).set (Int.toNat ((zS st).length:Int)) b=(out++[b])++List.replicate xs.length false:=by
   intro b;rw[Int.toNat_natCast,List.set_append_right _ _ (by omega),h5,Nat.sub_self];simp[List.replicate_succ]
  simp only[zT.l7.rg,hi1,hi2,hset,cond_true,hg];simp only[news,map_cons];simp only[append_assoc,singleton_append] at IH ⊢;cases h3':(nK n==3) with
  | true =>
   have hqq:isQ n=true:=by unfold isQ; rw[h3']; rfl
   rw[hqq] at IH hq;simp only[cond_true] at IH hq;rw[hq];exact IH
  | false =>
   cases h4':(nK n==4) with
   | true =>
    have hqq:isQ n=true:=by unfold isQ; rw[h3',h4']; rfl
    rw[hqq] at IH hq;simp only[cond_true] at IH hq;rw[hq];exact IH
   | false =>
    have hqq:isQ n=false:=by unfold isQ; rw[h3',h4']; rfl
    rw[hqq] at IH hq;simp only[cond_false] at IH hq;rw[hq];exact IH
def uR (m:Int) (l:List Int):Int:=l.foldl (fun m x=>if x>m then x else m) m
def uZ:List Int->Int
 | []=>0
 | a::r=>uR a r
def deep:Tree->Int:=Tree.fold (fun n ks=>uZ ks+bif nK n==15 then 1 else 0)
theorem tV (n:za.T) (ks:List Tree):deep (.nd n ks)=uZ (ks.map deep)+bif nK n==15 then 1 else 0:=Tree.fold_nd _ n ks
theorem QC {b:Int}:∀(l:List Int) (m:Int),m<=b->(∀x∈l,x<=b)->uR m l<=b
 | [],m,h,_=>h
 | x::r,m,h,hl=>by
  show uR (if x>m then x else m) r<=b;refine QC r _ ?_ (fun y hy=>hl y (by simp[hy]));have:=hl x (by simp);split<;>omega
theorem Wk:∀(l:List Int) (m:Int),m<=uR m l/\∀x∈l,x<=uR m l
 | [],m=>⟨by simp[uR],by simp⟩
 | x::r,m=>by
  have h:=Wk r (if x>m then x else m);have e:uR m (x::r)=uR (if x>m then x else m) r:=rfl;rw[e];have h0:m<=(if x>m then x else m)/\x<=(if x>m then x else m):=by split<;>omega
  refine ⟨by omega,fun y hy=>?_⟩;rcases mem_cons.1 hy with rfl | hy
  ·omega
  ·exact h.2 y hy
theorem QB (hb:0<=b) (h:∀x∈l,x<=b):uZ l<=b:=by
 cases l with
 | nil=>exact hb
 | cons a r=>exact QC r a (h a (by simp)) (fun x hx=>h x (by simp[hx]))
theorem Vn (h0:∀x∈l,0<=x):0<=uZ l/\∀x∈l,x<=uZ l:=by
 cases l with
 | nil=>simp[uZ]
 | cons a r =>
  have:=Wk r a;refine ⟨by have:=h0 a (by simp); simp only[uZ]; omega,fun x hx=>?_⟩;rcases mem_cons.1 hx with rfl | hx
  ·exact this.1
  ·exact this.2 x hx
theorem tS {k:Tree} (h:k∈ks):k.size<=(zS ks).length:=by
 obtain ⟨a,b,rfl⟩:=List.append_of_mem h;rw[ud,vN];simp only[length_append,Tree.size];omega
theorem tc (t:Tree):0<=deep t/\deep t<=t.size:=by
 refine Tree.ind (P:=fun t=>0<=deep t/\deep t<=t.size) (fun n ks ih=>?_) t;rw[tV,vn];have h1:0<=uZ (ks.map deep):=(Vn (by simp only[mem_map]; rintro x ⟨k,hk,rfl⟩; exact (ih k hk).1)).1;have h2:uZ (ks.map deep)<=(zS ks).length:=QB (by omega) (by
  simp only[mem_map];rintro x ⟨k,hk,rfl⟩
  have:=(ih k hk).2;have:=tS hk;omega)
 cases nK n==15<;>simp only[cond_true,cond_false]<;>omega
theorem zfD (F:Nat) {R:Type} (k:Int->Option R) (X:List Int):∀(xs:List Int) (i m:Int),ym.l5.rg F (fun _ m _ _=>k m) X xs i m=k (uR m xs)
 | [],i,m=>rfl
 | x::r,i,m=>by
  rw[ym.l5.rg,zfD F k X r];rfl
theorem max_eq (h:1<=l.length) (hF:l.length<F) (hL:l.length<4611686018427387904):ym.sh F l=some ((uZ l,()),()):=by
 unfold ym.sh;rw[decide_eq_false (show ¬(l.length:Int)<1 by omega),show idx 0 l.length=true from xS (i:=0) (by omega)];simp only[cond_false,cond_true];cases l with
 | nil=>simp at h
 | cons a r =>
  refine Eq.trans (ym.l5.rq F _ (a::r) (by omega) r 1 F _ (by simp) (by simp at hF; omega)) ?_;exact zfD F (fun m=>(some ((m,()),()):Option ym.sg.R)) (a::r) r _ _
theorem zeV (hF:4096<F) (dims:Nat) (k:List Int->Option R) (L:List za.T) (N:Int):∀(xs:List za.T) (st:List Tree) (i:Int),okS dims st xs->(zS st).length+xs.length<=2048->
  yu.l6.rg F (fun _ _ _ _ pile=>k pile) L N xs i (st.map deep)=k ((tW st xs).map deep):=by
 intro xs;induction xs with
 | nil=>intro st i h h2; rfl
 | cons n xs ih =>
  intro st i h h2;obtain ⟨g1,g2,g3,g4,g5,g6,g7,g8⟩:=wD h.1;have hst:=vo st;have hfs:=congrArg List.length (vQ st n);simp only[length_cons,length_append,length_nil] at h2 hfs;have IH:=ih (w9 st n) (i+1) h.2 (by omega);have hbd:=tc (wH st n);have hts:=Yw (st:=st) (n:=n);have hstep:(w9 st n).map deep=(st.map deep).take (st.length-ar n)++[deep (wH st n)]:=by
   unfold w9; simp[List.map_take]
  have hd:deep (wH st n)=uZ ((st.map deep).drop (st.length-ar n))+bif nK n==15 then 1 else 0:=by
   unfold wH; rw[tV,map_drop]
  rw[hstep] at IH;simp only[yu.l6.rg];rw[W7 F g1 g4];simp only[zh];have hlen:(st.map deep).length=st.length:=by simp
  rw[hlen,ZQ g7 (by omega),q8 (by omega),qZ (by omega)];simp only[cond_true];rw[take_of_length_le (by rw[hlen]; omega:(st.map deep).length<=st.length)];cases hk:decide ((ar n:Int)>0) with
  | true =>
   have hk:=of_decide_eq_true hk;simp only[cond_true];rw[max_eq F (by rw[length_drop,hlen]; omega) (by rw[length_drop,hlen]; omega) (by rw[length_drop,hlen]; omega)];simp only[zh];cases h15:(nK n==15) with
   | true =>
    rw[h15] at hd;simp only[cond_true] at hd;simp only[cond_true];rw[yz (by omega) (by omega),<-hd,uq (by simp; omega)];exact IH
   | false =>
    rw[h15] at hd;simp only[cond_false,Int.add_zero] at hd;simp only[cond_false];rw[<-hd,uq (by simp; omega)];exact IH
  | false =>
   have hk:=of_decide_eq_false hk;have hk0:ar n=0:=by omega
   simp only[cond_false];rw[hk0,Nat.sub_zero,drop_of_length_le (by rw[hlen]; omega)] at hd;rw[hk0,Nat.sub_zero,take_of_length_le (by rw[hlen]; omega)] at IH;cases h15:(nK n==15) with
   | true =>
    rw[h15] at hd;simp only[cond_true];rw[uq (by simp; omega)];simp only[cond_true];rw[show i64.wrap (0+1)=deep (wH st n) by rw[hd]; rfl];exact IH
   | false =>
    rw[h15] at hd;simp only[cond_false];rw[uq (by simp; omega)];simp only[cond_true];rw[hd] at IH;exact IH
structure Good (p:zO.T) (t:Tree):Prop where
 head:ZA p.1 p.2.1 p.2.2.1=0
 len:p.2.2.2.length<=1024
 ok:okS p.2.1.length [] p.2.2.2
 eq:tW [] p.2.2.2=[t]
theorem Good.flat (h:Good p t):t.flat=p.2.2.2:=by
 have:=RF p.2.2.2 [];rw[h.eq,u7] at this;simpa [zS] using this
theorem Good.subs (h:Good p t):news [] p.2.2.2=t.subs:=by
 have:=S0 p.2.2.2 [];rw[h.eq,ZI] at this;simpa [vW] using this.symm
theorem zgq (h:(uG p).2=0):∃t,Good p t:=by
 unfold uG at h;cases h1:(ZA p.1 p.2.1 p.2.2.1 != 0) with
 | true =>
  rw[h1] at h;simp only[cond_true] at h;rw[h] at h1;cases h1
 | false =>
  rw[h1] at h;have h1:ZA p.1 p.2.1 p.2.2.1=0:=by simpa using h1
  cases h2:decide ((p.2.2.2.length:Int)>1024) with
  | true=>rw[h2] at h; exact absurd (show (2:Int)=0 from h) (by decide)
  | false =>
   rw[h2] at h;have h2:=of_decide_eq_false h2;simp only[cond_false] at h;cases h3:WX p.2.1.length p.2.2.2 0 0 with
   | some x =>
    rw[h3] at h;have hne:∀(xs:List za.T) (pile i:Nat),WX p.2.1.length xs pile i=some x->x.2≠0:=by
     intro xs;induction xs with
     | nil=>intro pile i h; cases h
     | cons n r ih =>
      intro pile i h;simp only[WX] at h;cases he:(vA p.2.1.length n pile != 0) with
      | true =>
       rw[he] at h;simp only[cond_true,Option.some.injEq] at h;rw[<-h];simpa using he
      | false=>rw[he] at h; exact ih _ _ h
    exact absurd h (hne _ _ _ h3)
   | none =>
    rw[h3] at h;have:=zgo p.2.1.length p.2.2.2 [] 0 h3;cases h4:((Uo p.2.2.2 0:Int) != 1) with
    | true=>rw[h4] at h; exact absurd (show (50:Int)=0 from h) (by decide)
    | false =>
     have h4:(Uo p.2.2.2 0:Int)=1:=by simpa using h4
     have hl:(tW [] p.2.2.2).length=1:=by rw[this.2]; simp only[length_nil]; omega
     obtain ⟨t,ht⟩:=length_eq_one_iff.1 hl;exact ⟨t,h1,by omega,this.1,ht⟩
theorem Good.check (h:Good p t):uG p=(0,0):=by
 unfold uG;have:=zfm p.2.1.length p.2.2.2 [] 0 h.ok;rw[h.eq] at this;simp only[length_nil,length_cons] at this;rw[h.head,this.1,this.2,decide_eq_false (by have:=h.len; omega)];rfl
theorem zex (hF:4096<F) (h:Good p t):wL.sh F p=some ((XW 0 t.subs,0,()),()):=by
 unfold wL.sh yi.sh;rw[VF F (by omega),h.check];have hl:=h.len;have e:=Eq.trans (yi.l3.rq F (fun _ _ _ _ list2 _=>yi.j13 F (fun r23=>(some ((r23,()),()):Option yi.sg.R)) list2) p.2.2.2 _ rfl (by omega) p.2.2.2 0 F [] [] (by simp) (by omega))
  (zee F p.2.1.length (fun list=>some ((list,()),())) p.2.2.2 (p.2.2.2.length:Int) p.2.2.2 [] [] h.ok (by simp[zS]; omega) (by simp))
 rw[h.subs] at e;have e:yi.l3 F (fun _ _ _ _ list2 _=>yi.j13 F (fun r23=>(some ((r23,()),()):Option yi.sg.R)) list2) F p.2.2.2 (p.2.2.2.length:Int) 0 [] []=some ((XW 0 t.subs,()),()):=e;rw[e];rfl
theorem zbr (hF:4096<F) (h:Good p t):zT.sh F p=some ((t.subs.map noQ,0,()),()):=by
 unfold zT.sh;rw[zex F hF h];simp only[zh,bne_self_eq_false,cond_false];have hl:=h.len;have hn:t.subs.length=p.2.2.2.length:=by rw[ZS,h.flat]
 have hz:(decide (0<=((XW 0 t.subs).length:Int))&&decide (((XW 0 t.subs).length:Int)<=((XW 0 t.subs).length:Int))&&decide (((XW 0 t.subs).length:Int)<=(wF:Int)))=true:=by
  have:wF=1099511627776:=rfl;rw[T6,this];simp;omega
 rw[hz];simp only[cond_true];have e:=Eq.trans (zT.l7.rq F (fun _ _ _ _ _ _ out2=>zT.j13 F (fun r23 r33=>(some ((r23,r33,()),()):Option zT.sg.R)) out2) p.2.2.2 _ rfl (by omega) p.2.2.2 0 F (XW 0 t.subs) (-1) (WA .bool p.2.2.2.length) (by simp) (by omega))
  (zbd F p.2.1.length (fun out=>some ((out,0,()),())) p.2.2.2 (p.2.2.2.length:Int) (XW 0 t.subs) p.2.2.2 [] [] [] h.ok (by simp[zS]; omega) (by rw[h.subs]; rfl) rfl rfl)
 rw[h.subs] at e;rw[show ((XW 0 t.subs).length:Int).toNat=p.2.2.2.length by rw[T6,hn]; rfl];exact e
theorem zgL (hF:4096<F) (h:Good p t):yu.sh F p=some ((deep t,0,()),()):=by
 unfold yu.sh;rw[VF F (by omega),h.check];have hl:=h.len;have e:=Eq.trans (yu.l6.rq F (fun _ _ _ _ pile4=>yu.j17 F (fun r25 r35=>(some ((r25,r35,()),()):Option yu.sg.R)) pile4) p.2.2.2 _ rfl (by omega) p.2.2.2 0 F [] (by simp) (by omega))
  (zeV F hF p.2.1.length (fun pile=>yu.j17 F (fun r25 r35=>(some ((r25,r35,()),()):Option yu.sg.R)) pile) p.2.2.2 (p.2.2.2.length:Int) p.2.2.2 [] 0 h.ok (by simp[zS]; omega))
 rw[h.eq] at e;exact e
def vS (t:Int):Bool:=decide (t>=2)
def qk:List Int->Int
 | []=>-1
 | a::r=>bif r.all (fun x=>x==a) then a else -1
def Yz (a b:Int):Int :=
 bif a==0 then b else bif b==0 then a else bif vS a&&b==1 then 1 else bif vS b&&a==1 then 1 else -1
def tyN (n:za.T) (ks:List Int):Int :=
 bif nK n==1 then 0 else bif nK n==2 then 1 else bif nK n==3 then 2+2*nN n else bif nK n==4 then 3+2*nN n
 else bif nK n==8 then Yz (ks.getD 0 0) (ks.getD 1 0)
 else bif nK n==11||nK n==12 then (bif vS (ks.getD 0 0) then ks.getD 0 0 else -1)
 else bif nK n==13||nK n==14 then (bif vS (ks.getD 0 0) then 1 else -1)
 else bif nK n==15 then (bif ks.getD 0 0==1 then 1 else -1)
 else bif nK n==16 then (bif vS (ks.getD 0 0) then qk (ks.drop 1) else -1)
 else qk ks
def ty:Tree->Int:=Tree.fold tyN
theorem qR (n:za.T) (ks:List Tree):ty (.nd n ks)=tyN n (ks.map ty):=Tree.fold_nd _ n ks
def WP (n:za.T) (fs:List Bool):Bool:=nK n==8&&(!fs.getD 0 false&&!fs.getD 1 false)
def tyE (t:Tree):Int:=bif ty t == -1 then 80 else bif WP t.root (t.kids.map noQ) then 81 else 0
def ve (E:Tree->Int):List Tree->Nat->Option (Nat×Int)
 | [],_=>none
 | t::r,i=>bif E t != 0 then some (i,E t) else ve E r (i+1)
theorem zfl:∀(r:List Int),(a::r).all (fun x=>x==a)=r.all (fun x=>x==a):=by intro r; simp
theorem zfi (F:Nat) {R:Type} (k:Int->Option R) (k1:Int->xD.T->Option R) (L:List Int) (N:Int) (n:xD.T) (fr:Nat) (a:Int) (hfr:fr<n.2.1.length) (ha:get (.int .i64) n.2.1 fr=a):∀(xs:List Int) (i:Int),
  yb.l2.rg F k (fun fr _ _ _ _ n=>k1 fr n) L N xs i (fr:Int) n=bif xs.all (fun x=>x==a) then k1 fr n else k (-1)
 | [],i=>rfl
 | x::r,i=>by
  rw[yb.l2.rg,zfi F k k1 L N n fr a hfr ha r,xS hfr,Int.toNat_natCast,ha];simp only[cond_true,all_cons];cases hx:(x==a) with
  | true=>simp only[bne,hx,Bool.not_true,cond_false,Bool.true_and]
  | false=>simp only[bne,hx,Bool.not_false,cond_true,Bool.false_and,cond_false]
theorem zfj (hF:64<F) (n:za.T) (ks:List Int) (fx:List Bool) (h:fr<ks.length) (hl:ks.length<=32):yb.sh F (n,ks,fx) (fr:Int)=some ((qk (ks.drop fr),()),()):=by
 unfold yb.sh;simp only[];rw[qZ (by omega)];simp only[cond_true];rw[List.take_length];refine Eq.trans (yb.l2.rq F _ _ (ks.drop fr) _ rfl (by simp; omega) (ks.drop fr) 0 F _ _ (by simp) (by simp; omega)) ?_;refine (zfi F (fun r41=>(some ((r41,()),()):Option yb.sg.R)) (fun fr n2=>bif idx fr n2.2.1.length then some ((get (.int .i64) n2.2.1 fr.toNat,()),()) else none) (ks.drop fr) _ (n,ks,fx) fr (get (.int .i64) ks fr) h rfl (ks.drop fr) _).trans ?_;simp only[];rw[xS h,Int.toNat_natCast];have hd:ks.drop fr=get (.int .i64) ks fr::ks.drop (fr+1):=by
  rw[List.drop_eq_getElem_cons h];congr 1
  unfold get;rw[getD_eq_getElem?_getD,List.getElem?_eq_getElem h];rfl
 rw[hd,zfl];simp only[qk];cases (ks.drop (fr+1)).all (fun x=>x==get (.int .i64) ks fr)<;>rfl
theorem Zq {n:Nat} (h:1<=n):idx 0 n=true:=xS (i:=0) (by omega)
theorem idx1 {n:Nat} (h:2<=n):idx 1 n=true:=xS (i:=1) (by omega)
theorem X7 (hF:64<F) (n:za.T) (ks:List Int) (fx:List Bool) (h:1<=ks.length) (hl:ks.length<=32):xq.sh F (n,ks,fx)=some ((qk ks,()),()):=by
 unfold xq.sh;rw[show (0:Int)=((0:Nat):Int) from rfl,zfj F hF n ks fx (by omega) hl];rfl
theorem zbO (n:za.T) (ks:List Int) (fx:List Bool) (h:2<=ks.length):xA.sh F (n,ks,fx)=some ((Yz (ks.getD 0 0) (ks.getD 1 0),()),()):=by
 unfold xA.sh xX.sh Yz vS;simp only[zh];rw[Zq (by omega),idx1 (by omega)];simp only[cond_true];rw[show get (.int .i64) ks 0=ks.getD 0 0 from rfl,show get (.int .i64) ks 1=ks.getD 1 0 from rfl];cases (ks.getD 0 0==0) with
 | true=>rfl
 | false =>
  cases (ks.getD 1 0==0) with
  | true=>rfl
  | false=>cases decide (ks.getD 0 0>=2)<;>cases decide (ks.getD 1 0>=2)<;>cases (ks.getD 0 0==1)<;>cases (ks.getD 1 0==1)<;>rfl
theorem Ss (n:za.T) (ks:List Int) (fx:List Bool) (h:1<=ks.length):xn.sh F (n,ks,fx)=some ((bif vS (ks.getD 0 0) then ks.getD 0 0 else -1,()),()):=by
 unfold xn.sh xX.sh vS;simp only[zh];rw[Zq (by omega)];simp only[cond_true];rw[show get (.int .i64) ks 0=ks.getD 0 0 from rfl];cases decide (ks.getD 0 0>=2)<;>rfl
theorem Re (n:za.T) (ks:List Int) (fx:List Bool) (h:1<=ks.length):xG.sh F (n,ks,fx)=some ((bif vS (ks.getD 0 0) then 1 else -1,()),()):=by
 unfold xG.sh xX.sh vS;simp only[zh];rw[Zq (by omega)];simp only[cond_true];rw[show get (.int .i64) ks 0=ks.getD 0 0 from rfl];cases decide (ks.getD 0 0>=2)<;>rfl
theorem off_eq (n:za.T) (ks:List Int) (fx:List Bool) (h:1<=ks.length):wm.sh F (n,ks,fx)=some ((bif ks.getD 0 0==1 then 1 else -1,()),()):=by
 unfold wm.sh;rw[Zq (by omega)];simp only[cond_true];rw[show get (.int .i64) ks 0=ks.getD 0 0 from rfl];cases (ks.getD 0 0==1)<;>rfl
theorem test_eq (hF:64<F) (n:za.T) (ks:List Int) (fx:List Bool) (h:2<=ks.length) (hl:ks.length<=32):xZ.sh F (n,ks,fx)=some ((bif vS (ks.getD 0 0) then qk (ks.drop 1) else -1,()),()):=by
 unfold xZ.sh xX.sh vS;simp only[zh];rw[Zq (by omega)];simp only[cond_true];rw[show get (.int .i64) ks 0=ks.getD 0 0 from rfl];have:=zfj F hF n ks fx (fr:=1) (by omega) hl;rw[show (((1:Nat):Int))=1 from rfl] at this;rw[this];cases decide (ks.getD 0 0>=2)<;>rfl
theorem ug (h:tz n=true):nK n=1\/nK n=2\/nK n=3\/nK n=4\/nK n=5\/nK n=6\/nK n=7\/nK n=8\/nK n=9\/nK n=10\/nK n=11\/nK n=12\/nK n=13\/nK n=14\/nK n=15\/nK n=16:=by
 have:=ZP.1 h;omega
theorem yI (h:nK n=k):ar n=bif decide ((get wt uK k.toNat).1>=0) then (get wt uK k.toNat).1.toNat else (nC n).toNat:=by
 unfold ar aK tI;rw[h]
theorem tC (h:nK n=k):uV n=bif decide ((get wt uK k.toNat).1<0) then decide (nC n>=2)&&decide (nC n<=16) else nC n==0:=by
 unfold uV aK tI;rw[h]
theorem uU (h:nK n=k) (dims:Nat):Yh n dims=bif decide ((get wt uK k.toNat).2.1<0) then (dims:Int)-1 else (get wt uK k.toNat).2.1:=by
 unfold Yh tI;rw[h]
theorem rule_eq (hF:64<F) (hd:dims<=4) (h:vA dims n pile=0) :
  ∃r c,wT.sh F (nK n)=some ((r,c,()),())/\(bif decide (c<0) then nC n else c)=(ar n:Int) /\
   ∀(ks:List Int) (fx:List Bool),ks.length=ar n->zF.d63 F r ((n,ks,fx),())=some ((tyN n ks,()),()):=by
 obtain ⟨g1,g2,g3,g4,g5,g6,g7,g8⟩:=wD h;have ha:=Xq g1 g4;rcases ug g1 with h | h | h | h | h | h | h | h | h | h | h | h | h | h | h | h
 ·exact ⟨uc,0,by rw[h]; rfl,by rw[yI h]; rfl,fun ks fx hk=>by unfold tyN; rw[h]; rfl⟩
 ·exact ⟨um,0,by rw[h]; rfl,by rw[yI h]; rfl,fun ks fx hk=>by unfold tyN; rw[h]; rfl⟩
 ·rw[uU h] at g3
  have g3:nN n<=(dims:Int)-1:=g3;refine ⟨vq,0,by rw[h]; rfl,by rw[yI h]; rfl,fun ks fx hk=>?_⟩;refine Eq.trans (show zF.d63 F vq ((n,ks,fx),())=xu.sh F (n,ks,fx) from rfl) ?_;unfold xu.sh tyN;rw[h,yz (n:=2*nN n) (by omega) (by omega),yz (n:=2+2*nN n) (by omega) (by omega)];rfl
 ·rw[uU h] at g3
  have g3:nN n<=(dims:Int)-1:=g3;refine ⟨vM,0,by rw[h]; rfl,by rw[yI h]; rfl,fun ks fx hk=>?_⟩;refine Eq.trans (show zF.d63 F vM ((n,ks,fx),())=xQ.sh F (n,ks,fx) from rfl) ?_;unfold xQ.sh tyN;rw[h,yz (n:=2*nN n) (by omega) (by omega),yz (n:=3+2*nN n) (by omega) (by omega)];rfl
 ·have e:ar n=1:=by rw[yI h]; rfl
  refine ⟨yH,1,by rw[h]; rfl,by rw[e]; rfl,fun ks fx hk=>?_⟩;refine Eq.trans (show zF.d63 F yH ((n,ks,fx),())=xq.sh F (n,ks,fx) from rfl) ?_;rw[X7 F hF n ks fx (by omega) (by omega)];unfold tyN; rw[h]; rfl
 ·have e:ar n=2:=by rw[yI h]; rfl
  refine ⟨yH,2,by rw[h]; rfl,by rw[e]; rfl,fun ks fx hk=>?_⟩;refine Eq.trans (show zF.d63 F yH ((n,ks,fx),())=xq.sh F (n,ks,fx) from rfl) ?_;rw[X7 F hF n ks fx (by omega) (by omega)];unfold tyN; rw[h]; rfl
 ·have e:ar n=2:=by rw[yI h]; rfl
  refine ⟨yH,2,by rw[h]; rfl,by rw[e]; rfl,fun ks fx hk=>?_⟩;refine Eq.trans (show zF.d63 F yH ((n,ks,fx),())=xq.sh F (n,ks,fx) from rfl) ?_;rw[X7 F hF n ks fx (by omega) (by omega)];unfold tyN; rw[h]; rfl
 ·have e:ar n=2:=by rw[yI h]; rfl
  refine ⟨vE,2,by rw[h]; rfl,by rw[e]; rfl,fun ks fx hk=>?_⟩;refine Eq.trans (show zF.d63 F vE ((n,ks,fx),())=xA.sh F (n,ks,fx) from rfl) ?_;rw[zbO F n ks fx (by omega)];unfold tyN; rw[h]; rfl
 ·rw[tC h] at g4
  have g4:(decide (nC n>=2)&&decide (nC n<=16))=true:=g4;simp at g4;have e:ar n=(nC n).toNat:=by rw[yI h]; rfl
  refine ⟨yH,-1,by rw[h]; rfl,?_,fun ks fx hk=>?_⟩
  ·rw[e]; rw[decide_eq_true (show (-1:Int)<0 by omega)]; simp only[cond_true]; omega
  refine Eq.trans (show zF.d63 F yH ((n,ks,fx),())=xq.sh F (n,ks,fx) from rfl) ?_;rw[X7 F hF n ks fx (by omega) (by omega)];unfold tyN; rw[h]; rfl
 ·rw[tC h] at g4
  have g4:(decide (nC n>=2)&&decide (nC n<=16))=true:=g4;simp at g4;have e:ar n=(nC n).toNat:=by rw[yI h]; rfl
  refine ⟨yH,-1,by rw[h]; rfl,?_,fun ks fx hk=>?_⟩
  ·rw[e]; rw[decide_eq_true (show (-1:Int)<0 by omega)]; simp only[cond_true]; omega
  refine Eq.trans (show zF.d63 F yH ((n,ks,fx),())=xq.sh F (n,ks,fx) from rfl) ?_;rw[X7 F hF n ks fx (by omega) (by omega)];unfold tyN; rw[h]; rfl
 ·have e:ar n=1:=by rw[yI h]; rfl
  refine ⟨wy,1,by rw[h]; rfl,by rw[e]; rfl,fun ks fx hk=>?_⟩;refine Eq.trans (show zF.d63 F wy ((n,ks,fx),())=xn.sh F (n,ks,fx) from rfl) ?_;rw[Ss F n ks fx (by omega)];unfold tyN; rw[h]; rfl
 ·have e:ar n=1:=by rw[yI h]; rfl
  refine ⟨wy,1,by rw[h]; rfl,by rw[e]; rfl,fun ks fx hk=>?_⟩;refine Eq.trans (show zF.d63 F wy ((n,ks,fx),())=xn.sh F (n,ks,fx) from rfl) ?_;rw[Ss F n ks fx (by omega)];unfold tyN; rw[h]; rfl
 ·have e:ar n=1:=by rw[yI h]; rfl
  refine ⟨wE,1,by rw[h]; rfl,by rw[e]; rfl,fun ks fx hk=>?_⟩;refine Eq.trans (show zF.d63 F wE ((n,ks,fx),())=xG.sh F (n,ks,fx) from rfl) ?_;rw[Re F n ks fx (by omega)];unfold tyN; rw[h]; rfl
 ·have e:ar n=1:=by rw[yI h]; rfl
  refine ⟨wE,1,by rw[h]; rfl,by rw[e]; rfl,fun ks fx hk=>?_⟩;refine Eq.trans (show zF.d63 F wE ((n,ks,fx),())=xG.sh F (n,ks,fx) from rfl) ?_;rw[Re F n ks fx (by omega)];unfold tyN; rw[h]; rfl
 ·have e:ar n=1:=by rw[yI h]; rfl
  refine ⟨uh,1,by rw[h]; rfl,by rw[e]; rfl,fun ks fx hk=>?_⟩;refine Eq.trans (show zF.d63 F uh ((n,ks,fx),())=wm.sh F (n,ks,fx) from rfl) ?_;rw[off_eq F n ks fx (by omega)];unfold tyN; rw[h]; rfl
 ·have e:ar n=3:=by rw[yI h]; rfl
  refine ⟨v6,3,by rw[h]; rfl,by rw[e]; rfl,fun ks fx hk=>?_⟩;refine Eq.trans (show zF.d63 F v6 ((n,ks,fx),())=xZ.sh F (n,ks,fx) from rfl) ?_;rw[test_eq F hF n ks fx (by omega) (by omega)];unfold tyN; rw[h]; rfl
theorem U2 {f:α->β} {d:β} {l:List α} {m j:Nat}:(l.map f).getD (m+j) d=((l.drop m).map f).getD j d:=by
 rw[map_drop,getD_eq_getElem?_getD,getD_eq_getElem?_getD,List.getElem?_drop]
theorem zeI (hF:64<F) (hd:dims<=4) (kE:List Int->Int->Int->Option R) (kO:List Int->List Int->Option R) (L:List za.T) (N:Int) (fixed:List Bool):∀(xs:List za.T) (st:List Tree) (pre:List Bool) (types:List Int),
  okS dims st xs->(zS st).length+xs.length<=2048->fixed=pre++(news st xs).map noQ->pre.length=(zS st).length->types.length=(zS st).length->
  zF.l8.rg F kE kE (fun _ _ _ _ _ types pile _=>kO types pile) L N xs ((zS st).length:Int) fixed types (st.map ty) (st.map noQ) =
   match ve tyE (news st xs) (zS st).length with
   | some (j,e)=>kE [] (j:Int) e
   | none=>kO (types++(news st xs).map ty) ((tW st xs).map ty):=by
 intro xs;induction xs with
 | nil=>intro st pre types h h2 h3 h4 h5; simp[zF.l8.rg,news,ve,tW]
 | cons n xs ih =>
  intro st pre types h h2 h3 h4 h5;obtain ⟨g1,g2,g3,g4,g5,g6,g7,g8⟩:=wD h.1;have hst:=vo st;have hfs:=congrArg List.length (vQ st n);simp only[length_cons,length_append,length_nil] at h2 hfs;simp only[news,map_cons] at h3;have IH:=ih (w9 st n) (pre++[noQ (wH st n)]) (types++[ty (wH st n)]) h.2 (by omega) (by rw[h3]; simp) (by simp; omega) (by simp; omega);have hst1:(w9 st n).map ty=(st.map ty).take (st.length-ar n)++[ty (wH st n)]:=by unfold w9; simp[List.map_take]
  have hst2:(w9 st n).map noQ=(st.map noQ).take (st.length-ar n)++[noQ (wH st n)]:=by unfold w9; simp[List.map_take]
  rw[hst1,hst2,hfs] at IH;obtain ⟨r,c,q1,q2,q3⟩:=rule_eq F hF hd h.1;have hl1:(st.map ty).length=st.length:=by simp
  have hl2:(st.map noQ).length=st.length:=by simp
  have hgf:get .bool fixed (Int.toNat ((zS st).length:Int))=noQ (wH st n):=by
   rw[Int.toNat_natCast,get,h3,getD_eq_getElem?_getD,List.getElem?_append_right (by omega),h4,Nat.sub_self];rfl
  have hif:idx ((zS st).length:Int) fixed.length=true:=xS (by rw[h3]; simp; omega);have ht:=q3 ((st.map ty).drop (st.length-ar n)) ((st.map noQ).drop (st.length-ar n)) (by simp; omega);have hty:tyN n ((st.map ty).drop (st.length-ar n))=ty (wH st n):=by unfold wH; rw[qR,map_drop]
  rw[hty] at ht;have hE:tyE (wH st n)=bif ty (wH st n) == -1 then 80 else bif WP n ((st.map noQ).drop (st.length-ar n)) then 81 else 0:=by
   rw[<-map_drop]; rfl
  have hm:st.length-ar n<=st.length:=by omega
  have hb1:=qZ hm;have hb2:=q8 hm;have ew:=ZQ g7 (by omega);have htk1:(st.map ty).take st.length=st.map ty:=take_of_length_le (by omega);have htk2:(st.map noQ).take st.length=st.map noQ:=take_of_length_le (by omega);have hbl1:∀y,Nat.ble (types.length+([y]:List Int).length) wF=true:=fun y=>uq (by simp; omega)
  have hbl2:∀y,Nat.ble (st.length-ar n+([y]:List Int).length) wF=true:=fun y=>uq (by simp; omega)
  have hbl3:∀y,Nat.ble (st.length-ar n+([y]:List Bool).length) wF=true:=fun y=>uq (by simp; omega)
  simp only[append_assoc,singleton_append] at IH;rw[wd] at IH;have h8a:(nK n==8)=true->ar n=2:=fun h=>by rw[yI (by simpa using h)]; rfl
  simp only[zF.l8.rg];rw[q1];simp only[zh];simp only[news,ve,hE];generalize ar n=a at*;cases hc:decide (c<0) with
  | true =>
   rw[hc] at q2;have q2:n.2.2.2.1=(a:Int):=q2;simp only[cond_true,q2,hl1,hl2,ew,hb1,hb2,htk1,htk2];rw[ht];simp only[zh];cases hn:(ty (wH st n) == -1) with
   | true=>rfl
   | false =>
    simp only[cond_false,hbl1,hbl2,hbl3,hif,hgf,cond_true,WP];cases h8:(nK n==8) with
    | true =>
     have h8:=h8a h8;have hi1:idx ((st.length-a:Nat):Int) st.length=true:=xS (by omega);have hi2:idx ((st.length-a+1:Nat):Int) st.length=true:=xS (by omega);have ew2:i64.wrap (((st.length-a:Nat):Int)+1)=((st.length-a+1:Nat):Int):=by rw[yz (by omega) (by omega)]; omega
     have hg0:get .bool (st.map noQ) (st.length-a)=((st.map noQ).drop (st.length-a)).getD 0 false:=by rw[<-map_drop]; exact U2 (j:=0)
     have hg1:get .bool (st.map noQ) (st.length-a+1)=((st.map noQ).drop (st.length-a)).getD 1 false:=by rw[<-map_drop]; exact U2 (j:=1)
     simp only[hi1,hi2,ew2,cond_true,Int.toNat_natCast,hg0,hg1,Bool.true_and];cases ((st.map noQ).drop (st.length-a)).getD 0 false with
     | true=>exact IH
     | false =>
      cases ((st.map noQ).drop (st.length-a)).getD 1 false with
      | true=>exact IH
      | false=>rfl
    | false=>exact IH
  | false =>
   rw[hc] at q2;have q2:c=(a:Int):=q2;simp only[cond_false,cond_true,q2,hl1,hl2,ew,hb1,hb2,htk1,htk2];rw[ht];simp only[zh];cases hn:(ty (wH st n) == -1) with
   | true=>rfl
   | false =>
    simp only[cond_false,hbl1,hbl2,hbl3,hif,hgf,cond_true,WP];cases h8:(nK n==8) with
    | true =>
     have h8:=h8a h8;have hi1:idx ((st.length-a:Nat):Int) st.length=true:=xS (by omega);have hi2:idx ((st.length-a+1:Nat):Int) st.length=true:=xS (by omega);have ew2:i64.wrap (((st.length-a:Nat):Int)+1)=((st.length-a+1:Nat):Int):=by rw[yz (by omega) (by omega)]; omega
     have hg0:get .bool (st.map noQ) (st.length-a)=((st.map noQ).drop (st.length-a)).getD 0 false:=by rw[<-map_drop]; exact U2 (j:=0)
     have hg1:get .bool (st.map noQ) (st.length-a+1)=((st.map noQ).drop (st.length-a)).getD 1 false:=by rw[<-map_drop]; exact U2 (j:=1)
     simp only[hi1,hi2,ew2,cond_true,Int.toNat_natCast,hg0,hg1,Bool.true_and];cases ((st.map noQ).drop (st.length-a)).getD 0 false with
     | true=>exact IH
     | false =>
      cases ((st.map noQ).drop (st.length-a)).getD 1 false with
      | true=>exact IH
      | false=>rfl
    | false=>exact IH
def td (t:Tree):List Int×Int×Int :=
 match ve tyE t.subs 0 with
 | some (j,e)=>([],(j:Int),e)
 | none=>bif ty t != 1 then ([],(t.size:Int)-1,80) else (t.subs.map ty,0,0)
theorem zgK (hF:4096<F) (h:Good p t):zF.sh F p=some (((td t).1,(td t).2.1,(td t).2.2,()),()):=by
 unfold zF.sh;rw[VF F (by omega),h.check,zbr F hF h];simp only[zh,bne_self_eq_false,cond_false];have hl:=h.len;have hn:t.subs.length=p.2.2.2.length:=by rw[ZS,h.flat]
 have hs:t.size=p.2.2.2.length:=by rw[Tree.size,h.flat]
 have hp:=qE t;refine Eq.trans (zF.l8.rq F _ _ _ p.2.2.2 _ rfl (by omega) p.2.2.2 0 F _ [] [] [] (by simp) (by omega)) ?_;refine (zeI F (by omega) (tg h.head).2.1 (fun r26 r36 r46=>(some ((r26,r36,r46,()),()):Option zF.sg.R)) (fun types8 pile8=>zF.j23 F (fun r29 r39 r49=>some ((r29,r39,r49,()),())) (fun r210 r310 r410=>some ((r210,r310,r410,()),())) types8 pile8) p.2.2.2 _ (t.subs.map noQ) p.2.2.2 [] [] [] h.ok (by simp[zS]; omega) (by rw[h.subs]; rfl) rfl rfl).trans ?_;rw[h.subs,h.eq];unfold td;rw[show (zS []).length=0 from rfl];cases ve tyE t.subs 0 with
 | some x=>rfl
 | none =>
  simp only[nil_append,map_cons,map_nil];unfold zF.j23;rw[show idx 0 [ty t].length=true from rfl,show get (.int .i64) [ty t] 0=ty t from rfl,length_map,hn,hs,yz (by omega) (by omega)];cases (ty t != 1)<;>rfl
theorem zeu (hF:4096<F) (h:(uG p).2≠0):zF.sh F p=some (([],(uG p).1,(uG p).2,()),()):=by
 unfold zF.sh;rw[VF F (by omega)];simp only[zh];rw[show ((uG p).2 != 0)=true by simpa using h];rfl
theorem U5 (u:zd.T) (o:Bool) (w:zd.T) (e:Int):xc.sh F (u,o) w e=some ((w,()),((u,o||e != 0),())):=by
 unfold xc.sh;cases o<;>rfl
theorem Wj (u:zd.T) (o:Bool) {a b:zd.T} (ha:wfW a) (hb:wfW b):y7.sh F (u,o) a b=some ((uA (val a*val b),()),((u,o||ui (val a*val b) != 0),())):=by
 unfold y7.sh;rw[W3 F ha hb];simp only[zh];rw[U5];rfl
theorem U3 (u:zd.T) (o:Bool) {a b:zd.T} (ha:wfW a) (hb:wfW b):xd.sh F (u,o) a b=some ((uA (val a+val b),()),((u,o||ui (val a+val b) != 0),())):=by
 unfold xd.sh;rw[Q7 F ha hb];simp only[zh];rw[U5];rfl
theorem vH (h:inR v=true):uA v=mk v/\(ui v != 0)=false:=by
 unfold uA ui;rw[h];exact ⟨rfl,rfl⟩
theorem We (h:inR v=false):(ui v != 0)=true:=by
 unfold ui;rw[h];rfl
def UV:Int->List yp.T->Prop
 | _,[]=>True
 | lo,x::r=>lo<tF x/\tF x<=1000000000000/\-1000000000000<=tR x/\tR x<=1000000000000/\UV (tF x) r
theorem UD (L:List yp.T):∀(xs:List yp.T) (i:Nat) (lo:Int),L.drop i=xs->qf L xs i=true->(i=0->∀x,xs.head?=some x->lo<tF x)->(i≠0->tF (L.getD (i-1) (0,0))=lo)->UV lo xs
 | [],i,lo,h,ho,h0,h1=>trivial
 | x::r,i,lo,h,ho,h0,h1=>by
  simp only[qf,Qu,Bool.and_eq_true,Bool.or_eq_true,Bool.not_eq_true',decide_eq_true_eq,decide_eq_false_iff_not] at ho;obtain ⟨⟨a1,a2,a3,a4⟩,a5⟩:=ho;have hx:L.getD i (0,0)=x:=by
   have:=congrArg (·[0]?) h
   rw[getD_eq_getElem?_getD];simp at this;rw[this]; rfl
  refine ⟨?_,by omega,by omega,by omega,UD L r (i+1) (tF x) (wz h) a5 (by omega) (fun _=>by simp only[Nat.add_sub_cancel]; rw[hx])⟩;by_cases hi:i=0
  ·exact h0 hi x rfl
  ·rcases a1 with a1 | a1
   ·exact absurd a1 hi
   ·rw[h1 hi] at a1
    omega
theorem tZ {l:List yp.T} (h:Zg l=true):1<=l.length/\l.length<=16/\UV (-1) l:=by
 simp only[Zg,Bool.and_eq_true,decide_eq_true_eq] at h;obtain ⟨a1,a2,a3,a4⟩:=h;refine ⟨a1,a2,UD l l 0 (-1) (by simp) a4 (fun _ x hx=>?_) (fun h=>absurd rfl h)⟩;cases l with
 | nil=>cases hx
 | cons y r =>
  simp only[List.head?_cons,Option.some.injEq] at hx;subst hx;have a3:tF y=0:=a3;omega
def ta (v:Int):Int:=if 0-v>v then 0-v else v
theorem U7 (h1:-1000000000000<=v) (h2:v<=1000000000000):0<=ta v/\ta v<=1000000000000:=by unfold ta; split<;>omega
theorem far_eq (h1:-1000000000000<=v) (h2:v<=1000000000000):vf.sh F v=some ((ta v,()),()):=by
 unfold vf.sh ta;rw[yz (n:=0-v) (by omega) (by omega)]
def v8:List yp.T->Int
 | a::b::r=>ta (tR a)*(tF b-tF a)+v8 (b::r)
 | _=>0
def vz (r0:Int) (l:List yp.T):Int:=l.foldl (fun r t=>if ta (tR t)>r then ta (tR t) else r) r0
theorem qC:∀(l:List yp.T) (lo:Int),-1<=lo->UV lo l->0<=v8 l/\v8 l<=l.length*1000000000000000000000000
 | [],lo,_,h=>by simp[v8]
 | [a],lo,_,h=>by simp[v8]
 | a::b::r,lo,hlo,h=>by
  obtain ⟨a1,a2,a3,a4,a5⟩:=h;have ih:=qC (b::r) (tF a) (by omega) a5;obtain ⟨b1,b2,b3,b4,b5⟩:=a5;have hf:=U7 (v:=tR a) (by omega) (by omega);have:=qV hf.1 hf.2 (show 0<=tF b-tF a by omega) (show tF b-tF a<=1000000000000 by omega);have e:(1000000000000:Int)*1000000000000=1000000000000000000000000:=by decide
  rw[e] at this;simp only[v8,length_cons] at ih ⊢;push_cast at ih ⊢;omega
theorem XE:∀(l:List yp.T) (r0 lo:Int),0<=r0->r0<=1000000000000->UV lo l->0<=vz r0 l/\vz r0 l<=1000000000000
 | [],r0,lo,h1,h2,h=>⟨h1,h2⟩
 | a::r,r0,lo,h1,h2,h=>by
  obtain ⟨a1,a2,a3,a4,a5⟩:=h;have hf:=U7 (v:=tR a) (by omega) (by omega);exact XE r _ (tF a) (show 0<=(if ta (tR a)>r0 then ta (tR a) else r0) by split<;>omega) (show (if ta (tR a)>r0 then ta (tR a) else r0)<=1000000000000 by split<;>omega) a5
theorem VP (F:Nat) {R:Type} (k:List yp.T->Int->zg.T->zd.T->zd.T->Option R) (L:List yp.T) (N:Int) (u x:zd.T) (r6:zd.T) (hL:L.length<=16):∀(xs:List yp.T) (i:Nat) (rate w lo:Int),L.drop i=xs->-1<=lo->UV lo xs->0<=w->w+xs.length*1000000000000000000000000<=20000000000000000000000000->
  zP.l3.rg F (fun tiers rate _ _ _ _ m x _ ways=>k tiers rate m x ways) L N xs (i:Int) L rate (u,false) x r6 (mk w)=k L (vz rate xs) (u,false) x (mk (w+v8 xs))
 | [],i,rate,w,lo,h,hlo,hi,hw,hw2=>by simp only[zP.l3.rg,vz,v8,List.foldl_nil,Int.add_zero]
 | a::r,i,rate,w,lo,h,hlo,hi,hw,hw2=>by
  have ⟨a1,a2,a3,a4,a5⟩:=hi;have h0:=vc h;simp only[length_cons] at hw2;push_cast at hw2;have hf:=U7 (v:=tR a) (by omega) (by omega);have hlen:=congrArg List.length h;simp only[length_drop,length_cons] at hlen;simp only[zP.l3.rg];rw[far_eq F (by omega) (by omega),yz (n:=(i:Int)+1) (by omega) (by omega)];simp only[zh];cases r with
  | nil =>
   simp only[length_nil] at hlen;rw[decide_eq_false (show ¬((i:Int)+1<(L.length:Int)) by omega)];simp only[cond_false];have:=VP F k L N u x r6 hL [] (i+1) (if ta (tR a)>rate then ta (tR a) else rate) w (tF a) (wz h) (by omega) trivial hw (by simp; omega);rw[wd] at this;rw[this];rfl
  | cons b r =>
   simp only[length_cons] at hlen;rw[decide_eq_true (show ((i:Int)+1<(L.length:Int)) by omega)];obtain ⟨b1,b2,b3,b4,b5⟩:=a5;have hg:get yp L (Int.toNat ((i:Int)+1))=b:=by
    rw[<-wd]; exact vv (wz h)
   have hid:idx ((i:Int)+1) L.length=true:=Y4 (by omega) (by omega);have hp:=qV hf.1 hf.2 (show 0<=tF b-tF a by omega) (show tF b-tF a<=1000000000000 by omega);rw[show (1000000000000:Int)*1000000000000=1000000000000000000000000 by decide] at hp;simp only[cond_true];rw[Zh F (v:=ta (tR a)) (by omega) (by omega),hid,hg,yz (n:=tF b-tF a) (by omega) (by omega),Zh F (v:=tF b-tF a) (by omega) (by omega)];simp only[zh,cond_true];rw[Wj F u false (wu (by rw[yB]; omega)) (wu (by rw[yB]; omega))];simp only[zh,xR];have hin:inR (ta (tR a)*(tF b-tF a))=true:=by rw[yB]; omega
   rw[(vH hin).1,(vH hin).2];rw[U3 F u _ (wu (by rw[yB]; omega)) (wu hin)];simp only[zh,xR];have hin2:inR (w+ta (tR a)*(tF b-tF a))=true:=by rw[yB]; omega
   rw[(vH hin2).1,(vH hin2).2];simp only[beq_self_eq_true,Bool.and_true,Bool.or_false,cond_true];have:=VP F k L N u x r6 hL (b::r) (i+1) (if ta (tR a)>rate then ta (tR a) else rate) (w+ta (tR a)*(tF b-tF a)) (tF a) (wz h) (by omega) ⟨b1,b2,b3,b4,b5⟩ (by omega) (by simp only[length_cons]; push_cast; simp only[length_cons] at hw2; push_cast at hw2; omega);rw[wd] at this;rw[this,Int.add_assoc];rfl
def vL:List yp.T->Int
 | []=>0
 | [a]=>tF a
 | _::b::r=>vL (b::r)
theorem Ua:∀(l:List yp.T),1<=l.length->tF (l.getD (l.length-1) (0,0))=vL l
 | [],h=>by simp at h
 | [a],h=>rfl
 | a::b::r,h=>by
  have:=Ua (b::r) (by simp);simp only[vL,<-this];rfl
theorem Zn:∀(l:List yp.T) (lo:Int),-1<=lo->UV lo l->0<=vL l/\vL l<=1000000000000
 | [],lo,h1,h=>by simp[vL]
 | [a],lo,h1,h=>by
  obtain ⟨a1,a2,a3,a4,a5⟩:=h;simp only[vL]; omega
 | a::b::r,lo,h1,h=>by
  obtain ⟨a1,a2,a3,a4,a5⟩:=h;exact Zn (b::r) (tF a) (by omega) a5
def qF (u x:Int) (l:List yp.T):Int:=u*(vz 0 l*(x+vL l)+v8 l)
def BND:Int:=1329227995784915872903807060280344576
theorem V6 (ha:1<=a) (hb:0<=b):b<=a*b:=by
 have:=Int.mul_le_mul_of_nonneg_right ha hb;omega
def zbE (tiers7:List yp.T) (rate7:Int) (m7:zg.T) (x7 ways7:zd.T):Option zP.sg.R :=
 bif idx (i64.wrap ((tiers7.length:Int)-1)) tiers7.length then oB (xV.sh F (get yp tiers7 ((i64.wrap ((tiers7.length:Int)-1)).toNat)).1) fun c_8 =>
  oB (xd.sh F m7 x7 c_8.1.1) fun c_9 =>
  bif (((m7.1.1==c_9.2.1.1.1)&&((m7.1.2==c_9.2.1.1.2)&&true))&&true) then oB (xV.sh F rate7) fun c_10 =>
   oB (y7.sh F c_9.2.1 c_10.1.1 c_9.1.1) fun c_11 =>
   bif (((c_9.2.1.1.1==c_11.2.1.1.1)&&((c_9.2.1.1.2==c_11.2.1.1.2)&&true))&&true) then oB (xd.sh F c_11.2.1 c_11.1.1 ways7) fun c_12 =>
    bif (((c_11.2.1.1.1==c_12.2.1.1.1)&&((c_11.2.1.1.2==c_12.2.1.1.2)&&true))&&true) then oB (y7.sh F c_12.2.1 c_9.2.1.1 c_12.1.1) fun c_13 =>
     bif (((c_12.2.1.1.1==c_13.2.1.1.1)&&((c_12.2.1.1.2==c_13.2.1.1.2)&&true))&&true) then some ((c_13.1.1,()),(c_13.2.1,()))
     else none
    else none
   else none
  else none
 else none
theorem Wo (h:0<=v):(inR v=true/\v<170141183460469231731687303715884105728)\/(inR v=false/\170141183460469231731687303715884105728<=v):=by
 rcases Int.lt_or_le v 170141183460469231731687303715884105728 with h' | h'
 ·exact .inl ⟨by rw[yB]; omega,h'⟩
 ·exact .inr ⟨by rw[qK]; omega,h'⟩
theorem zaf (hF:64<F) (hu:1<=u) (hu2:u<=1000000000000000000000000) (hx:0<=x) (hx2:x<=BND) {l:List yp.T} (hl:Zg l=true) :
  ∃w o,zP.sh F (mk u,false) (mk x) l=some ((w,()),((mk u,o),()))/\wfW w/\0<=qF u x l/\((o=true/\BND<qF u x l)\/(o=false/\w=mk (qF u x l)/\qF u x l<170141183460469231731687303715884105728)):=by
 obtain ⟨l1,l2,l3⟩:=tZ hl;have hBND:BND=1329227995784915872903807060280344576:=rfl;have hlast:=Zn l (-1) (by omega) l3;have hrate:=XE l 0 (-1) (by omega) (by omega) l3;have hways:=qC l (-1) (by omega) l3;have hX:zP.sh F (mk u,false) (mk x) l=zbE F l (vz 0 l) (mk u,false) (mk x) (mk (0+v8 l)):=by
  refine Eq.trans (zP.l3.rq F _ l _ rfl (by omega) l 0 F l 0 (mk u,false) (mk x) (0,0) (0,0) (by simp) (by omega)) ?_;exact VP F (zbE F) l _ (mk u) (mk x) (0,0) l2 l 0 0 0 (-1) (by simp) (by omega) l3 (by omega) (by omega)
 rw[hX];unfold zbE;rw[yz (n:=(l.length:Int)-1) (by omega) (by omega),show ((l.length:Int)-1)=((l.length-1:Nat):Int) by omega,xS (by omega),Int.toNat_natCast,show (get yp l (l.length-1)).1=vL l from Ua l l1];simp only[cond_true,Int.zero_add];unfold qF;generalize vL l=lf at*;generalize vz 0 l=rt at*;generalize v8 l=ws at*;have iu:inR u=true:=by rw[yB]; omega
 have iws:inR ws=true:=by rw[yB]; omega
 have iR:inR (x+lf)=true:=by rw[yB]; omega
 rw[Zh F (by omega) (by omega)];simp only[zh];rw[U3 F _ _ (wu (by rw[yB]; omega)) (wu (by rw[yB]; omega))];simp only[zh,xR];rw[Zh F (v:=rt) (by omega) (by omega),(vH iR).1,(vH iR).2];simp only[zh,beq_self_eq_true,Bool.and_true,Bool.or_false,cond_true];rw[Wj F _ _ (wu (by rw[yB]; omega)) (wu iR)];simp only[zh,xR,beq_self_eq_true,Bool.and_true,cond_true,Bool.false_or];have hp0:0<=rt*(x+lf):=Int.mul_nonneg hrate.1 (by omega);have hs0:0<=rt*(x+lf)+ws:=by omega
 have hg:=V6 hu hs0;generalize rt*(x+lf)=p at*;rw[U3 F _ _ (Yf p) (wu iws)];simp only[zh,beq_self_eq_true,Bool.and_true,cond_true];rw[Wj F _ _ (wu iu) (Yf _)];simp only[zh,beq_self_eq_true,Bool.and_true,cond_true,xR];refine ⟨_,_,rfl,Yf _,by omega,?_⟩;rcases Wo hp0 with ⟨i1,b1⟩ | ⟨i1,b1⟩
 ·rw[(vH i1).1,(vH i1).2,xR]
  rcases Wo hs0 with ⟨i2,b2⟩ | ⟨i2,b2⟩
  ·rw[(vH i2).1,(vH i2).2,xR]
   rcases Wo (v:=u*(p+ws)) (by omega) with ⟨i3,b3⟩ | ⟨i3,b3⟩
   ·rw[(vH i3).1,(vH i3).2]
    exact .inr ⟨rfl,rfl,b3⟩
   ·rw[We i3]
    exact .inl ⟨by simp,by omega⟩
  ·rw[We i2]
   exact .inl ⟨by simp,by omega⟩
 ·rw[We i1]
  exact .inl ⟨by simp,by omega⟩
def vD (l:List Int):Int:=l.sum
def xJ (u:Int) (D:List xB.T) (n:za.T) (vs:List Int):Int :=
 bif nK n==1 then nN n else bif nK n==2 then nN n*u else bif nK n==3 then 1099511627776
 else bif nK n==4 then tK 1099511627776 (dS (D.getD (nN n).toNat (ByteArray.empty,0)))
 else bif nK n==8 then vs.getD 0 0*vs.getD 1 0
 else bif nK n==13||nK n==14 then qF u (vs.getD 0 0) (nT n)
 else bif nK n==15 then vs.getD 0 0
 else bif nK n==11||(nK n==12||nK n==16) then vD vs+nN n
 else vD vs
def vR (n:za.T) (v:Int):Int:=bif nK n==15 then v*10000 else v
def mag (u:Int) (D:List xB.T):Tree->Int:=Tree.fold (xJ u D)
theorem qb (u:Int) (D:List xB.T) (n:za.T) (ks:List Tree):mag u D (.nd n ks)=xJ u D n (ks.map (mag u D)):=Tree.fold_nd _ n ks
def Ys (u:Int) (D:List xB.T) (t:Tree):Int:=bif decide (vR t.root (mag u D t)>BND) then 90 else 0
theorem X2:∀(l pre:List xB.T),dE pre l=0->∀d∈l,1<=dS d/\dS d<=1000000000000
 | [],pre,h,d,hd=>by simp at hd
 | x::r,pre,h,d,hd=>by
  simp only[dE] at h;cases h1:YG x.1.data.toList with
  | false=>rw[h1] at h; exact absurd (show (61:Int)=0 from h) (by decide)
  | true =>
  rw[h1] at h;cases h2:pre.any (fun e=>ZU e.1 x.1) with
  | true=>rw[h2] at h; exact absurd (show (61:Int)=0 from h) (by decide)
  | false =>
  rw[h2] at h;cases h3:decide (dS x<1) with
  | true=>rw[h3] at h; exact absurd (show (50:Int)=0 from h) (by decide)
  | false =>
  rw[h3] at h;cases h4:decide (dS x>1000000000000) with
  | true=>rw[h4] at h; exact absurd (show (50:Int)=0 from h) (by decide)
  | false =>
  rw[h4] at h;have h3:=of_decide_eq_false h3;have h4:=of_decide_eq_false h4;rcases mem_cons.1 hd with rfl | hd
  ·exact ⟨by omega,by omega⟩
  ·exact X2 r _ h d hd
theorem zcF:∀(l:List Int),zbz (l.map mk)=vD l
 | []=>rfl
 | x::r=>by
  have:=zcF r;simp only[zbz,vD,map_cons,sum_cons,xR] at*;rw[this]
theorem Qd {b:Int}:∀(l:List Int),(∀v∈l,0<=v/\v<=b)->0<=vD l/\vD l<=l.length*b
 | [],h=>by simp[vD]
 | x::r,h=>by
  have ih:=Qd r (fun v hv=>h v (by simp[hv]));have hx:=h x (by simp);simp only[vD,sum_cons,length_cons] at*;push_cast;rw[Int.add_mul];omega
theorem qq (h:∀v∈l,0<=v/\v<=b) (hi:i<l.length):0<=l.getD i 0/\l.getD i 0<=b:=by
 rw[getD_eq_getElem?_getD,List.getElem?_eq_getElem hi];exact h _ (getElem_mem _)
theorem Vt (hi:i<l.length):get zd (l.map mk) i=mk (l.getD i 0):=by
 unfold get;rw[getD_eq_getElem?_getD,getD_eq_getElem?_getD,List.getElem?_map,List.getElem?_eq_getElem hi];rfl
theorem Sx {s:Int} (h1:1<=s):0<=tK 1099511627776 s/\tK 1099511627776 s<=1099511627777:=by
 have hq1:0<=1099511627776/s:=Int.ediv_nonneg (by omega) (by omega);have hq2:1099511627776/s<=1099511627776:=Int.ediv_le_self _ (by omega);unfold tK;split<;>omega
def NodeR (u:Int) (D:List xB.T) (n:za.T) (vs:List Int) (r:Option z8.sg.R):Prop :=
 ∃w o,r=some ((w,()),((mk u,o),()))/\wfW w/\0<=xJ u D n vs/\((o=true/\BND<vR n (xJ u D n vs))\/(o=false/\w=mk (xJ u D n vs)/\vR n (xJ u D n vs)<170141183460469231731687303715884105728))
theorem NodeR.of (hm:xJ u D n vs=v) (hf:(nK n==15)=false) (h0:0<=v) {r:Option z8.sg.R} (o:Bool)
  (hr:r=some ((uA v,()),((mk u,o||ui v != 0),()))) (ho:o=false):NodeR u D n vs r:=by
 subst ho;refine ⟨_,_,hr,Yf _,by rw[hm]; exact h0,?_⟩;have hBND:BND=1329227995784915872903807060280344576:=rfl;unfold vR;rw[hm,hf];simp only[cond_false,Bool.false_or];rcases Wo h0 with ⟨i,b⟩ | ⟨i,b⟩
 ·rw[(vH i).1,(vH i).2]; exact .inr ⟨rfl,rfl,b⟩
 ·rw[We i]; exact .inl ⟨rfl,by omega⟩
theorem qx:BND=1329227995784915872903807060280344576:=rfl
theorem j18_eq (hF:64<F) (hv:∀v∈vs,0<=v/\v<=BND) (hl:vs.length<=16) (hN:0<=nN n) (hN2:nN n<=1000000000000) :
  z8.j18 F (fun m r=>(some ((r,()),(m,())):Option z8.sg.R)) (vs.map mk) (mk u,false) n (0,0) =
   some ((mk (bif nK n==11||(nK n==12||nK n==16) then vD vs+nN n else vD vs),()),((mk u,false),())):=by
 have hs:=Qd vs hv;have hsb:vD vs<=21267647932558653966460912964485513216:=by
  have:(vs.length:Int)*BND<=16*BND:=Int.mul_le_mul_of_nonneg_right (by omega) (by rw[qx]; omega);rw[qx] at this hs;omega
 have i1:inR (vD vs)=true:=by rw[yB]; omega
 have i2:inR (vD vs+nN n)=true:=by rw[yB]; omega
 unfold z8.j18;rw[wsum_eq F (by
  intro x hx;obtain ⟨v,hv',rfl⟩:=mem_map.1 hx;have:=hv v hv';rw[qx] at this;exact wu (by rw[yB]; omega)) (by simp; omega) (by simp; omega)]
 simp only[zh,zcF];rw[U5,(vH i1).1,(vH i1).2];simp only[zh];rw[Zh F (v:=nN n) (by omega) (by omega)];simp only[zh,Bool.or_false];rw[U3 F _ _ (wu i1) (wu (by rw[yB]; omega))];simp only[zh,xR];rw[(vH i2).1,(vH i2).2];cases (nK n==11)<;>cases (nK n==12)<;>cases (nK n==16)<;>rfl
theorem Y0 (hd:dims<=4) (h:nN n<=Yh n dims) (hg:tz n=true):nN n<=1000000000000:=by
 rcases ug hg with h' | h' | h' | h' | h' | h' | h' | h' | h' | h' | h' | h' | h' | h' | h' | h'<;>rw[uU h'] at h
 ·exact h
 ·exact h
 ·have h:nN n<=(dims:Int)-1:=h; omega
 ·have h:nN n<=(dims:Int)-1:=h; omega
 ·have h:nN n<=0:=h; omega
 ·have h:nN n<=0:=h; omega
 ·have h:nN n<=0:=h; omega
 ·have h:nN n<=0:=h; omega
 ·have h:nN n<=0:=h; omega
 ·have h:nN n<=0:=h; omega
 ·exact h
 ·exact h
 ·have h:nN n<=0:=h; omega
 ·have h:nN n<=0:=h; omega
 ·have h:nN n<=10000:=h; omega
 ·exact h
theorem Zi (hF:64<F) (p:zO.T) (hv:∀v∈vs,0<=v/\v<=BND) (hl:vs.length<=16) (hN:0<=nN n) (hN2:nN n<=1000000000000) (h:nK n=k)
  (hk:k=5\/k=6\/k=7\/k=9\/k=10\/k=11\/k=12\/k=16):NodeR u D n vs (z8.sh F (mk u,false) p n (vs.map mk)):=by
 have hj:=j18_eq F hF (u:=u) (n:=n) hv hl hN hN2;have hs:=Qd vs hv;have hsb:vD vs<=21267647932558653966460912964485513216:=by
  have:(vs.length:Int)*BND<=16*BND:=Int.mul_le_mul_of_nonneg_right (by omega) (by rw[qx]; omega);rw[qx] at this hs;omega
 have hm:xJ u D n vs=bif nK n==11||(nK n==12||nK n==16) then vD vs+nN n else vD vs:=by
  unfold xJ;rw[h];rcases hk with rfl | rfl | rfl | rfl | rfl | rfl | rfl | rfl<;>rfl
 have he:z8.sh F (mk u,false) p n (vs.map mk)=z8.j18 F (fun m r=>(some ((r,()),(m,())):Option z8.sg.R)) (vs.map mk) (mk u,false) n (0,0):=by
  unfold z8.sh;have h':n.1=k:=h;rw[h'];rcases hk with rfl | rfl | rfl | rfl | rfl | rfl | rfl | rfl<;>rfl
 have hf:(nK n==15)=false:=by rw[h]; rcases hk with rfl | rfl | rfl | rfl | rfl | rfl | rfl | rfl<;>rfl
 rw[he,hj];have hb:0<=xJ u D n vs/\xJ u D n vs<170141183460469231731687303715884105728:=by
  rw[hm];cases (nK n==11||(nK n==12||nK n==16))<;>simp only[cond_true,cond_false]<;>omega
 rw[<-hm];refine ⟨_,_,rfl,wu (by rw[yB]; omega),hb.1,.inr ⟨rfl,rfl,?_⟩⟩;unfold vR;rw[hf];exact hb.2
theorem zfy (hF:64<F) (hu:1<=u) (hu2:u<=1000000000000000000000000) (hD:dE [] p.2.1=0) (hd4:p.2.1.length<=4) (hn:vA p.2.1.length n pile=0)
  (hl:vs.length=ar n) (hv:∀v∈vs,0<=v/\v<=BND):NodeR u p.2.1 n vs (z8.sh F (mk u,false) p n (vs.map mk)):=by
 obtain ⟨g1,g2,g3,g4,g5,g6,g7,g8⟩:=wD hn;have ha:=Xq g1 g4;have hN2:=Y0 hd4 g3 g1;have iu:inR u=true:=by rw[yB]; omega
 have iN:inR (nN n)=true:=by rw[yB]; omega
 rcases ug g1 with h | h | h | h | h | h | h | h | h | h | h | h | h | h | h | h
 ·refine NodeR.of (v:=nN n) (by unfold xJ; rw[h]; rfl) (by rw[h]; rfl) g2 false ?_ rfl
  unfold z8.sh;have h':n.1=1:=h;rw[h',Zh F (v:=nN n) (by omega) (by omega),(vH iN).1,(vH iN).2];rfl
 ·refine NodeR.of (v:=nN n*u) (by unfold xJ; rw[h]; rfl) (by rw[h]; rfl) (Int.mul_nonneg g2 (by omega)) false ?_ rfl
  unfold z8.sh;have h':n.1=2:=h;rw[h',Zh F (v:=nN n) (by omega) (by omega)];have e:=Wj F (mk u) false (wu iN) (wu iu);rw[xR,xR] at e;exact (congrArg (fun x=>oB x fun c_3=>(some ((c_3.1.1,()),(c_3.2.1,())):Option z8.sg.R)) e).trans rfl
 ·refine NodeR.of (v:=1099511627776) (by unfold xJ; rw[h]; rfl) (by rw[h]; rfl) (by decide) false ?_ rfl
  unfold z8.sh;have h':n.1=3:=h;rw[h',Zh F (v:=1099511627776) (by omega) (by omega)];rfl
 ·have hNd:nN n<=(p.2.1.length:Int)-1:=by have:=g3; rw[uU h] at this; exact this
  have hi:(nN n).toNat<p.2.1.length:=by omega
  have hsz:1<=dS (p.2.1.getD (nN n).toNat (ByteArray.empty,0))/\dS (p.2.1.getD (nN n).toNat (ByteArray.empty,0))<=1000000000000:=by
   rw[getD_eq_getElem?_getD,List.getElem?_eq_getElem hi];exact X2 p.2.1 [] hD _ (getElem_mem _)
  have hc:=Sx hsz.1;have ic:inR (tK 1099511627776 (dS (p.2.1.getD (nN n).toNat (ByteArray.empty,0))))=true:=by rw[yB]; omega
  refine NodeR.of (v:=tK 1099511627776 (dS (p.2.1.getD (nN n).toNat (ByteArray.empty,0)))) (by unfold xJ; rw[h]; rfl) (by rw[h]; rfl) hc.1 false ?_ rfl;unfold z8.sh;have h':n.1=4:=h;have hid:idx (nN n) p.2.1.length=true:=Y4 (by omega) (by omega);have hof:=Zh F (v:=dS (p.2.1.getD (nN n).toNat (ByteArray.empty,0))) (by omega) (by omega);have e:=zgd F hsz.1 hsz.2;have e2:=U5 F (mk u) false (mk (tK 1099511627776 (dS (p.2.1.getD (nN n).toNat (ByteArray.empty,0))))) 0;rw[h',Zh F (v:=1099511627776) (by omega) (by omega),show idx n.2.1 p.2.1.length=true from hid,show xV.sh F (get xB p.2.1 n.2.1.toNat).2=_ from hof];rw[(vH ic).1,(vH ic).2];show (oB (wN.sh F (mk 1099511627776) (mk _) 1) fun c_7=>oB (xc.sh F (mk u,false) c_7.1.1 c_7.1.2.1) fun c_8=>some ((c_8.1.1,()),(c_8.2.1,())))=_;rw[e];simp only[zh];rw[e2];rfl
 ·exact Zi F hF p hv (by omega) g2 hN2 h (by decide)
 ·exact Zi F hF p hv (by omega) g2 hN2 h (by decide)
 ·exact Zi F hF p hv (by omega) g2 hN2 h (by decide)
 ·have ea:ar n=2:=by rw[yI h]; rfl
  have b0:=qq hv (i:=0) (by omega);have b1:=qq hv (i:=1) (by omega);rw[qx] at b0 b1;refine NodeR.of (v:=vs.getD 0 0*vs.getD 1 0) (by unfold xJ; rw[h]; rfl) (by rw[h]; rfl) (Int.mul_nonneg b0.1 b1.1) false ?_ rfl;unfold z8.sh;have h':n.1=8:=h;have e:=Wj F (mk u) false (wu (v:=vs.getD 0 0) (by rw[yB]; omega)) (wu (v:=vs.getD 1 0) (by rw[yB]; omega));rw[xR,xR] at e;rw[h',Zq (n:=(vs.map mk).length) (by simp; omega),idx1 (n:=(vs.map mk).length) (by simp; omega),Vt (i:=0) (by omega),Vt (i:=1) (by omega)];exact (congrArg (fun x=>oB x fun c_3=>(some ((c_3.1.1,()),(c_3.2.1,())):Option z8.sg.R)) e).trans rfl
 ·exact Zi F hF p hv (by omega) g2 hN2 h (by decide)
 ·exact Zi F hF p hv (by omega) g2 hN2 h (by decide)
 ·exact Zi F hF p hv (by omega) g2 hN2 h (by decide)
 ·exact Zi F hF p hv (by omega) g2 hN2 h (by decide)
 ·have ea:ar n=1:=by rw[yI h]; rfl
  have b0:=qq hv (i:=0) (by omega);have ht:ue n=true:=by unfold ue tI; rw[h]; rfl
  obtain ⟨w,o,q1,q2,q3,q4⟩:=zaf F hF hu hu2 b0.1 b0.2 (g8 ht);have hm:xJ u p.2.1 n vs=qF u (vs.getD 0 0) (nT n):=by unfold xJ; rw[h]; rfl
  have hf:vR n (xJ u p.2.1 n vs)=qF u (vs.getD 0 0) (nT n):=by unfold vR; rw[h,hm]; rfl
  refine ⟨w,o,?_,q2,by rw[hm]; exact q3,by rw[hf,hm]; exact q4⟩;unfold z8.sh;have h':n.1=13:=h;rw[h',Zq (n:=(vs.map mk).length) (by simp; omega),Vt (i:=0) (by omega)];exact (congrArg (fun x=>oB x fun c_3=>(some ((c_3.1.1,()),(c_3.2.1,())):Option z8.sg.R)) q1).trans rfl
 ·have ea:ar n=1:=by rw[yI h]; rfl
  have b0:=qq hv (i:=0) (by omega);have ht:ue n=true:=by unfold ue tI; rw[h]; rfl
  obtain ⟨w,o,q1,q2,q3,q4⟩:=zaf F hF hu hu2 b0.1 b0.2 (g8 ht);have hm:xJ u p.2.1 n vs=qF u (vs.getD 0 0) (nT n):=by unfold xJ; rw[h]; rfl
  have hf:vR n (xJ u p.2.1 n vs)=qF u (vs.getD 0 0) (nT n):=by unfold vR; rw[h,hm]; rfl
  refine ⟨w,o,?_,q2,by rw[hm]; exact q3,by rw[hf,hm]; exact q4⟩;unfold z8.sh;have h':n.1=14:=h;rw[h',Zq (n:=(vs.map mk).length) (by simp; omega),Vt (i:=0) (by omega)];exact (congrArg (fun x=>oB x fun c_3=>(some ((c_3.1.1,()),(c_3.2.1,())):Option z8.sg.R)) q1).trans rfl
 ·have ea:ar n=1:=by rw[yI h]; rfl
  have b0:=qq hv (i:=0) (by omega);rw[qx] at b0;have hm:xJ u p.2.1 n vs=vs.getD 0 0:=by unfold xJ; rw[h]; rfl
  have hf:vR n (xJ u p.2.1 n vs)=vs.getD 0 0*10000:=by unfold vR; rw[h,hm]; rfl
  have h':n.1=15:=h;have e:=Wj F (mk u) false (wu (v:=vs.getD 0 0) (by rw[yB]; omega)) (wu (v:=10000) (by rw[yB]; omega));rw[xR,xR] at e;refine ⟨mk (vs.getD 0 0),ui (vs.getD 0 0*10000) != 0,?_,wu (by rw[yB]; omega),by rw[hm]; exact b0.1,?_⟩
  ·unfold z8.sh
   rw[h',Zq (n:=(vs.map mk).length) (by simp; omega),Vt (i:=0) (by omega),Zh F (v:=10000) (by omega) (by omega)];exact (congrArg (fun x=>oB x fun c_3=>(some ((mk (vs.getD 0 0),()),(c_3.2.1,())):Option z8.sg.R)) e).trans rfl
  ·rw[hf,hm]
   rcases Wo (v:=vs.getD 0 0*10000) (by omega) with ⟨i,b⟩ | ⟨i,b⟩
   ·rw[(vH i).2]; exact .inr ⟨rfl,rfl,b⟩
   ·rw[We i]; exact .inl ⟨rfl,by rw[qx]; omega⟩
 ·exact Zi F hF p hv (by omega) g2 hN2 h (by decide)
theorem zgG (h0:0<=v) (h:vR n v<170141183460469231731687303715884105728):wK.sh F n (mk v)=some ((decide (vR n v>BND),()),()):=by
 have hB:val (72057594037927936,0)=BND:=rfl;have wB:wfW (72057594037927936,0):=by simp[wfW]
 have hc:∀x:Int,decide (qA x BND>0)=decide (x>BND):=by
  intro x;unfold qA;rcases Int.lt_trichotomy x BND with h | h | h
  ·rw[if_pos h,decide_eq_false (by omega),decide_eq_false (by omega)]
  ·rw[if_neg (by omega),if_pos h,decide_eq_false (by omega),decide_eq_false (by omega)]
  ·rw[if_neg (by omega),if_neg (by omega),decide_eq_true (by omega),decide_eq_true (by omega)]
 unfold wK.sh vR at*;cases h15:(nK n==15) with
 | true =>
  rw[h15] at h;simp only[cond_true] at h ⊢;have iv:inR v=true:=by rw[yB]; omega
  have i2:inR (v*10000)=true:=by rw[yB]; omega
  rw[Zh F (v:=10000) (by omega) (by omega)];simp only[zh];rw[W3 F (wu iv) (wu (v:=10000) (by rw[yB]; omega))];simp only[zh,xR];rw[(vH i2).1,Un F (wu i2) wB];simp only[zh,xR,hB,hc]
 | false =>
  rw[h15] at h;simp only[cond_false] at h ⊢;have iv:inR v=true:=by rw[yB]; omega
  rw[Un F (wu iv) wB];simp only[zh,xR,hB,hc]
theorem zes (hg:tz n=true) (hk:uV n=true):yT.sh F n=some (((ar n:Int),()),()):=by
 have h9:∀k:Int,(nK n=k)->(k=9\/k=10)->(ar n:Int)=nC n:=by
  intro k h hkk;rw[tC h] at hk;have hk:(decide (nC n>=2)&&decide (nC n<=16))=true:=by rcases hkk with rfl | rfl<;>exact hk
  simp at hk;have:ar n=(nC n).toNat:=by rw[yI h]; rcases hkk with rfl | rfl<;>rfl
  omega
 unfold yT.sh;rcases ug hg with h | h | h | h | h | h | h | h | h | h | h | h | h | h | h | h<;>rw[show n.1=_ from h]
 ·rw[yI h]; rfl
 ·rw[yI h]; rfl
 ·rw[yI h]; rfl
 ·rw[yI h]; rfl
 ·rw[yI h]; rfl
 ·rw[yI h]; rfl
 ·rw[yI h]; rfl
 ·rw[yI h]; rfl
 ·rw[h9 9 h (.inl rfl)]; rfl
 ·rw[h9 10 h (.inr rfl)]; rfl
 ·rw[yI h]; rfl
 ·rw[yI h]; rfl
 ·rw[yI h]; rfl
 ·rw[yI h]; rfl
 ·rw[yI h]; rfl
 ·rw[yI h]; rfl
theorem zaG (hF:64<F) (hu:1<=u) (hu2:u<=1000000000000000000000000) (hD:dE [] p.2.1=0) (hd4:p.2.1.length<=4) (kE:List zd.T->Int->Option R) (kO:List zd.T->Option R) (L:List za.T) (N:Int):∀(xs:List za.T) (st:List Tree) (i:Nat) (mags:List zd.T),
  okS p.2.1.length st xs->(zS st).length+xs.length<=2048->mags.length<=(zS st).length->(∀t∈st,0<=mag u p.2.1 t/\mag u p.2.1 t<=BND)->
  zK.l4.rg F kE (fun _ _ _ _ _ _ mags _=>kO mags) L N xs (i:Int) p (mk u,false) mags (st.map fun t=>mk (mag u p.2.1 t)) =
   match ve (Ys u p.2.1) (news st xs) i with
   | some (j,e)=>kE [] (j:Int)
   | none=>kO (mags++(news st xs).map fun t=>mk (mag u p.2.1 t)):=by
 intro xs;induction xs with
 | nil=>intro st i mags h h2 h3 h4; simp[zK.l4.rg,news,ve]
 | cons n xs ih =>
  intro st i mags h h2 h3 h4;obtain ⟨g1,g2,g3,g4,g5,g6,g7,g8⟩:=wD h.1;have hst:=vo st;have hfs:=congrArg List.length (vQ st n);simp only[length_cons,length_append,length_nil] at h2 hfs;have hdr:∀t∈st.drop (st.length-ar n),0<=mag u p.2.1 t/\mag u p.2.1 t<=BND:=fun t ht=>h4 t (mem_of_mem_drop ht)
  have hmm:mag u p.2.1 (wH st n)=xJ u p.2.1 n ((st.drop (st.length-ar n)).map (mag u p.2.1)):=by unfold wH; rw[qb]
  have hnode:=zfy F hF hu hu2 hD hd4 h.1 (vs:=(st.drop (st.length-ar n)).map (mag u p.2.1)) (by simp; omega) (by
   intro v hv;obtain ⟨t,ht,rfl⟩:=mem_map.1 hv;exact hdr t ht)
  obtain ⟨w,o,q1,q2,q3,q4⟩:=hnode;rw[<-hmm] at q3 q4;have hl:(st.map fun t=>mk (mag u p.2.1 t)).length=st.length:=by simp
  have hE:Ys u p.2.1 (wH st n)=bif decide (vR n (mag u p.2.1 (wH st n))>BND) then 90 else 0:=rfl
  have hdm:(st.map fun t=>mk (mag u p.2.1 t)).drop (st.length-ar n)=((st.drop (st.length-ar n)).map (mag u p.2.1)).map mk:=by
   rw[<-map_drop,map_map]; rfl
  have ew:=ZQ g7 (by omega);have hb1:=qZ (show st.length-ar n<=st.length by omega);have hb2:=q8 (show st.length-ar n<=st.length by omega);have htk:(st.map fun t=>mk (mag u p.2.1 t)).take st.length=st.map fun t=>mk (mag u p.2.1 t):=take_of_length_le (by omega)
  have hbl1:∀y,Nat.ble (mags.length+([y]:List zd.T).length) wF=true:=fun y=>uq (by simp; omega)
  have hbl2:∀y,Nat.ble (st.length-ar n+([y]:List zd.T).length) wF=true:=fun y=>uq (by simp; omega)
  simp only[zK.l4.rg];rw[zes F g1 g4];simp only[zh,hl,ew,hb1,hb2,htk,cond_true,hdm];rw[q1];simp only[zh,news,ve,hE];rcases q4 with ⟨rfl,hbig⟩ | ⟨rfl,rfl,hsm⟩
  ·rw[decide_eq_true hbig]
   rfl
  ·rw[zgG F q3 hsm]
   simp only[zh,cond_false];cases hfar:decide (vR n (mag u p.2.1 (wH st n))>BND) with
   | true=>rfl
   | false =>
    have hfar:=of_decide_eq_false hfar;have hle:mag u p.2.1 (wH st n)<=BND:=by
     unfold vR at hfar;cases h15:(nK n==15) with
     | true=>rw[h15] at hfar; simp only[cond_true] at hfar; omega
     | false=>rw[h15] at hfar; simp only[cond_false] at hfar; omega
    have hstep:(w9 st n).map (fun t=>mk (mag u p.2.1 t))=(st.map fun t=>mk (mag u p.2.1 t)).take (st.length-ar n)++[mk (mag u p.2.1 (wH st n))]:=by
     unfold w9; simp[List.map_take]
    have IH:=ih (w9 st n) (i+1) (mags++[mk (mag u p.2.1 (wH st n))]) h.2 (by omega) (by simp; omega) (by
     intro t ht;rcases mem_append.1 ht with ht | ht
     ·exact h4 t (mem_of_mem_take ht)
     ·rw[mem_singleton.1 ht]; exact ⟨q3,hle⟩)
    rw[hstep,wd] at IH;simp only[hbl1,hbl2,cond_true,cond_false];refine IH.trans ?_;simp only[append_assoc,singleton_append,map_cons];rfl
def Zm (u:Int) (D:List xB.T) (t:Tree):List zd.T×Int :=
 match ve (Ys u D) t.subs 0 with
 | some (j,e)=>([],(j:Int))
 | none=>(t.subs.map fun t=>mk (mag u D t),-1)
theorem zaH (hF:4096<F) (hu:1<=u) (hu2:u<=1000000000000000000000000) (h:Good p t):zK.sh F p (mk u)=some (((Zm u p.2.1 t).1,(Zm u p.2.1 t).2,()),()):=by
 unfold zK.sh;have hl:=h.len;have hh:=tg h.head;refine Eq.trans (zK.l4.rq F _ _ p.2.2.2 _ rfl (by omega) p.2.2.2 0 F _ _ _ _ (by simp) (by omega)) ?_;refine (zaG F (by omega) hu hu2 hh.2.2.1 hh.2.1 (fun r44 r54=>(some ((r44,r54,()),()):Option zK.sg.R)) (fun mags=>zK.j13 F (fun r46 r56=>some ((r46,r56,()),())) mags) p.2.2.2 _ p.2.2.2 [] 0 [] h.ok (by simp[zS]; omega) (by simp) (by simp)).trans ?_;rw[h.subs];unfold Zm;cases ve (Ys u p.2.1) t.subs 0 with
 | some x=>rfl
 | none=>rfl
def vt (t:Tree):Int:=10000^(deep t).toNat
theorem ZR (h:deep t<=6):1<=vt t/\vt t<=1000000000000000000000000:=by
 have:=(tc t).1;unfold vt;have:(deep t).toNat=0\/(deep t).toNat=1\/(deep t).toNat=2\/(deep t).toNat=3\/(deep t).toNat=4\/(deep t).toNat=5\/(deep t).toNat=6:=by omega
 rcases this with h | h | h | h | h | h | h<;>rw[h]<;>decide
def vg (D:List xB.T) (t:Tree):zd.T×Int×Int :=
 bif (td t).2.2 != 0 then ((0,0),(td t).2.1,(td t).2.2)
 else bif decide (deep t>6) then ((0,0),(t.size:Int)-1,90)
 else bif decide ((Zm (vt t) D t).2>=0) then ((0,0),(Zm (vt t) D t).2,90)
 else (mk (vt t),0,0)
def UF (D:List xB.T) (t:Tree):List zd.T×Int×Int :=
 bif (vg D t).2.2 != 0 then ([],(vg D t).2.1,(vg D t).2.2)
 else ((Zm (vt t) D t).1,0,0)
theorem tl:4096<FU:=by decide
theorem Unit_eq (h:Good p t):wM.sh FU p=some (((vg p.2.1 t).1,(vg p.2.1 t).2.1,(vg p.2.1 t).2.2,()),()):=by
 have hl:=h.len;have hs:t.size=p.2.2.2.length:=by rw[Tree.size,h.flat]
 have hp:=qE t;unfold wM.sh vg;rw[zgK FU tl h];simp only[zh];cases h1:((td t).2.2 != 0) with
 | true=>rfl
 | false =>
  simp only[cond_false];rw[zgL FU tl h];simp only[zh];rw[<-hs,yz (n:=(t.size:Int)-1) (by omega) (by omega)];cases h2:decide (deep t>6) with
  | true=>rfl
  | false =>
   have h2:=of_decide_eq_false h2;have hd:=(tc t).1;have hu:=ZR (t:=t) (by omega);simp only[cond_false];rw[zfc hd (by omega)];simp only[zh];have:=zaH FU tl hu.1 hu.2 h;unfold vt at*;rw[this];simp only[zh];cases decide ((Zm (10000^(deep t).toNat) p.2.1 t).2>=0)<;>rfl
theorem zgJ (h:(uG p).2≠0):wM.sh FU p=some (((0,0),(uG p).1,(uG p).2,()),()):=by
 unfold wM.sh;rw[zeu FU tl h];simp only[zh];rw[show ((uG p).2 != 0)=true by simpa using h];rfl
theorem za3 (h:(vg D t).2.2=0):(td t).2.2=0/\deep t<=6/\(Zm (vt t) D t).2<0/\vg D t=(mk (vt t),0,0):=by
 unfold vg at*;cases h1:((td t).2.2 != 0) with
 | true =>
  rw[h1] at h;have h:(td t).2.2=0:=h;rw[h] at h1;exact absurd h1 (by decide)
 | false =>
  rw[h1] at h;cases h2:decide (deep t>6) with
  | true=>rw[h2] at h; exact absurd (show (90:Int)=0 from h) (by decide)
  | false =>
   rw[h2] at h;cases h3:decide ((Zm (vt t) D t).2>=0) with
   | true=>rw[h3] at h; exact absurd (show (90:Int)=0 from h) (by decide)
   | false =>
    have h2:=of_decide_eq_false h2;have h3:=of_decide_eq_false h3;exact ⟨by simpa using h1,by omega,by omega,rfl⟩
theorem zgC:xN.sh FU=some ((true,()),()):=by kernel_rfl
theorem XZ {E:Tree->Int}:∀{l:List Tree} {i:Nat} (j:Nat),ve E l i=none->ve E l j=none
 | [],i,j,h=>rfl
 | t::r,i,j,h=>by
  simp only[ve] at*;cases ht:(E t != 0) with
  | true=>rw[ht] at h; cases h
  | false =>
   rw[ht] at h;exact XZ (i:=i+1) (j+1) h
theorem Xa {E:Tree->Int}:∀{l:List Tree} (i:Nat),(∀t∈l,E t=0)->ve E l i=none
 | [],i,h=>rfl
 | t::r,i,h=>by
  simp only[ve,h t (by simp)];exact Xa (i+1) (fun x hx=>h x (by simp[hx]))
theorem Z3 {E:Tree->Int}:∀{l:List Tree} {i:Nat},ve E l i=none->∀t∈l,E t=0
 | [],i,h,t,ht=>by simp at ht
 | x::r,i,h,t,ht=>by
  simp only[ve] at h;cases hx:(E x != 0) with
  | true=>rw[hx] at h; cases h
  | false =>
   rw[hx] at h;rcases mem_cons.1 ht with rfl | ht
   ·simpa using hx
   ·exact Z3 (i:=i+1) h t ht
theorem zfC (h:(Zm u D t).2<0):ve (Ys u D) t.subs 0=none/\Zm u D t=(t.subs.map fun t=>mk (mag u D t),-1):=by
 unfold Zm at*;cases hf:ve (Ys u D) t.subs 0 with
 | some x=>rw[hf] at h; obtain ⟨j,e⟩:=x; exact absurd h (by simp only; omega)
 | none=>exact ⟨rfl,rfl⟩
theorem SW (h:(td t).2.2=0):ve tyE t.subs 0=none/\ty t=1:=by
 unfold td at h;cases hf:ve tyE t.subs 0 with
 | some x =>
  rw[hf] at h;have hne:∀(l:List Tree) (i:Nat),ve tyE l i=some x->x.2≠0:=by
   intro l;induction l with
   | nil=>intro i h; cases h
   | cons t r ih =>
    intro i h;simp only[ve] at h;cases he:(tyE t != 0) with
    | true =>
     rw[he] at h;simp only[cond_true,Option.some.injEq] at h;rw[<-h];simpa using he
    | false=>rw[he] at h; exact ih _ h
  exact absurd h (hne _ _ hf)
 | none =>
  rw[hf] at h;refine ⟨rfl,?_⟩;cases ht:(ty t != 1) with
  | true=>rw[ht] at h; exact absurd (show (80:Int)=0 from h) (by decide)
  | false=>simpa using ht
theorem SX (h1:ve tyE t.subs 0=none) (h2:ty t=1):td t=(t.subs.map ty,0,0):=by
 unfold td;rw[h1,h2];rfl
theorem zeH (h1:ve tyE t.subs 0=none) (h2:ty t=1) (h3:deep t<=6):vg D t=bif decide ((Zm (vt t) D t).2>=0) then ((0,0),(Zm (vt t) D t).2,90) else (mk (vt t),0,0):=by
 unfold vg;rw[SX h1 h2,decide_eq_false (show ¬deep t>6 by omega)];rfl
theorem VK (t:Tree):∃l,t.subs=l++[t]:=by
 cases t with
 | nd n ks=>exact ⟨_,q9 n ks⟩
theorem zbh {x s:Int} (h0:0<=x) (h:x<=1099511627776) (h1:1<=s):0<=tK x s/\tK x s<=tK 1099511627776 s:=by
 have hq1:0<=x/s:=Int.ediv_nonneg (by omega) (by omega);have e1:=Int.mul_ediv_add_emod x s;have e2:=Int.mul_ediv_add_emod 1099511627776 s;have r1:=Int.emod_nonneg x (show s≠0 by omega);have r2:=Int.emod_nonneg 1099511627776 (show s≠0 by omega);have hm:x/s<=1099511627776/s:=Int.ediv_le_ediv (by omega) h;unfold tK;refine ⟨by split<;>omega,?_⟩;split
 ·split<;>omega
 ·split
  ·rename_i a b
   rcases Int.lt_or_eq_of_le hm with hlt | heq
   ·omega
   ·rw[heq] at e1; omega
  ·omega
def Rr (x:Int) (L:Nat):Prop:=1<=L/\(2:Int)^(L-1)<=x/\x<2^L
theorem TT (m:Nat) (h:Rr (x/2^m) L):Rr x (L+m):=by
 obtain ⟨h1,h2,h3⟩:=h;have hp:(0:Int)<2^m:=Int.pow_pos (by decide);refine ⟨by omega,?_,?_⟩
 ·rw[show L+m-1=(L-1)+m by omega,Int.pow_add]
  have:=Int.mul_le_of_le_ediv hp h2;exact this
 ·rw[Int.pow_add]
  exact Int.lt_mul_of_ediv_lt hp h3
theorem len_tab:∃tab:ByteArray,(∀(R:Type) (F:Nat) (k:Int->Option R) (x n:Int),yA.j7 F k x n=bif decide (x>=256) then bif idx (IntKind.u8.wrap (x.fdiv (2^(min (8:Int).toNat IntKind.u64.bits)))) tab.size then k (i64.wrap ((i64.wrap (n+8))+(i64.wrap (bt tab (IntKind.u8.wrap (x.fdiv (2^(min (8:Int).toNat IntKind.u64.bits)))))))) else none
  else bif idx (IntKind.u8.wrap x) tab.size then k (i64.wrap (n+(i64.wrap (bt tab (IntKind.u8.wrap x))))) else none)/\tab.size=256 /\
  (List.range 256).all (fun v=>Nat.beq v 0||(decide (1<=(bt tab (v:Int)).toNat)&&(decide (bt tab (v:Int)<=8)&&(decide ((2:Int)^((bt tab (v:Int)).toNat-1)<=(v:Int))&&decide ((v:Int)<2^(bt tab (v:Int)).toNat)))))=true :=
 ⟨_,fun _ _ _ _ _=>rfl,rfl,by kernel_rfl⟩
theorem zd6 {n:Int} (h1:0<=n) (h2:n<(len:Int)):idx n len=true:=by
 unfold idx; rw[decide_eq_true h1,decide_eq_true h2]; rfl
theorem zcD {n:Int} (h1:0<=n) (h2:n<256):IntKind.u8.wrap n=n:=by
 show (if (false&&decide (n%256>=128))=true then n%256-256 else n%256)=_;simp; omega
theorem zfH (k:Int->Option R) {x n:Int} (h1:1<=x) (h2:x<65536) (n1:0<=n) (n2:n<=1000):∃L:Nat,yA.j7 F k x n=k (n+(L:Int))/\L<=16/\Rr x L:=by
 obtain ⟨tab,t1,t2,t3⟩:=len_tab;have small:∀v:Int,1<=v->v<256->∃L:Nat,bt tab v=(L:Int)/\L<=8/\Rr v L:=by
  intro v v1 v2;have:=List.all_eq_true.1 t3 v.toNat (by simp; omega);rw[show ((v.toNat:Nat):Int)=v by omega] at this;have hb:Nat.beq v.toNat 0=false:=by
   cases hv:v.toNat with
   | zero=>omega
   | succ m=>rfl
  rw[hb] at this;simp only[Bool.false_or,Bool.and_eq_true,decide_eq_true_eq] at this;obtain ⟨a,b,c,d⟩:=this;exact ⟨(bt tab v).toNat,by omega,by omega,a,c,d⟩
 rw[t1,t2];have e8:(2^(min (8:Int).toNat IntKind.u64.bits):Int)=256:=by decide
 rw[e8,Int.fdiv_eq_ediv_of_nonneg _ (by omega)];by_cases h:x>=256
 ·obtain ⟨L,q1,q2,q3⟩:=small (x/256) (by omega) (by omega)
  have q4:=TT 8 (x:=x) (L:=L) q3;rw[decide_eq_true h,zcD (n:=x/256) (by omega) (by omega),zd6 (n:=x/256) (by omega) (by omega),q1];simp only[cond_true];rw[yz (n:=n+8) (by omega) (by omega),yz (n:=(L:Int)) (by omega) (by omega),yz (by omega) (by omega)];exact ⟨L+8,by congr 1; omega,by omega,q4⟩
 ·obtain ⟨L,q1,q2,q3⟩:=small x (by omega) (by omega)
  rw[decide_eq_false h,zcD (n:=x) (by omega) (by omega),zd6 (n:=x) (by omega) (by omega),q1];simp only[cond_true,cond_false];rw[yz (n:=(L:Int)) (by omega) (by omega),yz (by omega) (by omega)];exact ⟨L,rfl,by omega,q3⟩
theorem zfI (k:Int->Option R) {x n:Int} (h1:1<=x) (h2:x<4294967296) (n1:0<=n) (n2:n<=100):∃L:Nat,yA.j4 F k x n=k (n+(L:Int))/\L<=32/\Rr x L:=by
 unfold yA.j4;have e:(2^(min (16:Int).toNat IntKind.u64.bits):Int)=65536:=by decide
 rw[e,Int.fdiv_eq_ediv_of_nonneg _ (by omega)];by_cases h:x>=65536
 ·rw[decide_eq_true h,yz (n:=n+16) (by omega) (by omega)]
  obtain ⟨L,q1,q2,q3⟩:=zfH F (fun n1=>k n1) (x:=x/65536) (n:=n+16) (by omega) (by omega) (by omega) (by omega);exact ⟨L+16,by simp only[cond_true]; rw[q1]; congr 1; omega,by omega,TT 16 q3⟩
 ·rw[decide_eq_false h]
  obtain ⟨L,q1,q2,q3⟩:=zfH F (fun n1=>k n1) (x:=x) (n:=n) (by omega) (by omega) (by omega) (by omega);exact ⟨L,by simp only[cond_false]; rw[q1],by omega,q3⟩
theorem zfJ (h1:1<=x) (h2:x<18446744073709551616):∃L:Nat,yA.sh F x=some (((L:Int),()),())/\L<=64/\Rr x L:=by
 unfold yA.sh;have e:(2^(min (32:Int).toNat IntKind.u64.bits):Int)=4294967296:=by decide
 rw[e,Int.fdiv_eq_ediv_of_nonneg _ (by omega)];by_cases h:x>=4294967296
 ·rw[decide_eq_true h]
  obtain ⟨L,q1,q2,q3⟩:=zfI F (fun n3=>(some ((n3,()),()):Option yA.sg.R)) (x:=x/4294967296) (n:=32) (by omega) (by omega) (by omega) (by omega);exact ⟨L+32,by simp only[cond_true]; rw[q1,show (32:Int)+(L:Int)=((L+32:Nat):Int) by omega],by omega,TT 32 q3⟩
 ·rw[decide_eq_false h]
  obtain ⟨L,q1,q2,q3⟩:=zfI F (fun n3=>(some ((n3,()),()):Option yA.sg.R)) (x:=x) (n:=0) (by omega) (by omega) (by omega) (by omega);exact ⟨L,by simp only[cond_false]; rw[q1,Int.zero_add],by omega,q3⟩
theorem lz_eq (h1:1<=y) (h2:y<18446744073709551616):∃s:Nat,yU.sh F y=some (((s:Int),()),())/\s<=63/\9223372036854775808<=y*2^s/\y*2^s<18446744073709551616:=by
 obtain ⟨L,q1,q2,q3,q4,q5⟩:=zfJ F h1 h2;unfold yU.sh;rw[q1];simp only[zh];rw[yz (n:=64-(L:Int)) (by omega) (by omega)];have hp:(0:Int)<=2^(64-L):=Int.le_of_lt (Int.pow_pos (by decide));have hp':(0:Int)<2^(64-L):=Int.pow_pos (by decide);refine ⟨64-L,by rw[show (64:Int)-(L:Int)=((64-L:Nat):Int) by omega],by omega,?_,?_⟩
 ·have:=Int.mul_le_mul_of_nonneg_right q4 hp
  rw[<-Int.pow_add,show L-1+(64-L)=63 by omega] at this;exact this
 ·have:=Int.mul_lt_mul_of_pos_right q5 hp'
  rw[<-Int.pow_add,show L+(64-L)=64 by omega] at this;exact this
structure Guess (y1 y0 u un q qh rh:Int):Prop where
 y1a:2147483648<=y1
 y1b:y1<4294967296
 y0a:0<=y0
 y0b:y0<4294967296
 una:0<=un
 unb:un<4294967296
 ua:0<=u
 ub:u<y1*4294967296+y0
 q0:0<=q
 qle:q*(y1*4294967296+y0)<=u*4294967296+un
 qlt:u*4294967296+un<(q+1)*(y1*4294967296+y0)
 rh0:0<=rh
 rhb:rh<4294967296
 eq:qh*y1+rh=u
 le:q<=qh
 hi:qh<=4294967297
theorem Guess.qh_y (g:Guess y1 y0 u un q qh rh):qh*(y1*4294967296+y0)=(u-rh)*4294967296+qh*y0:=by
 rw[Int.mul_add,<-Int.mul_assoc,<-g.eq];congr 2
 omega
theorem Guess.qsm (g:Guess y1 y0 u un q qh rh):q<4294967296:=by
 have h:=g.qle;have h1:=g.ub;have hy:0<y1*4294967296+y0:=by have:=g.y1a; have:=g.y0a; omega
 rcases Int.lt_or_le q 4294967296 with h' | h'
 ·exact h'
 ·have:=Int.mul_le_mul_of_nonneg_right h' (Int.le_of_lt hy)
  have:=g.unb;omega
theorem Guess.good (g:Guess y1 y0 u un q qh rh) (h:qh*y0<=4294967296*rh+un):qh=q:=by
 have h1:=g.qh_y;have h2:=g.qlt;have hy:0<y1*4294967296+y0:=by have:=g.y1a; have:=g.y0a; omega
 have h3:qh*(y1*4294967296+y0)<(q+1)*(y1*4294967296+y0):=by omega
 have:=Int.lt_of_mul_lt_mul_right h3 (Int.le_of_lt hy);have:=g.le;omega
theorem Guess.big (g:Guess y1 y0 u un q qh rh) (h:4294967296<=qh\/4294967296*rh+un<qh*y0):q+1<=qh:=by
 rcases h with h | h
 ·have:=g.qsm; omega
 ·have h1:=g.qh_y
  have h2:=g.qle;have hy:0<y1*4294967296+y0:=by have:=g.y1a; have:=g.y0a; omega
  have h3:q*(y1*4294967296+y0)<qh*(y1*4294967296+y0):=by omega
  have:=Int.lt_of_mul_lt_mul_right h3 (Int.le_of_lt hy);omega
theorem Guess.next (g:Guess y1 y0 u un q qh rh) (h:q+1<=qh):(rh+y1<4294967296->Guess y1 y0 u un q (qh-1) (rh+y1))/\(4294967296<=rh+y1->qh-1=q):=by
 have e:(qh-1)*y1+(rh+y1)=u:=by rw[Int.sub_mul,Int.one_mul]; have:=g.eq; omega
 constructor
 ·intro hr
  exact {g with rh0:=by have:=g.rh0; have:=g.y1a; omega,rhb:=hr,eq:=e,le:=by omega,hi:=by have:=g.hi; omega}
 ·intro hr
  have hy0:=g.y0a;have hm:(qh-1)*y0<=4294967296*y0:=Int.mul_le_mul_of_nonneg_right (by have:=g.hi; omega) hy0;have hy:0<y1*4294967296+y0:=by have:=g.y1a; omega
  have h1:(qh-1)*(y1*4294967296+y0)=(u-(rh+y1))*4294967296+(qh-1)*y0:=by
   rw[Int.mul_add,<-Int.mul_assoc,<-e];congr 2
   omega
  have h2:=g.qlt;have:=g.y0b;have:=g.una;have h3:(qh-1)*(y1*4294967296+y0)<(q+1)*(y1*4294967296+y0):=by omega
  have:=Int.lt_of_mul_lt_mul_right h3 (Int.le_of_lt hy);omega
theorem zd4 (F:Nat) {R:Type} (k:Int->Int->Int->Int->Int->Int->Int->Int->Option R) (y s u0:Int) {y1 y0 u un q:Int}:∀(m fu:Nat) (qh rh:Int),m<fu->4294967296<=rh+m*2147483648->Guess y1 y0 u un q qh rh->
  zt.l17 F (fun y s a b c d e q _ _=>k y s a b c d e q) (fun y s a b c d e q _ _=>k y s a b c d e q) fu y s y1 y0 u un u0 qh rh=k y s y1 y0 u un u0 q
 | 0,fu,qh,rh,hf,hm,g=>by have:=g.rhb; omega
 | m+1,fu,qh,rh,hf,hm,g=>by
  obtain ⟨fu,rfl⟩:∃j,fu=j+1:=⟨fu-1,by omega⟩;have r0:=g.rh0;have rb:=g.rhb;have q0:=g.q0;have ql:=g.le;have qhi:=g.hi;have a1:=g.y1a;have a2:=g.y1b;have b1:=g.y0a;have b2:=g.y0b;have un1:=g.una;have un2:=g.unb;have step:q+1<=qh->(bif decide ((u64.wrap (rh+y1))>=4294967296) then k y s y1 y0 u un u0 (u64.wrap (qh-1)) else zt.l17 F (fun y s a b c d e q _ _=>k y s a b c d e q) (fun y s a b c d e q _ _=>k y s a b c d e q) fu y s y1 y0 u un u0 (u64.wrap (qh-1)) (u64.wrap (rh+y1)))=k y s y1 y0 u un u0 q:=by
   intro h;have hn:=g.next h;rw[xP (n:=rh+y1) (by omega) (by omega),xP (n:=qh-1) (by omega) (by omega)];by_cases hr:rh+y1>=4294967296
   ·rw[decide_eq_true hr,hn.2 hr]; rfl
   ·rw[decide_eq_false hr]
    exact zd4 F k y s u0 m fu (qh-1) (rh+y1) (by omega) (by push_cast at hm; omega) (hn.1 (by omega))
  simp only[zt.l17,zt.l17.y];by_cases hq:qh>=4294967296
  ·rw[decide_eq_true hq]
   exact step (g.big (.inl hq))
  ·rw[decide_eq_false hq]
   have hz:=qV (show 0<=qh by omega) (show qh<=4294967295 by omega) b1 (show y0<=4294967295 by omega);simp only[cond_false];rw[xP (n:=qh*y0) (by omega) (by omega),xP (n:=4294967296*rh) (by omega) (by omega),xP (n:=4294967296*rh+un) (by omega) (by omega)];by_cases hc:qh*y0>4294967296*rh+un
   ·rw[decide_eq_true hc]
    exact step (g.big (.inr hc))
   ·rw[decide_eq_false hc,g.good (by omega)]
    rfl
theorem zd3 (F:Nat) {R:Type} (k:Int->Int->Int->Int->Int->Int->Int->Int->Option R) (y s Q1:Int) {y1 y0 u un q:Int}:∀(m fu:Nat) (qh rh:Int),m<fu->4294967296<=rh+m*2147483648->Guess y1 y0 u un q qh rh->
  zt.l24 F (fun y s a b c d _ e q _=>k y s a b c d e q) (fun y s a b c d _ e q _=>k y s a b c d e q) fu y s y1 y0 un Q1 rh u qh=k y s y1 y0 un Q1 u q
 | 0,fu,qh,rh,hf,hm,g=>by have:=g.rhb; omega
 | m+1,fu,qh,rh,hf,hm,g=>by
  obtain ⟨fu,rfl⟩:∃j,fu=j+1:=⟨fu-1,by omega⟩;have r0:=g.rh0;have rb:=g.rhb;have q0:=g.q0;have ql:=g.le;have qhi:=g.hi;have a1:=g.y1a;have a2:=g.y1b;have b1:=g.y0a;have b2:=g.y0b;have un1:=g.una;have un2:=g.unb;have step:q+1<=qh->(bif decide ((u64.wrap (rh+y1))>=4294967296) then k y s y1 y0 un Q1 u (u64.wrap (qh-1)) else zt.l24 F (fun y s a b c d _ e q _=>k y s a b c d e q) (fun y s a b c d _ e q _=>k y s a b c d e q) fu y s y1 y0 un Q1 (u64.wrap (rh+y1)) u (u64.wrap (qh-1)))=k y s y1 y0 un Q1 u q:=by
   intro h;have hn:=g.next h;rw[xP (n:=rh+y1) (by omega) (by omega),xP (n:=qh-1) (by omega) (by omega)];by_cases hr:rh+y1>=4294967296
   ·rw[decide_eq_true hr,hn.2 hr]; rfl
   ·rw[decide_eq_false hr]
    exact zd3 F k y s Q1 m fu (qh-1) (rh+y1) (by omega) (by push_cast at hm; omega) (hn.1 (by omega))
  simp only[zt.l24,zt.l24.y];by_cases hq:qh>=4294967296
  ·rw[decide_eq_true hq]
   exact step (g.big (.inl hq))
  ·rw[decide_eq_false hq]
   have hz:=qV (show 0<=qh by omega) (show qh<=4294967295 by omega) b1 (show y0<=4294967295 by omega);simp only[cond_false];rw[xP (n:=qh*y0) (by omega) (by omega),xP (n:=4294967296*rh) (by omega) (by omega),xP (n:=4294967296*rh+un) (by omega) (by omega)];by_cases hc:qh*y0>4294967296*rh+un
   ·rw[decide_eq_true hc]
    exact step (g.big (.inr hc))
   ·rw[decide_eq_false hc,g.good (by omega)]
    rfl
theorem Guess.first (y1a:2147483648<=y1) (y1b:y1<4294967296) (y0a:0<=y0) (y0b:y0<4294967296) (una:0<=un) (unb:un<4294967296) (ua:0<=u) (ub:u<y1*4294967296+y0) :
  Guess y1 y0 u un ((u*4294967296+un)/(y1*4294967296+y0)) (u/y1) (u%y1):=by
 have hy:0<y1*4294967296+y0:=by omega
 have e:=Int.emod_add_mul_ediv u y1;have e2:u/y1*y1+u%y1=u:=by rw[Int.mul_comm]; omega
 have r1:=Int.emod_nonneg u (show y1≠0 by omega);have r2:=Int.emod_lt_of_pos u (show 0<y1 by omega);have hq0:0<=u/y1:=Int.ediv_nonneg ua (by omega);have hqy:0<=u/y1*y0:=Int.mul_nonneg hq0 y0a;refine ⟨y1a,y1b,y0a,y0b,una,unb,ua,ub,Int.ediv_nonneg (by omega) (by omega),Int.ediv_mul_le _ (by omega),Int.lt_ediv_add_one_mul_self _ hy,r1,by omega,e2,?_,?_⟩
 ·have h1:(u*4294967296+un)/(y1*4294967296+y0)<u/y1+1:=by
   refine Int.ediv_lt_of_lt_mul hy ?_;rw[Int.add_mul,Int.one_mul,Int.mul_add,<-Int.mul_assoc];have:(u-u%y1)*4294967296=u/y1*y1*4294967296:=by congr 1; omega
   omega
  omega
 ·have h1:u/y1<4294967298:=by
   refine Int.ediv_lt_of_lt_mul (by omega) ?_;omega
  omega
theorem Qs {s:Nat} (h0:0<=a) (h1:a*2^s<18446744073709551616) (h2:0<=b) (h3:b<2^s) (h4:b<18446744073709551616) (h5:a*2^s+b<18446744073709551616) :
  u64.wrap ((BitVec.ofInt IntKind.u64.bits (a*2^s) ||| BitVec.ofInt IntKind.u64.bits b).toNat:Int)=a*2^s+b:=by
 obtain ⟨A,rfl⟩:=Int.eq_ofNat_of_zero_le h0;obtain ⟨B,rfl⟩:=Int.eq_ofNat_of_zero_le h2;have e:((A:Int)*2^s)=((A*2^s:Nat):Int):=by push_cast; rfl
 have e2:((2:Int)^s)=((2^s:Nat):Int):=by push_cast; rfl
 rw[e] at h1 h5 ⊢;rw[e2] at h3;show u64.wrap ((BitVec.ofInt 64 ((A*2^s:Nat):Int) ||| BitVec.ofInt 64 (B:Int)).toNat:Int)=_
 rw[BitVec.ofInt_natCast,BitVec.ofInt_natCast,BitVec.toNat_or,BitVec.toNat_ofNat,BitVec.toNat_ofNat,Nat.mod_eq_of_lt (by omega:A*2^s<2^64),Nat.mod_eq_of_lt (by omega)];have:=Nat.two_pow_add_eq_or_of_lt (i:=s) (b:=B) (by omega) A;rw[Nat.mul_comm] at this;rw[<-this,xP (by omega) (by omega)];push_cast;rfl
theorem YW (hy:0<y) (h:M=Q*y+R') (h0:0<=R') (h1:R'<y):M/y=Q/\M%y=R':=by
 have e:M=R'+y*Q:=by rw[Int.mul_comm] at h; omega
 rw[e,Int.add_mul_ediv_left _ _ (by omega),Int.add_mul_emod_self_left,Int.ediv_eq_zero_of_lt h0 h1,Int.emod_eq_of_lt h0 h1];omega
theorem div_j28 (k:Int->Int->Option R) {s:Nat} (hs:s<=63) (hY:Y<18446744073709551616) (a1:0<=q1) (a2:q1<4294967296) (b1:0<=q0) (b2:q0<4294967296)
  (c1:0<=un0) (c2:un0<4294967296) (d1:0<=r1) (e1:q0*Y<=r1*4294967296+un0) (e2:r1*4294967296+un0<(q0+1)*Y) :
  zt.j28 F k Y (s:Int) un0 q1 r1 q0=k (q1*4294967296+q0) ((r1*4294967296+un0-q0*Y)/2^s):=by
 unfold zt.j28;rw[Int.add_mul,Int.one_mul] at e2;rw[decide_eq_true (show (0:Int)<=(s:Int) by omega),Int.toNat_natCast,show min s IntKind.u64.bits=s from Nat.min_eq_left (by show s<=64; omega)];simp only[cond_true];rw[xP (n:=q1*4294967296) (by omega) (by omega),xP (n:=q1*4294967296+q0) (by omega) (by omega)];rw[Int.fdiv_eq_ediv_of_nonneg _ (Int.le_of_lt (Int.pow_pos (by decide)))];congr 2
 simp only[wX];generalize q0*Y=t at*;omega
theorem div_j21 (hF:4<F) (k:Int->Int->Option R) {s:Nat} (hs:s<=63) (y1a:2147483648<=y1) (y1b:y1<4294967296) (y0a:0<=y0) (y0b:y0<4294967296)
  (ua:0<=u) (ub:u<y1*4294967296+y0) (una:0<=un1) (unb:un1<4294967296) (c1:0<=un0) (c2:un0<4294967296) :
  ∃Q r,zt.j21 F k (y1*4294967296+y0) (s:Int) y1 y0 u un1 un0 ((u*4294967296+un1)/(y1*4294967296+y0))=k Q (r/2^s)/\0<=r/\r<y1*4294967296+y0 /\
   (u*4294967296+un1)*4294967296+un0=Q*(y1*4294967296+y0)+r:=by
 have hy:0<y1*4294967296+y0:=by omega
 have g:=Guess.first y1a y1b y0a y0b una unb ua ub;have q1:=g.qsm;have q1':=g.q0;have em:=Int.mul_ediv_add_emod (u*4294967296+un1) (y1*4294967296+y0);have r0:=Int.emod_nonneg (u*4294967296+un1) (show y1*4294967296+y0≠0 by omega);have r1:=Int.emod_lt_of_pos (u*4294967296+un1) hy;rw[Int.mul_comm] at em;generalize hq:(u*4294967296+un1)/(y1*4294967296+y0)=Q1 at*;generalize hr:(u*4294967296+un1)%(y1*4294967296+y0)=R1 at*;have hw:u64.wrap ((u64.wrap ((u64.wrap (u*4294967296))+un1))-(u64.wrap (Q1*(y1*4294967296+y0))))=R1:=by
  simp only[wX];generalize Q1*(y1*4294967296+y0)=t at*;omega
 have g2:=Guess.first (u:=R1) (un:=un0) y1a y1b y0a y0b c1 c2 r0 r1;have em2:=Int.mul_ediv_add_emod R1 y1;have rr0:=Int.emod_nonneg R1 (show y1≠0 by omega);have rr1:=Int.emod_lt_of_pos R1 (show 0<y1 by omega);rw[Int.mul_comm] at em2;have gh:=g2.hi;have gl:=Int.ediv_nonneg r0 (show 0<=y1 by omega);have gm:=Int.mul_nonneg gl (show 0<=y1 by omega);unfold zt.j21;rw[hw,show (y1 != 0)=true from bne_iff_ne.2 (by omega),Int.tdiv_eq_ediv_of_nonneg r0];rw[xP (n:=R1/y1) (by omega) (by omega),xP (n:=R1/y1*y1) (by omega) (by omega),xP (n:=R1-R1/y1*y1) (by omega) (by omega),show R1-R1/y1*y1=R1%y1 by omega];simp only[cond_true];have hk:=zd3 F (fun y s a b c d e q=>zt.j28 F (fun quo4 rem4=>k quo4 rem4) y s c d e q) (y1*4294967296+y0) (s:Int) Q1 2 F (R1/y1) (R1%y1) (by omega) (by omega) g2;rw[hk];have q2:=g2.qsm;have q2':=g2.q0;have q2l:=g2.qle;have q2u:=g2.qlt;generalize (R1*4294967296+un0)/(y1*4294967296+y0)=Q0 at*;refine ⟨Q1*4294967296+Q0,R1*4294967296+un0-Q0*(y1*4294967296+y0),?_,by omega,by rw[Int.add_mul,Int.one_mul] at q2u; omega,?_⟩
 ·exact div_j28 F _ hs (by omega) q1' q1 q2' q2 c1 c2 r0 q2l q2u
 ·rw[Int.add_mul (Q1*4294967296),Int.mul_right_comm Q1]
  omega
theorem zge (hF:4<F) (h1:0<=hi) (h2:hi<y) (h3:0<=lo) (h4:lo<18446744073709551616) (h5:y<18446744073709551616) :
  zt.sh F hi lo y=some (((hi*18446744073709551616+lo)/y,(hi*18446744073709551616+lo)%y,()),()):=by
 unfold zt.sh;rw[show (y==0)=false by rw[beq_eq_false_iff_ne]; omega,show (y != 0)=true from bne_iff_ne.2 (by omega),decide_eq_false (show ¬y<=hi by omega)];simp only[cond_false,cond_true];by_cases h0:hi=0
 ·subst h0
  have hq:lo/y<=lo:=Int.ediv_le_self _ h3;have hq0:0<=lo/y:=Int.ediv_nonneg h3 (by omega);rw[beq_self_eq_true,Int.tdiv_eq_ediv_of_nonneg h3,Int.tmod_eq_emod_of_nonneg h3,xP hq0 (by omega)];simp
 ·rw[show (hi==0)=false by rw[beq_eq_false_iff_ne]; exact h0]
  obtain ⟨s,z1,z2,z3,z4⟩:=lz_eq F (y:=y) (by omega) h5;rw[z1];simp only[zh,cond_false];rw[xP (n:=(s:Int)) (by omega) (by omega),xP (n:=64-(s:Int)) (by omega) (by omega),show (64:Int)-(s:Int)=((64-s:Nat):Int) by omega,decide_eq_true (show (0:Int)<=(s:Int) by omega),
   decide_eq_true (show (0:Int)<=((64-s:Nat):Int) by omega),Int.toNat_natCast,Int.toNat_natCast,show min s IntKind.u64.bits=s from Nat.min_eq_left (by show s<=64; omega),show min (64-s) IntKind.u64.bits=64-s from Nat.min_eq_left (by show 64-s<=64; omega)]
  simp only[cond_true];have hP:(0:Int)<2^s:=Int.pow_pos (by decide);have hQ:(0:Int)<2^(64-s):=Int.pow_pos (by decide);have hPQ:(2:Int)^s*2^(64-s)=18446744073709551616:=by rw[<-Int.pow_add,show s+(64-s)=64 by omega]; rfl
  have hYw:u64.wrap (y*2^s)=y*2^s:=xP (by omega) (by omega);have hhi:hi*2^s<y*2^s:=Int.mul_lt_mul_of_pos_right h2 hP;have hhi0:0<=hi*2^s:=Int.mul_nonneg h1 (Int.le_of_lt hP);have hHw:u64.wrap (hi*2^s)=hi*2^s:=xP hhi0 (by omega);have hlo1:0<=lo/2^(64-s):=Int.ediv_nonneg h3 (Int.le_of_lt hQ);have hlo2:lo/2^(64-s)<2^s:=Int.ediv_lt_of_lt_mul hQ (by rw[hPQ]; exact h4);have hlo3:lo/2^(64-s)=lo*2^s/18446744073709551616:=by
   rw[<-hPQ,Int.mul_comm lo,Int.mul_ediv_mul_of_pos _ _ hP]
  have hM:(hi*2^s+lo/2^(64-s))*18446744073709551616+lo*2^s%18446744073709551616=(hi*18446744073709551616+lo)*2^s:=by
   rw[hlo3,Int.add_mul (hi*18446744073709551616),Int.mul_right_comm hi];omega
  have hMl:(hi*18446744073709551616+lo)*2^s<y*2^s*18446744073709551616:=by
   rw[Int.mul_right_comm y];exact Int.mul_lt_mul_of_pos_right (by omega) hP
  have hu:hi*2^s+lo/2^(64-s)<y*2^s:=by omega
  have hu0:0<=hi*2^s+lo/2^(64-s):=by omega
  have hor:=Qs (s:=s) (a:=hi) (b:=lo/2^(64-s)) h1 (by omega) hlo1 hlo2 (by omega) (by omega);rw[hYw,hHw,Int.fdiv_eq_ediv_of_nonneg lo (Int.le_of_lt hQ),hor,TN (by omega) (by omega),To (by omega),wX,TN (by omega) (by omega),To (by omega)];generalize hi*2^s+lo/2^(64-s)=u at*;generalize hL:lo*2^s%18446744073709551616=L at*;generalize hYY:y*2^s=Y at*;have hL0:0<=L:=by omega
  have hL1:L<18446744073709551616:=by omega
  have g:=Guess.first (y1:=Y/4294967296) (y0:=Y%4294967296) (u:=u) (un:=L/4294967296) (by omega) (by omega) (by omega) (by omega) (by omega) (by omega) hu0 (by omega);have em2:=Int.mul_ediv_add_emod u (Y/4294967296);have rr0:=Int.emod_nonneg u (show Y/4294967296≠0 by omega);have rr1:=Int.emod_lt_of_pos u (show 0<Y/4294967296 by omega);rw[Int.mul_comm] at em2;have gh:=g.hi;have gl:=Int.ediv_nonneg hu0 (show 0<=Y/4294967296 by omega);have gm:=Int.mul_nonneg gl (show 0<=Y/4294967296 by omega);rw[show (Y/4294967296 != 0)=true from bne_iff_ne.2 (by omega),Int.tdiv_eq_ediv_of_nonneg hu0];rw[xP (n:=u/(Y/4294967296)) gl (by omega),xP (n:=u/(Y/4294967296)*(Y/4294967296)) (by omega) (by omega),xP (n:=u-u/(Y/4294967296)*(Y/4294967296)) (by omega) (by omega),show u-u/(Y/4294967296)*(Y/4294967296)=u%(Y/4294967296) by omega];simp only[cond_true];have hk:=zd4 F (fun y s a b c d e q=>zt.j21 F (fun quo7 rem7=>(some ((quo7,rem7,()),()):Option zt.sg.R)) y s a b c d e q) Y (s:Int) (L%4294967296) 2 F (u/(Y/4294967296)) (u%(Y/4294967296)) (by omega) (by omega) g;rw[hk];have hj:=div_j21 F hF (fun quo7 rem7=>(some ((quo7,rem7,()),()):Option zt.sg.R)) (y1:=Y/4294967296) (y0:=Y%4294967296) (u:=u) (un1:=L/4294967296) (un0:=L%4294967296) z2 (by omega) (by omega) (by omega) (by omega) hu0 (by omega) (by omega) (by omega) (by omega) (by omega);rw[show Y/4294967296*4294967296+Y%4294967296=Y by omega] at hj ⊢;obtain ⟨Q,r,e1,e2,e3,e4⟩:=hj;rw[e1];have e5:(hi*18446744073709551616+lo)*2^s=Q*Y+r:=by rw[<-hM,<-e4]; omega
  have e6:r=(hi*18446744073709551616+lo-Q*y)*2^s:=by
   rw[Int.sub_mul,Int.mul_assoc Q,hYY]; omega
  have e7:r/2^s=hi*18446744073709551616+lo-Q*y:=by rw[e6,Int.mul_ediv_cancel _ (Int.ne_of_gt hP)]
  rw[e7];have e8:0<=hi*18446744073709551616+lo-Q*y:=by rw[<-e7]; exact Int.ediv_nonneg e2 (Int.le_of_lt hP)
  have e9:hi*18446744073709551616+lo-Q*y<y:=by rw[<-e7]; exact Int.ediv_lt_of_lt_mul hP (by rw[hYY]; exact e3)
  obtain ⟨f1,f2⟩:=YW (M:=hi*18446744073709551616+lo) (y:=y) (Q:=Q) (R':=hi*18446744073709551616+lo-Q*y) (by omega) (by omega) e8 e9;rw[f1,f2]
theorem mask1 (h1:0<=x) (h2:x<18446744073709551616):u64.wrap ((BitVec.ofInt IntKind.u64.bits x &&& BitVec.ofInt IntKind.u64.bits 1).toNat:Int)=x%2:=by
 obtain ⟨X,rfl⟩:=Int.eq_ofNat_of_zero_le h1;show u64.wrap ((BitVec.ofInt 64 (X:Int) &&& BitVec.ofInt 64 ((1:Nat):Int)).toNat:Int)=_;rw[BitVec.ofInt_natCast,BitVec.ofInt_natCast,BitVec.toNat_and,BitVec.toNat_ofNat,BitVec.toNat_ofNat,Nat.mod_eq_of_lt (by omega:X<2^64),Nat.mod_eq_of_lt (by decide)];have:X &&& 1=X%2:=Nat.and_two_pow_sub_one_eq_mod X 1;rw[this,xP (by omega) (by omega)];omega
theorem shl1:x*2^(min (1:Int).toNat IntKind.u64.bits)=x*2:=by
 have e:(2^(min (1:Int).toNat IntKind.u64.bits):Int)=2:=by decide
 rw[e]
theorem zeS (h:0<=x):x.fdiv (2^(min (63:Int).toNat IntKind.u64.bits))=x/9223372036854775808:=by
 have e:(2^(min (63:Int).toNat IntKind.u64.bits):Int)=9223372036854775808:=by decide
 rw[e,Int.fdiv_eq_ediv_of_nonneg _ (by omega)]
theorem qr_body (k0:Int->Int->Int->Int->Int->Int->Int->Bool->Option R) (rec:Int->Int->Int->Int->Int->Int->Int->Option R) (hi:i<64)
  (ha1:0<=al) (ha2:al<18446744073709551616) (hb1:0<=bh) (hb2:bh<=9223372036854775808) (hl1:0<=bl) (hl2:bl<18446744073709551616) (hB:B=bh*18446744073709551616+bl) (hB2:B<=170141183460469231731687303715884105728)
  (hq1:0<=q) (hq2:q*2^(i+1)+2^(i+1)<=18446744073709551616) (hr1:0<=r) (hr2:r<B) :
  yJ.l7.y F k0 rec al bh bl (q*2^(i+1)) (r/18446744073709551616) (r%18446744073709551616) (i:Int) =
   if B<=2*r+al/2^i%2 then rec al bh bl ((2*q+1)*2^i) ((2*r+al/2^i%2-B)/18446744073709551616) ((2*r+al/2^i%2-B)%18446744073709551616) (i64.wrap ((i:Int)-1))
   else rec al bh bl ((2*q)*2^i) ((2*r+al/2^i%2)/18446744073709551616) ((2*r+al/2^i%2)%18446744073709551616) (i64.wrap ((i:Int)-1)):=by
 have hP:(0:Int)<2^i:=Int.pow_pos (by decide);have hP2:(2:Int)^(i+1)=2*2^i:=by rw[Int.pow_succ,Int.mul_comm]
 have hb0:0<=al/2^i:=Int.ediv_nonneg ha1 (Int.le_of_lt hP);have hbl:al/2^i<=al:=Int.ediv_le_self _ ha1;have hsh:al.fdiv (2^(min (i:Int).toNat IntKind.u64.bits))=al/2^i:=by
  rw[Int.toNat_natCast,show min i IntKind.u64.bits=i from Nat.min_eq_left (by show i<=64; omega),Int.fdiv_eq_ediv_of_nonneg _ (Int.le_of_lt hP)]
 have hbit:al/2^i%2=0\/al/2^i%2=1:=by omega
 have hq3:q*2^(i+1)=2*q*2^i:=by rw[hP2,<-Int.mul_assoc,Int.mul_comm q]
 have w1:u64.wrap (r/18446744073709551616*2)=r/18446744073709551616*2^1:=by rw[xP (by omega) (by omega)]; rfl
 have w2:u64.wrap (r%18446744073709551616*2)=(r%18446744073709551616%9223372036854775808)*2^1:=by rw[wX]; omega
 have o1:=Qs (s:=1) (a:=r/18446744073709551616) (b:=r%18446744073709551616/9223372036854775808) (by omega) (by omega) (by omega) (by omega) (by omega) (by omega);have o2:=Qs (s:=1) (a:=r%18446744073709551616%9223372036854775808) (b:=al/2^i%2) (by omega) (by omega) (by omega) (by omega) (by omega) (by omega);have o3:u64.wrap ((BitVec.ofInt IntKind.u64.bits (q*2^(i+1)) ||| BitVec.ofInt IntKind.u64.bits (u64.wrap (1*2^(min (i:Int).toNat IntKind.u64.bits)))).toNat:Int)=(2*q+1)*2^i:=by
  have hm:=Int.mul_nonneg hq1 (Int.le_of_lt hP);rw[Int.toNat_natCast,show min i IntKind.u64.bits=i from Nat.min_eq_left (by show i<=64; omega),Int.one_mul,xP (n:=2^i) (by omega) (by rw[hq3,hP2,Int.mul_assoc] at hq2; omega)];rw[Qs (s:=i+1) (a:=q) (b:=2^i) hq1 (by omega) (by omega) (by omega) (by rw[hq3,hP2,Int.mul_assoc] at hq2; omega) (by omega),hq3,Int.add_mul,Int.one_mul]
 unfold yJ.l7.y;rw[decide_eq_true (show (i:Int)>=0 by omega),shl1,shl1,w1,w2,zeS (by omega),o1,hsh,mask1 (x:=al/2^i) (by omega) (by omega),o2,o3];simp only[cond_true];rw[hq3];generalize al/2^i%2=c at*;have e1:r/18446744073709551616*2^1+r%18446744073709551616/9223372036854775808=(2*r+c)/18446744073709551616:=by omega
 have e2:r%18446744073709551616%9223372036854775808*2^1+c=(2*r+c)%18446744073709551616:=by omega
 rw[e1,e2];have hn1:0<=2*r+c:=by omega
 have hn2:2*r+c<2*B:=by omega
 generalize 2*r+c=N at*;clear e1 e2 o1 o2 o3 w1 w2;have sub:∀bo:Int,(N%18446744073709551616<bl/\bo=1)\/(bl<=N%18446744073709551616/\bo=0)->B<=N->(N/18446744073709551616-bh-bo)%18446744073709551616=(N-B)/18446744073709551616:=by
  intro bo h h';omega
 have s1:=Ze F (x:=N%18446744073709551616) (y:=bl) (c:=0) (by omega) hl1 hl2 (by omega) (by omega);have hbo:(N%18446744073709551616<bl/\(if N%18446744073709551616<bl+0 then (1:Int) else 0)=1)\/(bl<=N%18446744073709551616/\(if N%18446744073709551616<bl+0 then (1:Int) else 0)=0):=by split<;>omega
 rw[s1];generalize (if N%18446744073709551616<bl+0 then (1:Int) else 0)=bo at*;have s2:=Ze F (x:=N/18446744073709551616) (y:=bh) (c:=bo) (by omega) hb1 (by omega) (by omega) (by omega);simp only[zh];rw[s2];simp only[zh];by_cases hle:B<=N
 ·rw[if_pos hle,sub bo hbo hle,show (N%18446744073709551616-bl-0)%18446744073709551616=(N-B)%18446744073709551616 by omega]
  by_cases hg:N/18446744073709551616>bh
  ·rw[decide_eq_true hg]; rfl
  ·rw[decide_eq_false hg,show (N/18446744073709551616==bh)=true by rw[beq_iff_eq]; omega,decide_eq_true (show N%18446744073709551616>=bl by omega)]; rfl
 ·rw[if_neg hle,decide_eq_false (show ¬N/18446744073709551616>bh by omega)]
  by_cases he:N/18446744073709551616=bh
  ·rw[show (N/18446744073709551616==bh)=true by rw[beq_iff_eq]; exact he,decide_eq_false (show ¬N%18446744073709551616>=bl by omega)]; rfl
  ·rw[show (N/18446744073709551616==bh)=false by rw[beq_eq_false_iff_ne]; exact he]; rfl
theorem zgy (ha:0<=al) {n:Nat} (hn:n<64):(ah*18446744073709551616+al)/2^n=2*((ah*18446744073709551616+al)/2^(n+1))+al/2^n%2:=by
 have hP:(0:Int)<2^n:=Int.pow_pos (by decide);have e:ah*18446744073709551616+al=al+2^n*(2*(2^(63-n)*ah)):=by
  have:(2:Int)^n*(2*(2^(63-n)*ah))=(2^n*2^(63-n))*(2*ah):=by rw[Int.mul_left_comm 2,Int.mul_assoc]
  rw[this,<-Int.pow_add,show n+(63-n)=63 by omega];omega
 have e2:(ah*18446744073709551616+al)/2^(n+1)=(ah*18446744073709551616+al)/2^n/2:=by
  rw[Int.pow_succ,Int.ediv_ediv_of_nonneg (Int.le_of_lt hP)]
 have e3:(ah*18446744073709551616+al)/2^n=al/2^n+2*(2^(63-n)*ah):=by
  rw[e,Int.add_mul_ediv_left _ _ (by omega)]
 rw[e2,e3];generalize al/2^n=x at*;generalize (2:Int)^(63-n)*ah=z at*;omega
theorem Qm (F:Nat) {R:Type} (k:Int->Int->Int->Option R) {ah al bh bl B:Int} (ha1:0<=al) (ha2:al<18446744073709551616) (hb1:0<=bh) (hb2:bh<=9223372036854775808) (hl1:0<=bl) (hl2:bl<18446744073709551616)
  (hB:B=bh*18446744073709551616+bl) (hB2:B<=170141183460469231731687303715884105728):∀(n fu:Nat) (q r:Int),n<fu->n<=64->0<=q->q*2^n+2^n<=18446744073709551616->0<=r->r<B->
  (ah*18446744073709551616+al)/2^n=q*B+r->
  yJ.l7 F (fun _ _ _ ql rh rl _ _=>k ql rh rl) fu al bh bl (q*2^n) (r/18446744073709551616) (r%18446744073709551616) ((n:Int)-1) =
   k ((ah*18446744073709551616+al)/B) ((ah*18446744073709551616+al)%B/18446744073709551616) ((ah*18446744073709551616+al)%B%18446744073709551616)
 | 0,fu,q,r,hf,hn,hq1,hq2,hr1,hr2,he=>by
  obtain ⟨fu,rfl⟩:∃j,fu=j+1:=⟨fu-1,by omega⟩;simp only[Int.pow_zero,Int.ediv_one] at he;obtain ⟨f1,f2⟩:=YW (M:=ah*18446744073709551616+al) (y:=B) (Q:=q) (R':=r) (by omega) he hr1 hr2;rw[f1,f2];simp only[yJ.l7,yJ.l7.y];rw[decide_eq_false (show ¬(((0:Nat):Int)-1)>=0 by omega)];simp
 | n+1,fu,q,r,hf,hn,hq1,hq2,hr1,hr2,he=>by
  obtain ⟨fu,rfl⟩:∃j,fu=j+1:=⟨fu-1,by omega⟩;have hP:(0:Int)<2^n:=Int.pow_pos (by decide);have hP2:(2:Int)^(n+1)=2*2^n:=by rw[Int.pow_succ,Int.mul_comm]
  have hq3:q*2^(n+1)=2*(q*2^n):=by rw[hP2,Int.mul_left_comm]
  simp only[yJ.l7];rw[show ((n+1:Nat):Int)-1=((n:Nat):Int) by omega];rw[qr_body F _ _ (by omega) ha1 ha2 hb1 hb2 hl1 hl2 hB hB2 hq1 hq2 hr1 hr2,yz (n:=(n:Int)-1) (by omega) (by omega)];have hbit:=zgy (ah:=ah) ha1 (n:=n) (by omega);have hbb:al/2^n%2=0\/al/2^n%2=1:=by omega
  rw[he] at hbit;have hq4:2*q*2^n=2*(q*2^n):=by rw[Int.mul_assoc]
  split
  ·refine Qm F k ha1 ha2 hb1 hb2 hl1 hl2 hB hB2 n fu _ _ (by omega) (by omega) (by omega) ?_ (by omega) (by omega) ?_
   ·rw[Int.add_mul,Int.one_mul,hq4]; omega
   ·rw[hbit,Int.add_mul,Int.one_mul,Int.mul_assoc]; omega
  ·refine Qm F k ha1 ha2 hb1 hb2 hl1 hl2 hB hB2 n fu _ _ (by omega) (by omega) (by omega) ?_ (by omega) (by omega) ?_
   ·rw[hq4]; omega
   ·rw[hbit,Int.mul_assoc]; omega
theorem zbY (hF:70<F) (h1:0<=ah) (h1':ah<18446744073709551616) (ha1:0<=al) (ha2:al<18446744073709551616) (hb1:0<=bh) (hb2:bh<=9223372036854775808) (hl1:0<=bl) (hl2:bl<18446744073709551616)
  (hB0:0<bh*18446744073709551616+bl) (hB2:bh*18446744073709551616+bl<=170141183460469231731687303715884105728) :
  yJ.sh F ah al bh bl=some (((ah*18446744073709551616+al)/(bh*18446744073709551616+bl)/18446744073709551616,(ah*18446744073709551616+al)/(bh*18446744073709551616+bl)%18446744073709551616,
   (ah*18446744073709551616+al)%(bh*18446744073709551616+bl)/18446744073709551616,(ah*18446744073709551616+al)%(bh*18446744073709551616+bl)%18446744073709551616,()),()):=by
 unfold yJ.sh;by_cases hb:bh=0
 ·subst hb
  rw[beq_self_eq_true,show (bl != 0)=true from bne_iff_ne.2 (by omega),Int.tmod_eq_emod_of_nonneg h1,Int.tdiv_eq_ediv_of_nonneg h1];have m0:=Int.emod_nonneg ah (show bl≠0 by omega);have m1:=Int.emod_lt_of_pos ah (show 0<bl by omega);have d0:=Int.ediv_nonneg h1 hl1;have d1:ah/bl<=ah:=Int.ediv_le_self _ h1;simp only[cond_true];rw[zge F (by omega) m0 m1 ha1 ha2 hl2,xP (n:=ah/bl) d0 (by omega)];simp only[zh];have hM0:0<=ah%bl*18446744073709551616+al:=by omega
  have q0:0<=(ah%bl*18446744073709551616+al)/bl:=Int.ediv_nonneg hM0 hl1;have q1:(ah%bl*18446744073709551616+al)/bl<18446744073709551616:=Int.ediv_lt_of_lt_mul (by omega) (by omega);have r0:=Int.emod_nonneg (ah%bl*18446744073709551616+al) (show bl≠0 by omega);have r1:=Int.emod_lt_of_pos (ah%bl*18446744073709551616+al) (show 0<bl by omega);have e1:=Int.mul_ediv_add_emod ah bl;have e2:=Int.mul_ediv_add_emod (ah%bl*18446744073709551616+al) bl;rw[show (0:Int)*18446744073709551616+bl=bl by omega];obtain ⟨f1,f2⟩:=YW (M:=ah*18446744073709551616+al) (y:=bl) (Q:=ah/bl*18446744073709551616+(ah%bl*18446744073709551616+al)/bl) (R':=(ah%bl*18446744073709551616+al)%bl) (by omega) (by
   rw[Int.add_mul,Int.mul_right_comm,Int.mul_comm _ bl,Int.mul_comm _ bl]; omega) r0 r1
  rw[f1,f2];generalize (ah%bl*18446744073709551616+al)/bl=x at*;generalize (ah%bl*18446744073709551616+al)%bl=z at*;generalize ah/bl=w at*;rw[show (w*18446744073709551616+x)/18446744073709551616=w by omega,show (w*18446744073709551616+x)%18446744073709551616=x by omega,show z/18446744073709551616=0 by omega,show z%18446744073709551616=z by omega]
 ·rw[show (bh==0)=false by rw[beq_eq_false_iff_ne]; exact hb]
  simp only[cond_false];have hl:=Qm F (fun ql rh rl=>(some ((0,ql,rh,rl,()),()):Option yJ.sg.R)) (ah:=ah) (al:=al) (bh:=bh) (bl:=bl) ha1 ha2 hb1 hb2 hl1 hl2 rfl hB2 64 F 0 ah (by omega) (by omega) (by omega) (by decide) h1 (by omega) (by
   rw[show (2:Int)^64=18446744073709551616 from rfl]; omega)
  rw[show (0:Int)*2^64=0 by decide,show ah/18446744073709551616=0 by omega,show ah%18446744073709551616=ah by omega,show ((64:Nat):Int)-1=63 from rfl] at hl;rw[hl];have q0:0<=(ah*18446744073709551616+al)/(bh*18446744073709551616+bl):=Int.ediv_nonneg (by omega) (by omega);have q1:(ah*18446744073709551616+al)/(bh*18446744073709551616+bl)<18446744073709551616:=Int.ediv_lt_of_lt_mul (by omega) (by omega);generalize (ah*18446744073709551616+al)/(bh*18446744073709551616+bl)=x at*;rw[show x/18446744073709551616=0 by omega,show x%18446744073709551616=x by omega]
def dsg (a b:Int):Bool:=!(decide (a<0)==decide (b<0))
def aQ (a b:Int):Int:=(a.natAbs:Int)/(b.natAbs:Int)
def aR (a b:Int):Int:=(a.natAbs:Int)%(b.natAbs:Int)
def tq (a b:Int):Int:=bif dsg a b then -aQ a b else aQ a b
def tr (a b:Int):Int:=bif decide (a<0) then -aR a b else aR a b
theorem aQR (hb:b≠0):0<=aQ a b/\0<=aR a b/\aR a b<b.natAbs/\(b.natAbs:Int)*aQ a b+aR a b=a.natAbs/\aQ a b<=a.natAbs:=by
 unfold aQ aR;exact ⟨Int.ediv_nonneg (by omega) (by omega),Int.emod_nonneg _ (by omega),Int.emod_lt_of_pos _ (by omega),Int.mul_ediv_add_emod _ _,Int.ediv_le_self _ (by omega)⟩
theorem Vm:(((mk v).1==0)&&(((mk v).2==0)&&true))=decide (v=0):=by
 by_cases h:v=0
 ·subst h; rfl
 ·rw[decide_eq_false h]
  simp only[mk,Bool.and_true,Bool.and_eq_false_iff,beq_eq_false_iff_ne];omega
theorem za2 {b:Int×Int} (hb:wfW b):((b.1==0)&&((b.2==0)&&true))=decide (val b=0):=by
 rw[<-zfz hb,Vm,xR]
theorem Rd (hF:70<F) {a b:Int×Int} (ha:wfW a) (hb:wfW b) (h0:val b≠0) :
  wk.sh F a b=some ((bif inR (tq (val a) (val b)) then mk (tq (val a) (val b)) else (0,0),bif inR (tq (val a) (val b)) then mk (tr (val a) (val b)) else (0,0),ui (tq (val a) (val b)),()),()):=by
 have ba:=Zy ha;have bb:=Zy hb;have hq:=aQR (a:=val a) h0;have hneg:(!(decide (a.1<0)==decide (b.1<0)))=dsg (val a) (val b):=by rw[tA ha,tA hb]; rfl
 unfold wk.sh;rw[za2 hb,decide_eq_false h0];simp only[cond_false];rw[Wa F ha,Wa F hb];simp only[zh];have e1:((val a).natAbs:Int)/18446744073709551616*18446744073709551616+((val a).natAbs:Int)%18446744073709551616=(val a).natAbs:=by omega
 have e2:((val b).natAbs:Int)/18446744073709551616*18446744073709551616+((val b).natAbs:Int)%18446744073709551616=(val b).natAbs:=by omega
 have hl:=zbY F hF (ah:=((val a).natAbs:Int)/18446744073709551616) (al:=((val a).natAbs:Int)%18446744073709551616) (bh:=((val b).natAbs:Int)/18446744073709551616) (bl:=((val b).natAbs:Int)%18446744073709551616)
  (by omega) (by omega) (by omega) (by omega) (by omega) (by omega) (by omega) (by omega) (by omega) (by omega)
 rw[e1,e2] at hl;rw[hl,hneg];simp only[zh];rw[show ((val a).natAbs:Int)/((val b).natAbs:Int)=aQ (val a) (val b) from rfl,show ((val a).natAbs:Int)%((val b).natAbs:Int)=aR (val a) (val b) from rfl];rw[Vp F (v:=tq (val a) (val b)) (by omega) (by omega) (by omega) (by omega) (by
  unfold tq;rw[show aQ (val a) (val b)/18446744073709551616*18446744073709551616+aQ (val a) (val b)%18446744073709551616=aQ (val a) (val b) by omega])]
 simp only[zh];cases hi:inR (tq (val a) (val b)) with
 | false=>simp only[uA,ui,hi,cond_false]; rfl
 | true =>
  simp only[uA,ui,hi,cond_true,bne_self_eq_false,cond_false];rw[tA ha];rw[Vp F (v:=tr (val a) (val b)) (by omega) (by omega) (by omega) (by omega) (by
   unfold tr;rw[show aR (val a) (val b)/18446744073709551616*18446744073709551616+aR (val a) (val b)%18446744073709551616=aR (val a) (val b) by omega])]
  have hi2:inR (tr (val a) (val b))=true:=by
   rw[yB]; unfold tr;cases decide (val a<0)<;>simp only[cond_true,cond_false]<;>omega
  simp only[zh,uA,ui,hi2,cond_true]
theorem aw1 (h1:0<=x) (h2:x<y) (h3:y<=170141183460469231731687303715884105728)
  (hbo:(y%18446744073709551616<x%18446744073709551616/\bo=1)\/(x%18446744073709551616<=y%18446744073709551616/\bo=0)) :
  (y/18446744073709551616-x/18446744073709551616-bo)%18446744073709551616=(y-x)/18446744073709551616:=by omega
theorem aw2:(y%18446744073709551616-x%18446744073709551616-0)%18446744073709551616=(y-x)%18446744073709551616:=by omega
theorem aw3 (h1:0<=x) (h2:x<y) (h:x/18446744073709551616>(y-x)/18446744073709551616):y<2*x:=by omega
theorem aw4 (h1:0<=x) (h2:x<y) (h:x/18446744073709551616=(y-x)/18446744073709551616) (h':x%18446744073709551616>(y-x)%18446744073709551616):y<2*x:=by omega
theorem aw5 (h1:0<=x) (h2:x<y) (h:x/18446744073709551616=(y-x)/18446744073709551616) (h':¬x%18446744073709551616>(y-x)%18446744073709551616):¬y<2*x:=by omega
theorem aw6 (h:x/18446744073709551616=(y-x)/18446744073709551616) (h':x%18446744073709551616=(y-x)%18446744073709551616):2*x=y:=by omega
theorem aw7 (h:¬x%18446744073709551616=(y-x)%18446744073709551616):¬2*x=y:=by omega
theorem aw8 (h:¬x/18446744073709551616>(y-x)/18446744073709551616) (h':¬x/18446744073709551616=(y-x)/18446744073709551616):¬y<2*x:=by omega
theorem aw9 (h':¬x/18446744073709551616=(y-x)/18446744073709551616):¬2*x=y:=by omega
def awB (m q r b:Int):Bool :=
 bif m==0 then dsg r b else bif m==1 then !dsg r b else bif m==2 then false else
  decide ((b.natAbs:Int)<2*r.natAbs)||(decide (2*(r.natAbs:Int)=b.natAbs)&&(m==3||decide (q%2=1)))
theorem away_eq {q r b:Int×Int} (hq:wfW q) (hr:wfW r) (hb:wfW b) (m:Int) (hlt:((val r).natAbs:Int)<(val b).natAbs) :
  wO.sh F q r b m=some ((awB m (val q) (val r) (val b),()),()):=by
 have br:=Zy hr;have bb:=Zy hb;have hq2:u64.wrap ((BitVec.ofInt IntKind.u64.bits q.2 &&& BitVec.ofInt IntKind.u64.bits 1).toNat:Int)=val q%2:=by
  rw[mask1 hq.2.2.1 hq.2.2.2];simp only[val];omega
 unfold wO.sh awB;rw[hq2];rw[tA hr,tA hb];rw[show (!(decide (val r<0)==decide (val b<0)))=dsg (val r) (val b) from rfl];cases h0:(m==0) with
 | true=>simp only[cond_true,cond_false,Bool.true_or,Bool.false_or,Bool.and_true,Bool.true_and]
 | false =>
 cases h1:(m==1) with
 | true=>simp only[cond_true,cond_false,Bool.true_or,Bool.false_or,Bool.and_true,Bool.true_and]
 | false =>
 cases h2:(m==2) with
 | true=>simp only[cond_true,cond_false,Bool.true_or,Bool.false_or,Bool.and_true,Bool.true_and]
 | false =>
 simp only[cond_false];have A:=Wa F hr;have B:=Wa F hb;generalize ((val r).natAbs:Int)=x at*;generalize ((val b).natAbs:Int)=y at*;rw[A,zh,B,zh];have s1:=Ze F (x:=y%18446744073709551616) (y:=x%18446744073709551616) (c:=0) (by omega) (by omega) (by omega) (by omega) (by omega);have hbo:(y%18446744073709551616<x%18446744073709551616/\(if y%18446744073709551616<x%18446744073709551616+0 then (1:Int) else 0)=1)\/(x%18446744073709551616<=y%18446744073709551616/\(if y%18446744073709551616<x%18446744073709551616+0 then (1:Int) else 0)=0):=by split<;>omega
 rw[s1];generalize (if y%18446744073709551616<x%18446744073709551616+0 then (1:Int) else 0)=bo at*;have s2:=Ze F (x:=y/18446744073709551616) (y:=x/18446744073709551616) (c:=bo) (by omega) (by omega) (by omega) (by omega) (by omega);rw[zh,s2,zh];rw[aw1 br.1 hlt bb.2 hbo,aw2];clear s1 s2 hbo hq2;by_cases g1:x/18446744073709551616>(y-x)/18446744073709551616
 ·rw[decide_eq_true g1,decide_eq_true (aw3 br.1 hlt g1)]; simp only[cond_true,cond_false,Bool.true_or,Bool.or_true,Bool.false_or,Bool.or_false,Bool.and_true,Bool.true_and,Bool.false_and,decide_true,beq_self_eq_true]
 ·rw[decide_eq_false g1]
  by_cases g2:x/18446744073709551616=(y-x)/18446744073709551616
  ·rw[show (x/18446744073709551616==(y-x)/18446744073709551616)=true by rw[beq_iff_eq]; exact g2]
   simp only[cond_true,cond_false];by_cases g3:x%18446744073709551616>(y-x)%18446744073709551616
   ·rw[decide_eq_true g3,decide_eq_true (aw4 br.1 hlt g2 g3)]; simp only[cond_true,cond_false,Bool.true_or,Bool.or_true,Bool.false_or,Bool.or_false,Bool.and_true,Bool.true_and,Bool.false_and,decide_true,beq_self_eq_true]
   ·rw[decide_eq_false g3,decide_eq_false (aw5 br.1 hlt g2 g3)]
    by_cases g4:x%18446744073709551616=(y-x)%18446744073709551616
    ·rw[show (x%18446744073709551616==(y-x)%18446744073709551616)=true by rw[beq_iff_eq]; exact g4,decide_eq_true (aw6 g2 g4)]
     cases (m==3) with
     | true=>simp only[cond_true,cond_false,Bool.true_or,Bool.false_or,Bool.and_true,Bool.true_and]
     | false =>
      simp only[cond_true,cond_false,Bool.false_or,Bool.true_and];by_cases g5:val q%2=1
      ·rw[g5]; simp only[cond_true,cond_false,Bool.true_or,Bool.or_true,Bool.false_or,Bool.or_false,Bool.and_true,Bool.true_and,Bool.false_and,decide_true,beq_self_eq_true]
      ·rw[decide_eq_false g5,show (val q%2==1)=false by rw[beq_eq_false_iff_ne]; exact g5]
    ·rw[show (x%18446744073709551616==(y-x)%18446744073709551616)=false by rw[beq_eq_false_iff_ne]; exact g4,decide_eq_false (aw7 g4)]; simp only[cond_true,cond_false,Bool.true_or,Bool.or_true,Bool.false_or,Bool.or_false,Bool.and_true,Bool.true_and,Bool.false_and,decide_true,beq_self_eq_true]
  ·rw[show (x/18446744073709551616==(y-x)/18446744073709551616)=false by rw[beq_eq_false_iff_ne]; exact g2,decide_eq_false (aw8 g1 g2),decide_eq_false (aw9 g2)]; simp only[cond_true,cond_false,Bool.true_or,Bool.or_true,Bool.false_or,Bool.or_false,Bool.and_true,Bool.true_and,Bool.false_and,decide_true,beq_self_eq_true]
def Ye (m a b:Int):Int :=
 bif decide (tr a b=0) then tq a b else bif !awB m (tq a b) (tr a b) b then tq a b else bif dsg a b then tq a b-1 else tq a b+1
theorem Qb (a b:Int) (hb:b≠0):((tr a b).natAbs:Int)=aR a b:=by
 have:=aQR (a:=a) hb;unfold tr;cases decide (a<0)<;>simp only[cond_true,cond_false]<;>omega
theorem div_eq (hF:70<F) (ha:inR a=true) (hb:inR b=true) (h0:b≠0) (hq:inR (tq a b)=true) (m0:0<=m) (m4:m<=4):wN.sh F (mk a) (mk b) m=some ((mk (Ye m a b),0,()),()):=by
 have qr:=aQR (a:=a) h0;have ha':=yB.1 ha;have hb':=yB.1 hb;have hr:inR (tr a b)=true:=by
  rw[yB]; unfold tr;cases decide (a<0)<;>simp only[cond_true,cond_false]<;>omega
 unfold wN.sh Ye;rw[decide_eq_false (show ¬m<0 by omega),decide_eq_false (show ¬m>4 by omega),Rd F hF (wu ha) (wu hb) (by rw[xR]; exact h0)];simp only[xR,hq,cond_true,cond_false,zh,ui,bne_self_eq_false];rw[Vm];by_cases hz:tr a b=0
 ·rw[decide_eq_true hz]; rfl
 ·rw[decide_eq_false hz]
  simp only[cond_false];rw[away_eq F (wu hq) (wu hr) (wu hb) m (by rw[xR,xR,Qb a b h0]; omega)];simp only[zh,xR];cases awB m (tq a b) (tr a b) b with
  | false=>rfl
  | true =>
   have hr0:aR a b≠0:=fun h=>hz (by unfold tr; rw[h]; cases decide (a<0)<;>rfl)
   have hb2:(2:Int)<=b.natAbs:=by omega
   have hq2:2*aQ a b<=a.natAbs:=by
    have:=Int.mul_le_mul_of_nonneg_right hb2 qr.1;omega
   have hw:(!(decide ((mk a).1<0)==decide ((mk b).1<0)))=dsg a b:=by rw[tA (wu ha),tA (wu hb),xR,xR]; rfl
   rw[hw,Zh F (by omega) (by omega)];simp only[zh,Bool.not_true,cond_false];cases hd:dsg a b with
   | true =>
    have i:inR (tq a b-1)=true:=by rw[yB]; unfold tq; rw[hd]; simp only[cond_true]; omega
    rw[zbA F (wu hq) (wu (by rw[yB]; omega))];simp only[cond_true,zh,xR,uA,ui,i]
   | false =>
    have i:inR (tq a b+1)=true:=by rw[yB]; unfold tq; rw[hd]; simp only[cond_false]; omega
    rw[Q7 F (wu hq) (wu (by rw[yB]; omega))];simp only[cond_false,cond_true,zh,xR,uA,ui,i]
theorem Z5 (hb:0<b):Ye m (c*b) b=c:=by
 have hn:(((c*b).natAbs:Nat):Int)=c.natAbs*b:=by
  rw[Int.natAbs_mul]; push_cast; rw[show ((b.natAbs:Nat):Int)=b by omega]
 have hR:aR (c*b) b=0:=by
  unfold aR;rw[hn,show ((b.natAbs:Nat):Int)=b by omega,Int.mul_emod_left]
 have hQ:aQ (c*b) b=c.natAbs:=by
  unfold aQ;rw[hn,show ((b.natAbs:Nat):Int)=b by omega,Int.mul_ediv_cancel _ (by omega)]
 have h1:tr (c*b) b=0:=by unfold tr; rw[hR]; cases decide (c*b<0)<;>rfl
 unfold Ye tq dsg;rw[h1,hQ,decide_eq_false (show ¬b<0 by omega)];by_cases hc:c<0
 ·rw[decide_eq_true (show c*b<0 from Int.mul_neg_of_neg_of_pos hc hb)]
  simp; omega
 ·rw[decide_eq_false (show ¬c*b<0 by have:=Int.mul_nonneg (show 0<=c by omega) (Int.le_of_lt hb); omega)]
  simp; omega
def Y2 (m:Int) (l:List Int):Int:=l.foldl (fun m x=>if x<m then x else m) m
def Zl:List Int->Int
 | []=>0
 | a::r=>Y2 a r
theorem zaF:∀(l:List Int) (m:Int),Y2 m l=m\/Y2 m l∈l
 | [],m=>.inl rfl
 | x::r,m=>by
  show Y2 (if x<m then x else m) r=m\/Y2 (if x<m then x else m) r∈x::r;rcases zaF r (if x<m then x else m) with h | h
  ·rw[h]; split
   ·exact .inr (by simp)
   ·exact .inl rfl
  ·exact .inr (by simp[h])
theorem zaJ:∀(l:List Int) (m:Int),uR m l=m\/uR m l∈l
 | [],m=>.inl rfl
 | x::r,m=>by
  show uR (if x>m then x else m) r=m\/uR (if x>m then x else m) r∈x::r;rcases zaJ r (if x>m then x else m) with h | h
  ·rw[h]; split
   ·exact .inr (by simp)
   ·exact .inl rfl
  ·exact .inr (by simp[h])
theorem XL (h:1<=l.length):Zl l∈l:=by
 cases l with
 | nil=>simp at h
 | cons a r =>
  rcases zaF r a with h | h
  ·rw[Zl,h]; simp
  ·rw[Zl]; simp[h]
theorem XM (h:1<=l.length):uZ l∈l:=by
 cases l with
 | nil=>simp at h
 | cons a r =>
  rcases zaJ r a with h | h
  ·rw[uZ,h]; simp
  ·rw[uZ]; simp[h]
theorem mind_eq (ha:inR a=true) (hb:inR b=true):zv.d26 F vT (mk a,mk b,())=some ((qA a b,()),()):=by
 refine Eq.trans (show zv.d26 F vT (mk a,mk b,())=wV.sh F (mk a) (mk b) from rfl) ?_;rw[Un F (wu ha) (wu hb),xR,xR]
theorem maxd_eq (ha:inR a=true) (hb:inR b=true):zw.d26 F vT (mk a,mk b,())=some ((qA a b,()),()):=by
 refine Eq.trans (show zw.d26 F vT (mk a,mk b,())=wV.sh F (mk a) (mk b) from rfl) ?_;rw[Un F (wu ha) (wu hb),xR,xR]
theorem Sv:decide (qA a b<0)=decide (a<b):=by
 unfold qA;by_cases h:a<b
 ·rw[if_pos h,decide_eq_true h]; rfl
 ·rw[if_neg h,decide_eq_false h]; split<;>rfl
theorem zbg:decide (qA a b>0)=decide (a>b):=by
 unfold qA;by_cases h:a<b
 ·rw[if_pos h,decide_eq_false (show ¬a>b by omega)]; rfl
 ·rw[if_neg h]
  by_cases h':a=b
  ·rw[if_pos h',decide_eq_false (show ¬a>b by omega)]; rfl
  ·rw[if_neg h',decide_eq_true (show a>b by omega)]; rfl
theorem Qz (F:Nat) {R:Type} (k:zd.T->Option R) (X:List zd.T):∀(xs:List Int) (i:Int) (r4:zd.T) (m:Int),(∀v∈xs,inR v=true)->inR m=true->
  zv.l5.rg F (fun _ _ _ _ _ m=>k m) X (xs.map mk) i vT r4 (mk m)=k (mk (Y2 m xs))
 | [],i,r4,m,_,_=>rfl
 | x::r,i,r4,m,h,hm=>by
  have hx:=h x (by simp);rw[map_cons,zv.l5.rg,mind_eq F hx hm,zh];have e:Y2 m (x::r)=Y2 (if x<m then x else m) r:=rfl;rw[e];simp only[Sv];by_cases hlt:x<m
  ·rw[decide_eq_true hlt,if_pos hlt]
   exact Qz F k X r (i+1) r4 x (fun v hv=>h v (by simp[hv])) hx
  ·rw[decide_eq_false hlt,if_neg hlt]
   exact Qz F k X r (i+1) r4 m (fun v hv=>h v (by simp[hv])) hm
theorem QA (F:Nat) {R:Type} (k:zd.T->Option R) (X:List zd.T):∀(xs:List Int) (i:Int) (r4:zd.T) (m:Int),(∀v∈xs,inR v=true)->inR m=true->
  zw.l5.rg F (fun _ _ _ _ _ m=>k m) X (xs.map mk) i vT r4 (mk m)=k (mk (uR m xs))
 | [],i,r4,m,_,_=>rfl
 | x::r,i,r4,m,h,hm=>by
  have hx:=h x (by simp);rw[map_cons,zw.l5.rg,maxd_eq F hx hm,zh];have e:uR m (x::r)=uR (if x>m then x else m) r:=rfl;rw[e];simp only[zbg];by_cases hlt:x>m
  ·rw[decide_eq_true hlt,if_pos hlt]
   exact QA F k X r (i+1) r4 x (fun v hv=>h v (by simp[hv])) hx
  ·rw[decide_eq_false hlt,if_neg hlt]
   exact QA F k X r (i+1) r4 m (fun v hv=>h v (by simp[hv])) hm
theorem minf_eq (h:∀v∈l,inR v=true) (h1:1<=l.length) (hF:l.length<F) (hL:l.length<4611686018427387904):zv.sh F (l.map mk) vT=some ((mk (Zl l),()),()):=by
 unfold zv.sh;rw[decide_eq_false (show ¬(((l.map mk).length:Nat):Int)<1 by simp; omega),show idx 0 (l.map mk).length=true from Zq (by simp; omega)];simp only[cond_false,cond_true];cases l with
 | nil=>simp at h1
 | cons a r =>
  refine Eq.trans (zv.l5.rq F _ ((a::r).map mk) (by simp at hL ⊢; omega) (r.map mk) 1 F vT (0,0) _ (by simp) (by simp at hF ⊢; omega)) ?_;exact Qz F (fun m=>(some ((m,()),()):Option zv.sg.R)) _ r _ _ a (fun v hv=>h v (by simp[hv])) (h a (by simp))
theorem maxf_eq (h:∀v∈l,inR v=true) (h1:1<=l.length) (hF:l.length<F) (hL:l.length<4611686018427387904):zw.sh F (l.map mk) vT=some ((mk (uZ l),()),()):=by
 unfold zw.sh;rw[decide_eq_false (show ¬(((l.map mk).length:Nat):Int)<1 by simp; omega),show idx 0 (l.map mk).length=true from Zq (by simp; omega)];simp only[cond_false,cond_true];cases l with
 | nil=>simp at h1
 | cons a r =>
  refine Eq.trans (zw.l5.rq F _ ((a::r).map mk) (by simp at hL ⊢; omega) (r.map mk) 1 F vT (0,0) _ (by simp) (by simp at hF ⊢; omega)) ?_;exact QA F (fun m=>(some ((m,()),()):Option zw.sg.R)) _ r _ _ a (fun v hv=>h v (by simp[hv])) (h a (by simp))
def uz (x:Int):List yp.T->Nat
 | []=>0
 | a::r=>if tF a<x then uz x r+1 else 0
theorem Q2 (x:Int):∀l:List yp.T,uz x l<=l.length
 | []=>by simp[uz]
 | a::r=>by
  have:=Q2 x r;simp only[uz,length_cons];split<;>omega
def Tg:List yp.T->Nat->Int
 | a::b::r,k+1=>tR a*(tF b-tF a)+Tg (b::r) k
 | _,_=>0
theorem zaW (v:Int):-ta v<=v/\v<=ta v:=by unfold ta; split<;>omega
theorem uT {a b m n:Int} (h1:-m<=a) (h2:a<=m) (h3:-n<=b) (h4:b<=n):-(m*n)<=a*b/\a*b<=m*n:=by
 have hm:0<=m:=by omega
 have hn:0<=n:=by omega
 have e1:(a.natAbs:Int)*(b.natAbs:Int)<=m*n:=Int.mul_le_mul (by omega) (by omega) (by omega) hm;have e2:((a*b).natAbs:Int)=(a.natAbs:Int)*(b.natAbs:Int):=by rw[Int.natAbs_mul]; push_cast; rfl
 omega
theorem R8:∀(l:List yp.T) (lo:Int) (k:Nat),-1<=lo->UV lo l->-v8 l<=Tg l k/\Tg l k<=v8 l
 | [],lo,k,_,h=>by simp[v8,Tg]
 | [a],lo,k,_,h=>by simp[v8,Tg]
 | a::b::r,lo,0,hlo,h=>by
  have:=(qC (a::b::r) lo hlo h).1;simp only[Tg]; omega
 | a::b::r,lo,k+1,hlo,h=>by
  obtain ⟨a1,a2,a3,a4,a5⟩:=h;have ih:=R8 (b::r) (tF a) k (by omega) a5;obtain ⟨b1,b2,b3,b4,b5⟩:=a5;have hf:=zaW (tR a);have:=uT hf.1 hf.2 (show -(tF b-tF a)<=tF b-tF a by omega) (show tF b-tF a<=tF b-tF a by omega);simp only[Tg,v8];omega
theorem XD:∀(l:List yp.T) (r0:Int),r0<=vz r0 l/\∀t∈l,ta (tR t)<=vz r0 l
 | [],r0=>⟨by simp[vz],by simp⟩
 | a::r,r0=>by
  have ih:=XD r (if ta (tR a)>r0 then ta (tR a) else r0);have e:vz r0 (a::r)=vz (if ta (tR a)>r0 then ta (tR a) else r0) r:=rfl;have h0:r0<=(if ta (tR a)>r0 then ta (tR a) else r0)/\ta (tR a)<=(if ta (tR a)>r0 then ta (tR a) else r0):=by split<;>omega
  rw[e];refine ⟨by omega,fun t ht=>?_⟩;rcases mem_cons.1 ht with rfl | ht
  ·omega
  ·exact ih.2 t ht
def uC (x:Int) (l:List yp.T):yp.T:=l.getD (uz x l-1) (0,0)
theorem Qc {x:Int}:∀(l:List yp.T) (lo:Int),-1<=lo->UV lo l->1<=uz x l->uC x l∈l/\0<=tF (uC x l)/\tF (uC x l)<x/\tF (uC x l)<=1000000000000/\-1000000000000<=tR (uC x l)/\tR (uC x l)<=1000000000000
 | [],lo,hlo,h,hc=>by simp[uz] at hc
 | a::r,lo,hlo,h,hc=>by
  obtain ⟨a1,a2,a3,a4,a5⟩:=h;have hax:tF a<x:=by
   simp only[uz] at hc;by_cases h:tF a<x
   ·exact h
   ·rw[if_neg h] at hc; omega
  have e:uz x (a::r)=uz x r+1:=by simp only[uz]; rw[if_pos hax]
  by_cases h0:uz x r=0
  ·have e2:uC x (a::r)=a:=by unfold uC; rw[e,h0]; rfl
   rw[e2];exact ⟨by simp,by omega,hax,by omega,by omega,by omega⟩
  ·have e2:uC x (a::r)=uC x r:=by
    unfold uC; rw[e,Nat.add_sub_cancel];obtain ⟨m,hm⟩:∃m,uz x r=m+1:=⟨uz x r-1,by omega⟩;rw[hm]; rfl
   have ih:=Qc (x:=x) r (tF a) (by omega) a5 (by omega);rw[e2];exact ⟨by simp[ih.1],ih.2⟩
def T3 (x:Int) (l:List yp.T):Int:=if uz x l=0 then 0 else Tg l (uz x l-1)+tR (uC x l)*(x-tF (uC x l))
def vol (x:Int) (l:List yp.T):Int:=if uz x l=0 then 0 else x*tR (uC x l)
theorem W9 {l:List yp.T} (hl:Zg l=true) (hX:x<=X) (hX0:0<=X) (hc:1<=uz x l):(-(vz 0 l*(X+vL l))<=tR (uC x l)*(x-tF (uC x l))/\tR (uC x l)*(x-tF (uC x l))<=vz 0 l*(X+vL l)) /\
  -(vz 0 l*(X+vL l))<=x*tR (uC x l)/\x*tR (uC x l)<=vz 0 l*(X+vL l):=by
 obtain ⟨l1,l2,l3⟩:=tZ hl;have ht:=Qc l (-1) (by omega) l3 hc;have hr:=(XD l 0).2 _ ht.1;have hf:=zaW (tR (uC x l));have hlf:=Zn l (-1) (by omega) l3;have h1:=uT (show -vz 0 l<=tR (uC x l) by omega) (show tR (uC x l)<=vz 0 l by omega) (show -(X+vL l)<=x-tF (uC x l) by omega) (show x-tF (uC x l)<=X+vL l by omega);have h2:=uT (show -vz 0 l<=tR (uC x l) by omega) (show tR (uC x l)<=vz 0 l by omega) (show -(X+vL l)<=x by omega) (show x<=X+vL l by omega);rw[Int.mul_comm x];exact ⟨h1,h2⟩
theorem zd8 {l:List yp.T} (hl:Zg l=true) (hX:x<=X) (hX0:0<=X):-(vz 0 l*(X+vL l)+v8 l)<=T3 x l/\T3 x l<=vz 0 l*(X+vL l)+v8 l:=by
 obtain ⟨l1,l2,l3⟩:=tZ hl;have hlf:=Zn l (-1) (by omega) l3;have hr0:=(XD l 0).1;have hm:=Int.mul_nonneg hr0 (show 0<=X+vL l by omega);have hw0:=(qC l (-1) (by omega) l3).1;unfold T3;split
 ·omega
 ·have hw:=R8 l (-1) (uz x l-1) (by omega) l3
  have hs:=(W9 hl hX hX0 (by omega)).1;omega
theorem zeD {l:List yp.T} (hl:Zg l=true) (hX:x<=X) (hX0:0<=X):-(vz 0 l*(X+vL l)+v8 l)<=vol x l/\vol x l<=vz 0 l*(X+vL l)+v8 l:=by
 obtain ⟨l1,l2,l3⟩:=tZ hl;have hlf:=Zn l (-1) (by omega) l3;have hr0:=(XD l 0).1;have hm:=Int.mul_nonneg hr0 (show 0<=X+vL l by omega);have hw0:=(qC l (-1) (by omega) l3).1;unfold vol;split
 ·omega
 ·have hs:=(W9 hl hX hX0 (by omega)).2
  omega
def Z2 (op x n:Int):Bool :=
 bif op==1 then decide (x<n) else bif op==2 then decide (x<=n) else bif op==3 then decide (x>n) else bif op==4 then decide (x>=n) else bif op==5 then decide (x=n) else !decide (x=n)
theorem zfS {x n:Int} (hx:inR x=true) (hn:inR n=true) (op:Int):qY.sh F (mk x) (mk n) op=some ((Z2 op x n,()),()):=by
 unfold qY.sh Z2;rw[Un F (wu hx) (wu hn),zh,xR,xR];have h3:(qA x n=-1/\x<n)\/(qA x n=0/\x=n)\/(qA x n=1/\x>n):=by
  unfold qA;split
  ·exact .inl ⟨rfl,by assumption⟩
  ·split
   ·exact .inr (.inl ⟨rfl,by assumption⟩)
   ·exact .inr (.inr ⟨rfl,by omega⟩)
 have e1:decide (qA x n<0)=decide (x<n):=Sv;have e3:decide (qA x n>0)=decide (x>n):=zbg;have e2:decide (qA x n<=0)=decide (x<=n):=decide_eq_decide.2 (by omega);have e4:decide (qA x n>=0)=decide (x>=n):=decide_eq_decide.2 (by omega);have e5:(qA x n==0)=decide (x=n):=by
  by_cases h:x=n
  ·rw[decide_eq_true h]; have:qA x n=0:=by omega
   rw[this]; rfl
  ·rw[decide_eq_false h,beq_eq_false_iff_ne]; omega
 simp only[e1,e2,e3,e4,e5,bne];cases (op==1)<;>cases (op==2)<;>cases (op==3)<;>cases (op==4)<;>cases (op==5)<;>rfl
def evN (u:Int) (D:List xB.T) (q:List Int) (n:za.T) (vs:List Int):Int :=
 bif nK n==1 then nN n else bif nK n==2 then nN n*u else bif nK n==3 then q.getD (nN n).toNat 0
 else bif nK n==4 then tK (q.getD (nN n).toNat 0) (dS (D.getD (nN n).toNat (ByteArray.empty,0)))
 else bif nK n==5 then 0-vs.getD 0 0 else bif nK n==6 then vs.getD 0 0+vs.getD 1 0 else bif nK n==7 then vs.getD 0 0-vs.getD 1 0
 else bif nK n==8 then vs.getD 0 0*vs.getD 1 0 else bif nK n==9 then Zl vs else bif nK n==10 then uZ vs
 else bif nK n==11 then uZ [0,vs.getD 0 0-nN n] else bif nK n==12 then Zl [nN n,vs.getD 0 0]
 else bif nK n==13 then u*T3 (vs.getD 0 0) (nT n) else bif nK n==14 then u*vol (vs.getD 0 0) (nT n)
 else bif nK n==15 then Ye 2 (vs.getD 0 0*(10000-nN n)) 10000
 else bif Z2 (nO n) (vs.getD 0 0) (nN n) then vs.getD 1 0 else vs.getD 2 0
def ev (u:Int) (D:List xB.T) (q:List Int):Tree->Int:=Tree.fold (evN u D q)
theorem tU (u:Int) (D:List xB.T) (q:List Int) (n:za.T) (ks:List Tree):ev u D q (.nd n ks)=evN u D q n (ks.map (ev u D q)):=Tree.fold_nd _ n ks
theorem zcG:∀(l:List Int),(∀v∈l,0<=v)->∀v∈l,v<=vD l
 | [],h,v,hv=>by simp at hv
 | x::r,h,v,hv=>by
  have hx:=h x (by simp);have h0:0<=vD r:=by
   have:∀(l:List Int),(∀v∈l,0<=v)->0<=vD l:=by
    intro l;induction l with
    | nil=>intro _; simp[vD]
    | cons y s ih=>intro hh; have:=ih (fun v hv=>hh v (by simp[hv])); have:=hh y (by simp); simp only[vD,sum_cons] at*; omega
   exact this r (fun v hv=>h v (by simp[hv]))
  have ih:=zcG r (fun v hv=>h v (by simp[hv]));simp only[vD,sum_cons] at*;rcases mem_cons.1 hv with rfl | hv
  ·omega
  ·have:=ih v hv; omega
structure Kids (ks:List Tree) (V M:Tree->Int):Prop where
 lo:∀k∈ks,-M k<=V k
 hi:∀k∈ks,V k<=M k
 bd:∀k∈ks,M k<=BND
theorem Kids.nn {V M:Tree->Int} (h:Kids ks V M):∀k∈ks,0<=M k:=fun k hk=>by
 have:=h.lo k hk; have:=h.hi k hk; omega
theorem Kids.sum {V M:Tree->Int} (h:Kids ks V M):∀k∈ks,M k<=vD (ks.map M):=fun k hk =>
 zcG _ (by simp only[mem_map]; rintro v ⟨k,hk,rfl⟩; exact h.nn k hk) _ (mem_map_of_mem hk)
theorem Kids.inr {V M:Tree->Int} (h:Kids ks V M):∀v∈ks.map V,inR v=true:=by
 simp only[mem_map];rintro v ⟨k,hk,rfl⟩
 have hBND:BND=1329227995784915872903807060280344576:=rfl;have:=h.lo k hk; have:=h.hi k hk; have:=h.bd k hk;rw[yB]; omega
def okQ (D:List xB.T) (q:List Int):Prop:=q.length=D.length/\∀x∈q,0<=x/\x<=1099511627776
theorem okQ.at {q:List Int} (h:okQ D q) (hi:i<D.length):0<=q.getD i 0/\q.getD i 0<=1099511627776:=qq h.2 (by rw[h.1]; exact hi)
theorem divM2 (a b:Int):Ye 2 a b=tq a b:=by
 unfold Ye awB;cases decide (tr a b=0)<;>rfl
theorem zbS (h0:0<=N) (h1:N<=10000) (M:Int) (hl:-M<=v) (hh:v<=M):(-(M*10000)<=v*(10000-N)/\v*(10000-N)<=M*10000)/\-M<=tq (v*(10000-N)) 10000/\tq (v*(10000-N)) 10000<=M:=by
 have hb:=uT hl hh (show -10000<=10000-N by omega) (show 10000-N<=10000 by omega);have h2:(aQ (v*(10000-N)) 10000)<=M:=by
  unfold aQ;rw[show (((10000:Int).natAbs:Nat):Int)=10000 from rfl];generalize v*(10000-N)=z at*;omega
 have h3:=(aQR (a:=v*(10000-N)) (b:=10000) (by decide)).1;refine ⟨hb,?_⟩;unfold tq;cases dsg (v*(10000-N)) 10000<;>simp only[cond_true,cond_false]<;>omega
theorem ZY {l:List α} (h:l.length=2):∃a b,l=[a,b]:=by
 match l,h with
 | [a,b],_=>exact ⟨a,b,rfl⟩
theorem len3 {l:List α} (h:l.length=3):∃a b c,l=[a,b,c]:=by
 match l,h with
 | [a,b,c],_=>exact ⟨a,b,c,rfl⟩
structure Inv (u:Int) (D:List xB.T) (q:List Int) (t:Tree):Prop where
 lo:-mag u D t<=ev u D q t
 hi:ev u D q t<=mag u D t
 bd:mag u D t<=BND
theorem UG {q:List Int} {l:List Tree} (h:∀t∈l,Inv u D q t):Kids l (ev u D q) (mag u D):=⟨fun k hk=>(h k hk).lo,fun k hk=>(h k hk).hi,fun k hk=>(h k hk).bd⟩
theorem zdd (h0:0<=v) (h:vR n v<=BND):v<=BND:=by
 unfold vR at h;cases h15:(nK n==15) with
 | true=>rw[h15] at h; simp only[cond_true] at h; omega
 | false=>rw[h15] at h; exact h
def qB (x:Int):Bool:=decide (x<0)||decide (x>1099511627776)
theorem okQ_of {q:List Int} (h1:q.length=D.length) (h2:q.any qB=false):okQ D q:=by
 refine ⟨h1,fun x hx=>?_⟩;have:=(List.any_eq_false.1 h2) x hx;simp[qB] at this;omega
def za1 (D:List xB.T) (t:Tree) (q:List Int):List zd.T×Int :=
 bif (vg D t).2.2 != 0 then ([],(vg D t).2.2) else bif (q.length:Int) != (D.length:Int) then ([],100) else bif q.any qB then ([],101) else
 (t.subs.map fun s=>mk (ev (vt t) D q s),0)
theorem R9 (h:Good p t) (hu:(vg p.2.1 t).2.2=0):deep t<=6/\ve tyE t.subs 0=none/\ty t=1/\ve (Ys (vt t) p.2.1) t.subs 0=none/\vg p.2.1 t=(mk (vt t),0,0):=by
 obtain ⟨a1,a2,a3,a4⟩:=za3 hu;exact ⟨a2,(SW a1).1,(SW a1).2,(zfC a3).1,a4⟩
theorem S1 (t:Tree):t∈t.subs:=by
 obtain ⟨s,hs⟩:=VK t;rw[hs]; simp
theorem int_eq (h:inR v=true):vK.sh F (mk v)=some ((bif decide (-9223372036854775808<=v)&&decide (v<9223372036854775808) then v else 0,decide (-9223372036854775808<=v)&&decide (v<9223372036854775808),()),()):=by
 have hv:=yB.1 h;unfold vK.sh;simp only[mk];obtain ⟨k,e1,e2,e3⟩:=W2 (v%18446744073709551616);rw[zeT e2 e3];generalize i64.wrap (v%18446744073709551616)=r at*;by_cases hr:-9223372036854775808<=v/\v<9223372036854775808
 ·have er:r=v:=by omega
  have e0:(v/18446744073709551616 != if r<0 then (-1:Int) else 0)=false:=by
   have:v/18446744073709551616=if r<0 then (-1:Int) else 0:=by split<;>omega
   rw[this]; simp
  rw[e0,decide_eq_true hr.1,decide_eq_true hr.2,er];rfl
 ·have e0:(v/18446744073709551616 != if r<0 then (-1:Int) else 0)=true:=by
   rw[bne_iff_ne]; split<;>omega
  rw[e0];rcases Int.lt_or_le v (-9223372036854775808) with h' | h'
  ·rw[decide_eq_false (show ¬-9223372036854775808<=v by omega)]; rfl
  ·rw[decide_eq_true h',decide_eq_false (show ¬v<9223372036854775808 by omega)]; rfl
theorem tq_bd (hb:b≠0):-(a.natAbs:Int)<=tq a b/\tq a b<=a.natAbs:=by
 have:=aQR (a:=a) hb;unfold tq;cases dsg a b<;>simp only[cond_true,cond_false]<;>omega
theorem leaf_bd (hu:1<=u) (hu2:u<=1000000000000000000000000) (hD:dE [] p.2.1=0) (hd4:p.2.1.length<=4) (hn:vA p.2.1.length n pile=0) {q:List Int} (hq:okQ p.2.1 q) (ha:ar n=0) :
  0<=evN u p.2.1 q n []/\evN u p.2.1 q n []<=xJ u p.2.1 n []:=by
 obtain ⟨g1,g2,g3,g4,g5,g6,g7,g8⟩:=wD hn;have hN2:=Y0 hd4 g3 g1;have hc9:nK n=9\/nK n=10->False:=by
  intro h;rcases h with h | h<;>rw[tC h] at g4<;>rw[yI h] at ha
  ·have g4:(decide (nC n>=2)&&decide (nC n<=16))=true:=g4
   have ha:(nC n).toNat=0:=ha;simp at g4; omega
  ·have g4:(decide (nC n>=2)&&decide (nC n<=16))=true:=g4
   have ha:(nC n).toNat=0:=ha;simp at g4; omega
 rcases ug g1 with h | h | h | h | h | h | h | h | h | h | h | h | h | h | h | h
 ·have e:evN u p.2.1 q n []=nN n:=by unfold evN; rw[h]; rfl
  have m:xJ u p.2.1 n []=nN n:=by unfold xJ; rw[h]; rfl
  rw[e,m];exact ⟨g2,Int.le_refl _⟩
 ·have e:evN u p.2.1 q n []=nN n*u:=by unfold evN; rw[h]; rfl
  have m:xJ u p.2.1 n []=nN n*u:=by unfold xJ; rw[h]; rfl
  have hb:=qV g2 hN2 (show 0<=u by omega) hu2;rw[e,m];exact ⟨hb.1,Int.le_refl _⟩
 ·have e:evN u p.2.1 q n []=q.getD (nN n).toNat 0:=by unfold evN; rw[h]; rfl
  have m:xJ u p.2.1 n []=1099511627776:=by unfold xJ; rw[h]; rfl
  rw[uU h] at g3;have g3:nN n<=(p.2.1.length:Int)-1:=g3;have hb:=hq.at (i:=(nN n).toNat) (by omega);rw[e,m];exact ⟨hb.1,hb.2⟩
 ·have e:evN u p.2.1 q n []=tK (q.getD (nN n).toNat 0) (dS (p.2.1.getD (nN n).toNat (ByteArray.empty,0))):=by unfold evN; rw[h]; rfl
  have m:xJ u p.2.1 n []=tK 1099511627776 (dS (p.2.1.getD (nN n).toNat (ByteArray.empty,0))):=by unfold xJ; rw[h]; rfl
  rw[uU h] at g3;have g3:nN n<=(p.2.1.length:Int)-1:=g3;have hb:=hq.at (i:=(nN n).toNat) (by omega);have hs:1<=dS (p.2.1.getD (nN n).toNat (ByteArray.empty,0))/\dS (p.2.1.getD (nN n).toNat (ByteArray.empty,0))<=1000000000000:=by
   have hlt:(nN n).toNat<p.2.1.length:=by omega
   rw[getD_eq_getElem?_getD,List.getElem?_eq_getElem hlt];exact X2 _ _ hD _ (getElem_mem _)
  have hcb:=zbh hb.1 hb.2 hs.1;rw[e,m];exact ⟨hcb.1,hcb.2⟩
 ·rw[yI h] at ha; exact absurd (show (1:Nat)=0 from ha) (by decide)
 ·rw[yI h] at ha; exact absurd (show (2:Nat)=0 from ha) (by decide)
 ·rw[yI h] at ha; exact absurd (show (2:Nat)=0 from ha) (by decide)
 ·rw[yI h] at ha; exact absurd (show (2:Nat)=0 from ha) (by decide)
 ·exact absurd (.inl h) hc9
 ·exact absurd (.inr h) hc9
 ·rw[yI h] at ha; exact absurd (show (1:Nat)=0 from ha) (by decide)
 ·rw[yI h] at ha; exact absurd (show (1:Nat)=0 from ha) (by decide)
 ·rw[yI h] at ha; exact absurd (show (1:Nat)=0 from ha) (by decide)
 ·rw[yI h] at ha; exact absurd (show (1:Nat)=0 from ha) (by decide)
 ·rw[yI h] at ha; exact absurd (show (1:Nat)=0 from ha) (by decide)
 ·rw[yI h] at ha; exact absurd (show (3:Nat)=0 from ha) (by decide)
theorem zfR (hu:1<=u) (hu2:u<=1000000000000000000000000) (hd4:D.length<=4) (hn:vA D.length n pile=0) {q:List Int} {V M:Tree->Int} (hk:Kids ks V M) (hl:ks.length=ar n) (ha:1<=ar n)
  (hfar:vR n (xJ u D n (ks.map M))<=BND) :
  -xJ u D n (ks.map M)<=evN u D q n (ks.map V)/\evN u D q n (ks.map V)<=xJ u D n (ks.map M):=by
 obtain ⟨g1,g2,g3,g4,g5,g6,g7,g8⟩:=wD hn;have hBND:BND=1329227995784915872903807060280344576:=rfl;have ha16:=Xq g1 g4;have hN2:=Y0 hd4 g3 g1;have B:∀k∈ks,-M k<=V k/\V k<=M k/\M k<=BND/\inR (V k)=true:=fun k h=>⟨hk.lo k h,hk.hi k h,hk.bd k h,hk.inr _ (mem_map_of_mem h)⟩
 rcases ug g1 with h | h | h | h | h | h | h | h | h | h | h | h | h | h | h | h
 ·rw[yI h] at ha; exact absurd (show (1:Nat)<=0 from ha) (by decide)
 ·rw[yI h] at ha; exact absurd (show (1:Nat)<=0 from ha) (by decide)
 ·rw[yI h] at ha; exact absurd (show (1:Nat)<=0 from ha) (by decide)
 ·rw[yI h] at ha; exact absurd (show (1:Nat)<=0 from ha) (by decide)
 ·
  have hl1:ks.length=1:=by rw[hl,yI h]; rfl
  obtain ⟨a,rfl⟩:=length_eq_one_iff.1 hl1;have e:evN u D q n ([a].map V)=0-V a:=by unfold evN; rw[h]; rfl
  have m:xJ u D n ([a].map M)=M a:=by unfold xJ; rw[h]; simp[vD]
  have Ba:=B a (by simp);rw[e,m];exact ⟨by omega,by omega⟩
 ·
  have hl1:ks.length=2:=by rw[hl,yI h]; rfl
  obtain ⟨a,b,rfl⟩:=ZY hl1;have e:evN u D q n ([a,b].map V)=V a+V b:=by unfold evN; rw[h]; rfl
  have m:xJ u D n ([a,b].map M)=M a+M b:=by unfold xJ; rw[h]; simp[vD]
  have hf:vR n (xJ u D n ([a,b].map M))=M a+M b:=by unfold vR; rw[h,m]; rfl
  rw[hf] at hfar;have Ba:=B a (by simp);have Bb:=B b (by simp);rw[e,m];exact ⟨by omega,by omega⟩
 ·
  have hl1:ks.length=2:=by rw[hl,yI h]; rfl
  obtain ⟨a,b,rfl⟩:=ZY hl1;have e:evN u D q n ([a,b].map V)=V a-V b:=by unfold evN; rw[h]; rfl
  have m:xJ u D n ([a,b].map M)=M a+M b:=by unfold xJ; rw[h]; simp[vD]
  have hf:vR n (xJ u D n ([a,b].map M))=M a+M b:=by unfold vR; rw[h,m]; rfl
  rw[hf] at hfar;have Ba:=B a (by simp);have Bb:=B b (by simp);rw[e,m];exact ⟨by omega,by omega⟩
 ·
  have hl1:ks.length=2:=by rw[hl,yI h]; rfl
  obtain ⟨a,b,rfl⟩:=ZY hl1;have e:evN u D q n ([a,b].map V)=V a*V b:=by unfold evN; rw[h]; rfl
  have m:xJ u D n ([a,b].map M)=M a*M b:=by unfold xJ; rw[h]; rfl
  have hf:vR n (xJ u D n ([a,b].map M))=M a*M b:=by unfold vR; rw[h,m]; rfl
  rw[hf] at hfar;have Ba:=B a (by simp);have Bb:=B b (by simp);have hb:=uT Ba.1 Ba.2.1 Bb.1 Bb.2.1;rw[e,m];exact ⟨hb.1,hb.2⟩
 ·
  have e:evN u D q n (ks.map V)=Zl (ks.map V):=by unfold evN; rw[h]; rfl
  have m:xJ u D n (ks.map M)=vD (ks.map M):=by unfold xJ; rw[h]; rfl
  obtain ⟨k,hkm,hkv⟩:=mem_map.1 (XL (l:=ks.map V) (by simp; omega));have Bk:=B k hkm;have hs:=hk.sum k hkm;rw[e,m];exact ⟨by omega,by omega⟩
 ·
  have e:evN u D q n (ks.map V)=uZ (ks.map V):=by unfold evN; rw[h]; rfl
  have m:xJ u D n (ks.map M)=vD (ks.map M):=by unfold xJ; rw[h]; rfl
  obtain ⟨k,hkm,hkv⟩:=mem_map.1 (XM (l:=ks.map V) (by simp; omega));have Bk:=B k hkm;have hs:=hk.sum k hkm;rw[e,m];exact ⟨by omega,by omega⟩
 ·
  have hl1:ks.length=1:=by rw[hl,yI h]; rfl
  obtain ⟨a,rfl⟩:=length_eq_one_iff.1 hl1;have e:evN u D q n ([a].map V)=uZ [0,V a-nN n]:=by unfold evN; rw[h]; rfl
  have m:xJ u D n ([a].map M)=M a+nN n:=by unfold xJ; rw[h]; simp[vD]
  have Ba:=B a (by simp);have i1:inR (V a-nN n)=true:=by rw[yB]; omega
  have hmx:uZ [0,V a-nN n]=0\/uZ [0,V a-nN n]=V a-nN n:=by have:=XM (l:=[0,V a-nN n]) (by simp); simpa using this
  rw[e,m];exact ⟨by omega,by omega⟩
 ·
  have hl1:ks.length=1:=by rw[hl,yI h]; rfl
  obtain ⟨a,rfl⟩:=length_eq_one_iff.1 hl1;have e:evN u D q n ([a].map V)=Zl [nN n,V a]:=by unfold evN; rw[h]; rfl
  have m:xJ u D n ([a].map M)=M a+nN n:=by unfold xJ; rw[h]; simp[vD]
  have Ba:=B a (by simp);have hmx:Zl [nN n,V a]=nN n\/Zl [nN n,V a]=V a:=by have:=XL (l:=[nN n,V a]) (by simp); simpa using this
  rw[e,m];exact ⟨by omega,by omega⟩
 ·
  have hl1:ks.length=1:=by rw[hl,yI h]; rfl
  obtain ⟨a,rfl⟩:=length_eq_one_iff.1 hl1;have hr:=g8 (by unfold ue tI; rw[h]; rfl);have e:evN u D q n ([a].map V)=u*T3 (V a) (nT n):=by unfold evN; rw[h]; rfl
  have m:xJ u D n ([a].map M)=u*(vz 0 (nT n)*(M a+vL (nT n))+v8 (nT n)):=by unfold xJ; rw[h]; rfl
  have hf:vR n (xJ u D n ([a].map M))=u*(vz 0 (nT n)*(M a+vL (nT n))+v8 (nT n)):=by unfold vR; rw[h,m]; rfl
  rw[hf] at hfar;have Ba:=B a (by simp);have hgb:=zd8 hr Ba.2.1 (by omega);have hub:=uT (show -u<=u by omega) (Int.le_refl u) hgb.1 hgb.2;have hle:=V6 hu (show 0<=vz 0 (nT n)*(M a+vL (nT n))+v8 (nT n) by omega);rw[e,m];exact ⟨hub.1,hub.2⟩
 ·
  have hl1:ks.length=1:=by rw[hl,yI h]; rfl
  obtain ⟨a,rfl⟩:=length_eq_one_iff.1 hl1;have hr:=g8 (by unfold ue tI; rw[h]; rfl);have e:evN u D q n ([a].map V)=u*vol (V a) (nT n):=by unfold evN; rw[h]; rfl
  have m:xJ u D n ([a].map M)=u*(vz 0 (nT n)*(M a+vL (nT n))+v8 (nT n)):=by unfold xJ; rw[h]; rfl
  have hf:vR n (xJ u D n ([a].map M))=u*(vz 0 (nT n)*(M a+vL (nT n))+v8 (nT n)):=by unfold vR; rw[h,m]; rfl
  rw[hf] at hfar;have Ba:=B a (by simp);have hgb:=zeD hr Ba.2.1 (by omega);have hub:=uT (show -u<=u by omega) (Int.le_refl u) hgb.1 hgb.2;have hle:=V6 hu (show 0<=vz 0 (nT n)*(M a+vL (nT n))+v8 (nT n) by omega);rw[e,m];exact ⟨hub.1,hub.2⟩
 ·
  have hl1:ks.length=1:=by rw[hl,yI h]; rfl
  obtain ⟨a,rfl⟩:=length_eq_one_iff.1 hl1;have e:evN u D q n ([a].map V)=Ye 2 (V a*(10000-nN n)) 10000:=by unfold evN; rw[h]; rfl
  have m:xJ u D n ([a].map M)=M a:=by unfold xJ; rw[h]; rfl
  have hf:vR n (xJ u D n ([a].map M))=M a*10000:=by unfold vR; rw[h,m]; rfl
  rw[hf] at hfar;rw[uU h] at g3;have g3:nN n<=10000:=g3;have Ba:=B a (by simp);have ho:=zbS g2 g3 (M a) Ba.1 Ba.2.1;rw[e,m,divM2];exact ⟨ho.2.1,ho.2.2⟩
 ·
  have hl1:ks.length=3:=by rw[hl,yI h]; rfl
  obtain ⟨a,b,c,rfl⟩:=len3 hl1;have e:evN u D q n ([a,b,c].map V)=bif Z2 (nO n) (V a) (nN n) then V b else V c:=by unfold evN; rw[h]; rfl
  have m:xJ u D n ([a,b,c].map M)=M a+(M b+M c)+nN n:=by unfold xJ; rw[h]; simp[vD]
  have Ba:=B a (by simp);have Bb:=B b (by simp);have Bc:=B c (by simp);rw[e,m];exact ⟨by cases Z2 (nO n) (V a) (nN n)<;>simp only[cond_true,cond_false]<;>omega,by cases Z2 (nO n) (V a) (nN n)<;>simp only[cond_true,cond_false]<;>omega⟩
theorem zcJ (hu:1<=u) (hu2:u<=1000000000000000000000000) (hD:dE [] p.2.1=0) (hd4:p.2.1.length<=4) {q:List Int} (hq:okQ p.2.1 q)
  (hn:vA p.2.1.length n st.length=0) (hI:∀t∈st,Inv u p.2.1 q t) (hE:Ys u p.2.1 (wH st n)=0):Inv u p.2.1 q (wH st n):=by
 obtain ⟨g1,g2,g3,g4,g5,g6,g7,g8⟩:=wD hn;have hfar:vR n (mag u p.2.1 (wH st n))<=BND:=by
  unfold Ys at hE;rw[show (wH st n).root=n from rfl] at hE;cases hx:decide (vR n (mag u p.2.1 (wH st n))>BND) with
  | true=>rw[hx] at hE; exact absurd (show (90:Int)=0 from hE) (by decide)
  | false=>have:=of_decide_eq_false hx; omega
 have hm:mag u p.2.1 (wH st n)=xJ u p.2.1 n ((st.drop (st.length-ar n)).map (mag u p.2.1)):=by unfold wH; rw[qb]
 have hv:ev u p.2.1 q (wH st n)=evN u p.2.1 q n ((st.drop (st.length-ar n)).map (ev u p.2.1 q)):=by unfold wH; rw[tU]
 by_cases ha:ar n=0
 ·rw[ha,Nat.sub_zero,drop_of_length_le (Nat.le_refl _)] at hm hv
  simp only[map_nil] at hm hv;obtain ⟨h2,h3⟩:=leaf_bd hu hu2 hD hd4 hn hq ha;rw[<-hv] at h2 h3;rw[<-hm] at h3;exact ⟨by omega,h3,zdd (by omega) hfar⟩
 ·have hk:Kids (st.drop (st.length-ar n)) (ev u p.2.1 q) (mag u p.2.1):=UG (fun t ht=>hI t (mem_of_mem_drop ht))
  rw[hm] at hfar;obtain ⟨h2,h3⟩:=zfR hu hu2 hd4 hn (q:=q) hk (by simp; omega) (by omega) hfar;rw[<-hv] at h2 h3;rw[<-hm] at h2 h3 hfar;exact ⟨h2,h3,zdd (by omega) hfar⟩
end Go.VS
