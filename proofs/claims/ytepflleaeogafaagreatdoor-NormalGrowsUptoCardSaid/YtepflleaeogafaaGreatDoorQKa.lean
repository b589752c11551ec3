/- Plain laws, joined from smaller texts. -/
import Derived.Test.YtepflleaeogafaaGreatDoorQR1
set_option linter.unusedVariables false
set_option linter.unusedSimpArgs false
set_option linter.unusedSectionVars false
set_option maxRecDepth 100000
namespace Go.VS
open Go
def wfW (w:Int×Int):Prop:=-9223372036854775808 ≤ w.1∧w.1 < 9223372036854775808∧0 ≤ w.2∧w.2 < 18446744073709551616
def val (w:Int×Int):Int:=w.1 * 18446744073709551616 + w.2
def mk (v:Int):Int×Int:=(v / 18446744073709551616,v % 18446744073709551616)
def inR (v:Int):Bool:=decide (-170141183460469231731687303715884105728 ≤ v) && decide (v < 170141183460469231731687303715884105728)
def resW (v:Int):Int×Int:=bif inR v then mk v else (0,0)
def errW (v:Int):Int:=bif inR v then 0 else 10
theorem inR_iff {v:Int}:inR v = true ↔ -170141183460469231731687303715884105728 ≤ v∧v < 170141183460469231731687303715884105728:=by simp [inR]
theorem inR_no {v:Int}:inR v = false ↔ (v < -170141183460469231731687303715884105728 ∨ 170141183460469231731687303715884105728 ≤ v):=by
 cases h:inR v with
 | true=>simp; have:=inR_iff.1 h; omega
 | false =>
  simp
  rcases Int.lt_or_le v (-170141183460469231731687303715884105728) with h' | h'
  ·exact .inl h'
  ·rcases Int.lt_or_le v 170141183460469231731687303715884105728 with h'' | h''
   ·rw [inR_iff.2 ⟨h',h''⟩] at h; cases h
   ·exact .inr h''
theorem mk_val {w:Int×Int} (h:wfW w):mk (val w) = w:=by
 obtain ⟨a,b⟩:=w
 obtain ⟨h1,h2,h3,h4⟩:=h
 simp only [mk,val] at *
 ext <;> simp only <;> omega
theorem val_mk {v:Int}:val (mk v) = v:=by simp only [val,mk]; omega
theorem wf_mk {v:Int} (h:inR v = true):wfW (mk v):=by
 have:=inR_iff.1 h
 simp only [wfW,mk]
 omega
theorem inR_val {w:Int×Int} (h:wfW w):inR (val w) = true:=by
 rw [inR_iff]
 obtain ⟨h1,h2,h3,h4⟩:=h
 simp only [val]
 omega
theorem wf_resW (v:Int):wfW (resW v):=by
 unfold resW
 cases h:inR v with
 | true=>exact wf_mk h
 | false=>simp [wfW]
theorem wrap_ex (n:Int):∃ k,IntKind.i64.wrap n = n + 18446744073709551616 * k∧-9223372036854775808 ≤ IntKind.i64.wrap n∧IntKind.i64.wrap n < 9223372036854775808:=by
 rw [wrap_i64_mod]
 split
 ·exact ⟨-(n / 18446744073709551616) - 1,by omega,by omega,by omega⟩
 ·exact ⟨-(n / 18446744073709551616),by omega,by omega,by omega⟩
theorem of_eq (F:Nat) {v:Int} (h1:-9223372036854775808 ≤ v) (h2:v < 9223372036854775808):wide_Of.sh F v = some ((mk v,()),()):=by
 unfold wide_Of.sh
 have e:(2 ^ (min (63:Int).toNat IntKind.i64.bits):Int) = 9223372036854775808:=by decide
 have e2:v.fdiv 9223372036854775808 = v / 18446744073709551616:=by rw [Int.fdiv_eq_ediv_of_nonneg _ (by omega)]; omega
 rw [e,e2,wrap_u64_mod]
 rfl
theorem inR_i64 {v:Int} (h1:-9223372036854775808 ≤ v) (h2:v < 9223372036854775808):inR v = true:=by rw [inR_iff]; omega
theorem add64_eq (F:Nat) {x y c:Int} (h1:0 ≤ x) (h2:0 ≤ y) (h3:0 ≤ c) (h4:c ≤ 1):math_bits_Add64.sh F x y c = some (((x + y + c) % 18446744073709551616,(x + y + c) / 18446744073709551616,()),()):=by
 simp [math_bits_Add64.sh,h1,h2,h3,h4]
theorem sub64_eq (F:Nat) {x y c:Int} (h1:0 ≤ x) (h2:0 ≤ y) (h2':y < 18446744073709551616) (h3:0 ≤ c) (h4:c ≤ 1):math_bits_Sub64.sh F x y c = some (((x - y - c) % 18446744073709551616,(if x < y + c then 1 else 0),()),()):=by
 simp [math_bits_Sub64.sh,h1,h2,h2',h3,h4]
theorem add_eq (F:Nat) {a b:Int×Int} (ha:wfW a) (hb:wfW b):wide_Add.sh F a b = some ((resW (val a + val b),errW (val a + val b),()),()):=by
 obtain ⟨a1,a2⟩:=a
 obtain ⟨b1,b2⟩:=b
 obtain ⟨h1,h2,h3,h4⟩:=ha
 obtain ⟨g1,g2,g3,g4⟩:=hb
 simp only at *
 unfold wide_Add.sh
 simp only [wrap_u64_mod]
 rw [add64_eq F (by omega) (by omega) (by omega) (by omega)]
 simp only [oB_some]
 rw [add64_eq F (by omega) (by omega) (by omega) (by omega)]
 simp only [oB_some,resW,errW,val,mk]
 obtain ⟨k,e1,e2,e3⟩:=wrap_ex ((a1 % 18446744073709551616 + b1 % 18446744073709551616 + (a2 + b2 + 0) / 18446744073709551616) % 18446744073709551616)
 generalize IntKind.i64.wrap ((a1 % 18446744073709551616 + b1 % 18446744073709551616 + (a2 + b2 + 0) / 18446744073709551616) % 18446744073709551616) = r at *
 cases hr:inR (a1 * 18446744073709551616 + a2 + (b1 * 18446744073709551616 + b2)) with
 | true =>
  rw [inR_iff] at hr
  have q1:r = (a1 * 18446744073709551616 + a2 + (b1 * 18446744073709551616 + b2)) / 18446744073709551616:=by omega
  have q2:(a2 + b2 + 0) % 18446744073709551616 = (a1 * 18446744073709551616 + a2 + (b1 * 18446744073709551616 + b2)) % 18446744073709551616:=by omega
  have hs:(decide (a1 < 0) == decide (b1 < 0) && !(decide (r < 0) == decide (a1 < 0))) = false:=by
   by_cases x1:a1 < 0 <;> by_cases x2:b1 < 0 <;> by_cases x3:r < 0 <;> simp [x1,x2,x3] <;> omega
  simp only [cond_true]
  rw [← q1,← q2]
  cases hx:(decide (a1 < 0) == decide (b1 < 0)) with
  | true =>
   rw [hx] at hs
   simp only [Bool.true_and] at hs
   simp only [hs,cond_true,cond_false]
  | false=>rfl
 | false =>
  rw [inR_no] at hr
  have hs:(decide (a1 < 0) == decide (b1 < 0)) = true∧(!(decide (r < 0) == decide (a1 < 0))) = true:=by
   by_cases x1:a1 < 0 <;> by_cases x2:b1 < 0 <;> by_cases x3:r < 0 <;> simp [x1,x2,x3] <;> omega
  simp only [hs.1,hs.2,cond_true,cond_false]
theorem sub_eq (F:Nat) {a b:Int×Int} (ha:wfW a) (hb:wfW b):wide_Sub.sh F a b = some ((resW (val a - val b),errW (val a - val b),()),()):=by
 obtain ⟨a1,a2⟩:=a
 obtain ⟨b1,b2⟩:=b
 obtain ⟨h1,h2,h3,h4⟩:=ha
 obtain ⟨g1,g2,g3,g4⟩:=hb
 simp only at *
 unfold wide_Sub.sh
 simp only [wrap_u64_mod]
 rw [sub64_eq F (by omega) (by omega) (by omega) (by omega) (by omega)]
 simp only [oB_some]
 have hbo:(a2 < b2∧(if a2 < b2 + 0 then (1:Int) else 0) = 1) ∨ (b2 ≤ a2∧(if a2 < b2 + 0 then (1:Int) else 0) = 0):=by split <;> omega
 generalize (if a2 < b2 + 0 then (1:Int) else 0) = bo at *
 rw [sub64_eq F (by omega) (by omega) (by omega) (by omega) (by omega)]
 simp only [oB_some,resW,errW,val,mk]
 obtain ⟨k,e1,e2,e3⟩:=wrap_ex ((a1 % 18446744073709551616 - b1 % 18446744073709551616 - bo) % 18446744073709551616)
 generalize IntKind.i64.wrap ((a1 % 18446744073709551616 - b1 % 18446744073709551616 - bo) % 18446744073709551616) = r at *
 cases hr:inR (a1 * 18446744073709551616 + a2 - (b1 * 18446744073709551616 + b2)) with
 | true =>
  rw [inR_iff] at hr
  have q1:r = (a1 * 18446744073709551616 + a2 - (b1 * 18446744073709551616 + b2)) / 18446744073709551616:=by omega
  have q2:(a2 - b2 - 0) % 18446744073709551616 = (a1 * 18446744073709551616 + a2 - (b1 * 18446744073709551616 + b2)) % 18446744073709551616:=by omega
  have hs:(!(decide (a1 < 0) == decide (b1 < 0)) && !(decide (r < 0) == decide (a1 < 0))) = false:=by
   by_cases x1:a1 < 0 <;> by_cases x2:b1 < 0 <;> by_cases x3:r < 0 <;> simp [x1,x2,x3] <;> omega
  simp only [cond_true]
  rw [← q1,← q2]
  cases hx:(!(decide (a1 < 0) == decide (b1 < 0))) with
  | true =>
   rw [hx] at hs
   simp only [Bool.true_and] at hs
   simp only [hs,cond_true,cond_false]
  | false=>rfl
 | false =>
  rw [inR_no] at hr
  have hs:(!(decide (a1 < 0) == decide (b1 < 0))) = true∧(!(decide (r < 0) == decide (a1 < 0))) = true:=by
   by_cases x1:a1 < 0 <;> by_cases x2:b1 < 0 <;> by_cases x3:r < 0 <;> simp [x1,x2,x3] <;> omega
  simp only [hs.1,hs.2,cond_true,cond_false]
theorem wf_zero:wfW (0,0):=by simp [wfW]
theorem neg_eq (F:Nat) {a:Int×Int} (ha:wfW a):wide_Neg.sh F a = some ((resW (-val a),errW (-val a),()),()):=by
 unfold wide_Neg.sh
 rw [sub_eq F wf_zero ha]
 have:val (0,0) - val a = -val a:=by simp [val]
 rw [this]
 rfl
def cmpZ (x y:Int):Int:=if x < y then -1 else if x = y then 0 else 1
theorem cmpZ_lt {x y:Int} (h:x < y):cmpZ x y = -1:=by unfold cmpZ; rw [if_pos h]
theorem cmpZ_eq {x y:Int} (h:x = y):cmpZ x y = 0:=by unfold cmpZ; rw [if_neg (by omega),if_pos h]
theorem cmpZ_gt {x y:Int} (h:y < x):cmpZ x y = 1:=by unfold cmpZ; rw [if_neg (by omega),if_neg (by omega)]
theorem cmp_eq (F:Nat) {a b:Int×Int} (ha:wfW a) (hb:wfW b):wide_Cmp.sh F a b = some ((cmpZ (val a) (val b),()),()):=by
 obtain ⟨a1,a2⟩:=a
 obtain ⟨b1,b2⟩:=b
 obtain ⟨h1,h2,h3,h4⟩:=ha
 obtain ⟨g1,g2,g3,g4⟩:=hb
 simp only at *
 unfold wide_Cmp.sh
 simp only [Bool.and_true]
 by_cases x1:a1 < b1
 ·have y1:(a1 == b1) = false:=by rw [beq_eq_false_iff_ne]; omega
  rw [cmpZ_lt (by simp only [val]; omega)]
  simp [y1,x1]
 ·by_cases x2:a1 = b1
  ·subst x2
   by_cases x3:a2 = b2
   ·subst x3
    rw [cmpZ_eq rfl]
    simp
   ·have y3:(a2 == b2) = false:=by rw [beq_eq_false_iff_ne]; exact x3
    by_cases x4:a2 < b2
    ·rw [cmpZ_lt (by simp only [val]; omega)]
     simp [y3,x4]
    ·rw [cmpZ_gt (by simp only [val]; omega)]
     simp [y3,x4]
  ·have y1:(a1 == b1) = false:=by rw [beq_eq_false_iff_ne]; omega
   rw [cmpZ_gt (by simp only [val]; omega)]
   simp [y1,x1]
theorem some2 {a b a' b':Int} (h1:a = a') (h2:b = b'):(some ((a,b,()),()):Option ((Int×Int×Unit)×Unit)) = some ((a',b',()),()):=by rw [h1,h2]
theorem abs_eq (F:Nat) {a:Int×Int} (ha:wfW a):wide_Abs.sh F a = some ((((val a).natAbs:Int) / 18446744073709551616,((val a).natAbs:Int) % 18446744073709551616,()),()):=by
 obtain ⟨a1,a2⟩:=a
 obtain ⟨h1,h2,h3,h4⟩:=ha
 simp only at *
 unfold wide_Abs.sh
 simp only [wrap_u64_mod]
 by_cases x:a1 ≥ 0
 ·have e:((val (a1,a2)).natAbs:Int) = a1 * 18446744073709551616 + a2:=by simp only [val]; omega
  rw [e]
  simp only [x,decide_true,cond_true]
  exact some2 (by omega) (by omega)
 ·have e:((val (a1,a2)).natAbs:Int) = -(a1 * 18446744073709551616 + a2):=by simp only [val]; omega
  rw [e]
  simp only [x,decide_false,cond_false]
  rw [sub64_eq F (by omega) (by omega) (by omega) (by omega) (by omega)]
  simp only [oB_some]
  have hbo:(0 < a2∧(if 0 < a2 + 0 then (1:Int) else 0) = 1) ∨ (a2 = 0∧(if 0 < a2 + 0 then (1:Int) else 0) = 0):=by split <;> omega
  generalize (if 0 < a2 + 0 then (1:Int) else 0) = bo at *
  rw [sub64_eq F (by omega) (by omega) (by omega) (by omega) (by omega)]
  simp only [oB_some]
  exact some2 (by omega) (by omega)
theorem join_eq (F:Nat) {b:Bool} {hi lo:Int} (h1:0 ≤ hi) (h2:hi < 18446744073709551616) (h3:0 ≤ lo) (h4:lo < 18446744073709551616) {v:Int} (hv:v = bif b then -(hi * 18446744073709551616 + lo) else hi * 18446744073709551616 + lo) :
  wide_Join.sh F b hi lo = some ((resW v,errW v,()),()):=by
 unfold wide_Join.sh
 have e:(2 ^ (min (63:Int).toNat IntKind.u64.bits):Int) = 9223372036854775808:=by decide
 rw [e,Int.fdiv_eq_ediv_of_nonneg _ (by omega)]
 by_cases x:hi < 9223372036854775808
 ·have e1:(hi / 9223372036854775808 == 0) = true:=by rw [beq_iff_eq]; omega
  rw [e1,wrap_i64 (by omega) (by omega)]
  have hw:wfW (hi,lo):=⟨by simp only; omega,x,h3,h4⟩
  cases b with
  | true =>
   simp only [cond_true] at hv ⊢
   rw [neg_eq F hw]
   simp only [oB_some]
   have:v = -val (hi,lo):=by rw [hv]; rfl
   rw [this]
  | false =>
   simp only [cond_true,cond_false] at hv ⊢
   have:v = val (hi,lo):=by rw [hv]; rfl
   rw [this]
   simp only [resW,errW,inR_val hw,cond_true,mk_val hw]
 ·have e1:(hi / 9223372036854775808 == 0) = false:=by rw [beq_eq_false_iff_ne]; omega
  rw [e1]
  cases b with
  | true =>
   simp only [cond_true,cond_false] at hv ⊢
   by_cases y:hi = 9223372036854775808
   ·subst y
    by_cases z:lo = 0
    ·subst z
     subst hv
     rfl
    ·have e2:(lo == 0) = false:=by rw [beq_eq_false_iff_ne]; exact z
     have hr:inR v = false:=by rw [inR_no]; omega
     simp only [resW,errW,hr,cond_false,e2,beq_self_eq_true,cond_true]
   ·have e2:(hi == 9223372036854775808) = false:=by rw [beq_eq_false_iff_ne]; exact y
    have hr:inR v = false:=by rw [inR_no]; omega
    simp only [resW,errW,hr,cond_false,e2]
  | false =>
   simp only [cond_false] at hv ⊢
   have hr:inR v = false:=by rw [inR_no]; omega
   simp only [resW,errW,hr,cond_false]
theorem mask32 {x:Int} (h1:0 ≤ x) (h2:x < 18446744073709551616):IntKind.u64.wrap ((BitVec.ofInt IntKind.u64.bits x &&& BitVec.ofInt IntKind.u64.bits 4294967295).toNat:Int) = x % 4294967296:=by
 obtain ⟨X,rfl⟩:=Int.eq_ofNat_of_zero_le h1
 show IntKind.u64.wrap ((BitVec.ofInt 64 (X:Int) &&& BitVec.ofInt 64 ((4294967295:Nat):Int)).toNat:Int) = _
 rw [BitVec.ofInt_natCast,BitVec.ofInt_natCast,BitVec.toNat_and,BitVec.toNat_ofNat,BitVec.toNat_ofNat,Nat.mod_eq_of_lt (by omega:X < 2 ^ 64),Nat.mod_eq_of_lt (by decide)]
 have:X &&& 4294967295 = X % 4294967296:=Nat.and_two_pow_sub_one_eq_mod X 32
 rw [this,wrap_u64 (by omega) (by omega)]
 omega
theorem or_zero {x:Int} (h1:0 ≤ x) (h2:x < 18446744073709551616):IntKind.u64.wrap ((BitVec.ofInt IntKind.u64.bits x ||| BitVec.ofInt IntKind.u64.bits 0).toNat:Int) = x:=by
 obtain ⟨X,rfl⟩:=Int.eq_ofNat_of_zero_le h1
 show IntKind.u64.wrap ((BitVec.ofInt 64 (X:Int) ||| BitVec.ofInt 64 ((0:Nat):Int)).toNat:Int) = _
 rw [BitVec.ofInt_natCast,BitVec.ofInt_natCast,BitVec.toNat_or,BitVec.toNat_ofNat,BitVec.toNat_ofNat,Nat.mod_eq_of_lt (by omega:X < 2 ^ 64)]
 simp
 rw [wrap_u64 (by omega) (by omega)]
theorem zero_or {x:Int} (h1:0 ≤ x) (h2:x < 18446744073709551616):IntKind.u64.wrap ((BitVec.ofInt IntKind.u64.bits 0 ||| BitVec.ofInt IntKind.u64.bits x).toNat:Int) = x:=by
 rw [BitVec.or_comm]; exact or_zero h1 h2
theorem shr32 {x:Int} (h:0 ≤ x):x.fdiv (2 ^ (min (32:Int).toNat IntKind.u64.bits)) = x / 4294967296:=by
 have e:(2 ^ (min (32:Int).toNat IntKind.u64.bits):Int) = 4294967296:=by decide
 rw [e,Int.fdiv_eq_ediv_of_nonneg _ (by omega)]
theorem mul_bd {a b m n:Int} (ha:0 ≤ a) (ha':a ≤ m) (hb:0 ≤ b) (hb':b ≤ n):0 ≤ a * b∧a * b ≤ m * n :=
 ⟨Int.mul_nonneg ha hb,Int.mul_le_mul ha' hb' hb (by omega)⟩
theorem mul64_eq (F:Nat) {x y:Int} (h1:0 ≤ x) (h2:x < 18446744073709551616) (h3:0 ≤ y) (h4:y < 18446744073709551616) :
  math_bits_Mul64.sh F x y = some ((x * y / 18446744073709551616,x * y % 18446744073709551616,()),()):=by
 unfold math_bits_Mul64.sh
 rw [mask32 h1 h2,mask32 h3 h4,shr32 h1,shr32 h3]
 have hx:x = x / 4294967296 * 4294967296 + x % 4294967296:=by omega
 have hy:y = y / 4294967296 * 4294967296 + y % 4294967296:=by omega
 have bx1:0 ≤ x / 4294967296∧x / 4294967296 ≤ 4294967295:=by omega
 have bx0:0 ≤ x % 4294967296∧x % 4294967296 ≤ 4294967295:=by omega
 have by1:0 ≤ y / 4294967296∧y / 4294967296 ≤ 4294967295:=by omega
 have by0:0 ≤ y % 4294967296∧y % 4294967296 ≤ 4294967295:=by omega
 have hxy:x * y = (x / 4294967296) * (y / 4294967296) * 18446744073709551616 + ((x / 4294967296) * (y % 4294967296) + (x % 4294967296) * (y / 4294967296)) * 4294967296 + (x % 4294967296) * (y % 4294967296):=by
  generalize x / 4294967296 = x1 at *
  generalize x % 4294967296 = x0 at *
  generalize y / 4294967296 = y1 at *
  generalize y % 4294967296 = y0 at *
  rw [hx,hy]
  simp only [Int.add_mul,Int.mul_add]
  have r1:x1 * 4294967296 * (y1 * 4294967296) = x1 * y1 * 18446744073709551616:=by
   rw [Int.mul_assoc,Int.mul_left_comm 4294967296,← Int.mul_assoc]; rfl
  have r2:x1 * 4294967296 * y0 = x1 * y0 * 4294967296:=by rw [Int.mul_right_comm]
  have r3:x0 * (y1 * 4294967296) = x0 * y1 * 4294967296:=by rw [Int.mul_assoc]
  rw [r1,r2,r3]
  omega
 have A:=mul_bd bx1.1 bx1.2 by1.1 by1.2
 have B:=mul_bd bx1.1 bx1.2 by0.1 by0.2
 have C:=mul_bd bx0.1 bx0.2 by1.1 by1.2
 have D:=mul_bd bx0.1 bx0.2 by0.1 by0.2
 rw [hxy]
 generalize (x / 4294967296) * (y / 4294967296) = a at *
 generalize (x / 4294967296) * (y % 4294967296) = b at *
 generalize (x % 4294967296) * (y / 4294967296) = c at *
 generalize (x % 4294967296) * (y % 4294967296) = d at *
 clear hxy hx hy bx1 bx0 by1 by0
 have w1:IntKind.u64.wrap a = a:=wrap_u64 (by omega) (by omega)
 have w2:IntKind.u64.wrap b = b:=wrap_u64 (by omega) (by omega)
 have w3:IntKind.u64.wrap c = c:=wrap_u64 (by omega) (by omega)
 have w4:IntKind.u64.wrap d = d:=wrap_u64 (by omega) (by omega)
 rw [w1,w2,w3,w4,shr32 D.1]
 have w5:IntKind.u64.wrap (b + d / 4294967296) = b + d / 4294967296:=wrap_u64 (by omega) (by omega)
 rw [w5,mask32 (by omega) (by omega),shr32 (by omega)]
 have w6:IntKind.u64.wrap ((b + d / 4294967296) % 4294967296 + c) = (b + d / 4294967296) % 4294967296 + c:=wrap_u64 (by omega) (by omega)
 rw [w6,shr32 (by omega)]
 have w7:IntKind.u64.wrap (a + (b + d / 4294967296) / 4294967296) = a + (b + d / 4294967296) / 4294967296:=wrap_u64 (by omega) (by omega)
 rw [w7]
 have w8:IntKind.u64.wrap (a + (b + d / 4294967296) / 4294967296 + ((b + d / 4294967296) % 4294967296 + c) / 4294967296) = a + (b + d / 4294967296) / 4294967296 + ((b + d / 4294967296) % 4294967296 + c) / 4294967296:=wrap_u64 (by omega) (by omega)
 rw [w8,wrap_u64_mod]
 exact some2 (by omega) (by omega)
theorem val_neg {a:Int×Int} (ha:wfW a):decide (a.1 < 0) = decide (val a < 0):=by
 obtain ⟨a1,a2⟩:=a
 obtain ⟨h1,h2,h3,h4⟩:=ha
 have:a1 < 0 ↔ val (a1,a2) < 0:=by simp only [val] at *; omega
 simp [this]
theorem abs_bd {a:Int×Int} (ha:wfW a):0 ≤ ((val a).natAbs:Int)∧((val a).natAbs:Int) ≤ 170141183460469231731687303715884105728:=by
 have:=inR_iff.1 (inR_val ha)
 omega
theorem prod_sign {x y m n:Int} (hm:m = x.natAbs) (hn:n = y.natAbs):x * y = bif !(decide (x < 0) == decide (y < 0)) then -(m * n) else m * n:=by
 subst hm hn
 by_cases h1:x < 0
 ·have e1:(x.natAbs:Int) = -x:=by omega
  by_cases h2:y < 0
  ·have e2:(y.natAbs:Int) = -y:=by omega
   simp [h1,h2,e1,e2,Int.neg_mul_neg]
  ·have e2:(y.natAbs:Int) = y:=by omega
   simp [h1,h2,e1,e2,Int.neg_mul]
 ·have e1:(x.natAbs:Int) = x:=by omega
  by_cases h2:y < 0
  ·have e2:(y.natAbs:Int) = -y:=by omega
   simp [h1,h2,e1,e2,Int.mul_neg]
  ·have e2:(y.natAbs:Int) = y:=by omega
   simp [h1,h2,e1,e2]
theorem wmul_j (F:Nat) {R:Type} (k:(Int×Int)→Int→Option R) {a b:Int×Int} (ha:wfW a) (hb:wfW b) (r:Int×Int) {ah al bh bl:Int}
  (h1:0 ≤ ah∧ah ≤ 9223372036854775808) (h2:0 ≤ al∧al < 18446744073709551616) (h3:0 ≤ bh∧bh ≤ 9223372036854775808) (h4:0 ≤ bl∧bl < 18446744073709551616)
  (hA:((val a).natAbs:Int) = ah * 18446744073709551616 + al) (hB:((val b).natAbs:Int) = bh * 18446744073709551616 + bl) (h0:ah = 0 ∨ bh = 0) :
  times_Mul.j5 F (fun e w=>k w e) (fun e w=>k w e) ah al bh bl a b r = k (resW (val a * val b)) (errW (val a * val b)):=by
 unfold times_Mul.j5
 rw [mul64_eq F h2.1 h2.2 h4.1 h4.2]
 simp only [oB_some]
 have hp:times_pick.sh F (ah != 0) bl al = some ((if ah ≠ 0 then bl else al,()),()):=by
  unfold times_pick.sh
  by_cases h:ah = 0
  ·simp [h]
  ·have:(ah != 0) = true:=by simp [h]
   simp [this,h]
 rw [hp]
 simp only [oB_some]
 obtain ⟨c,hc1,hc2,hc3⟩:∃ c,c = ah * bl + bh * al∧math_bits_Mul64.sh F (IntKind.u64.wrap ((BitVec.ofInt IntKind.u64.bits ah ||| BitVec.ofInt IntKind.u64.bits bh).toNat:Int)) (if ah ≠ 0 then bl else al) =
   some ((c / 18446744073709551616,c % 18446744073709551616,()),())∧0 ≤ c:=by
  rcases h0 with rfl | rfl
  ·refine ⟨bh * al,by simp,?_,Int.mul_nonneg h3.1 h2.1⟩
   rw [zero_or h3.1 (by omega),if_neg (by simp),mul64_eq F h3.1 (by omega) h2.1 h2.2]
  ·refine ⟨ah * bl,by simp,?_,Int.mul_nonneg h1.1 h4.1⟩
   rw [or_zero h1.1 (by omega)]
   by_cases h:ah = 0
   ·subst h
    rw [if_neg (by simp),mul64_eq F (by omega) (by omega) h2.1 h2.2]
    simp
   ·rw [if_pos h,mul64_eq F h1.1 (by omega) h4.1 h4.2]
 rw [hc2]
 simp only [oB_some]
 have hd:0 ≤ al * bl:=Int.mul_nonneg h2.1 h4.1
 have hd':al * bl ≤ 340282366920938463426481119284349108225:=(mul_bd h2.1 (by omega:al ≤ 18446744073709551615) h4.1 (by omega:bl ≤ 18446744073709551615)).2
 have hm:((val a).natAbs:Int) * ((val b).natAbs:Int) = c * 18446744073709551616 + al * bl:=by
  rw [hA,hB,hc1]
  rcases h0 with rfl | rfl
  ·simp only [Int.zero_mul,Int.zero_add,Int.mul_add]
   have:al * (bh * 18446744073709551616) = bh * al * 18446744073709551616:=by rw [Int.mul_left_comm,← Int.mul_assoc]
   omega
  ·simp only [Int.zero_mul,Int.zero_add,Int.add_zero,Int.add_mul]
   have:ah * 18446744073709551616 * bl = ah * bl * 18446744073709551616:=by rw [Int.mul_right_comm]
   omega
 have hs:=prod_sign (x:=val a) (y:=val b) rfl rfl
 rw [hm,← val_neg ha,← val_neg hb] at hs
 generalize al * bl = d at *
 generalize hsg:(!(decide (a.1 < 0) == decide (b.1 < 0))) = sg at *
 rw [add64_eq F (by omega) (by omega) (by omega) (by omega)]
 simp only [oB_some]
 by_cases q1:c / 18446744073709551616 = 0
 ·have e1:(c / 18446744073709551616 != 0) = false:=by simp [q1]
  rw [e1]
  simp only [cond_false]
  by_cases q2:(d / 18446744073709551616 + c % 18446744073709551616 + 0) / 18446744073709551616 = 0
  ·have e2:((d / 18446744073709551616 + c % 18446744073709551616 + 0) / 18446744073709551616 != 0) = false:=by rw [q2]; rfl
   rw [e2]
   simp only [cond_false]
   rw [join_eq F (v:=val a * val b) (by omega) (by omega) (by omega) (by omega) (by rw [hs]; cases sg <;> simp only [cond_true,cond_false] <;> omega)]
   simp only [oB_some]
  ·have e2:((d / 18446744073709551616 + c % 18446744073709551616 + 0) / 18446744073709551616 != 0) = true:=bne_iff_ne.2 q2
   rw [e2]
   simp only [cond_true]
   have hr:inR (val a * val b) = false:=by rw [inR_no,hs]; cases sg <;> simp only [cond_true,cond_false] <;> omega
   simp only [resW,errW,hr,cond_false]
 ·have e1:(c / 18446744073709551616 != 0) = true:=by simp [q1]
  rw [e1]
  simp only [cond_true]
  have hr:inR (val a * val b) = false:=by rw [inR_no,hs]; cases sg <;> simp only [cond_true,cond_false] <;> omega
  simp only [resW,errW,hr,cond_false]
theorem wmul_eq (F:Nat) {a b:Int×Int} (ha:wfW a) (hb:wfW b):times_Mul.sh F a b = some ((resW (val a * val b),errW (val a * val b),()),()):=by
 have ba:=abs_bd ha
 have bb:=abs_bd hb
 unfold times_Mul.sh
 rw [abs_eq F ha,abs_eq F hb]
 simp only [oB_some]
 have key:∀ (h0:((val a).natAbs:Int) / 18446744073709551616 = 0 ∨ ((val b).natAbs:Int) / 18446744073709551616 = 0),times_Mul.j5 F (fun e w=>some ((w,e,()),())) (fun e w=>some ((w,e,()),()))
   (((val a).natAbs:Int) / 18446744073709551616) (((val a).natAbs:Int) % 18446744073709551616) (((val b).natAbs:Int) / 18446744073709551616) (((val b).natAbs:Int) % 18446744073709551616) a b (0,0) =
   (some ((resW (val a * val b),errW (val a * val b),()),()):Option times_Mul.sg.R):=fun h0 =>
  wmul_j F (fun w e=>some ((w,e,()),())) ha hb (0,0) (by omega) (by omega) (by omega) (by omega) (by omega) (by omega) h0
 by_cases q1:((val a).natAbs:Int) / 18446744073709551616 = 0
 ·have e1:(((val a).natAbs:Int) / 18446744073709551616 != 0) = false:=by simp [q1]
  rw [e1]
  simp only [cond_false]
  exact key (.inl q1)
 ·have e1:(((val a).natAbs:Int) / 18446744073709551616 != 0) = true:=by simp [q1]
  rw [e1]
  simp only [cond_true]
  by_cases q2:((val b).natAbs:Int) / 18446744073709551616 = 0
  ·have e2:(((val b).natAbs:Int) / 18446744073709551616 != 0) = false:=by simp [q2]
   rw [e2]
   simp only [cond_false]
   exact key (.inr q2)
  ·have e2:(((val b).natAbs:Int) / 18446744073709551616 != 0) = true:=by simp [q2]
   rw [e2]
   simp only [cond_true]
   have hs:=prod_sign (x:=val a) (y:=val b) rfl rfl
   have hp:(18446744073709551616:Int) * 18446744073709551616 ≤ ((val a).natAbs:Int) * ((val b).natAbs:Int):=Int.mul_le_mul (by omega) (by omega) (by omega) (by omega)
   have hr:inR (val a * val b) = false:=by
    rw [inR_no,hs]
    generalize ((val a).natAbs:Int) * ((val b).natAbs:Int) = m at *
    cases (!(decide (val a < 0) == decide (val b < 0))) <;> simp only [cond_true,cond_false] <;> omega
   simp only [resW,errW,hr,cond_false]
def FU:Nat:=4194304
def sumV (l:List (Int×Int)):Int:=(l.map val).sum
theorem shr63 {x:Int} (h1:-9223372036854775808 ≤ x) (h2:x < 9223372036854775808):x.fdiv (2 ^ (min (63:Int).toNat IntKind.i64.bits)) = if x < 0 then -1 else 0:=by
 have e:(2 ^ (min (63:Int).toNat IntKind.i64.bits):Int) = 9223372036854775808:=by decide
 rw [e,Int.fdiv_eq_ediv_of_nonneg _ (by omega)]
 split <;> omega
theorem pair2 {a b c d:Int} (h1:a = c) (h2:b = d):(a,b) = (c,d):=by rw [h1,h2]
theorem sum_rg (F:Nat) {R:Type} (k:Int→Int→Int→Option R) (l:List (Int×Int)) (N:Int) (xs:List (Int×Int)):∀ (i lo hi top:Int) (r:Int×Int),(∀ x ∈ xs,wfW x)→0 ≤ lo→lo < 18446744073709551616→0 ≤ hi→hi < 18446744073709551616 →
  -4611686018427387904 + xs.length ≤ top→top ≤ 4611686018427387904 - xs.length →
  ∃ lo' hi' top',wide_Sum.l4.rg F (fun lo hi top _ _ _ _ _=>k lo hi top) l N xs i lo hi top r = k lo' hi' top'∧0 ≤ lo'∧lo' < 18446744073709551616∧0 ≤ hi'∧hi' < 18446744073709551616 ∧
   -4611686018427387904 ≤ top'∧top' ≤ 4611686018427387904∧top' * 340282366920938463463374607431768211456 + hi' * 18446744073709551616 + lo' = top * 340282366920938463463374607431768211456 + hi * 18446744073709551616 + lo + sumV xs:=by
 induction xs with
 | nil =>
  intro i lo hi top r _ h1 h2 h3 h4 h5 h6
  exact ⟨lo,hi,top,by simp only [wide_Sum.l4.rg],h1,h2,h3,h4,by simp at h5; omega,by simp at h6; omega,by simp [sumV]⟩
 | cons x xs ih =>
  intro i lo hi top r hw h1 h2 h3 h4 h5 h6
  obtain ⟨x1,x2⟩:=x
  obtain ⟨g1,g2,g3,g4⟩:=hw (x1,x2) (by simp)
  simp only at g1 g2 g3 g4
  simp only [wide_Sum.l4.rg,wrap_u64_mod]
  rw [add64_eq F h1 g3 (by omega) (by omega)]
  simp only [oB_some]
  rw [add64_eq F h3 (by omega) (by omega) (by omega)]
  simp only [oB_some]
  rw [shr63 g1 g2]
  obtain ⟨s,hs⟩:∃ s:Int,s = (if x1 < 0 then -1 else 0)∧(x1 < 0∧s = -1 ∨ 0 ≤ x1∧s = 0):=⟨_,rfl,by split <;> omega⟩
  rw [← hs.1]
  simp only [List.length_cons] at h5 h6
  rw [wrap_i64 (n:=(hi + x1 % 18446744073709551616 + (lo + x2 + 0) / 18446744073709551616) / 18446744073709551616) (by omega) (by omega)]
  rw [wrap_i64 (n:=s + _) (by omega) (by omega),wrap_i64 (n:=top + _) (by omega) (by omega)]
  obtain ⟨lo',hi',top',e1,e2,e3,e4,e5,e6,e7,e8⟩:=ih (i + 1) ((lo + x2 + 0) % 18446744073709551616) ((hi + x1 % 18446744073709551616 + (lo + x2 + 0) / 18446744073709551616) % 18446744073709551616)
   (top + (s + (hi + x1 % 18446744073709551616 + (lo + x2 + 0) / 18446744073709551616) / 18446744073709551616)) r (fun y hy=>hw y (by simp [hy])) (by omega) (by omega) (by omega) (by omega) (by omega) (by omega)
  refine ⟨lo',hi',top',e1,e2,e3,e4,e5,e6,e7,?_⟩
  rw [e8]
  simp only [sumV,List.map_cons,List.sum_cons,val]
  omega
theorem wsum_eq (F:Nat) {l:List (Int×Int)} (hw:∀ x ∈ l,wfW x) (hl:l.length < F) (hL:l.length < 4611686018427387904):wide_Sum.sh F l = some ((resW (sumV l),errW (sumV l),()),()):=by
 unfold wide_Sum.sh
 rw [show (0:Int) = ((0:Nat):Int) from rfl,wide_Sum.l4.rg_eq F _ l _ rfl (by omega) l 0 F _ _ _ _ (by simp) hl]
 obtain ⟨lo,hi,top,e1,e2,e3,e4,e5,e6,e7,e8⟩:=sum_rg F (fun lo hi top=>bif (top != ((IntKind.i64.wrap hi).fdiv (2 ^ (min (63:Int).toNat IntKind.i64.bits)))) then (some (((0,0),10,()),()):Option wide_Sum.sg.R) else some (((IntKind.i64.wrap hi,lo),0,()),()))
  l (l.length:Int) l 0 0 0 0 (0,0) hw (by omega) (by omega) (by omega) (by omega) (by omega) (by omega)
 refine e1.trans ?_
 obtain ⟨k,f1,f2,f3⟩:=wrap_ex hi
 rw [shr63 f2 f3]
 simp only [Int.zero_mul,Int.zero_add] at e8
 rw [← e8]
 generalize IntKind.i64.wrap hi = r at *
 by_cases hr:r < 0
 ·rw [if_pos hr]
  by_cases ht:top = -1
  ·have hb:(top != -1) = false:=by rw [ht]; rfl
   have hin:inR (top * 340282366920938463463374607431768211456 + hi * 18446744073709551616 + lo) = true:=by rw [inR_iff]; omega
   simp only [hb,cond_false,resW,errW,hin,cond_true,mk]
   rw [pair2 (a:=r) (b:=lo) (c:=(top * 340282366920938463463374607431768211456 + hi * 18446744073709551616 + lo) / 18446744073709551616) (d:=(top * 340282366920938463463374607431768211456 + hi * 18446744073709551616 + lo) % 18446744073709551616) (by omega) (by omega)]
  ·have hb:(top != -1) = true:=bne_iff_ne.2 ht
   have hin:inR (top * 340282366920938463463374607431768211456 + hi * 18446744073709551616 + lo) = false:=by rw [inR_no]; omega
   simp only [hb,cond_true,resW,errW,hin,cond_false]
 ·rw [if_neg hr]
  by_cases ht:top = 0
  ·have hb:(top != 0) = false:=by rw [ht]; rfl
   have hin:inR (top * 340282366920938463463374607431768211456 + hi * 18446744073709551616 + lo) = true:=by rw [inR_iff]; omega
   simp only [hb,cond_false,resW,errW,hin,cond_true,mk]
   rw [pair2 (a:=r) (b:=lo) (c:=(top * 340282366920938463463374607431768211456 + hi * 18446744073709551616 + lo) / 18446744073709551616) (d:=(top * 340282366920938463463374607431768211456 + hi * 18446744073709551616 + lo) % 18446744073709551616) (by omega) (by omega)]
  ·have hb:(top != 0) = true:=bne_iff_ne.2 ht
   have hin:inR (top * 340282366920938463463374607431768211456 + hi * 18446744073709551616 + lo) = false:=by rw [inR_no]; omega
   simp only [hb,cond_true,resW,errW,hin,cond_false]
theorem power_0:times_Power.sh FU 0 = some ((mk (10000 ^ (0:Int).toNat),0,()),()):=by kernel_rfl
theorem power_1:times_Power.sh FU 1 = some ((mk (10000 ^ (1:Int).toNat),0,()),()):=by kernel_rfl
theorem power_2:times_Power.sh FU 2 = some ((mk (10000 ^ (2:Int).toNat),0,()),()):=by kernel_rfl
theorem power_3:times_Power.sh FU 3 = some ((mk (10000 ^ (3:Int).toNat),0,()),()):=by kernel_rfl
theorem power_4:times_Power.sh FU 4 = some ((mk (10000 ^ (4:Int).toNat),0,()),()):=by kernel_rfl
theorem power_5:times_Power.sh FU 5 = some ((mk (10000 ^ (5:Int).toNat),0,()),()):=by kernel_rfl
theorem power_6:times_Power.sh FU 6 = some ((mk (10000 ^ (6:Int).toNat),0,()),()):=by kernel_rfl
theorem power_7:times_Power.sh FU 7 = some ((mk (10000 ^ (7:Int).toNat),0,()),()):=by kernel_rfl
theorem power_8:times_Power.sh FU 8 = some ((mk (10000 ^ (8:Int).toNat),0,()),()):=by kernel_rfl
theorem power_9:times_Power.sh FU 9 = some ((mk (10000 ^ (9:Int).toNat),0,()),()):=by kernel_rfl
theorem power_eq {k:Int} (h1:0 ≤ k) (h2:k ≤ 9):times_Power.sh FU k = some ((mk (10000 ^ k.toNat),0,()),()):=by
 have:k = 0 ∨ k = 1 ∨ k = 2 ∨ k = 3 ∨ k = 4 ∨ k = 5 ∨ k = 6 ∨ k = 7 ∨ k = 8 ∨ k = 9:=by omega
 rcases this with rfl | rfl | rfl | rfl | rfl | rfl | rfl | rfl | rfl | rfl
 ·exact power_0
 ·exact power_1
 ·exact power_2
 ·exact power_3
 ·exact power_4
 ·exact power_5
 ·exact power_6
 ·exact power_7
 ·exact power_8
 ·exact power_9
def ceilD (a b:Int):Int:=a / b + if a % b = 0 then 0 else 1
theorem div_ceil (F:Nat) {s:Int} (h1:1 ≤ s) (h2:s ≤ 1000000000000):times_Div.sh F (mk 1099511627776) (mk s) 1 = some ((mk (ceilD 1099511627776 s),0,()),()):=by
 have hq1:0 ≤ 1099511627776 / s:=Int.ediv_nonneg (by omega) (by omega)
 have hq2:1099511627776 / s ≤ 1099511627776:=Int.ediv_le_self _ (by omega)
 have hr1:0 ≤ 1099511627776 % s:=Int.emod_nonneg _ (by omega)
 have hr2:1099511627776 % s < s:=Int.emod_lt_of_pos _ (by omega)
 have ms:mk s = (0,s):=by simp only [mk]; ext <;> simp only <;> omega
 have ma:mk 1099511627776 = (0,1099511627776):=by rfl
 have mks:∀ {v:Int},0 ≤ v→v < 18446744073709551616→mk v = (0,v):=fun h h'=>by simp only [mk]; ext <;> simp only <;> omega
 have hQ:times_QuoRem.sh F (mk 1099511627776) (mk s) = some ((mk (1099511627776 / s),mk (1099511627776 % s),0,()),()):=by
  unfold times_QuoRem.sh
  have hb:(((mk s).1 == 0) && (((mk s).2 == 0) && true)) = false:=by
   rw [ms]; simp; omega
  rw [hb]
  simp only [cond_false]
  rw [abs_eq F (wf_mk (by rw [inR_iff]; omega)),abs_eq F (wf_mk (by rw [inR_iff]; omega))]
  simp only [oB_some,val_mk]
  have n1:((1099511627776:Int).natAbs:Int) = 1099511627776:=rfl
  have n2:(s.natAbs:Int) = s:=by omega
  rw [n1,n2]
  have d1:(1099511627776:Int) / 18446744073709551616 = 0:=by decide
  have d2:(1099511627776:Int) % 18446744073709551616 = 1099511627776:=by decide
  have d3:s / 18446744073709551616 = 0:=by omega
  have d4:s % 18446744073709551616 = s:=by omega
  rw [d1,d2,d3,d4]
  have hsne:(s != 0) = true:=bne_iff_ne.2 (by omega)
  have hs0:(s == 0) = false:=by rw [beq_eq_false_iff_ne]; omega
  have hq:times_quoRem.sh F 0 1099511627776 0 s = some ((0,1099511627776 / s,0,1099511627776 % s,()),()):=by
   unfold times_quoRem.sh math_bits_Div64.sh
   have e0:(0:Int).tmod s = 0:=by simp
   have e1:(0:Int).tdiv s = 0:=by simp
   have e2:(1099511627776:Int).tdiv s = 1099511627776 / s:=Int.tdiv_eq_ediv_of_nonneg (by omega)
   have e3:(1099511627776:Int).tmod s = 1099511627776 % s:=Int.tmod_eq_emod_of_nonneg (by omega)
   have e4:decide (s ≤ 0) = false:=by simp; omega
   simp only [beq_self_eq_true,cond_true,hsne,e0,e1,hs0,cond_false,e4,oB_some,e2,e3]
   rw [wrap_u64 (by omega) (by omega),wrap_u64 (n:=1099511627776 / s) (by omega) (by omega)]
  rw [hq]
  simp only [oB_some]
  have hng:(!(decide ((mk 1099511627776).1 < 0) == decide ((mk s).1 < 0))) = false:=by rw [ma,ms]; rfl
  rw [hng,join_eq F (v:=1099511627776 / s) (by omega) (by omega) (by omega) (by omega) (by simp)]
  simp only [oB_some]
  have i1:inR (1099511627776 / s) = true:=by rw [inR_iff]; omega
  have i2:inR (1099511627776 % s) = true:=by rw [inR_iff]; omega
  have hz:decide ((mk 1099511627776).1 < 0) = false:=by rw [ma]; rfl
  simp only [errW,resW,i1,cond_true,bne_self_eq_false,cond_false]
  rw [hz,join_eq F (v:=1099511627776 % s) (by omega) (by omega) (by omega) (by omega) (by simp)]
  simp only [oB_some,errW,resW,i2,cond_true]
 unfold times_Div.sh
 rw [hQ]
 have c1:decide ((1:Int) < 0) = false:=by decide
 have c2:decide ((1:Int) > 4) = false:=by decide
 simp only [c1,c2,cond_false,oB_some,bne_self_eq_false]
 by_cases hz:1099511627776 % s = 0
 ·have e:(((mk (1099511627776 % s)).1 == 0) && (((mk (1099511627776 % s)).2 == 0) && true)) = true:=by rw [hz]; rfl
  rw [e]
  simp only [cond_true,ceilD,hz,if_true,Int.add_zero]
 ·have e:(((mk (1099511627776 % s)).1 == 0) && (((mk (1099511627776 % s)).2 == 0) && true)) = false:=by
   rw [mks hr1 (by omega)]; simp; exact hz
  rw [e]
  simp only [cond_false]
  have ha:times_away.sh F (mk (1099511627776 / s)) (mk (1099511627776 % s)) (mk s) 1 = some ((true,()),()):=by
   unfold times_away.sh
   rw [mks hr1 (by omega),ms]
   rfl
  rw [ha]
  simp only [oB_some,Bool.not_true,cond_false]
  have hng:(!(decide ((mk 1099511627776).1 < 0) == decide ((mk s).1 < 0))) = false:=by rw [ma,ms]; rfl
  rw [hng]
  simp only [cond_false]
  rw [of_eq F (by omega) (by omega)]
  simp only [oB_some]
  rw [add_eq F (wf_mk (by rw [inR_iff]; omega)) (wf_mk (by rw [inR_iff]; omega))]
  simp only [oB_some,val_mk]
  have i1:inR (1099511627776 / s + 1) = true:=by rw [inR_iff]; omega
  simp only [errW,resW,i1,cond_true,ceilD,hz,if_false]
def letB (c:Int):Bool:=decide (c ≥ 97) && decide (c ≤ 122)
def digB (c:Int):Bool:=decide (c ≥ 48) && decide (c ≤ 57)
def innB (c:Int):Bool:=letB c || (digB c || c == 95)
theorem letter_eq (F:Nat) (c:Int):scan_letter.sh F c = some ((letB c,()),()):=by
 unfold scan_letter.sh letB
 cases decide (c ≥ 97) <;> rfl
theorem digit_eq (F:Nat) (c:Int):scan_digit.sh F c = some ((digB c,()),()):=by
 unfold scan_digit.sh digB
 cases decide (c ≥ 48) <;> rfl
theorem inner_eq (F:Nat) (c:Int):scan_inner.sh F c = some ((innB c,()),()):=by
 unfold scan_inner.sh innB
 rw [letter_eq,digit_eq]
 simp only [oB_some]
 cases letB c <;> cases digB c <;> rfl
def cI (c:UInt8):Int:=(c.toNat:Int)
theorem bt_at {s:ByteArray} {n:Nat} {c:UInt8} {r:List UInt8} (h:s.data.toList.drop n = c :: r):bt s (n:Int) = cI c:=by
 have:s.data.toList[n]? = some c:=by
  have:=congrArg (·[0]?) h
  simpa using this
 simp only [bt,Int.toNat_natCast,List.getD_eq_getElem?_getD,this,Option.getD_some,cI]
theorem size_list (s:ByteArray):s.size = s.data.toList.length:=by rw [Array.length_toList]; rfl
theorem run_l2 (F:Nat) {R:Type} (k:Int→Option R) (s:ByteArray) (of:Nat) (p:Int→Bool) (hp:∀ c,scan_run.d15 F of (c,()) = some ((p c,()),())) (hs:s.size < 4611686018427387904) :
  ∀ (xs:List UInt8) (n fu:Nat),s.data.toList.drop n = xs→xs.length < fu→scan_run.l2 F (fun _ _ n _=>k n) fu s of (n:Int) = k ((n + (xs.takeWhile fun c=>p (cI c)).length:Nat):Int):=by
 intro xs
 induction xs with
 | nil =>
  intro n fu h hf
  obtain ⟨fu,rfl⟩:∃ j,fu = j + 1:=⟨fu - 1,by simp at hf; omega⟩
  have hn:s.size ≤ n:=by rw [size_list]; simpa using h
  have e1:decide ((n:Int) < (s.size:Int)) = false:=by simp; exact hn
  simp only [scan_run.l2,scan_run.l2.body,e1,cond_false,List.takeWhile_nil,List.length_nil,Nat.add_zero]
 | cons c xs ih =>
  intro n fu h hf
  obtain ⟨fu,rfl⟩:∃ j,fu = j + 1:=⟨fu - 1,by simp at hf; omega⟩
  have hn:n < s.size:=by rw [size_list]; exact rg_len h
  have e1:decide ((n:Int) < (s.size:Int)) = true:=by simp; exact hn
  have e2:idx (n:Int) s.size = true:=rg_idx hn
  simp only [scan_run.l2,scan_run.l2.body,e1,e2,cond_true,bt_at h,hp,oB_some]
  cases hc:p (cI c) with
  | true =>
   simp only [cond_true]
   rw [wrap_i64 (by omega) (by omega),← rg_cast,ih (n + 1) fu (rg_next h) (by simp at hf; omega)]
   simp only [List.takeWhile_cons,hc,if_true,List.length_cons]
   congr 2
   omega
  | false =>
   simp only [cond_false,List.takeWhile_cons,hc]
   simp
theorem run_eq (F:Nat) {s:ByteArray} {of:Nat} {p:Int→Bool} (hp:∀ c,scan_run.d15 F of (c,()) = some ((p c,()),())) (hs:s.size < 4611686018427387904) (hF:s.size < F) :
  scan_run.sh F s of = some ((((s.data.toList.takeWhile fun c=>p (cI c)).length:Int),()),()):=by
 unfold scan_run.sh
 have:=run_l2 F (fun n=>(some ((n,()),()):Option scan_run.sg.R)) s of p hp hs s.data.toList 0 F (by simp) (by rw [← size_list]; exact hF)
 simpa using this
theorem d15_letter (F:Nat) (c:Int):scan_run.d15 F fn_scan_letter (c,()) = some ((letB c,()),()):=by
 unfold scan_run.d15
 rw [show mkT scan_run.ds15 [(fn_scan_inner,scan_inner.sp F),(fn_scan_letter,scan_letter.sp F)] fn_scan_letter (c,()) = scan_letter.sh F c from rfl,letter_eq]
theorem d15_inner (F:Nat) (c:Int):scan_run.d15 F fn_scan_inner (c,()) = some ((innB c,()),()):=by
 unfold scan_run.d15
 rw [show mkT scan_run.ds15 [(fn_scan_inner,scan_inner.sp F),(fn_scan_letter,scan_letter.sp F)] fn_scan_inner (c,()) = scan_inner.sh F c from rfl,inner_eq]
theorem takeWhile_all {α:Type} {p:α→Bool}:∀ {l:List α},((l.takeWhile p).length = l.length) ↔ l.all p = true
 | []=>by simp
 | a :: l=>by
  simp only [List.takeWhile_cons,List.all_cons]
  cases h:p a with
  | true=>simp only [if_true,List.length_cons,Bool.true_and]; rw [← takeWhile_all (l:=l)]; omega
  | false=>simp
def wordsL:List UInt8:=[32,112,108,97,110,32,114,111,117,110,100,32,98,121,32,98,108,111,99,107,115,32,109,105,110,32,109,97,120,32,111,118,101,114,32,117,112,116,111,32,103,114,97,100,117,97,116,101,100,32,118,111,108,117,109,101,32,111,102,102,32,105,102,32,102,108,111,111,114,32,99,101,105,108,32,122,101,114,111,32,104,97,108,102,32,101,118,101,110,32]
def wordB (l:List UInt8):Bool:=!l.isEmpty && (l.all (fun c=>letB (cI c)) && Lib.contains wordsL ([32] ++ l ++ [32]))
def nameB (l:List UInt8):Bool:=!l.isEmpty && (decide (l.length ≤ 32) && (letB (cI (l.headD 0)) && (l.all (fun c=>innB (cI c)) && !wordB l)))
theorem nonempty (s:ByteArray):(!(s.toList == (⟨#[]⟩:ByteArray).toList)) = !s.data.toList.isEmpty:=by
 rw [ByteArray.toList_eq,ByteArray.toList_eq]
 cases s.data.toList <;> rfl
theorem word_eq (F:Nat) {s:ByteArray} (hs:s.size ≤ 1048576) (hF:s.size < F):scan_Word.sh F s = some ((wordB s.data.toList,()),()):=by
 unfold scan_Word.sh
 rw [nonempty,run_eq F (d15_letter F) (by omega) hF]
 unfold wordB
 cases hE:s.data.toList.isEmpty with
 | true=>rfl
 | false =>
  simp only [Bool.not_false,cond_true,oB_some,Bool.true_and]
  by_cases ha:s.data.toList.all (fun c=>letB (cI c)) = true
  ·have e1:(((s.data.toList.takeWhile fun c=>letB (cI c)).length:Int) == (s.size:Int)) = true:=by
    rw [takeWhile_all.2 ha,← size_list]; simp
   have s1:(⟨#[32]⟩:ByteArray).size = 1:=rfl
   have s2:((⟨#[32]⟩:ByteArray) ++ s).size = 1 + s.size:=by rw [ByteArray.size_append]; rfl
   have e2:Nat.ble ((⟨#[32]⟩:ByteArray).size + s.size) maxN = true:=by rw [s1,Nat.ble_eq]; unfold maxN; omega
   have e3:Nat.ble (((⟨#[32]⟩:ByteArray) ++ s).size + (⟨#[32]⟩:ByteArray).size) maxN = true:=by rw [s1,s2,Nat.ble_eq]; unfold maxN; omega
   rw [e1,e2,e3,ha]
   simp only [cond_true,Bool.true_and]
   have hd:((⟨#[32]⟩:ByteArray) ++ s ++ (⟨#[32]⟩:ByteArray)).data.toList = [32] ++ s.data.toList ++ [32]:=by simp [ByteArray.data_append]
   unfold strings_Contains.sh
   rw [hd]
   rfl
  ·have e1:(((s.data.toList.takeWhile fun c=>letB (cI c)).length:Int) == (s.size:Int)) = false:=by
    rw [beq_eq_false_iff_ne]
    intro h
    apply ha
    rw [← takeWhile_all]
    rw [size_list] at h
    exact_mod_cast h
   rw [e1]
   simp only [cond_false]
   rw [Bool.not_eq_true] at ha
   rw [ha]
   rfl
theorem name_eq (F:Nat) {s:ByteArray} (hF:64 < F):scan_Name.sh F s = some ((nameB s.data.toList,()),()):=by
 unfold scan_Name.sh nameB
 rw [nonempty]
 cases hE:s.data.toList.isEmpty with
 | true=>rfl
 | false =>
  simp only [Bool.not_false,cond_true,Bool.true_and]
  by_cases hl:s.data.toList.length ≤ 32
  ·have e1:decide ((s.size:Int) ≤ 32) = true:=decide_eq_true (by have:=size_list s; omega)
   have hpos:0 < s.size:=by rw [size_list]; cases h:s.data.toList with | nil=>rw [h] at hE; cases hE | cons=>simp
   have e2:idx 0 s.size = true:=rg_idx (i:=0) hpos
   have e3:bt s 0 = cI (s.data.toList.headD 0):=by
    cases h:s.data.toList with
    | nil=>rw [h] at hE; cases hE
    | cons c r=>exact bt_at (n:=0) (r:=r) (by simpa using h)
   have hsz:s.size ≤ 32:=by rw [size_list]; exact hl
   rw [e1,e2,e3,letter_eq,run_eq F (d15_inner F) (by omega) (by omega),word_eq F (by omega) (by omega)]
   simp only [cond_true,oB_some,hl,decide_true,Bool.true_and]
   cases letB (cI (s.data.toList.headD 0)) with
   | false=>rfl
   | true =>
    simp only [cond_true,Bool.true_and]
    by_cases ha:s.data.toList.all (fun c=>innB (cI c)) = true
    ·have e4:(((s.data.toList.takeWhile fun c=>innB (cI c)).length:Int) == (s.size:Int)) = true:=by
      rw [takeWhile_all.2 ha,← size_list]; simp
     rw [e4,ha]
     rfl
    ·have e4:(((s.data.toList.takeWhile fun c=>innB (cI c)).length:Int) == (s.size:Int)) = false:=by
      rw [beq_eq_false_iff_ne]
      intro h
      apply ha
      rw [← takeWhile_all]
      rw [size_list] at h
      exact_mod_cast h
     rw [e4]
     rw [Bool.not_eq_true] at ha
     rw [ha]
     rfl
  ·have e1:decide ((s.size:Int) ≤ 32) = false:=decide_eq_false (by have:=size_list s; omega)
   have e2:decide (s.data.toList.length ≤ 32) = false:=decide_eq_false hl
   rw [e1,e2]
   rfl
theorem idx_of {n:Int} {len:Nat} (h1:0 ≤ n) (h2:n < (len:Int)):idx n len = true:=by
 unfold idx; rw [decide_eq_true h1,decide_eq_true h2]; rfl
def sameN (a b:ByteArray):Bool:=a.toList == b.toList
theorem d16_eq (F:Nat) (e d:tDim.T):slices_IndexFunc_Dim.d16 F (cl_tree_head_c1 + 1) (e,d,()) = some ((sameN e.1 d.1,()),()):=by
 unfold slices_IndexFunc_Dim.d16
 rw [show mkT slices_IndexFunc_Dim.ds16 [(fn_tree_head_c1,tree_head_c1.sp F)] (cl_tree_head_c1 + 1) (e,d,()) = tree_head_c1.sh F e d from rfl]
 rfl
theorem indexF_rg (F:Nat) {R:Type} (k:Int→Option R) (k':Option R) (L:List tDim.T) (N:Int) (d:tDim.T):∀ (xs:List tDim.T) (i:Nat),
  slices_IndexFunc_Dim.l2.rg F k (fun _ _ _ _ _=>k') L N xs (i:Int) (cl_tree_head_c1,d) = match xs.findIdx? (fun e=>sameN e.1 d.1) with | some j=>k ((i + j:Nat):Int) | none=>k':=by
 intro xs
 induction xs with
 | nil=>intro i; rfl
 | cons x xs ih =>
  intro i
  simp only [slices_IndexFunc_Dim.l2.rg]
  rw [d16_eq]
  simp only [oB_some]
  cases h:sameN x.1 d.1 with
  | true=>simp [List.findIdx?_cons,h]
  | false =>
   simp only [cond_false]
   rw [← rg_cast,ih (i + 1)]
   simp only [List.findIdx?_cons,h]
   cases hj:xs.findIdx? (fun e=>sameN e.1 d.1) with
   | none=>simp
   | some j=>simp; congr 1; omega
theorem containsF_eq (F:Nat) {l:List tDim.T} {d:tDim.T} (hl:l.length < F) (hL:l.length < 4611686018427387904):slices_ContainsFunc_Dim.sh F l (cl_tree_head_c1,d) = some ((l.any (fun e=>sameN e.1 d.1),()),()):=by
 unfold slices_ContainsFunc_Dim.sh slices_IndexFunc_Dim.sh
 have h1:=slices_IndexFunc_Dim.l2.rg_eq F (fun r42=>(some ((r42,()),()):Option slices_IndexFunc_Dim.sg.R)) (fun s3 f3 t73 t83 t93=>some (((-1),()),())) l (l.length:Int) rfl (by omega) l 0 F (cl_tree_head_c1,d) (by simp) hl
 have h2:=indexF_rg F (fun r=>(some ((r,()),()):Option slices_IndexFunc_Dim.sg.R)) (some (((-1),()),())) l (l.length:Int) d l 0
 have h3:=h1.trans h2
 rw [show ((0:Nat):Int) = 0 from rfl] at h3
 rw [h3]
 cases h:l.findIdx? (fun e=>sameN e.1 d.1) with
 | none =>
  have:l.any (fun e=>sameN e.1 d.1) = false:=by
   rw [List.findIdx?_eq_none_iff] at h
   rw [List.any_eq_false]
   intro x hx
   simpa using h x hx
  simp only [oB_some,this]
  rfl
 | some j =>
  have:l.any (fun e=>sameN e.1 d.1) = true:=by
   rw [List.findIdx?_eq_some_iff_getElem] at h
   obtain ⟨h1,h2,_⟩:=h
   rw [List.any_eq_true]
   exact ⟨l[j],List.getElem_mem _,h2⟩
  simp only [oB_some,this]
  have:decide (((0 + j:Nat):Int) ≥ 0) = true:=decide_eq_true (by omega)
  rw [this]
abbrev dS (d:tDim.T):Int:=d.2
def dE (pre:List tDim.T):List tDim.T→Int
 | []=>0
 | d :: r=>bif !nameB d.1.data.toList then 61 else bif pre.any (fun e=>sameN e.1 d.1) then 61 else bif decide (dS d < 1) then 50 else bif decide (dS d > 1000000000000) then 50 else dE (pre ++ [d]) r
def headE (name:ByteArray) (dims:List tDim.T) (mode:Int):Int :=
 bif !nameB name.data.toList then 61 else bif decide ((dims.length:Int) < 1) then 100 else bif decide ((dims.length:Int) > 4) then 100 else bif dE [] dims != 0 then dE [] dims else bif decide (mode < 0) then 50 else bif decide (mode > 4) then 50 else 0
theorem bounds_hi {n i:Nat} (h:i ≤ n):bounds n none (some (i:Int)) = (true,0,i):=by
 unfold bounds
 have e1:decide ((0:Int) ≤ ((i:Nat):Int)) = true:=decide_eq_true (by omega)
 have e2:decide (((i:Nat):Int) ≤ (n:Int)) = true:=decide_eq_true (by omega)
 simp only [Option.getD_none,Option.getD_some,e1,e2,Int.toNat_natCast]
 rfl
theorem bounds_lo {n i:Nat} (h:i ≤ n):bounds n (some (i:Int)) none = (true,i,n):=by
 unfold bounds
 have e1:decide ((0:Int) ≤ ((i:Nat):Int)) = true:=decide_eq_true (by omega)
 have e2:decide (((i:Nat):Int) ≤ (n:Int)) = true:=decide_eq_true (by omega)
 have e3:decide ((n:Int) ≤ (n:Int)) = true:=decide_eq_true (by omega)
 simp only [Option.getD_none,Option.getD_some,e1,e2,e3,Int.toNat_natCast]
 rfl
theorem head_rg (F:Nat) (hF:64 < F) {R:Type} (k:Int→Option R) (k2:tPlan.T→Option R) (L:List tDim.T) (N:Int) (p:tPlan.T) (hp:p.2.1 = L) (hL:L.length ≤ 32):∀ (xs:List tDim.T) (i:Nat),L.drop i = xs →
  tree_head.l6.rg F k k (fun _ _ _ _ p=>k2 p) L N xs (i:Int) p = bif dE (L.take i) xs != 0 then k (dE (L.take i) xs) else k2 p:=by
 intro xs
 induction xs with
 | nil=>intro i h; rfl
 | cons d xs ih =>
  intro i h
  have hi:=rg_len h
  have hd:L[i]? = some d:=by have:=congrArg (·[0]?) h; simpa using this
  have htake:L.take (i + 1) = L.take i ++ [d]:=by rw [List.take_add_one,hd]; rfl
  simp only [tree_head.l6.rg]
  rw [name_eq F hF]
  simp only [oB_some,dE]
  rw [← rg_cast,ih (i + 1) (rg_next h),htake]
  cases hn:nameB d.1.data.toList with
  | false=>rfl
  | true =>
   simp only [Bool.not_true,cond_false]
   rw [hp,bounds_hi (by omega)]
   simp only [cond_true,List.drop_zero]
   rw [containsF_eq F (by simp; omega) (by simp; omega)]
   simp only [oB_some]
   cases hc:(L.take i).any (fun e=>sameN e.1 d.1) with
   | true=>rfl
   | false =>
    simp only [cond_false]
    cases decide (dS d < 1) with
    | true=>rfl
    | false =>
     cases decide (dS d > 1000000000000) with
     | true=>rfl
     | false=>rfl
theorem head_eq (F:Nat) (hF:64 < F) (p:tPlan.T):tree_head.sh F p = some ((headE p.1 p.2.1 p.2.2.1,()),()):=by
 unfold tree_head.sh headE
 rw [name_eq F hF]
 simp only [oB_some]
 cases hn:nameB p.1.data.toList with
 | false=>rfl
 | true =>
  simp only [Bool.not_true,cond_false]
  cases h1:decide ((p.2.1.length:Int) < 1) with
  | true=>rfl
  | false =>
   cases h2:decide ((p.2.1.length:Int) > 4) with
   | true=>rfl
   | false =>
    have h2:=of_decide_eq_false h2
    simp only [cond_false]
    refine Eq.trans (tree_head.l6.rg_eq F _ _ _ p.2.1 _ rfl (by omega) p.2.1 0 F _ (by simp) (by omega)) ?_
    refine (head_rg F hF (fun r=>(some ((r,()),()):Option tree_head.sg.R)) (fun p=>bif decide (p.2.2.1 < 0) then some ((50,()),()) else bif decide (p.2.2.1 > 4) then some ((50,()),()) else some ((0,()),())) p.2.1 (p.2.1.length:Int) p rfl (by omega) p.2.1 0 (by simp)).trans ?_
    simp only [List.take_zero]
    cases (dE [] p.2.1 != 0) with
    | true=>rfl
    | false =>
     cases decide (p.2.2.1 < 0) with
     | true=>rfl
     | false=>cases decide (p.2.2.1 > 4) <;> rfl
abbrev nK (n:tNode.T):Int:=n.1
abbrev nN (n:tNode.T):Int:=n.2.1
abbrev nO (n:tNode.T):Int:=n.2.2.1
abbrev nC (n:tNode.T):Int:=n.2.2.2.1
abbrev nT (n:tNode.T):List tTier.T:=n.2.2.2.2.1
abbrev asks (n:tNode.T):Int×Int×Bool×Bool:=get tTree_asks kindsL (nK n).toNat
abbrev aK (n:tNode.T):Int:=(asks n).1
def ar (n:tNode.T):Nat:=bif decide (aK n ≥ 0) then (aK n).toNat else (nC n).toNat
def goodK (n:tNode.T):Bool:=decide (1 ≤ nK n) && decide (nK n ≤ 16)
def kidsK (n:tNode.T):Bool:=bif decide (aK n < 0) then decide (nC n ≥ 2) && decide (nC n ≤ 16) else nC n == 0
theorem goodK_iff {n:tNode.T}:goodK n = true ↔ 1 ≤ nK n∧nK n ≤ 16:=by simp [goodK]
theorem takes_eq (F:Nat) {n:tNode.T} (h:goodK n = true) (hk:kidsK n = true):tree_takes.sh F n = some (((ar n:Int),()),()):=by
 unfold tree_takes.sh
 have hg:=goodK_iff.1 h
 have e1:idx (nK n) 17 = true:=idx_of (by omega) (by omega)
 unfold ar
 unfold kidsK at hk
 rw [show idx n.1 17 = true from e1]
 simp only [cond_true]
 cases ha:decide (aK n ≥ 0) with
 | true =>
  have ha':=of_decide_eq_true ha
  simp only [cond_true]
  have:(((aK n).toNat:Nat):Int) = aK n:=by omega
  rw [this]
 | false =>
  have ha':=of_decide_eq_false ha
  simp only [cond_false]
  rw [decide_eq_true (show aK n < 0 by omega)] at hk
  simp at hk
  have:(((nC n).toNat:Nat):Int) = nC n:=by omega
  rw [this]
abbrev tF (x:tTier.T):Int:=x.1
abbrev tR (x:tTier.T):Int:=x.2
def okTier (l:List tTier.T) (i:Nat) (x:tTier.T):Bool:=(decide (i = 0) || !decide (tF x ≤ tF (l.getD (i - 1) (0,0)))) && (!decide (tF x > 1000000000000) && (!decide (tR x < -1000000000000) && !decide (tR x > 1000000000000)))
def okTiers (l:List tTier.T):List tTier.T→Nat→Bool
 | [],_=>true
 | x :: r,i=>okTier l i x && okTiers l r (i + 1)
def risB (l:List tTier.T):Bool:=decide (1 ≤ l.length) && (decide (l.length ≤ 16) && (decide (tF (l.getD 0 (0,0)) = 0) && okTiers l l 0))
theorem rising_rg (F:Nat) {R:Type} (k:Bool→Option R) (k1:Option R) (l:List tTier.T) (N:Int) (hl:l.length ≤ 32):∀ (xs:List tTier.T) (i:Nat),l.drop i = xs →
  tree_rising.l4.rg F k (fun _ _ _ _ _=>k1) l N xs (i:Int) l = bif okTiers l xs i then k1 else k false:=by
 intro xs
 induction xs with
 | nil=>intro i h; simp [tree_rising.l4.rg,okTiers]
 | cons x xs ih =>
  intro i h
  have hi:=rg_len h
  have ih:=ih (i + 1) (rg_next h)
  rw [rg_cast] at ih
  simp only [tree_rising.l4.rg,okTiers,okTier]
  by_cases h0:i = 0
  ·subst h0
   have e1:decide (((0:Nat):Int) > 0) = false:=rfl
   simp only [e1,cond_false,decide_true,Bool.true_or,Bool.true_and]
   cases decide (tF x > 1000000000000) <;> cases decide (tR x < -1000000000000) <;> cases decide (tR x > 1000000000000) <;> first | rfl | exact ih
  ·have e1:decide (((i:Nat):Int) > 0) = true:=decide_eq_true (by omega)
   have e2:IntKind.i64.wrap ((i:Int) - 1) = ((i - 1:Nat):Int):=by rw [wrap_i64 (by omega) (by omega)]; omega
   have e3:idx ((i - 1:Nat):Int) l.length = true:=rg_idx (by omega)
   have e4:get tTier l (((i - 1:Nat):Int).toNat) = l.getD (i - 1) (0,0):=rfl
   have e5:decide (i = 0) = false:=decide_eq_false h0
   simp only [e1,e2,e3,e4,e5,cond_true,Bool.false_or]
   cases decide (tF x ≤ tF (l.getD (i - 1) (0,0))) <;> cases decide (tF x > 1000000000000) <;> cases decide (tR x < -1000000000000) <;> cases decide (tR x > 1000000000000) <;> first | rfl | exact ih
theorem rising_eq (F:Nat) (hF:64 < F) (l:List tTier.T):tree_rising.sh F l = some ((risB l,()),()):=by
 unfold tree_rising.sh risB
 by_cases h1:1 ≤ l.length
 ·have e1:decide ((l.length:Int) < 1) = false:=decide_eq_false (by omega)
  by_cases h2:l.length ≤ 16
  ·have e2:decide ((l.length:Int) > 16) = false:=decide_eq_false (by omega)
   have e3:idx 0 l.length = true:=rg_idx (i:=0) (by omega)
   simp only [e1,e2,e3,cond_false,cond_true,h1,h2,decide_true,Bool.true_and]
   have e4:get tTier l 0 = l.getD 0 (0,0):=rfl
   rw [e4]
   by_cases h3:tF (l.getD 0 (0,0)) = 0
   ·have e5:(tF (l.getD 0 (0,0)) != 0) = false:=by rw [h3]; rfl
    rw [e5,h3]
    simp only [cond_false,decide_true,Bool.true_and]
    refine Eq.trans (tree_rising.l4.rg_eq F _ _ l _ rfl (by omega) l 0 F _ (by simp) (by omega)) ?_
    refine Eq.trans (rising_rg F (fun r=>(some ((r,()),()):Option tree_rising.sg.R)) (some ((true,()),())) l (l.length:Int) (by omega) l 0 (by simp)) ?_
    cases okTiers l l 0 <;> rfl
   ·have e5:(tF (l.getD 0 (0,0)) != 0) = true:=bne_iff_ne.2 h3
    have e6:decide (tF (l.getD 0 (0,0)) = 0) = false:=decide_eq_false h3
    rw [e5,e6]
    rfl
  ·have e2:decide ((l.length:Int) > 16) = true:=decide_eq_true (by omega)
   have e3:decide (l.length ≤ 16) = false:=decide_eq_false h2
   rw [e1,e2,e3]
   simp
 ·have e1:decide ((l.length:Int) < 1) = true:=decide_eq_true (by omega)
  have e3:decide (1 ≤ l.length) = false:=decide_eq_false h1
  rw [e1,e3]
  rfl
def mostN (n:tNode.T) (dims:Nat):Int:=bif decide ((asks n).2.1 < 0) then (dims:Int) - 1 else (asks n).2.1
def opB (n:tNode.T):Bool:=bif (asks n).2.2.2 then decide (nO n ≥ 1) && decide (nO n ≤ 6) else nO n == 0
def tierB (n:tNode.T):Bool:=(asks n).2.2.1
def nodeE (dims:Nat) (n:tNode.T) (pile:Nat):Int :=
 bif !goodK n then 50 else bif decide (nN n < 0) then 50 else bif decide (nN n > mostN n dims) then 50 else bif !kidsK n then 50 else bif !opB n then 50
 else bif !tierB n && decide (((nT n).length:Int) > 0) then 50 else bif decide ((pile:Int) < (ar n:Int)) then 50 else bif tierB n && !risB (nT n) then 51 else 0
theorem node_j13 (F:Nat) (hF:64 < F) {R:Type} (k:Int→Option R) {n:tNode.T} (hg:goodK n = true) (pile:Nat) (most:Int) (kids op:Bool) (hk:kids = true→kidsK n = true) (a:tTree_asks.T) :
  tree_node.j13 F k k k (pile:Int) most kids op n a = k (bif decide (nN n < 0) then 50 else bif decide (nN n > most) then 50 else bif !kids then 50 else bif !op then 50
 else bif !a.2.2.1 && decide (((nT n).length:Int) > 0) then 50 else bif decide ((pile:Int) < (ar n:Int)) then 50 else bif a.2.2.1 && !risB (nT n) then 51 else 0):=by
 unfold tree_node.j13
 cases h1:decide (nN n < 0) with
 | true=>rfl
 | false =>
  cases h2:decide (nN n > most) with
  | true=>rfl
  | false =>
   cases kids with
   | false=>rfl
   | true =>
    cases op with
    | false=>rfl
    | true =>
     simp only [Bool.not_true,cond_false]
     rw [takes_eq F hg (hk rfl)]
     simp only [oB_some]
     rw [rising_eq F hF]
     simp only [oB_some]
     cases h3:a.2.2.1 with
     | false =>
      simp only [Bool.not_false,cond_true,Bool.true_and,cond_false,Bool.false_and]
      cases decide (((nT n).length:Int) > 0) with
      | true=>rfl
      | false=>cases decide ((pile:Int) < (ar n:Int)) <;> rfl
     | true =>
      simp only [Bool.not_true,cond_true,Bool.true_and,cond_false,Bool.false_and]
      cases decide ((pile:Int) < (ar n:Int)) with
      | true=>rfl
      | false=>cases risB (nT n) <;> rfl
theorem node_eq (F:Nat) (hF:64 < F) (n:tNode.T) {dims:Nat} (hd:dims < 4611686018427387904) (pile:Nat):tree_node.sh F n (dims:Int) (pile:Int) = some ((nodeE dims n pile,()),()):=by
 unfold tree_node.sh nodeE
 cases hg:goodK n with
 | false =>
  have:decide ((n.1:Int) < 1) = true ∨ decide ((n.1:Int) > 16) = true:=by
   rcases Int.lt_or_le (nK n) 1 with h | h
   ·exact .inl (decide_eq_true h)
   ·rcases Int.lt_or_le 16 (nK n) with h' | h'
    ·exact .inr (decide_eq_true h')
    ·rw [goodK_iff.2 ⟨h,h'⟩] at hg; cases hg
  rcases this with h | h
  ·rw [h]; rfl
  ·rw [h]; cases decide ((n.1:Int) < 1) <;> rfl
 | true =>
  have hg':=goodK_iff.1 hg
  have e1:decide ((nK n:Int) < 1) = false:=decide_eq_false (by omega)
  have e2:decide ((nK n:Int) > 16) = false:=decide_eq_false (by omega)
  have e3:idx (nK n) 17 = true:=idx_of (by omega) (by omega)
  rw [show decide (n.1 < 1) = false from e1,show decide (n.1 > 16) = false from e2,show idx n.1 17 = true from e3]
  simp only [cond_false,cond_true,Bool.not_true]
  have hw:IntKind.i64.wrap ((dims:Int) - 1) = (dims:Int) - 1:=wrap_i64 (by omega) (by omega)
  rw [hw]
  have key:∀ most:Int,tree_node.j7 F (fun r=>(some ((r,()),()):Option tree_node.sg.R)) (fun r=>some ((r,()),())) (fun r=>some ((r,()),())) (pile:Int) most n (asks n) =
   some ((bif decide (nN n < 0) then 50 else bif decide (nN n > most) then 50 else bif !kidsK n then 50 else bif !opB n then 50
    else bif !tierB n && decide (((nT n).length:Int) > 0) then 50 else bif decide ((pile:Int) < (ar n:Int)) then 50 else bif tierB n && !risB (nT n) then 51 else 0,()),()):=by
   intro most
   have k10:∀ kids:Bool,kids = kidsK n→tree_node.j10 F (fun r=>(some ((r,()),()):Option tree_node.sg.R)) (fun r=>some ((r,()),())) (fun r=>some ((r,()),())) (pile:Int) most kids n (asks n) =
    some ((bif decide (nN n < 0) then 50 else bif decide (nN n > most) then 50 else bif !kidsK n then 50 else bif !opB n then 50
     else bif !tierB n && decide (((nT n).length:Int) > 0) then 50 else bif decide ((pile:Int) < (ar n:Int)) then 50 else bif tierB n && !risB (nT n) then 51 else 0,()),()):=by
    intro kids hkk
    have k13:=fun op:Bool=>node_j13 F hF (fun r=>(some ((r,()),()):Option tree_node.sg.R)) hg pile most kids op (fun h=>by rw [← hkk,h]) (asks n)
    unfold tree_node.j10
    rw [show (fun r=>(some ((r,()),()):Option tree_node.sg.R)) = (fun r=>some ((r,()),())) from rfl] at k13
    rw [k13,k13,k13,hkk]
    unfold opB tierB
    cases (asks n).2.2.2 with
    | false=>rfl
    | true=>cases decide (nO n ≥ 1) <;> rfl
   unfold tree_node.j7
   cases ha:decide (aK n < 0) with
   | true =>
    cases hc:decide (nC n ≥ 2) with
    | true=>exact k10 _ (by unfold kidsK; rw [ha,hc]; rfl)
    | false=>exact k10 _ (by unfold kidsK; rw [ha,hc]; rfl)
   | false=>exact k10 _ (by unfold kidsK; rw [ha]; rfl)
  unfold mostN
  cases hm:decide ((asks n).2.1 < 0) with
  | true=>exact key _
  | false=>exact key _
def chkE (dims:Nat):List tNode.T→Nat→Nat→Option (Nat×Int)
 | [],_,_=>none
 | n :: r,pile,i=>bif nodeE dims n pile != 0 then some (i,nodeE dims n pile) else chkE dims r (pile - ar n + 1) (i + 1)
def chkP:List tNode.T→Nat→Nat
 | [],pile=>pile
 | n :: r,pile=>chkP r (pile - ar n + 1)
theorem nodeE_ok {dims:Nat} {n:tNode.T} {pile:Nat} (h:nodeE dims n pile = 0) :
  goodK n = true∧0 ≤ nN n∧nN n ≤ mostN n dims∧kidsK n = true∧opB n = true∧(tierB n = false→nT n = [])∧ar n ≤ pile∧(tierB n = true→risB (nT n) = true):=by
 unfold nodeE at h
 cases h1:goodK n with
 | false=>rw [h1] at h; exact absurd (show (50:Int) = 0 from h) (by decide)
 | true =>
 rw [h1] at h
 cases h2:decide (nN n < 0) with
 | true=>rw [h2] at h; exact absurd (show (50:Int) = 0 from h) (by decide)
 | false =>
 rw [h2] at h
 cases h3:decide (nN n > mostN n dims) with
 | true=>rw [h3] at h; exact absurd (show (50:Int) = 0 from h) (by decide)
 | false =>
 rw [h3] at h
 cases h4:kidsK n with
 | false=>rw [h4] at h; exact absurd (show (50:Int) = 0 from h) (by decide)
 | true =>
 rw [h4] at h
 cases h5:opB n with
 | false=>rw [h5] at h; exact absurd (show (50:Int) = 0 from h) (by decide)
 | true =>
 rw [h5] at h
 cases h6:(!tierB n && decide (((nT n).length:Int) > 0)) with
 | true=>rw [h6] at h; exact absurd (show (50:Int) = 0 from h) (by decide)
 | false =>
 rw [h6] at h
 cases h7:decide ((pile:Int) < (ar n:Int)) with
 | true=>rw [h7] at h; exact absurd (show (50:Int) = 0 from h) (by decide)
 | false =>
 rw [h7] at h
 cases h8:(tierB n && !risB (nT n)) with
 | true=>rw [h8] at h; exact absurd (show (51:Int) = 0 from h) (by decide)
 | false =>
 have h2:=of_decide_eq_false h2
 have h3:=of_decide_eq_false h3
 have h7:=of_decide_eq_false h7
 refine ⟨rfl,by omega,by omega,rfl,rfl,fun ht=>?_,by omega,fun ht=>?_⟩
 ·rw [ht] at h6
  simp only [Bool.not_false,Bool.true_and] at h6
  have h6:=of_decide_eq_false h6
  exact List.eq_nil_of_length_eq_zero (by omega)
 ·rw [ht] at h8
  simp only [Bool.true_and] at h8
  cases hr:risB (nT n) with
  | true=>rfl
  | false=>rw [hr] at h8; cases h8
theorem ar_le {n:tNode.T} (hg:goodK n = true) (hk:kidsK n = true):ar n ≤ 16:=by
 unfold ar
 unfold kidsK at hk
 cases h:decide (aK n < 0) with
 | true =>
  have h':=of_decide_eq_true h
  rw [h] at hk
  simp at hk
  rw [decide_eq_false (show ¬ aK n ≥ 0 by omega)]
  simp only [cond_false]
  omega
 | false =>
  have h':=of_decide_eq_false h
  rw [decide_eq_true (show aK n ≥ 0 by omega)]
  simp only [cond_true]
  have hg:=goodK_iff.1 hg
  have:∀ i:Nat,(get tTree_asks kindsL i).1 ≤ (16:Int):=by
   intro i
   rcases Nat.lt_or_ge i 17 with hi | hi
   ·have:∀ j:Fin 17,(get tTree_asks kindsL j.1).1 ≤ (16:Int):=by decide
    exact this ⟨i,hi⟩
   ·have:get tTree_asks kindsL i = Ty.dflt tTree_asks:=by
     unfold get
     rw [List.getD_eq_getElem?_getD,List.getElem?_eq_none (by exact hi)]
     rfl
    rw [this]; decide
  have:aK n ≤ (16:Int):=this _
  omega
theorem check_rg (F:Nat) (hF:64 < F) {R:Type} (k0:Int→Int→Option R) (k1:Int→tPlan.T→Option R) (L:List tNode.T) (N:Int) (p:tPlan.T) (hp:p.2.1.length ≤ 32):∀ (xs:List tNode.T) (i pile:Nat),pile + xs.length < 4611686018427387904 →
  tree_Check.l8.rg F k0 (fun pile _ _ _ _ p=>k1 pile p) L N xs (i:Int) (pile:Int) p = match chkE p.2.1.length xs pile i with | some (j,e)=>k0 (j:Int) e | none=>k1 (chkP xs pile:Int) p:=by
 intro xs
 induction xs with
 | nil=>intro i pile h; rfl
 | cons n xs ih =>
  intro i pile h
  simp only [List.length_cons] at h
  simp only [tree_Check.l8.rg]
  rw [node_eq F hF n (by omega)]
  simp only [oB_some,chkE,chkP]
  cases he:(nodeE p.2.1.length n pile != 0) with
  | true=>rfl
  | false =>
   simp only [cond_false]
   have he:nodeE p.2.1.length n pile = 0:=by simpa using he
   obtain ⟨h1,h2,h3,h4,h5,h6,h7,h8⟩:=nodeE_ok he
   have ha:=ar_le h1 h4
   rw [takes_eq F h1 h4]
   simp only [oB_some]
   rw [wrap_i64 (n:=1 - (ar n:Int)) (by omega) (by omega),wrap_i64 (by omega) (by omega)]
   rw [show (pile:Int) + (1 - (ar n:Int)) = ((pile - ar n + 1:Nat):Int) by omega]
   have:=ih (i + 1) (pile - ar n + 1) (by omega)
   rw [rg_cast] at this
   exact this
def checkS (p:tPlan.T):Int×Int :=
 bif headE p.1 p.2.1 p.2.2.1 != 0 then (-1,headE p.1 p.2.1 p.2.2.1) else bif decide ((p.2.2.2.length:Int) > 1024) then (1024,2) else
 match chkE p.2.1.length p.2.2.2 0 0 with
 | some (j,e)=>((j:Int),e)
 | none=>bif ((chkP p.2.2.2 0:Int) != 1) then ((p.2.2.2.length:Int),50) else (0,0)
theorem headE_dims {name:ByteArray} {dims:List tDim.T} {mode:Int} (h:headE name dims mode = 0):1 ≤ dims.length∧dims.length ≤ 4∧dE [] dims = 0∧nameB name.data.toList = true∧0 ≤ mode∧mode ≤ 4:=by
 unfold headE at h
 cases h0:nameB name.data.toList with
 | false=>rw [h0] at h; exact absurd (show (61:Int) = 0 from h) (by decide)
 | true =>
 rw [h0] at h
 cases h1:decide ((dims.length:Int) < 1) with
 | true=>rw [h1] at h; exact absurd (show (100:Int) = 0 from h) (by decide)
 | false =>
 rw [h1] at h
 cases h2:decide ((dims.length:Int) > 4) with
 | true=>rw [h2] at h; exact absurd (show (100:Int) = 0 from h) (by decide)
 | false =>
 rw [h2] at h
 cases h3:(dE [] dims != 0) with
 | true=>rw [h3] at h; simp only [Bool.not_true,cond_false,cond_true] at h; rw [h] at h3; exact absurd h3 (by decide)
 | false =>
 rw [h3] at h
 cases h4:decide (mode < 0) with
 | true=>rw [h4] at h; exact absurd (show (50:Int) = 0 from h) (by decide)
 | false =>
 rw [h4] at h
 cases h5:decide (mode > 4) with
 | true=>rw [h5] at h; exact absurd (show (50:Int) = 0 from h) (by decide)
 | false =>
 have h1:=of_decide_eq_false h1
 have h2:=of_decide_eq_false h2
 have h4:=of_decide_eq_false h4
 have h5:=of_decide_eq_false h5
 refine ⟨by omega,by omega,by simpa using h3,rfl,by omega,by omega⟩
theorem check_eq (F:Nat) (hF:2048 < F) (p:tPlan.T):tree_Check.sh F p = some (((checkS p).1,(checkS p).2,()),()):=by
 unfold tree_Check.sh checkS
 rw [head_eq F (by omega)]
 simp only [oB_some]
 cases h:(headE p.1 p.2.1 p.2.2.1 != 0) with
 | true=>rfl
 | false =>
  have hh:=headE_dims (show headE p.1 p.2.1 p.2.2.1 = 0 by simpa using h)
  cases h1:decide ((p.2.2.2.length:Int) > 1024) with
  | true=>rfl
  | false =>
   have h1:=of_decide_eq_false h1
   simp only [cond_false]
   refine Eq.trans (tree_Check.l8.rg_eq F _ _ p.2.2.2 _ rfl (by omega) p.2.2.2 0 F _ _ (by simp) (by omega)) ?_
   refine (check_rg F (by omega) (fun r24 r34=>(some ((r24,r34,()),()):Option tree_Check.sg.R)) (fun pile5 p5=>bif (pile5 != 1) then some (((p5.2.2.2.length:Int),50,()),()) else some ((0,0,()),())) p.2.2.2 (p.2.2.2.length:Int) p (by omega) p.2.2.2 0 0 (by omega)).trans ?_
   cases chkE p.2.1.length p.2.2.2 0 0 with
   | some x=>rfl
   | none=>cases hc:((chkP p.2.2.2 0:Int) != 1) <;> simp only [cond_true,cond_false,hc]
inductive Tree:Type
 | nd:tNode.T→List Tree→Tree
mutual
def Tree.fold {α:Type} (f:tNode.T→List α→α):Tree→α
 | .nd n ks=>f n (Tree.foldL f ks)
def Tree.foldL {α:Type} (f:tNode.T→List α→α):List Tree→List α
 | []=>[]
 | t :: r=>Tree.fold f t :: Tree.foldL f r
end
theorem Tree.foldL_map {α:Type} (f:tNode.T→List α→α):∀ l:List Tree,Tree.foldL f l = l.map (Tree.fold f)
 | []=>rfl
 | t :: r=>by rw [Tree.foldL,Tree.foldL_map f r]; rfl
theorem Tree.fold_nd {α:Type} (f:tNode.T→List α→α) (n:tNode.T) (ks:List Tree):Tree.fold f (.nd n ks) = f n (ks.map (Tree.fold f)):=by
 rw [Tree.fold,Tree.foldL_map]
theorem Tree.ind {P:Tree→Prop} (h:∀ n ks,(∀ k ∈ ks,P k)→P (.nd n ks)) (t:Tree):P t :=
 Tree.rec (motive_1:=P) (motive_2:=fun l=>∀ k ∈ l,P k) (fun n ks ih=>h n ks ih) (by simp) (fun t r h1 h2 k hk=>by
  rcases List.mem_cons.1 hk with rfl | hk
  ·exact h1
  ·exact h2 k hk) t
def Tree.root:Tree→tNode.T | .nd n _=>n
def Tree.kids:Tree→List Tree | .nd _ ks=>ks
def Tree.flat:Tree→List tNode.T:=Tree.fold (fun n ks=>ks.flatten ++ [n])
def flats (l:List Tree):List tNode.T:=(l.map Tree.flat).flatten
theorem flat_nd (n:tNode.T) (ks:List Tree):Tree.flat (.nd n ks) = flats ks ++ [n]:=Tree.fold_nd _ n ks
def Tree.size (t:Tree):Nat:=t.flat.length
def subsT:Tree→Tree×List Tree:=Tree.fold (fun n ks=>(.nd n (ks.map (·.1)),(ks.map (·.2)).flatten ++ [.nd n (ks.map (·.1))]))
theorem subsT_fst (t:Tree):(subsT t).1 = t:=by
 refine Tree.ind (P:=fun t=>(subsT t).1 = t) (fun n ks ih=>?_) t
 unfold subsT at *
 rw [Tree.fold_nd]
 simp only [List.map_map]
 congr 1
 exact (List.map_congr_left ih).trans (List.map_id' ks)
def Tree.subs (t:Tree):List Tree:=(subsT t).2
def subss (l:List Tree):List Tree:=(l.map Tree.subs).flatten
theorem subs_nd (n:tNode.T) (ks:List Tree):Tree.subs (.nd n ks) = subss ks ++ [.nd n ks]:=by
 have:(ks.map (fun k=>(subsT k).1)) = ks:=(List.map_congr_left (fun k _=>subsT_fst k)).trans (List.map_id' ks)
 unfold Tree.subs subss
 rw [subsT,Tree.fold_nd,← subsT]
 simp only [List.map_map]
 rw [show ((fun x:Tree×List Tree=>x.1) ∘ subsT) = (fun k=>(subsT k).1) from rfl,this]
 rfl
theorem subs_len (t:Tree):t.subs.length = t.flat.length:=by
 refine Tree.ind (P:=fun t=>t.subs.length = t.flat.length) (fun n ks ih=>?_) t
 rw [subs_nd,flat_nd]
 simp only [List.length_append,List.length_cons,List.length_nil,subss,flats,List.length_flatten,List.map_map]
 congr 2
 exact List.map_congr_left (fun k hk=>ih k hk)
def topT (st:List Tree) (n:tNode.T):Tree:=.nd n (st.drop (st.length - ar n))
def stepT (st:List Tree) (n:tNode.T):List Tree:=st.take (st.length - ar n) ++ [topT st n]
def news:List Tree→List tNode.T→List Tree
 | _,[]=>[]
 | st,n :: r=>topT st n :: news (stepT st n) r
def endT:List Tree→List tNode.T→List Tree
 | st,[]=>st
 | st,n :: r=>endT (stepT st n) r
def okS (dims:Nat):List Tree→List tNode.T→Prop
 | _,[]=>True
 | st,n :: r=>nodeE dims n st.length = 0∧okS dims (stepT st n) r
theorem stepT_len {st:List Tree} {n:tNode.T} (h:ar n ≤ st.length):(stepT st n).length = st.length - ar n + 1:=by
 simp [stepT]
theorem chk_ok (dims:Nat):∀ (xs:List tNode.T) (st:List Tree) (i:Nat),chkE dims xs st.length i = none→okS dims st xs∧(endT st xs).length = chkP xs st.length
 | [],st,i,h=>⟨trivial,rfl⟩
 | n :: r,st,i,h=>by
  simp only [chkE] at h
  cases he:(nodeE dims n st.length != 0) with
  | true=>rw [he] at h; cases h
  | false =>
   rw [he] at h
   have he:nodeE dims n st.length = 0:=by simpa using he
   have hl:=stepT_len (nodeE_ok he).2.2.2.2.2.2.1
   simp only [cond_false] at h
   rw [← hl] at h
   have:=chk_ok dims r (stepT st n) (i + 1) h
   refine ⟨⟨he,this.1⟩,?_⟩
   rw [endT,this.2,hl]
   rfl
theorem ok_chk (dims:Nat):∀ (xs:List tNode.T) (st:List Tree) (i:Nat),okS dims st xs→chkE dims xs st.length i = none∧chkP xs st.length = (endT st xs).length
 | [],st,i,h=>⟨rfl,rfl⟩
 | n :: r,st,i,h=>by
  have hl:=stepT_len (nodeE_ok h.1).2.2.2.2.2.2.1
  have:=ok_chk dims r (stepT st n) (i + 1) h.2
  rw [hl] at this
  simp only [chkE,h.1,chkP,endT]
  exact this
theorem flats_app (a b:List Tree):flats (a ++ b) = flats a ++ flats b:=by simp [flats]
theorem flats_one (t:Tree):flats [t] = t.flat:=by simp [flats]
theorem flats_step (st:List Tree) (n:tNode.T):flats (stepT st n) = flats st ++ [n]:=by
 unfold stepT topT
 rw [flats_app,flats_one,flat_nd,← List.append_assoc,← flats_app,List.take_append_drop]
theorem flats_end:∀ (xs:List tNode.T) (st:List Tree),flats (endT st xs) = flats st ++ xs
 | [],st=>by simp [endT]
 | n :: r,st=>by rw [endT,flats_end r,flats_step]; simp
theorem subss_app (a b:List Tree):subss (a ++ b) = subss a ++ subss b:=by simp [subss]
theorem subss_one (t:Tree):subss [t] = t.subs:=by simp [subss]
theorem subss_step (st:List Tree) (n:tNode.T):subss (stepT st n) = subss st ++ [topT st n]:=by
 unfold stepT
 rw [subss_app,subss_one,topT,subs_nd,← List.append_assoc,← subss_app,List.take_append_drop]
theorem subss_end:∀ (xs:List tNode.T) (st:List Tree),subss (endT st xs) = subss st ++ news st xs
 | [],st=>by simp [endT,news]
 | n :: r,st=>by rw [endT,subss_end r,subss_step,news]; simp
theorem endT_app:∀ (xs ys:List tNode.T) (st:List Tree),endT st (xs ++ ys) = endT (endT st xs) ys
 | [],ys,st=>rfl
 | n :: r,ys,st=>by simp only [List.cons_append,endT,endT_app r ys]
theorem okS_app (dims:Nat):∀ (xs ys:List tNode.T) (st:List Tree),okS dims st (xs ++ ys) ↔ okS dims st xs∧okS dims (endT st xs) ys
 | [],ys,st=>by simp [okS,endT]
 | n :: r,ys,st=>by simp only [List.cons_append,okS,endT,okS_app dims r ys]; exact and_assoc.symm
theorem step_frame {b st:List Tree} {n:tNode.T} (h:ar n ≤ st.length):topT (b ++ st) n = topT st n∧stepT (b ++ st) n = b ++ stepT st n:=by
 have e:(b ++ st).length - ar n = b.length + (st.length - ar n):=by simp; omega
 have e1:topT (b ++ st) n = topT st n:=by
  unfold topT
  rw [e,List.drop_append]
  simp
 refine ⟨e1,?_⟩
 unfold stepT
 rw [e1,e,List.take_append,List.take_of_length_le (by omega)]
 simp
theorem nodeE_more {dims:Nat} {n:tNode.T} {p q:Nat} (h:nodeE dims n p = 0) (hq:p ≤ q):nodeE dims n q = 0:=by
 have hh:=nodeE_ok h
 have h7:decide ((p:Int) < (ar n:Int)) = false:=decide_eq_false (by have:=hh.2.2.2.2.2.2.1; omega)
 have h7':decide ((q:Int) < (ar n:Int)) = false:=decide_eq_false (by have:=hh.2.2.2.2.2.2.1; omega)
 unfold nodeE at *
 rw [h7] at h
 rw [h7']
 exact h
theorem frame (dims:Nat) (b:List Tree):∀ (xs:List tNode.T) (st:List Tree),okS dims st xs→okS dims (b ++ st) xs∧news (b ++ st) xs = news st xs∧endT (b ++ st) xs = b ++ endT st xs
 | [],st,h=>⟨trivial,rfl,rfl⟩
 | n :: r,st,h=>by
  have hf:=step_frame (b:=b) (nodeE_ok h.1).2.2.2.2.2.2.1
  have:=frame dims b r (stepT st n) h.2
  simp only [okS,news,endT,hf.1,hf.2]
  refine ⟨⟨nodeE_more h.1 (by simp),this.1⟩,?_,this.2.2⟩
  rw [this.2.1]
theorem size_nd (n:tNode.T) (ks:List Tree):Tree.size (.nd n ks) = (flats ks).length + 1:=by simp [Tree.size,flat_nd]
theorem size_pos (t:Tree):1 ≤ t.size:=by
 cases t with
 | nd n ks=>rw [size_nd]; omega
theorem flats_cons (t:Tree) (l:List Tree):flats (t :: l) = t.flat ++ flats l:=by simp [flats]
theorem len_flats:∀ st:List Tree,st.length ≤ (flats st).length
 | []=>by simp
 | t :: r=>by
  have:=len_flats r
  have:=size_pos t
  rw [flats_cons]
  simp only [List.length_append,List.length_cons]
  unfold Tree.size at this
  omega
theorem ble_of {a:Nat} (h:a ≤ 4194304):Nat.ble a maxN = true:=by rw [Nat.ble_eq]; exact Nat.le_trans h (by decide)
theorem wrap_sub {a b:Nat} (h:b ≤ a) (ha:a < 4611686018427387904):IntKind.i64.wrap ((a:Int) - (b:Int)) = ((a - b:Nat):Int):=by
 rw [wrap_i64 (by omega) (by omega)]; omega
theorem top_size {st:List Tree} {n:tNode.T}:(topT st n).size + (flats (st.take (st.length - ar n))).length = (flats st).length + 1:=by
 unfold topT
 rw [size_nd]
 have:flats st = flats (st.take (st.length - ar n)) ++ flats (st.drop (st.length - ar n)):=by rw [← flats_app,List.take_append_drop]
 have:=congrArg List.length this
 simp only [List.length_append] at this
 omega
def starts:Nat→List Tree→List Int
 | _,[]=>[]
 | b,t :: r=>(b:Int) :: starts (b + t.size) r
def fsts:Nat→List Tree→List Int
 | _,[]=>[]
 | i,t :: r=>((i + 1 - t.size:Nat):Int) :: fsts (i + 1) r
theorem starts_len:∀ (l:List Tree) (b:Nat),(starts b l).length = l.length
 | [],b=>rfl
 | t :: r,b=>by simp [starts,starts_len r]
theorem fsts_len:∀ (l:List Tree) (b:Nat),(fsts b l).length = l.length
 | [],b=>rfl
 | t :: r,b=>by simp [fsts,fsts_len r]
theorem starts_app:∀ (a c:List Tree) (b:Nat),starts b (a ++ c) = starts b a ++ starts (b + (flats a).length) c
 | [],c,b=>by simp [starts,flats]
 | t :: r,c,b=>by
  simp only [List.cons_append,starts,starts_app r c,flats_cons,List.length_append]
  rw [show b + t.size + (flats r).length = b + (t.flat.length + (flats r).length) by unfold Tree.size; omega]
theorem starts_take (a:List Tree) (b m:Nat):(starts b a).take m = starts b (a.take m):=by
 have:starts b a = starts b (a.take m ++ a.drop m):=by rw [List.take_append_drop]
 rw [this,starts_app,List.take_append]
 simp only [starts_len,List.length_take]
 rcases Nat.le_total m a.length with h | h
 ·rw [Nat.min_eq_left h,Nat.sub_self,List.take_zero,List.append_nil,List.take_of_length_le (by rw [starts_len,List.length_take]; omega)]
 ·rw [List.drop_of_length_le h]
  simp only [starts,List.take_nil,List.append_nil]
  rw [List.take_of_length_le (by rw [starts_len,List.length_take]; omega)]
theorem starts_step (st:List Tree) (n:tNode.T):starts 0 (stepT st n) = (starts 0 st).take (st.length - ar n) ++ [(((flats (st.take (st.length - ar n))).length:Nat):Int)]:=by
 unfold stepT
 rw [starts_app,starts_take]
 simp only [starts,Nat.zero_add]
theorem starts_get {st:List Tree} {m:Nat} (h:m < st.length):(starts 0 st).getD m 0 = (((flats (st.take m)).length:Nat):Int):=by
 have e:st = st.take m ++ st.drop m:=by rw [List.take_append_drop]
 have:starts 0 st = starts 0 (st.take m) ++ starts (0 + (flats (st.take m)).length) (st.drop m):=by rw [← starts_app,List.take_append_drop]
 have hl:(starts 0 (st.take m)).length = m:=by rw [starts_len,List.length_take]; omega
 rw [List.getD_eq_getElem?_getD,this,List.getElem?_append_right (by omega),hl,Nat.sub_self]
 cases hd:st.drop m with
 | nil =>
  have:=congrArg List.length hd
  simp at this
  omega
 | cons t r=>simp [starts]
theorem firsts_rg (F:Nat) {R:Type} (dims:Nat) (k:List Int→Option R) (L:List tNode.T) (N:Int):∀ (xs:List tNode.T) (st:List Tree) (list:List Int),okS dims st xs→(flats st).length + xs.length ≤ 2048→list.length ≤ (flats st).length →
  tree_firsts.l3.rg F (fun _ _ _ _ list _=>k list) L N xs ((flats st).length:Int) list (starts 0 st) = k (list ++ fsts (flats st).length (news st xs)):=by
 intro xs
 induction xs with
 | nil=>intro st list h h2 h3; simp [tree_firsts.l3.rg,news,fsts]
 | cons n xs ih =>
  intro st list h h2 h3
  obtain ⟨g1,g2,g3,g4,g5,g6,g7,g8⟩:=nodeE_ok h.1
  have hst:=len_flats st
  have hfs:=congrArg List.length (flats_step st n)
  have hts:=top_size (st:=st) (n:=n)
  have htp:=size_pos (topT st n)
  simp only [List.length_cons,List.length_append,List.length_nil] at h2 hfs
  have IH:=ih (stepT st n) (list ++ [(((flats st).length + 1 - (topT st n).size:Nat):Int)]) h.2 (by omega) (by simp; omega)
  have e1:(flats st).length + 1 - (topT st n).size = (flats (st.take (st.length - ar n))).length:=by omega
  rw [hfs,starts_step,← e1] at IH
  simp only [tree_firsts.l3.rg]
  rw [takes_eq F g1 g4]
  simp only [oB_some,starts_len]
  rw [wrap_sub g7 (by omega)]
  rw [bounds_hi (by omega)]
  simp only [news,fsts,Int.toNat_natCast]
  simp only [Nat.zero_add,List.append_assoc,List.singleton_append] at IH
  rw [rg_cast] at IH
  cases hk:decide ((ar n:Int) > 0) with
  | true =>
   have hk:=of_decide_eq_true hk
   have hm:st.length - ar n < st.length:=by omega
   have e2:get (.int .i64) (starts 0 st) (st.length - ar n) = (((flats st).length + 1 - (topT st n).size:Nat):Int):=by rw [e1]; exact starts_get hm
   rw [rg_idx hm,e2]
   simp only [cond_true]
   rw [ble_of (by simp [starts_len]; omega),ble_of (by simp; omega)]
   simp only [cond_true]
   exact IH
  | false =>
   have hk:=of_decide_eq_false hk
   have hk0:ar n = 0:=by omega
   have e2:(flats st).length + 1 - (topT st n).size = (flats st).length:=by
    rw [e1,hk0,Nat.sub_zero,List.take_length]
   simp only [cond_false]
   rw [ble_of (by simp; omega),ble_of (by simp; omega)]
   simp only [cond_true]
   rw [hk0,Nat.sub_zero,List.take_of_length_le (by rw [starts_len]; omega),e2] at IH
   rw [e2]
   exact IH
def isQ (n:tNode.T):Bool:=nK n == 3 || nK n == 4
def noQ (t:Tree):Bool:=t.flat.all fun n=>!isQ n
def lastQ:List tNode.T→Int×Int→Int×Int
 | [],s=>s
 | n :: r,s=>lastQ r (s.1 + 1,bif isQ n then s.1 else s.2)
theorem lastQ_app:∀ (a b:List tNode.T) (s:Int×Int),lastQ (a ++ b) s = lastQ b (lastQ a s)
 | [],b,s=>rfl
 | n :: r,b,s=>lastQ_app r b _
theorem lastQ_fst:∀ (a:List tNode.T) (s:Int×Int),(lastQ a s).1 = s.1 + a.length
 | [],s=>by simp [lastQ]
 | n :: r,s=>by rw [lastQ,lastQ_fst r]; simp; omega
theorem lastQ_lt:∀ (c:List tNode.T) (s:Int×Int) (b:Int),b ≤ s.1→(decide ((lastQ c s).2 < b) = ((c.all fun n=>!isQ n) && decide (s.2 < b)))
 | [],s,b,h=>by rw [List.all_nil,Bool.true_and]; rfl
 | n :: r,s,b,h=>by
  rw [lastQ,lastQ_lt r _ b (by simp; omega)]
  simp only [List.all_cons]
  cases hq:isQ n with
  | true =>
   have:decide (s.1 < b) = false:=decide_eq_false (by omega)
   simp [this]
  | false=>simp
theorem lastQ_lo:∀ (a:List tNode.T) (s:Int×Int),s.2 < s.1→(lastQ a s).2 < (lastQ a s).1
 | [],s,h=>h
 | n :: r,s,h=>by
  rw [lastQ]
  refine lastQ_lo r _ ?_
  cases isQ n with
  | true=>simp only [cond_true]; omega
  | false=>simp only [cond_false]; omega
theorem noQ_top (st:List Tree) (n:tNode.T):decide ((lastQ (flats st ++ [n]) (0,-1)).2 < (((flats st).length + 1 - (topT st n).size:Nat):Int)) = noQ (topT st n):=by
 have hts:=top_size (st:=st) (n:=n)
 have e1:(flats st).length + 1 - (topT st n).size = (flats (st.take (st.length - ar n))).length:=by omega
 have e2:flats st ++ [n] = flats (st.take (st.length - ar n)) ++ (topT st n).flat:=by
  rw [← flats_step]; unfold stepT; rw [flats_app,flats_one]
 rw [e1,e2,lastQ_app]
 have h1:=lastQ_fst (flats (st.take (st.length - ar n))) (0,-1)
 rw [lastQ_lt _ _ _ (by rw [h1]; simp)]
 have h2:=lastQ_lo (flats (st.take (st.length - ar n))) (0,-1) (by decide)
 rw [h1] at h2
 simp only [Int.zero_add] at h2
 rw [decide_eq_true h2,Bool.and_true]
 rfl
theorem constant_rg (F:Nat) {R:Type} (dims:Nat) (k:List Bool→Option R) (L:List tNode.T) (N:Int) (list:List Int):∀ (xs:List tNode.T) (st:List Tree) (pre:List Int) (out:List Bool),okS dims st xs→(flats st).length + xs.length ≤ 2048 →
  list = pre ++ fsts (flats st).length (news st xs)→pre.length = (flats st).length→out.length = (flats st).length →
  tree_Constant.l7.rg F (fun _ _ _ _ _ _ out=>k out) L N xs ((flats st).length:Int) list (lastQ (flats st) (0,-1)).2 (out ++ List.replicate xs.length false) = k (out ++ (news st xs).map noQ):=by
 intro xs
 induction xs with
 | nil=>intro st pre out h h2 h3 h4 h5; simp [tree_Constant.l7.rg,news]
 | cons n xs ih =>
  intro st pre out h h2 h3 h4 h5
  have hfs:=congrArg List.length (flats_step st n)
  simp only [List.length_cons,List.length_append,List.length_nil] at h2 hfs
  simp only [news,fsts] at h3
  have IH:=ih (stepT st n) (pre ++ [(((flats st).length + 1 - (topT st n).size:Nat):Int)]) (out ++ [noQ (topT st n)]) h.2 (by omega) (by rw [h3,hfs]; simp) (by simp; omega) (by simp; omega)
  have hq:=noQ_top st n
  rw [lastQ_app] at hq
  have hl:=lastQ_fst (flats st) (0,-1)
  simp only [Int.zero_add] at hl
  rw [hfs,rg_cast,flats_step,lastQ_app] at IH
  simp only [lastQ,hl] at IH hq
  have hg:get (.int .i64) list (Int.toNat ((flats st).length:Int)) = (((flats st).length + 1 - (topT st n).size:Nat):Int):=by
   rw [Int.toNat_natCast,get,h3,List.getD_eq_getElem?_getD,List.getElem?_append_right (by omega),h4,Nat.sub_self]
   rfl
  have hi1:idx ((flats st).length:Int) list.length = true:=rg_idx (by rw [h3]; simp; omega)
  have hi2:idx ((flats st).length:Int) (out ++ List.replicate (n :: xs).length false).length = true:=rg_idx (by simp; omega)
  have hset:∀ b:Bool,(out ++ List.replicate (n :: xs).length false).set (Int.toNat ((flats st).length:Int)) b = (out ++ [b]) ++ List.replicate xs.length false:=by
   intro b
   rw [Int.toNat_natCast,List.set_append_right _ _ (by omega),h5,Nat.sub_self]
   simp [List.replicate_succ]
  simp only [tree_Constant.l7.rg,hi1,hi2,hset,cond_true,hg]
  simp only [news,List.map_cons]
  simp only [List.append_assoc,List.singleton_append] at IH ⊢
  cases h3':(nK n == 3) with
  | true =>
   have hqq:isQ n = true:=by unfold isQ; rw [h3']; rfl
   rw [hqq] at IH hq
   simp only [cond_true] at IH hq
   rw [hq]
   exact IH
  | false =>
   cases h4':(nK n == 4) with
   | true =>
    have hqq:isQ n = true:=by unfold isQ; rw [h3',h4']; rfl
    rw [hqq] at IH hq
    simp only [cond_true] at IH hq
    rw [hq]
    exact IH
   | false =>
    have hqq:isQ n = false:=by unfold isQ; rw [h3',h4']; rfl
    rw [hqq] at IH hq
    simp only [cond_false] at IH hq
    rw [hq]
    exact IH
def maxF (m:Int) (l:List Int):Int:=l.foldl (fun m x=>if x > m then x else m) m
def maxL:List Int→Int
 | []=>0
 | a :: r=>maxF a r
def deep:Tree→Int:=Tree.fold (fun n ks=>maxL ks + bif nK n == 15 then 1 else 0)
theorem deep_nd (n:tNode.T) (ks:List Tree):deep (.nd n ks) = maxL (ks.map deep) + bif nK n == 15 then 1 else 0:=Tree.fold_nd _ n ks
theorem maxF_le {b:Int}:∀ (l:List Int) (m:Int),m ≤ b→(∀ x ∈ l,x ≤ b)→maxF m l ≤ b
 | [],m,h,_=>h
 | x :: r,m,h,hl=>by
  show maxF (if x > m then x else m) r ≤ b
  refine maxF_le r _ ?_ (fun y hy=>hl y (by simp [hy]))
  have:=hl x (by simp)
  split <;> omega
theorem maxF_ge:∀ (l:List Int) (m:Int),m ≤ maxF m l∧∀ x ∈ l,x ≤ maxF m l
 | [],m=>⟨by simp [maxF],by simp⟩
 | x :: r,m=>by
  have h:=maxF_ge r (if x > m then x else m)
  have e:maxF m (x :: r) = maxF (if x > m then x else m) r:=rfl
  rw [e]
  have h0:m ≤ (if x > m then x else m)∧x ≤ (if x > m then x else m):=by split <;> omega
  refine ⟨by omega,fun y hy=>?_⟩
  rcases List.mem_cons.1 hy with rfl | hy
  ·omega
  ·exact h.2 y hy
theorem maxL_le {b:Int} {l:List Int} (hb:0 ≤ b) (h:∀ x ∈ l,x ≤ b):maxL l ≤ b:=by
 cases l with
 | nil=>exact hb
 | cons a r=>exact maxF_le r a (h a (by simp)) (fun x hx=>h x (by simp [hx]))
theorem maxL_ge {l:List Int} (h0:∀ x ∈ l,0 ≤ x):0 ≤ maxL l∧∀ x ∈ l,x ≤ maxL l:=by
 cases l with
 | nil=>simp [maxL]
 | cons a r =>
  have:=maxF_ge r a
  refine ⟨by have:=h0 a (by simp); simp only [maxL]; omega,fun x hx=>?_⟩
  rcases List.mem_cons.1 hx with rfl | hx
  ·exact this.1
  ·exact this.2 x hx
theorem flat_mem {ks:List Tree} {k:Tree} (h:k ∈ ks):k.size ≤ (flats ks).length:=by
 obtain ⟨a,b,rfl⟩:=List.append_of_mem h
 rw [flats_app,flats_cons]
 simp only [List.length_append,Tree.size]
 omega
theorem deep_bd (t:Tree):0 ≤ deep t∧deep t ≤ t.size:=by
 refine Tree.ind (P:=fun t=>0 ≤ deep t∧deep t ≤ t.size) (fun n ks ih=>?_) t
 rw [deep_nd,size_nd]
 have h1:0 ≤ maxL (ks.map deep):=(maxL_ge (by simp only [List.mem_map]; rintro x ⟨k,hk,rfl⟩; exact (ih k hk).1)).1
 have h2:maxL (ks.map deep) ≤ (flats ks).length:=maxL_le (by omega) (by
  simp only [List.mem_map]
  rintro x ⟨k,hk,rfl⟩
  have:=(ih k hk).2
  have:=flat_mem hk
  omega)
 cases nK n == 15 <;> simp only [cond_true,cond_false] <;> omega
theorem max_rg (F:Nat) {R:Type} (k:Int→Option R) (X:List Int):∀ (xs:List Int) (i m:Int),slices_Max_int.l5.rg F (fun _ m _ _=>k m) X xs i m = k (maxF m xs)
 | [],i,m=>rfl
 | x :: r,i,m=>by
  rw [slices_Max_int.l5.rg,max_rg F k X r]
  rfl
theorem max_eq (F:Nat) {l:List Int} (h:1 ≤ l.length) (hF:l.length < F) (hL:l.length < 4611686018427387904):slices_Max_int.sh F l = some ((maxL l,()),()):=by
 unfold slices_Max_int.sh
 rw [decide_eq_false (show ¬ (l.length:Int) < 1 by omega),show idx 0 l.length = true from rg_idx (i:=0) (by omega)]
 simp only [cond_false,cond_true]
 cases l with
 | nil=>simp at h
 | cons a r =>
  refine Eq.trans (slices_Max_int.l5.rg_eq F _ (a :: r) (by omega) r 1 F _ (by simp) (by simp at hF; omega)) ?_
  exact max_rg F (fun m=>(some ((m,()),()):Option slices_Max_int.sg.R)) (a :: r) r _ _
theorem scale_rg (F:Nat) (hF:4096 < F) {R:Type} (dims:Nat) (k:List Int→Option R) (L:List tNode.T) (N:Int):∀ (xs:List tNode.T) (st:List Tree) (i:Int),okS dims st xs→(flats st).length + xs.length ≤ 2048 →
  tree_Scale.l6.rg F (fun _ _ _ _ pile=>k pile) L N xs i (st.map deep) = k ((endT st xs).map deep):=by
 intro xs
 induction xs with
 | nil=>intro st i h h2; rfl
 | cons n xs ih =>
  intro st i h h2
  obtain ⟨g1,g2,g3,g4,g5,g6,g7,g8⟩:=nodeE_ok h.1
  have hst:=len_flats st
  have hfs:=congrArg List.length (flats_step st n)
  simp only [List.length_cons,List.length_append,List.length_nil] at h2 hfs
  have IH:=ih (stepT st n) (i + 1) h.2 (by omega)
  have hbd:=deep_bd (topT st n)
  have hts:=top_size (st:=st) (n:=n)
  have hstep:(stepT st n).map deep = (st.map deep).take (st.length - ar n) ++ [deep (topT st n)]:=by
   unfold stepT; simp [List.map_take]
  have hd:deep (topT st n) = maxL ((st.map deep).drop (st.length - ar n)) + bif nK n == 15 then 1 else 0:=by
   unfold topT; rw [deep_nd,List.map_drop]
  rw [hstep] at IH
  simp only [tree_Scale.l6.rg]
  rw [takes_eq F g1 g4]
  simp only [oB_some]
  have hlen:(st.map deep).length = st.length:=by simp
  rw [hlen,wrap_sub g7 (by omega),bounds_hi (by omega),bounds_lo (by omega)]
  simp only [cond_true]
  rw [List.take_of_length_le (by rw [hlen]; omega:(st.map deep).length ≤ st.length)]
  cases hk:decide ((ar n:Int) > 0) with
  | true =>
   have hk:=of_decide_eq_true hk
   simp only [cond_true]
   rw [max_eq F (by rw [List.length_drop,hlen]; omega) (by rw [List.length_drop,hlen]; omega) (by rw [List.length_drop,hlen]; omega)]
   simp only [oB_some]
   cases h15:(nK n == 15) with
   | true =>
    rw [h15] at hd
    simp only [cond_true] at hd
    simp only [cond_true]
    rw [wrap_i64 (by omega) (by omega),← hd,ble_of (by simp; omega)]
    exact IH
   | false =>
    rw [h15] at hd
    simp only [cond_false,Int.add_zero] at hd
    simp only [cond_false]
    rw [← hd,ble_of (by simp; omega)]
    exact IH
  | false =>
   have hk:=of_decide_eq_false hk
   have hk0:ar n = 0:=by omega
   simp only [cond_false]
   rw [hk0,Nat.sub_zero,List.drop_of_length_le (by rw [hlen]; omega)] at hd
   rw [hk0,Nat.sub_zero,List.take_of_length_le (by rw [hlen]; omega)] at IH
   cases h15:(nK n == 15) with
   | true =>
    rw [h15] at hd
    simp only [cond_true]
    rw [ble_of (by simp; omega)]
    simp only [cond_true]
    rw [show IntKind.i64.wrap (0 + 1) = deep (topT st n) by rw [hd]; rfl]
    exact IH
   | false =>
    rw [h15] at hd
    simp only [cond_false]
    rw [ble_of (by simp; omega)]
    simp only [cond_true]
    rw [hd] at IH
    exact IH
structure Good (p:tPlan.T) (t:Tree):Prop where
 head:headE p.1 p.2.1 p.2.2.1 = 0
 len:p.2.2.2.length ≤ 1024
 ok:okS p.2.1.length [] p.2.2.2
 eq:endT [] p.2.2.2 = [t]
theorem Good.flat {p:tPlan.T} {t:Tree} (h:Good p t):t.flat = p.2.2.2:=by
 have:=flats_end p.2.2.2 []
 rw [h.eq,flats_one] at this
 simpa [flats] using this
theorem Good.subs {p:tPlan.T} {t:Tree} (h:Good p t):news [] p.2.2.2 = t.subs:=by
 have:=subss_end p.2.2.2 []
 rw [h.eq,subss_one] at this
 simpa [subss] using this.symm
theorem check_ok {p:tPlan.T} (h:(checkS p).2 = 0):∃ t,Good p t:=by
 unfold checkS at h
 cases h1:(headE p.1 p.2.1 p.2.2.1 != 0) with
 | true =>
  rw [h1] at h
  simp only [cond_true] at h
  rw [h] at h1
  cases h1
 | false =>
  rw [h1] at h
  have h1:headE p.1 p.2.1 p.2.2.1 = 0:=by simpa using h1
  cases h2:decide ((p.2.2.2.length:Int) > 1024) with
  | true=>rw [h2] at h; exact absurd (show (2:Int) = 0 from h) (by decide)
  | false =>
   rw [h2] at h
   have h2:=of_decide_eq_false h2
   simp only [cond_false] at h
   cases h3:chkE p.2.1.length p.2.2.2 0 0 with
   | some x =>
    rw [h3] at h
    have hne:∀ (xs:List tNode.T) (pile i:Nat),chkE p.2.1.length xs pile i = some x→x.2 ≠ 0:=by
     intro xs
     induction xs with
     | nil=>intro pile i h; cases h
     | cons n r ih =>
      intro pile i h
      simp only [chkE] at h
      cases he:(nodeE p.2.1.length n pile != 0) with
      | true =>
       rw [he] at h
       simp only [cond_true,Option.some.injEq] at h
       rw [← h]
       simpa using he
      | false=>rw [he] at h; exact ih _ _ h
    exact absurd h (hne _ _ _ h3)
   | none =>
    rw [h3] at h
    have:=chk_ok p.2.1.length p.2.2.2 [] 0 h3
    cases h4:((chkP p.2.2.2 0:Int) != 1) with
    | true=>rw [h4] at h; exact absurd (show (50:Int) = 0 from h) (by decide)
    | false =>
     have h4:(chkP p.2.2.2 0:Int) = 1:=by simpa using h4
     have hl:(endT [] p.2.2.2).length = 1:=by rw [this.2]; simp only [List.length_nil]; omega
     obtain ⟨t,ht⟩:=List.length_eq_one_iff.1 hl
     exact ⟨t,h1,by omega,this.1,ht⟩
theorem Good.check {p:tPlan.T} {t:Tree} (h:Good p t):checkS p = (0,0):=by
 unfold checkS
 have:=ok_chk p.2.1.length p.2.2.2 [] 0 h.ok
 rw [h.eq] at this
 simp only [List.length_nil,List.length_cons] at this
 rw [h.head,this.1,this.2,decide_eq_false (by have:=h.len; omega)]
 rfl
theorem Firsts_eq (F:Nat) (hF:4096 < F) {p:tPlan.T} {t:Tree} (h:Good p t):tree_Firsts.sh F p = some ((fsts 0 t.subs,0,()),()):=by
 unfold tree_Firsts.sh tree_firsts.sh
 rw [check_eq F (by omega),h.check]
 have hl:=h.len
 have e:=Eq.trans (tree_firsts.l3.rg_eq F (fun _ _ _ _ list2 _=>tree_firsts.j13 F (fun r23=>(some ((r23,()),()):Option tree_firsts.sg.R)) list2) p.2.2.2 _ rfl (by omega) p.2.2.2 0 F [] [] (by simp) (by omega))
  (firsts_rg F p.2.1.length (fun list=>some ((list,()),())) p.2.2.2 (p.2.2.2.length:Int) p.2.2.2 [] [] h.ok (by simp [flats]; omega) (by simp))
 rw [h.subs] at e
 have e:tree_firsts.l3 F (fun _ _ _ _ list2 _=>tree_firsts.j13 F (fun r23=>(some ((r23,()),()):Option tree_firsts.sg.R)) list2) F p.2.2.2 (p.2.2.2.length:Int) 0 [] [] = some ((fsts 0 t.subs,()),()):=e
 rw [e]
 rfl
theorem Constant_eq (F:Nat) (hF:4096 < F) {p:tPlan.T} {t:Tree} (h:Good p t):tree_Constant.sh F p = some ((t.subs.map noQ,0,()),()):=by
 unfold tree_Constant.sh
 rw [Firsts_eq F hF h]
 simp only [oB_some,bne_self_eq_false,cond_false]
 have hl:=h.len
 have hn:t.subs.length = p.2.2.2.length:=by rw [subs_len,h.flat]
 have hz:(decide (0 ≤ ((fsts 0 t.subs).length:Int)) && decide (((fsts 0 t.subs).length:Int) ≤ ((fsts 0 t.subs).length:Int)) && decide (((fsts 0 t.subs).length:Int) ≤ (maxN:Int))) = true:=by
  have:maxN = 1099511627776:=rfl
  rw [fsts_len,this]
  simp
  omega
 rw [hz]
 simp only [cond_true]
 have e:=Eq.trans (tree_Constant.l7.rg_eq F (fun _ _ _ _ _ _ out2=>tree_Constant.j13 F (fun r23 r33=>(some ((r23,r33,()),()):Option tree_Constant.sg.R)) out2) p.2.2.2 _ rfl (by omega) p.2.2.2 0 F (fsts 0 t.subs) (-1) (zeroL .bool p.2.2.2.length) (by simp) (by omega))
  (constant_rg F p.2.1.length (fun out=>some ((out,0,()),())) p.2.2.2 (p.2.2.2.length:Int) (fsts 0 t.subs) p.2.2.2 [] [] [] h.ok (by simp [flats]; omega) (by rw [h.subs]; rfl) rfl rfl)
 rw [h.subs] at e
 rw [show ((fsts 0 t.subs).length:Int).toNat = p.2.2.2.length by rw [fsts_len,hn]; rfl]
 exact e
theorem Scale_eq (F:Nat) (hF:4096 < F) {p:tPlan.T} {t:Tree} (h:Good p t):tree_Scale.sh F p = some ((deep t,0,()),()):=by
 unfold tree_Scale.sh
 rw [check_eq F (by omega),h.check]
 have hl:=h.len
 have e:=Eq.trans (tree_Scale.l6.rg_eq F (fun _ _ _ _ pile4=>tree_Scale.j17 F (fun r25 r35=>(some ((r25,r35,()),()):Option tree_Scale.sg.R)) pile4) p.2.2.2 _ rfl (by omega) p.2.2.2 0 F [] (by simp) (by omega))
  (scale_rg F hF p.2.1.length (fun pile=>tree_Scale.j17 F (fun r25 r35=>(some ((r25,r35,()),()):Option tree_Scale.sg.R)) pile) p.2.2.2 (p.2.2.2.length:Int) p.2.2.2 [] 0 h.ok (by simp [flats]; omega))
 rw [h.eq] at e
 exact e
def cntB (t:Int):Bool:=decide (t ≥ 2)
def oneL:List Int→Int
 | []=>-1
 | a :: r=>bif r.all (fun x=>x == a) then a else -1
def prodT (a b:Int):Int :=
 bif a == 0 then b else bif b == 0 then a else bif cntB a && b == 1 then 1 else bif cntB b && a == 1 then 1 else -1
def tyN (n:tNode.T) (ks:List Int):Int :=
 bif nK n == 1 then 0 else bif nK n == 2 then 1 else bif nK n == 3 then 2 + 2 * nN n else bif nK n == 4 then 3 + 2 * nN n
 else bif nK n == 8 then prodT (ks.getD 0 0) (ks.getD 1 0)
 else bif nK n == 11 || nK n == 12 then (bif cntB (ks.getD 0 0) then ks.getD 0 0 else -1)
 else bif nK n == 13 || nK n == 14 then (bif cntB (ks.getD 0 0) then 1 else -1)
 else bif nK n == 15 then (bif ks.getD 0 0 == 1 then 1 else -1)
 else bif nK n == 16 then (bif cntB (ks.getD 0 0) then oneL (ks.drop 1) else -1)
 else oneL ks
def ty:Tree→Int:=Tree.fold tyN
theorem ty_nd (n:tNode.T) (ks:List Tree):ty (.nd n ks) = tyN n (ks.map ty):=Tree.fold_nd _ n ks
def linE (n:tNode.T) (fs:List Bool):Bool:=nK n == 8 && (!fs.getD 0 false && !fs.getD 1 false)
def tyE (t:Tree):Int:=bif ty t == -1 then 80 else bif linE t.root (t.kids.map noQ) then 81 else 0
def firstE (E:Tree→Int):List Tree→Nat→Option (Nat×Int)
 | [],_=>none
 | t :: r,i=>bif E t != 0 then some (i,E t) else firstE E r (i + 1)
theorem oneL_all {a:Int}:∀ (r:List Int),(a :: r).all (fun x=>x == a) = r.all (fun x=>x == a):=by intro r; simp
theorem one_rg (F:Nat) {R:Type} (k:Int→Option R) (k1:Int→tUnits_node.T→Option R) (L:List Int) (N:Int) (n:tUnits_node.T) (fr:Nat) (a:Int) (hfr:fr < n.2.1.length) (ha:get (.int .i64) n.2.1 fr = a):∀ (xs:List Int) (i:Int),
  units_node_one.l2.rg F k (fun fr _ _ _ _ n=>k1 fr n) L N xs i (fr:Int) n = bif xs.all (fun x=>x == a) then k1 fr n else k (-1)
 | [],i=>rfl
 | x :: r,i=>by
  rw [units_node_one.l2.rg,one_rg F k k1 L N n fr a hfr ha r,rg_idx hfr,Int.toNat_natCast,ha]
  simp only [cond_true,List.all_cons]
  cases hx:(x == a) with
  | true=>simp only [bne,hx,Bool.not_true,cond_false,Bool.true_and]
  | false=>simp only [bne,hx,Bool.not_false,cond_true,Bool.false_and,cond_false]
theorem one_eq (F:Nat) (hF:64 < F) (n:tNode.T) (ks:List Int) (fx:List Bool) {fr:Nat} (h:fr < ks.length) (hl:ks.length ≤ 32):units_node_one.sh F (n,ks,fx) (fr:Int) = some ((oneL (ks.drop fr),()),()):=by
 unfold units_node_one.sh
 simp only []
 rw [bounds_lo (by omega)]
 simp only [cond_true]
 rw [List.take_length]
 refine Eq.trans (units_node_one.l2.rg_eq F _ _ (ks.drop fr) _ rfl (by simp; omega) (ks.drop fr) 0 F _ _ (by simp) (by simp; omega)) ?_
 refine (one_rg F (fun r41=>(some ((r41,()),()):Option units_node_one.sg.R)) (fun fr n2=>bif idx fr n2.2.1.length then some ((get (.int .i64) n2.2.1 fr.toNat,()),()) else none) (ks.drop fr) _ (n,ks,fx) fr (get (.int .i64) ks fr) h rfl (ks.drop fr) _).trans ?_
 simp only []
 rw [rg_idx h,Int.toNat_natCast]
 have hd:ks.drop fr = get (.int .i64) ks fr :: ks.drop (fr + 1):=by
  rw [List.drop_eq_getElem_cons h]
  congr 1
  unfold get
  rw [List.getD_eq_getElem?_getD,List.getElem?_eq_getElem h]
  rfl
 rw [hd,oneL_all]
 simp only [oneL]
 cases (ks.drop (fr + 1)).all (fun x=>x == get (.int .i64) ks fr) <;> rfl
theorem idx0 {n:Nat} (h:1 ≤ n):idx 0 n = true:=rg_idx (i:=0) (by omega)
theorem idx1 {n:Nat} (h:2 ≤ n):idx 1 n = true:=rg_idx (i:=1) (by omega)
theorem alike_eq (F:Nat) (hF:64 < F) (n:tNode.T) (ks:List Int) (fx:List Bool) (h:1 ≤ ks.length) (hl:ks.length ≤ 32):units_node_alike.sh F (n,ks,fx) = some ((oneL ks,()),()):=by
 unfold units_node_alike.sh
 rw [show (0:Int) = ((0:Nat):Int) from rfl,one_eq F hF n ks fx (by omega) hl]
 rfl
theorem product_eq (F:Nat) (n:tNode.T) (ks:List Int) (fx:List Bool) (h:2 ≤ ks.length):units_node_product.sh F (n,ks,fx) = some ((prodT (ks.getD 0 0) (ks.getD 1 0),()),()):=by
 unfold units_node_product.sh units_count.sh prodT cntB
 simp only [oB_some]
 rw [idx0 (by omega),idx1 (by omega)]
 simp only [cond_true]
 rw [show get (.int .i64) ks 0 = ks.getD 0 0 from rfl,show get (.int .i64) ks 1 = ks.getD 1 0 from rfl]
 cases (ks.getD 0 0 == 0) with
 | true=>rfl
 | false =>
  cases (ks.getD 1 0 == 0) with
  | true=>rfl
  | false=>cases decide (ks.getD 0 0 ≥ 2) <;> cases decide (ks.getD 1 0 ≥ 2) <;> cases (ks.getD 0 0 == 1) <;> cases (ks.getD 1 0 == 1) <;> rfl
theorem counted_eq (F:Nat) (n:tNode.T) (ks:List Int) (fx:List Bool) (h:1 ≤ ks.length):units_node_counted.sh F (n,ks,fx) = some ((bif cntB (ks.getD 0 0) then ks.getD 0 0 else -1,()),()):=by
 unfold units_node_counted.sh units_count.sh cntB
 simp only [oB_some]
 rw [idx0 (by omega)]
 simp only [cond_true]
 rw [show get (.int .i64) ks 0 = ks.getD 0 0 from rfl]
 cases decide (ks.getD 0 0 ≥ 2) <;> rfl
theorem priced_eq (F:Nat) (n:tNode.T) (ks:List Int) (fx:List Bool) (h:1 ≤ ks.length):units_node_priced.sh F (n,ks,fx) = some ((bif cntB (ks.getD 0 0) then 1 else -1,()),()):=by
 unfold units_node_priced.sh units_count.sh cntB
 simp only [oB_some]
 rw [idx0 (by omega)]
 simp only [cond_true]
 rw [show get (.int .i64) ks 0 = ks.getD 0 0 from rfl]
 cases decide (ks.getD 0 0 ≥ 2) <;> rfl
theorem off_eq (F:Nat) (n:tNode.T) (ks:List Int) (fx:List Bool) (h:1 ≤ ks.length):units_node_off.sh F (n,ks,fx) = some ((bif ks.getD 0 0 == 1 then 1 else -1,()),()):=by
 unfold units_node_off.sh
 rw [idx0 (by omega)]
 simp only [cond_true]
 rw [show get (.int .i64) ks 0 = ks.getD 0 0 from rfl]
 cases (ks.getD 0 0 == 1) <;> rfl
theorem test_eq (F:Nat) (hF:64 < F) (n:tNode.T) (ks:List Int) (fx:List Bool) (h:2 ≤ ks.length) (hl:ks.length ≤ 32):units_node_test.sh F (n,ks,fx) = some ((bif cntB (ks.getD 0 0) then oneL (ks.drop 1) else -1,()),()):=by
 unfold units_node_test.sh units_count.sh cntB
 simp only [oB_some]
 rw [idx0 (by omega)]
 simp only [cond_true]
 rw [show get (.int .i64) ks 0 = ks.getD 0 0 from rfl]
 have:=one_eq F hF n ks fx (fr:=1) (by omega) hl
 rw [show (((1:Nat):Int)) = 1 from rfl] at this
 rw [this]
 cases decide (ks.getD 0 0 ≥ 2) <;> rfl
theorem kinds16 {n:tNode.T} (h:goodK n = true):nK n = 1 ∨ nK n = 2 ∨ nK n = 3 ∨ nK n = 4 ∨ nK n = 5 ∨ nK n = 6 ∨ nK n = 7 ∨ nK n = 8 ∨ nK n = 9 ∨ nK n = 10 ∨ nK n = 11 ∨ nK n = 12 ∨ nK n = 13 ∨ nK n = 14 ∨ nK n = 15 ∨ nK n = 16:=by
 have:=goodK_iff.1 h
 omega
theorem ar_of {n:tNode.T} {k:Int} (h:nK n = k):ar n = bif decide ((get tTree_asks kindsL k.toNat).1 ≥ 0) then (get tTree_asks kindsL k.toNat).1.toNat else (nC n).toNat:=by
 unfold ar aK asks
 rw [h]
theorem kids_of {n:tNode.T} {k:Int} (h:nK n = k):kidsK n = bif decide ((get tTree_asks kindsL k.toNat).1 < 0) then decide (nC n ≥ 2) && decide (nC n ≤ 16) else nC n == 0:=by
 unfold kidsK aK asks
 rw [h]
theorem most_of {n:tNode.T} {k:Int} (h:nK n = k) (dims:Nat):mostN n dims = bif decide ((get tTree_asks kindsL k.toNat).2.1 < 0) then (dims:Int) - 1 else (get tTree_asks kindsL k.toNat).2.1:=by
 unfold mostN asks
 rw [h]
theorem rule_eq (F:Nat) (hF:64 < F) {dims:Nat} (hd:dims ≤ 4) {n:tNode.T} {pile:Nat} (h:nodeE dims n pile = 0) :
  ∃ r c,units_rules.sh F (nK n) = some ((r,c,()),())∧(bif decide (c < 0) then nC n else c) = (ar n:Int) ∧
   ∀ (ks:List Int) (fx:List Bool),ks.length = ar n→units_Types.d63 F r ((n,ks,fx),()) = some ((tyN n ks,()),()):=by
 obtain ⟨g1,g2,g3,g4,g5,g6,g7,g8⟩:=nodeE_ok h
 have ha:=ar_le g1 g4
 rcases kinds16 g1 with h | h | h | h | h | h | h | h | h | h | h | h | h | h | h | h
 ·exact ⟨fn_units_node_number,0,by rw [h]; rfl,by rw [ar_of h]; rfl,fun ks fx hk=>by unfold tyN; rw [h]; rfl⟩
 ·exact ⟨fn_units_node_money,0,by rw [h]; rfl,by rw [ar_of h]; rfl,fun ks fx hk=>by unfold tyN; rw [h]; rfl⟩
 ·rw [most_of h] at g3
  have g3:nN n ≤ (dims:Int) - 1:=g3
  refine ⟨fn_units_node_quantity,0,by rw [h]; rfl,by rw [ar_of h]; rfl,fun ks fx hk=>?_⟩
  refine Eq.trans (show units_Types.d63 F fn_units_node_quantity ((n,ks,fx),()) = units_node_quantity.sh F (n,ks,fx) from rfl) ?_
  unfold units_node_quantity.sh tyN
  rw [h,wrap_i64 (n:=2 * nN n) (by omega) (by omega),wrap_i64 (n:=2 + 2 * nN n) (by omega) (by omega)]
  rfl
 ·rw [most_of h] at g3
  have g3:nN n ≤ (dims:Int) - 1:=g3
  refine ⟨fn_units_node_blocks,0,by rw [h]; rfl,by rw [ar_of h]; rfl,fun ks fx hk=>?_⟩
  refine Eq.trans (show units_Types.d63 F fn_units_node_blocks ((n,ks,fx),()) = units_node_blocks.sh F (n,ks,fx) from rfl) ?_
  unfold units_node_blocks.sh tyN
  rw [h,wrap_i64 (n:=2 * nN n) (by omega) (by omega),wrap_i64 (n:=3 + 2 * nN n) (by omega) (by omega)]
  rfl
 ·have e:ar n = 1:=by rw [ar_of h]; rfl
  refine ⟨fn_units_node_alike,1,by rw [h]; rfl,by rw [e]; rfl,fun ks fx hk=>?_⟩
  refine Eq.trans (show units_Types.d63 F fn_units_node_alike ((n,ks,fx),()) = units_node_alike.sh F (n,ks,fx) from rfl) ?_
  rw [alike_eq F hF n ks fx (by omega) (by omega)]
  unfold tyN; rw [h]; rfl
 ·have e:ar n = 2:=by rw [ar_of h]; rfl
  refine ⟨fn_units_node_alike,2,by rw [h]; rfl,by rw [e]; rfl,fun ks fx hk=>?_⟩
  refine Eq.trans (show units_Types.d63 F fn_units_node_alike ((n,ks,fx),()) = units_node_alike.sh F (n,ks,fx) from rfl) ?_
  rw [alike_eq F hF n ks fx (by omega) (by omega)]
  unfold tyN; rw [h]; rfl
 ·have e:ar n = 2:=by rw [ar_of h]; rfl
  refine ⟨fn_units_node_alike,2,by rw [h]; rfl,by rw [e]; rfl,fun ks fx hk=>?_⟩
  refine Eq.trans (show units_Types.d63 F fn_units_node_alike ((n,ks,fx),()) = units_node_alike.sh F (n,ks,fx) from rfl) ?_
  rw [alike_eq F hF n ks fx (by omega) (by omega)]
  unfold tyN; rw [h]; rfl
 ·have e:ar n = 2:=by rw [ar_of h]; rfl
  refine ⟨fn_units_node_product,2,by rw [h]; rfl,by rw [e]; rfl,fun ks fx hk=>?_⟩
  refine Eq.trans (show units_Types.d63 F fn_units_node_product ((n,ks,fx),()) = units_node_product.sh F (n,ks,fx) from rfl) ?_
  rw [product_eq F n ks fx (by omega)]
  unfold tyN; rw [h]; rfl
 ·rw [kids_of h] at g4
  have g4:(decide (nC n ≥ 2) && decide (nC n ≤ 16)) = true:=g4
  simp at g4
  have e:ar n = (nC n).toNat:=by rw [ar_of h]; rfl
  refine ⟨fn_units_node_alike,-1,by rw [h]; rfl,?_,fun ks fx hk=>?_⟩
  ·rw [e]; rw [decide_eq_true (show (-1:Int) < 0 by omega)]; simp only [cond_true]; omega
  refine Eq.trans (show units_Types.d63 F fn_units_node_alike ((n,ks,fx),()) = units_node_alike.sh F (n,ks,fx) from rfl) ?_
  rw [alike_eq F hF n ks fx (by omega) (by omega)]
  unfold tyN; rw [h]; rfl
 ·rw [kids_of h] at g4
  have g4:(decide (nC n ≥ 2) && decide (nC n ≤ 16)) = true:=g4
  simp at g4
  have e:ar n = (nC n).toNat:=by rw [ar_of h]; rfl
  refine ⟨fn_units_node_alike,-1,by rw [h]; rfl,?_,fun ks fx hk=>?_⟩
  ·rw [e]; rw [decide_eq_true (show (-1:Int) < 0 by omega)]; simp only [cond_true]; omega
  refine Eq.trans (show units_Types.d63 F fn_units_node_alike ((n,ks,fx),()) = units_node_alike.sh F (n,ks,fx) from rfl) ?_
  rw [alike_eq F hF n ks fx (by omega) (by omega)]
  unfold tyN; rw [h]; rfl
 ·have e:ar n = 1:=by rw [ar_of h]; rfl
  refine ⟨fn_units_node_counted,1,by rw [h]; rfl,by rw [e]; rfl,fun ks fx hk=>?_⟩
  refine Eq.trans (show units_Types.d63 F fn_units_node_counted ((n,ks,fx),()) = units_node_counted.sh F (n,ks,fx) from rfl) ?_
  rw [counted_eq F n ks fx (by omega)]
  unfold tyN; rw [h]; rfl
 ·have e:ar n = 1:=by rw [ar_of h]; rfl
  refine ⟨fn_units_node_counted,1,by rw [h]; rfl,by rw [e]; rfl,fun ks fx hk=>?_⟩
  refine Eq.trans (show units_Types.d63 F fn_units_node_counted ((n,ks,fx),()) = units_node_counted.sh F (n,ks,fx) from rfl) ?_
  rw [counted_eq F n ks fx (by omega)]
  unfold tyN; rw [h]; rfl
 ·have e:ar n = 1:=by rw [ar_of h]; rfl
  refine ⟨fn_units_node_priced,1,by rw [h]; rfl,by rw [e]; rfl,fun ks fx hk=>?_⟩
  refine Eq.trans (show units_Types.d63 F fn_units_node_priced ((n,ks,fx),()) = units_node_priced.sh F (n,ks,fx) from rfl) ?_
  rw [priced_eq F n ks fx (by omega)]
  unfold tyN; rw [h]; rfl
 ·have e:ar n = 1:=by rw [ar_of h]; rfl
  refine ⟨fn_units_node_priced,1,by rw [h]; rfl,by rw [e]; rfl,fun ks fx hk=>?_⟩
  refine Eq.trans (show units_Types.d63 F fn_units_node_priced ((n,ks,fx),()) = units_node_priced.sh F (n,ks,fx) from rfl) ?_
  rw [priced_eq F n ks fx (by omega)]
  unfold tyN; rw [h]; rfl
 ·have e:ar n = 1:=by rw [ar_of h]; rfl
  refine ⟨fn_units_node_off,1,by rw [h]; rfl,by rw [e]; rfl,fun ks fx hk=>?_⟩
  refine Eq.trans (show units_Types.d63 F fn_units_node_off ((n,ks,fx),()) = units_node_off.sh F (n,ks,fx) from rfl) ?_
  rw [off_eq F n ks fx (by omega)]
  unfold tyN; rw [h]; rfl
 ·have e:ar n = 3:=by rw [ar_of h]; rfl
  refine ⟨fn_units_node_test,3,by rw [h]; rfl,by rw [e]; rfl,fun ks fx hk=>?_⟩
  refine Eq.trans (show units_Types.d63 F fn_units_node_test ((n,ks,fx),()) = units_node_test.sh F (n,ks,fx) from rfl) ?_
  rw [test_eq F hF n ks fx (by omega) (by omega)]
  unfold tyN; rw [h]; rfl
theorem map_get {α β:Type} {f:α→β} {d:β} {l:List α} {m j:Nat}:(l.map f).getD (m + j) d = ((l.drop m).map f).getD j d:=by
 rw [List.map_drop,List.getD_eq_getElem?_getD,List.getD_eq_getElem?_getD,List.getElem?_drop]
theorem types_rg (F:Nat) (hF:64 < F) {R:Type} {dims:Nat} (hd:dims ≤ 4) (kE:List Int→Int→Int→Option R) (kO:List Int→List Int→Option R) (L:List tNode.T) (N:Int) (fixed:List Bool):∀ (xs:List tNode.T) (st:List Tree) (pre:List Bool) (types:List Int),
  okS dims st xs→(flats st).length + xs.length ≤ 2048→fixed = pre ++ (news st xs).map noQ→pre.length = (flats st).length→types.length = (flats st).length →
  units_Types.l8.rg F kE kE (fun _ _ _ _ _ types pile _=>kO types pile) L N xs ((flats st).length:Int) fixed types (st.map ty) (st.map noQ) =
   match firstE tyE (news st xs) (flats st).length with
   | some (j,e)=>kE [] (j:Int) e
   | none=>kO (types ++ (news st xs).map ty) ((endT st xs).map ty):=by
 intro xs
 induction xs with
 | nil=>intro st pre types h h2 h3 h4 h5; simp [units_Types.l8.rg,news,firstE,endT]
 | cons n xs ih =>
  intro st pre types h h2 h3 h4 h5
  obtain ⟨g1,g2,g3,g4,g5,g6,g7,g8⟩:=nodeE_ok h.1
  have hst:=len_flats st
  have hfs:=congrArg List.length (flats_step st n)
  simp only [List.length_cons,List.length_append,List.length_nil] at h2 hfs
  simp only [news,List.map_cons] at h3
  have IH:=ih (stepT st n) (pre ++ [noQ (topT st n)]) (types ++ [ty (topT st n)]) h.2 (by omega) (by rw [h3]; simp) (by simp; omega) (by simp; omega)
  have hst1:(stepT st n).map ty = (st.map ty).take (st.length - ar n) ++ [ty (topT st n)]:=by unfold stepT; simp [List.map_take]
  have hst2:(stepT st n).map noQ = (st.map noQ).take (st.length - ar n) ++ [noQ (topT st n)]:=by unfold stepT; simp [List.map_take]
  rw [hst1,hst2,hfs] at IH
  obtain ⟨r,c,q1,q2,q3⟩:=rule_eq F hF hd h.1
  have hl1:(st.map ty).length = st.length:=by simp
  have hl2:(st.map noQ).length = st.length:=by simp
  have hgf:get .bool fixed (Int.toNat ((flats st).length:Int)) = noQ (topT st n):=by
   rw [Int.toNat_natCast,get,h3,List.getD_eq_getElem?_getD,List.getElem?_append_right (by omega),h4,Nat.sub_self]
   rfl
  have hif:idx ((flats st).length:Int) fixed.length = true:=rg_idx (by rw [h3]; simp; omega)
  have ht:=q3 ((st.map ty).drop (st.length - ar n)) ((st.map noQ).drop (st.length - ar n)) (by simp; omega)
  have hty:tyN n ((st.map ty).drop (st.length - ar n)) = ty (topT st n):=by unfold topT; rw [ty_nd,List.map_drop]
  rw [hty] at ht
  have hE:tyE (topT st n) = bif ty (topT st n) == -1 then 80 else bif linE n ((st.map noQ).drop (st.length - ar n)) then 81 else 0:=by
   rw [← List.map_drop]; rfl
  have hm:st.length - ar n ≤ st.length:=by omega
  have hb1:=bounds_lo hm
  have hb2:=bounds_hi hm
  have ew:=wrap_sub g7 (by omega)
  have htk1:(st.map ty).take st.length = st.map ty:=List.take_of_length_le (by omega)
  have htk2:(st.map noQ).take st.length = st.map noQ:=List.take_of_length_le (by omega)
  have hbl1:∀ y,Nat.ble (types.length + ([y]:List Int).length) maxN = true:=fun y=>ble_of (by simp; omega)
  have hbl2:∀ y,Nat.ble (st.length - ar n + ([y]:List Int).length) maxN = true:=fun y=>ble_of (by simp; omega)
  have hbl3:∀ y,Nat.ble (st.length - ar n + ([y]:List Bool).length) maxN = true:=fun y=>ble_of (by simp; omega)
  simp only [List.append_assoc,List.singleton_append] at IH
  rw [rg_cast] at IH
  have h8a:(nK n == 8) = true→ar n = 2:=fun h=>by rw [ar_of (by simpa using h)]; rfl
  simp only [units_Types.l8.rg]
  rw [q1]
  simp only [oB_some]
  simp only [news,firstE,hE]
  generalize ar n = a at *
  cases hc:decide (c < 0) with
  | true =>
   rw [hc] at q2
   have q2:n.2.2.2.1 = (a:Int):=q2
   simp only [cond_true,q2,hl1,hl2,ew,hb1,hb2,htk1,htk2]
   rw [ht]
   simp only [oB_some]
   cases hn:(ty (topT st n) == -1) with
   | true=>rfl
   | false =>
    simp only [cond_false,hbl1,hbl2,hbl3,hif,hgf,cond_true,linE]
    cases h8:(nK n == 8) with
    | true =>
     have h8:=h8a h8
     have hi1:idx ((st.length - a:Nat):Int) st.length = true:=rg_idx (by omega)
     have hi2:idx ((st.length - a + 1:Nat):Int) st.length = true:=rg_idx (by omega)
     have ew2:IntKind.i64.wrap (((st.length - a:Nat):Int) + 1) = ((st.length - a + 1:Nat):Int):=by rw [wrap_i64 (by omega) (by omega)]; omega
     have hg0:get .bool (st.map noQ) (st.length - a) = ((st.map noQ).drop (st.length - a)).getD 0 false:=by rw [← List.map_drop]; exact map_get (j:=0)
     have hg1:get .bool (st.map noQ) (st.length - a + 1) = ((st.map noQ).drop (st.length - a)).getD 1 false:=by rw [← List.map_drop]; exact map_get (j:=1)
     simp only [hi1,hi2,ew2,cond_true,Int.toNat_natCast,hg0,hg1,Bool.true_and]
     cases ((st.map noQ).drop (st.length - a)).getD 0 false with
     | true=>exact IH
     | false =>
      cases ((st.map noQ).drop (st.length - a)).getD 1 false with
      | true=>exact IH
      | false=>rfl
    | false=>exact IH
  | false =>
   rw [hc] at q2
   have q2:c = (a:Int):=q2
   simp only [cond_false,cond_true,q2,hl1,hl2,ew,hb1,hb2,htk1,htk2]
   rw [ht]
   simp only [oB_some]
   cases hn:(ty (topT st n) == -1) with
   | true=>rfl
   | false =>
    simp only [cond_false,hbl1,hbl2,hbl3,hif,hgf,cond_true,linE]
    cases h8:(nK n == 8) with
    | true =>
     have h8:=h8a h8
     have hi1:idx ((st.length - a:Nat):Int) st.length = true:=rg_idx (by omega)
     have hi2:idx ((st.length - a + 1:Nat):Int) st.length = true:=rg_idx (by omega)
     have ew2:IntKind.i64.wrap (((st.length - a:Nat):Int) + 1) = ((st.length - a + 1:Nat):Int):=by rw [wrap_i64 (by omega) (by omega)]; omega
     have hg0:get .bool (st.map noQ) (st.length - a) = ((st.map noQ).drop (st.length - a)).getD 0 false:=by rw [← List.map_drop]; exact map_get (j:=0)
     have hg1:get .bool (st.map noQ) (st.length - a + 1) = ((st.map noQ).drop (st.length - a)).getD 1 false:=by rw [← List.map_drop]; exact map_get (j:=1)
     simp only [hi1,hi2,ew2,cond_true,Int.toNat_natCast,hg0,hg1,Bool.true_and]
     cases ((st.map noQ).drop (st.length - a)).getD 0 false with
     | true=>exact IH
     | false =>
      cases ((st.map noQ).drop (st.length - a)).getD 1 false with
      | true=>exact IH
      | false=>rfl
    | false=>exact IH
def typesR (t:Tree):List Int×Int×Int :=
 match firstE tyE t.subs 0 with
 | some (j,e)=>([],(j:Int),e)
 | none=>bif ty t != 1 then ([],(t.size:Int) - 1,80) else (t.subs.map ty,0,0)
theorem Types_eq (F:Nat) (hF:4096 < F) {p:tPlan.T} {t:Tree} (h:Good p t):units_Types.sh F p = some (((typesR t).1,(typesR t).2.1,(typesR t).2.2,()),()):=by
 unfold units_Types.sh
 rw [check_eq F (by omega),h.check,Constant_eq F hF h]
 simp only [oB_some,bne_self_eq_false,cond_false]
 have hl:=h.len
 have hn:t.subs.length = p.2.2.2.length:=by rw [subs_len,h.flat]
 have hs:t.size = p.2.2.2.length:=by rw [Tree.size,h.flat]
 have hp:=size_pos t
 refine Eq.trans (units_Types.l8.rg_eq F _ _ _ p.2.2.2 _ rfl (by omega) p.2.2.2 0 F _ [] [] [] (by simp) (by omega)) ?_
 refine (types_rg F (by omega) (headE_dims h.head).2.1 (fun r26 r36 r46=>(some ((r26,r36,r46,()),()):Option units_Types.sg.R)) (fun types8 pile8=>units_Types.j23 F (fun r29 r39 r49=>some ((r29,r39,r49,()),())) (fun r210 r310 r410=>some ((r210,r310,r410,()),())) types8 pile8) p.2.2.2 _ (t.subs.map noQ) p.2.2.2 [] [] [] h.ok (by simp [flats]; omega) (by rw [h.subs]; rfl) rfl rfl).trans ?_
 rw [h.subs,h.eq]
 unfold typesR
 rw [show (flats []).length = 0 from rfl]
 cases firstE tyE t.subs 0 with
 | some x=>rfl
 | none =>
  simp only [List.nil_append,List.map_cons,List.map_nil]
  unfold units_Types.j23
  rw [show idx 0 [ty t].length = true from rfl,show get (.int .i64) [ty t] 0 = ty t from rfl,List.length_map,hn,hs,wrap_i64 (by omega) (by omega)]
  cases (ty t != 1) <;> rfl
theorem Types_bad (F:Nat) (hF:4096 < F) {p:tPlan.T} (h:(checkS p).2 ≠ 0):units_Types.sh F p = some (([],(checkS p).1,(checkS p).2,()),()):=by
 unfold units_Types.sh
 rw [check_eq F (by omega)]
 simp only [oB_some]
 rw [show ((checkS p).2 != 0) = true by simpa using h]
 rfl
theorem keep_eq (F:Nat) (u:tWide.T) (o:Bool) (w:tWide.T) (e:Int):bound_meter_keep.sh F (u,o) w e = some ((w,()),((u,o || e != 0),())):=by
 unfold bound_meter_keep.sh
 cases o <;> rfl
theorem mmul_eq (F:Nat) (u:tWide.T) (o:Bool) {a b:tWide.T} (ha:wfW a) (hb:wfW b):bound_meter_mul.sh F (u,o) a b = some ((resW (val a * val b),()),((u,o || errW (val a * val b) != 0),())):=by
 unfold bound_meter_mul.sh
 rw [wmul_eq F ha hb]
 simp only [oB_some]
 rw [keep_eq]
 rfl
theorem madd_eq (F:Nat) (u:tWide.T) (o:Bool) {a b:tWide.T} (ha:wfW a) (hb:wfW b):bound_meter_add.sh F (u,o) a b = some ((resW (val a + val b),()),((u,o || errW (val a + val b) != 0),())):=by
 unfold bound_meter_add.sh
 rw [add_eq F ha hb]
 simp only [oB_some]
 rw [keep_eq]
 rfl
theorem res_in {v:Int} (h:inR v = true):resW v = mk v∧(errW v != 0) = false:=by
 unfold resW errW
 rw [h]
 exact ⟨rfl,rfl⟩
theorem res_out {v:Int} (h:inR v = false):(errW v != 0) = true:=by
 unfold errW
 rw [h]
 rfl
def incT:Int→List tTier.T→Prop
 | _,[]=>True
 | lo,x :: r=>lo < tF x∧tF x ≤ 1000000000000∧-1000000000000 ≤ tR x∧tR x ≤ 1000000000000∧incT (tF x) r
theorem okTiers_inc (L:List tTier.T):∀ (xs:List tTier.T) (i:Nat) (lo:Int),L.drop i = xs→okTiers L xs i = true→(i = 0→∀ x,xs.head? = some x→lo < tF x)→(i ≠ 0→tF (L.getD (i - 1) (0,0)) = lo)→incT lo xs
 | [],i,lo,h,ho,h0,h1=>trivial
 | x :: r,i,lo,h,ho,h0,h1=>by
  simp only [okTiers,okTier,Bool.and_eq_true,Bool.or_eq_true,Bool.not_eq_true',decide_eq_true_eq,decide_eq_false_iff_not] at ho
  obtain ⟨⟨a1,a2,a3,a4⟩,a5⟩:=ho
  have hx:L.getD i (0,0) = x:=by
   have:=congrArg (·[0]?) h
   rw [List.getD_eq_getElem?_getD]
   simp at this
   rw [this]; rfl
  refine ⟨?_,by omega,by omega,by omega,okTiers_inc L r (i + 1) (tF x) (rg_next h) a5 (by omega) (fun _=>by simp only [Nat.add_sub_cancel]; rw [hx])⟩
  by_cases hi:i = 0
  ·exact h0 hi x rfl
  ·rcases a1 with a1 | a1
   ·exact absurd a1 hi
   ·rw [h1 hi] at a1
    omega
theorem risB_inc {l:List tTier.T} (h:risB l = true):1 ≤ l.length∧l.length ≤ 16∧incT (-1) l:=by
 simp only [risB,Bool.and_eq_true,decide_eq_true_eq] at h
 obtain ⟨a1,a2,a3,a4⟩:=h
 refine ⟨a1,a2,okTiers_inc l l 0 (-1) (by simp) a4 (fun _ x hx=>?_) (fun h=>absurd rfl h)⟩
 cases l with
 | nil=>cases hx
 | cons y r =>
  simp only [List.head?_cons,Option.some.injEq] at hx
  subst hx
  have a3:tF y = 0:=a3
  omega
def farZ (v:Int):Int:=if 0 - v > v then 0 - v else v
theorem farZ_bd {v:Int} (h1:-1000000000000 ≤ v) (h2:v ≤ 1000000000000):0 ≤ farZ v∧farZ v ≤ 1000000000000:=by unfold farZ; split <;> omega
theorem far_eq (F:Nat) {v:Int} (h1:-1000000000000 ≤ v) (h2:v ≤ 1000000000000):bound_far.sh F v = some ((farZ v,()),()):=by
 unfold bound_far.sh farZ
 rw [wrap_i64 (n:=0 - v) (by omega) (by omega)]
def waysS:List tTier.T→Int
 | a :: b :: r=>farZ (tR a) * (tF b - tF a) + waysS (b :: r)
 | _=>0
def rateM (r0:Int) (l:List tTier.T):Int:=l.foldl (fun r t=>if farZ (tR t) > r then farZ (tR t) else r) r0
theorem waysS_bd:∀ (l:List tTier.T) (lo:Int),-1 ≤ lo→incT lo l→0 ≤ waysS l∧waysS l ≤ l.length * 1000000000000000000000000
 | [],lo,_,h=>by simp [waysS]
 | [a],lo,_,h=>by simp [waysS]
 | a :: b :: r,lo,hlo,h=>by
  obtain ⟨a1,a2,a3,a4,a5⟩:=h
  have ih:=waysS_bd (b :: r) (tF a) (by omega) a5
  obtain ⟨b1,b2,b3,b4,b5⟩:=a5
  have hf:=farZ_bd (v:=tR a) (by omega) (by omega)
  have:=mul_bd hf.1 hf.2 (show 0 ≤ tF b - tF a by omega) (show tF b - tF a ≤ 1000000000000 by omega)
  have e:(1000000000000:Int) * 1000000000000 = 1000000000000000000000000:=by decide
  rw [e] at this
  simp only [waysS,List.length_cons] at ih ⊢
  push_cast at ih ⊢
  omega
theorem rateM_bd:∀ (l:List tTier.T) (r0 lo:Int),0 ≤ r0→r0 ≤ 1000000000000→incT lo l→0 ≤ rateM r0 l∧rateM r0 l ≤ 1000000000000
 | [],r0,lo,h1,h2,h=>⟨h1,h2⟩
 | a :: r,r0,lo,h1,h2,h=>by
  obtain ⟨a1,a2,a3,a4,a5⟩:=h
  have hf:=farZ_bd (v:=tR a) (by omega) (by omega)
  exact rateM_bd r _ (tF a) (show 0 ≤ (if farZ (tR a) > r0 then farZ (tR a) else r0) by split <;> omega) (show (if farZ (tR a) > r0 then farZ (tR a) else r0) ≤ 1000000000000 by split <;> omega) a5
theorem scaleT_rg (F:Nat) {R:Type} (k:List tTier.T→Int→tBound_meter.T→tWide.T→tWide.T→Option R) (L:List tTier.T) (N:Int) (u x:tWide.T) (r6:tWide.T) (hL:L.length ≤ 16):∀ (xs:List tTier.T) (i:Nat) (rate w lo:Int),L.drop i = xs→-1 ≤ lo→incT lo xs→0 ≤ w→w + xs.length * 1000000000000000000000000 ≤ 20000000000000000000000000 →
  bound_meter_scale.l3.rg F (fun tiers rate _ _ _ _ m x _ ways=>k tiers rate m x ways) L N xs (i:Int) L rate (u,false) x r6 (mk w) = k L (rateM rate xs) (u,false) x (mk (w + waysS xs))
 | [],i,rate,w,lo,h,hlo,hi,hw,hw2=>by simp only [bound_meter_scale.l3.rg,rateM,waysS,List.foldl_nil,Int.add_zero]
 | a :: r,i,rate,w,lo,h,hlo,hi,hw,hw2=>by
  have ⟨a1,a2,a3,a4,a5⟩:=hi
  have h0:=rg_len h
  simp only [List.length_cons] at hw2
  push_cast at hw2
  have hf:=farZ_bd (v:=tR a) (by omega) (by omega)
  have hlen:=congrArg List.length h
  simp only [List.length_drop,List.length_cons] at hlen
  simp only [bound_meter_scale.l3.rg]
  rw [far_eq F (by omega) (by omega),wrap_i64 (n:=(i:Int) + 1) (by omega) (by omega)]
  simp only [oB_some]
  cases r with
  | nil =>
   simp only [List.length_nil] at hlen
   rw [decide_eq_false (show ¬ ((i:Int) + 1 < (L.length:Int)) by omega)]
   simp only [cond_false]
   have:=scaleT_rg F k L N u x r6 hL [] (i + 1) (if farZ (tR a) > rate then farZ (tR a) else rate) w (tF a) (rg_next h) (by omega) trivial hw (by simp; omega)
   rw [rg_cast] at this
   rw [this]
   rfl
  | cons b r =>
   simp only [List.length_cons] at hlen
   rw [decide_eq_true (show ((i:Int) + 1 < (L.length:Int)) by omega)]
   obtain ⟨b1,b2,b3,b4,b5⟩:=a5
   have hg:get tTier L (Int.toNat ((i:Int) + 1)) = b:=by
    rw [← rg_cast]; exact rg_get (rg_next h)
   have hid:idx ((i:Int) + 1) L.length = true:=idx_of (by omega) (by omega)
   have hp:=mul_bd hf.1 hf.2 (show 0 ≤ tF b - tF a by omega) (show tF b - tF a ≤ 1000000000000 by omega)
   rw [show (1000000000000:Int) * 1000000000000 = 1000000000000000000000000 by decide] at hp
   simp only [cond_true]
   rw [of_eq F (v:=farZ (tR a)) (by omega) (by omega),hid,hg,wrap_i64 (n:=tF b - tF a) (by omega) (by omega),of_eq F (v:=tF b - tF a) (by omega) (by omega)]
   simp only [oB_some,cond_true]
   rw [mmul_eq F u false (wf_mk (by rw [inR_iff]; omega)) (wf_mk (by rw [inR_iff]; omega))]
   simp only [oB_some,val_mk]
   have hin:inR (farZ (tR a) * (tF b - tF a)) = true:=by rw [inR_iff]; omega
   rw [(res_in hin).1,(res_in hin).2]
   rw [madd_eq F u _ (wf_mk (by rw [inR_iff]; omega)) (wf_mk hin)]
   simp only [oB_some,val_mk]
   have hin2:inR (w + farZ (tR a) * (tF b - tF a)) = true:=by rw [inR_iff]; omega
   rw [(res_in hin2).1,(res_in hin2).2]
   simp only [beq_self_eq_true,Bool.and_true,Bool.or_false,cond_true]
   have:=scaleT_rg F k L N u x r6 hL (b :: r) (i + 1) (if farZ (tR a) > rate then farZ (tR a) else rate) (w + farZ (tR a) * (tF b - tF a)) (tF a) (rg_next h) (by omega) ⟨b1,b2,b3,b4,b5⟩ (by omega) (by simp only [List.length_cons]; push_cast; simp only [List.length_cons] at hw2; push_cast at hw2; omega)
   rw [rg_cast] at this
   rw [this,Int.add_assoc]
   rfl
def lastF:List tTier.T→Int
 | []=>0
 | [a]=>tF a
 | _ :: b :: r=>lastF (b :: r)
theorem lastF_get:∀ (l:List tTier.T),1 ≤ l.length→tF (l.getD (l.length - 1) (0,0)) = lastF l
 | [],h=>by simp at h
 | [a],h=>rfl
 | a :: b :: r,h=>by
  have:=lastF_get (b :: r) (by simp)
  simp only [lastF,← this]
  rfl
theorem lastF_bd:∀ (l:List tTier.T) (lo:Int),-1 ≤ lo→incT lo l→0 ≤ lastF l∧lastF l ≤ 1000000000000
 | [],lo,h1,h=>by simp [lastF]
 | [a],lo,h1,h=>by
  obtain ⟨a1,a2,a3,a4,a5⟩:=h
  simp only [lastF]; omega
 | a :: b :: r,lo,h1,h=>by
  obtain ⟨a1,a2,a3,a4,a5⟩:=h
  exact lastF_bd (b :: r) (tF a) (by omega) a5
def scaleM (u x:Int) (l:List tTier.T):Int:=u * (rateM 0 l * (x + lastF l) + waysS l)
def BND:Int:=1329227995784915872903807060280344576
theorem mul_ge {a b:Int} (ha:1 ≤ a) (hb:0 ≤ b):b ≤ a * b:=by
 have:=Int.mul_le_mul_of_nonneg_right ha hb
 omega
def scaleK (F:Nat) (tiers7:List tTier.T) (rate7:Int) (m7:tBound_meter.T) (x7 ways7:tWide.T):Option bound_meter_scale.sg.R :=
 bif idx (IntKind.i64.wrap ((tiers7.length:Int) - 1)) tiers7.length then oB (wide_Of.sh F (get tTier tiers7 ((IntKind.i64.wrap ((tiers7.length:Int) - 1)).toNat)).1) fun c_8 =>
  oB (bound_meter_add.sh F m7 x7 c_8.1.1) fun c_9 =>
  bif (((m7.1.1 == c_9.2.1.1.1) && ((m7.1.2 == c_9.2.1.1.2) && true)) && true) then oB (wide_Of.sh F rate7) fun c_10 =>
   oB (bound_meter_mul.sh F c_9.2.1 c_10.1.1 c_9.1.1) fun c_11 =>
   bif (((c_9.2.1.1.1 == c_11.2.1.1.1) && ((c_9.2.1.1.2 == c_11.2.1.1.2) && true)) && true) then oB (bound_meter_add.sh F c_11.2.1 c_11.1.1 ways7) fun c_12 =>
    bif (((c_11.2.1.1.1 == c_12.2.1.1.1) && ((c_11.2.1.1.2 == c_12.2.1.1.2) && true)) && true) then oB (bound_meter_mul.sh F c_12.2.1 c_9.2.1.1 c_12.1.1) fun c_13 =>
     bif (((c_12.2.1.1.1 == c_13.2.1.1.1) && ((c_12.2.1.1.2 == c_13.2.1.1.2) && true)) && true) then some ((c_13.1.1,()),(c_13.2.1,()))
     else none
    else none
   else none
  else none
 else none
theorem inR_pos {v:Int} (h:0 ≤ v):(inR v = true∧v < 170141183460469231731687303715884105728) ∨ (inR v = false∧170141183460469231731687303715884105728 ≤ v):=by
 rcases Int.lt_or_le v 170141183460469231731687303715884105728 with h' | h'
 ·exact .inl ⟨by rw [inR_iff]; omega,h'⟩
 ·exact .inr ⟨by rw [inR_no]; omega,h'⟩
theorem scale_eq (F:Nat) (hF:64 < F) {u x:Int} (hu:1 ≤ u) (hu2:u ≤ 1000000000000000000000000) (hx:0 ≤ x) (hx2:x ≤ BND) {l:List tTier.T} (hl:risB l = true) :
  ∃ w o,bound_meter_scale.sh F (mk u,false) (mk x) l = some ((w,()),((mk u,o),()))∧wfW w∧0 ≤ scaleM u x l∧((o = true∧BND < scaleM u x l) ∨ (o = false∧w = mk (scaleM u x l)∧scaleM u x l < 170141183460469231731687303715884105728)):=by
 obtain ⟨l1,l2,l3⟩:=risB_inc hl
 have hBND:BND = 1329227995784915872903807060280344576:=rfl
 have hlast:=lastF_bd l (-1) (by omega) l3
 have hrate:=rateM_bd l 0 (-1) (by omega) (by omega) l3
 have hways:=waysS_bd l (-1) (by omega) l3
 have hX:bound_meter_scale.sh F (mk u,false) (mk x) l = scaleK F l (rateM 0 l) (mk u,false) (mk x) (mk (0 + waysS l)):=by
  refine Eq.trans (bound_meter_scale.l3.rg_eq F _ l _ rfl (by omega) l 0 F l 0 (mk u,false) (mk x) (0,0) (0,0) (by simp) (by omega)) ?_
  exact scaleT_rg F (scaleK F) l _ (mk u) (mk x) (0,0) l2 l 0 0 0 (-1) (by simp) (by omega) l3 (by omega) (by omega)
 rw [hX]
 unfold scaleK
 rw [wrap_i64 (n:=(l.length:Int) - 1) (by omega) (by omega),show ((l.length:Int) - 1) = ((l.length - 1:Nat):Int) by omega,rg_idx (by omega),Int.toNat_natCast,show (get tTier l (l.length - 1)).1 = lastF l from lastF_get l l1]
 simp only [cond_true,Int.zero_add]
 unfold scaleM
 generalize lastF l = lf at *
 generalize rateM 0 l = rt at *
 generalize waysS l = ws at *
 have iu:inR u = true:=by rw [inR_iff]; omega
 have iws:inR ws = true:=by rw [inR_iff]; omega
 have iR:inR (x + lf) = true:=by rw [inR_iff]; omega
 rw [of_eq F (by omega) (by omega)]
 simp only [oB_some]
 rw [madd_eq F _ _ (wf_mk (by rw [inR_iff]; omega)) (wf_mk (by rw [inR_iff]; omega))]
 simp only [oB_some,val_mk]
 rw [of_eq F (v:=rt) (by omega) (by omega),(res_in iR).1,(res_in iR).2]
 simp only [oB_some,beq_self_eq_true,Bool.and_true,Bool.or_false,cond_true]
 rw [mmul_eq F _ _ (wf_mk (by rw [inR_iff]; omega)) (wf_mk iR)]
 simp only [oB_some,val_mk,beq_self_eq_true,Bool.and_true,cond_true,Bool.false_or]
 have hp0:0 ≤ rt * (x + lf):=Int.mul_nonneg hrate.1 (by omega)
 have hs0:0 ≤ rt * (x + lf) + ws:=by omega
 have hg:=mul_ge hu hs0
 generalize rt * (x + lf) = p at *
 rw [madd_eq F _ _ (wf_resW p) (wf_mk iws)]
 simp only [oB_some,beq_self_eq_true,Bool.and_true,cond_true]
 rw [mmul_eq F _ _ (wf_mk iu) (wf_resW _)]
 simp only [oB_some,beq_self_eq_true,Bool.and_true,cond_true,val_mk]
 refine ⟨_,_,rfl,wf_resW _,by omega,?_⟩
 rcases inR_pos hp0 with ⟨i1,b1⟩ | ⟨i1,b1⟩
 ·rw [(res_in i1).1,(res_in i1).2,val_mk]
  rcases inR_pos hs0 with ⟨i2,b2⟩ | ⟨i2,b2⟩
  ·rw [(res_in i2).1,(res_in i2).2,val_mk]
   rcases inR_pos (v:=u * (p + ws)) (by omega) with ⟨i3,b3⟩ | ⟨i3,b3⟩
   ·rw [(res_in i3).1,(res_in i3).2]
    exact .inr ⟨rfl,rfl,b3⟩
   ·rw [res_out i3]
    exact .inl ⟨by simp,by omega⟩
  ·rw [res_out i2]
   exact .inl ⟨by simp,by omega⟩
 ·rw [res_out i1]
  exact .inl ⟨by simp,by omega⟩
def sumL (l:List Int):Int:=l.sum
def magN (u:Int) (D:List tDim.T) (n:tNode.T) (vs:List Int):Int :=
 bif nK n == 1 then nN n else bif nK n == 2 then nN n * u else bif nK n == 3 then 1099511627776
 else bif nK n == 4 then ceilD 1099511627776 (dS (D.getD (nN n).toNat (ByteArray.empty,0)))
 else bif nK n == 8 then vs.getD 0 0 * vs.getD 1 0
 else bif nK n == 13 || nK n == 14 then scaleM u (vs.getD 0 0) (nT n)
 else bif nK n == 15 then vs.getD 0 0
 else bif nK n == 11 || (nK n == 12 || nK n == 16) then sumL vs + nN n
 else sumL vs
def farN (n:tNode.T) (v:Int):Int:=bif nK n == 15 then v * 10000 else v
def mag (u:Int) (D:List tDim.T):Tree→Int:=Tree.fold (magN u D)
theorem mag_nd (u:Int) (D:List tDim.T) (n:tNode.T) (ks:List Tree):mag u D (.nd n ks) = magN u D n (ks.map (mag u D)):=Tree.fold_nd _ n ks
def magE (u:Int) (D:List tDim.T) (t:Tree):Int:=bif decide (farN t.root (mag u D t) > BND) then 90 else 0
theorem dE_sizes:∀ (l pre:List tDim.T),dE pre l = 0→∀ d ∈ l,1 ≤ dS d∧dS d ≤ 1000000000000
 | [],pre,h,d,hd=>by simp at hd
 | x :: r,pre,h,d,hd=>by
  simp only [dE] at h
  cases h1:nameB x.1.data.toList with
  | false=>rw [h1] at h; exact absurd (show (61:Int) = 0 from h) (by decide)
  | true =>
  rw [h1] at h
  cases h2:pre.any (fun e=>sameN e.1 x.1) with
  | true=>rw [h2] at h; exact absurd (show (61:Int) = 0 from h) (by decide)
  | false =>
  rw [h2] at h
  cases h3:decide (dS x < 1) with
  | true=>rw [h3] at h; exact absurd (show (50:Int) = 0 from h) (by decide)
  | false =>
  rw [h3] at h
  cases h4:decide (dS x > 1000000000000) with
  | true=>rw [h4] at h; exact absurd (show (50:Int) = 0 from h) (by decide)
  | false =>
  rw [h4] at h
  have h3:=of_decide_eq_false h3
  have h4:=of_decide_eq_false h4
  rcases List.mem_cons.1 hd with rfl | hd
  ·exact ⟨by omega,by omega⟩
  ·exact dE_sizes r _ h d hd
theorem sumV_mk:∀ (l:List Int),sumV (l.map mk) = sumL l
 | []=>rfl
 | x :: r=>by
  have:=sumV_mk r
  simp only [sumV,sumL,List.map_cons,List.sum_cons,val_mk] at *
  rw [this]
theorem sumL_bd {b:Int}:∀ (l:List Int),(∀ v ∈ l,0 ≤ v∧v ≤ b)→0 ≤ sumL l∧sumL l ≤ l.length * b
 | [],h=>by simp [sumL]
 | x :: r,h=>by
  have ih:=sumL_bd r (fun v hv=>h v (by simp [hv]))
  have hx:=h x (by simp)
  simp only [sumL,List.sum_cons,List.length_cons] at *
  push_cast
  rw [Int.add_mul]
  omega
theorem getD_bd {b:Int} {l:List Int} (h:∀ v ∈ l,0 ≤ v∧v ≤ b) {i:Nat} (hi:i < l.length):0 ≤ l.getD i 0∧l.getD i 0 ≤ b:=by
 rw [List.getD_eq_getElem?_getD,List.getElem?_eq_getElem hi]
 exact h _ (List.getElem_mem _)
theorem getD_mk {l:List Int} {i:Nat} (hi:i < l.length):get tWide (l.map mk) i = mk (l.getD i 0):=by
 unfold get
 rw [List.getD_eq_getElem?_getD,List.getD_eq_getElem?_getD,List.getElem?_map,List.getElem?_eq_getElem hi]
 rfl
theorem ceilD_bd {s:Int} (h1:1 ≤ s):0 ≤ ceilD 1099511627776 s∧ceilD 1099511627776 s ≤ 1099511627777:=by
 have hq1:0 ≤ 1099511627776 / s:=Int.ediv_nonneg (by omega) (by omega)
 have hq2:1099511627776 / s ≤ 1099511627776:=Int.ediv_le_self _ (by omega)
 unfold ceilD
 split <;> omega
def NodeR (u:Int) (D:List tDim.T) (n:tNode.T) (vs:List Int) (r:Option bound_meter_node.sg.R):Prop :=
 ∃ w o,r = some ((w,()),((mk u,o),()))∧wfW w∧0 ≤ magN u D n vs∧((o = true∧BND < farN n (magN u D n vs)) ∨ (o = false∧w = mk (magN u D n vs)∧farN n (magN u D n vs) < 170141183460469231731687303715884105728))
theorem NodeR.of {u:Int} {D:List tDim.T} {n:tNode.T} {vs:List Int} {v:Int} (hm:magN u D n vs = v) (hf:(nK n == 15) = false) (h0:0 ≤ v) {r:Option bound_meter_node.sg.R} (o:Bool)
  (hr:r = some ((resW v,()),((mk u,o || errW v != 0),()))) (ho:o = false):NodeR u D n vs r:=by
 subst ho
 refine ⟨_,_,hr,wf_resW _,by rw [hm]; exact h0,?_⟩
 have hBND:BND = 1329227995784915872903807060280344576:=rfl
 unfold farN
 rw [hm,hf]
 simp only [cond_false,Bool.false_or]
 rcases inR_pos h0 with ⟨i,b⟩ | ⟨i,b⟩
 ·rw [(res_in i).1,(res_in i).2]; exact .inr ⟨rfl,rfl,b⟩
 ·rw [res_out i]; exact .inl ⟨rfl,by omega⟩
theorem BND_eq:BND = 1329227995784915872903807060280344576:=rfl
theorem j18_eq (F:Nat) (hF:64 < F) {u:Int} {n:tNode.T} {vs:List Int} (hv:∀ v ∈ vs,0 ≤ v∧v ≤ BND) (hl:vs.length ≤ 16) (hN:0 ≤ nN n) (hN2:nN n ≤ 1000000000000) :
  bound_meter_node.j18 F (fun m r=>(some ((r,()),(m,())):Option bound_meter_node.sg.R)) (vs.map mk) (mk u,false) n (0,0) =
   some ((mk (bif nK n == 11 || (nK n == 12 || nK n == 16) then sumL vs + nN n else sumL vs),()),((mk u,false),())):=by
 have hs:=sumL_bd vs hv
 have hsb:sumL vs ≤ 21267647932558653966460912964485513216:=by
  have:(vs.length:Int) * BND ≤ 16 * BND:=Int.mul_le_mul_of_nonneg_right (by omega) (by rw [BND_eq]; omega)
  rw [BND_eq] at this hs
  omega
 have i1:inR (sumL vs) = true:=by rw [inR_iff]; omega
 have i2:inR (sumL vs + nN n) = true:=by rw [inR_iff]; omega
 unfold bound_meter_node.j18
 rw [wsum_eq F (by
  intro x hx
  obtain ⟨v,hv',rfl⟩:=List.mem_map.1 hx
  have:=hv v hv'
  rw [BND_eq] at this
  exact wf_mk (by rw [inR_iff]; omega)) (by simp; omega) (by simp; omega)]
 simp only [oB_some,sumV_mk]
 rw [keep_eq,(res_in i1).1,(res_in i1).2]
 simp only [oB_some]
 rw [of_eq F (v:=nN n) (by omega) (by omega)]
 simp only [oB_some,Bool.or_false]
 rw [madd_eq F _ _ (wf_mk i1) (wf_mk (by rw [inR_iff]; omega))]
 simp only [oB_some,val_mk]
 rw [(res_in i2).1,(res_in i2).2]
 cases (nK n == 11) <;> cases (nK n == 12) <;> cases (nK n == 16) <;> rfl
theorem most_le {n:tNode.T} {dims:Nat} (hd:dims ≤ 4) (h:nN n ≤ mostN n dims) (hg:goodK n = true):nN n ≤ 1000000000000:=by
 rcases kinds16 hg with h' | h' | h' | h' | h' | h' | h' | h' | h' | h' | h' | h' | h' | h' | h' | h' <;> rw [most_of h'] at h
 ·exact h
 ·exact h
 ·have h:nN n ≤ (dims:Int) - 1:=h; omega
 ·have h:nN n ≤ (dims:Int) - 1:=h; omega
 ·have h:nN n ≤ 0:=h; omega
 ·have h:nN n ≤ 0:=h; omega
 ·have h:nN n ≤ 0:=h; omega
 ·have h:nN n ≤ 0:=h; omega
 ·have h:nN n ≤ 0:=h; omega
 ·have h:nN n ≤ 0:=h; omega
 ·exact h
 ·exact h
 ·have h:nN n ≤ 0:=h; omega
 ·have h:nN n ≤ 0:=h; omega
 ·have h:nN n ≤ 10000:=h; omega
 ·exact h
theorem node_sum (F:Nat) (hF:64 < F) {u:Int} (p:tPlan.T) {n:tNode.T} {vs:List Int} {D:List tDim.T} (hv:∀ v ∈ vs,0 ≤ v∧v ≤ BND) (hl:vs.length ≤ 16) (hN:0 ≤ nN n) (hN2:nN n ≤ 1000000000000) {k:Int} (h:nK n = k)
  (hk:k = 5 ∨ k = 6 ∨ k = 7 ∨ k = 9 ∨ k = 10 ∨ k = 11 ∨ k = 12 ∨ k = 16):NodeR u D n vs (bound_meter_node.sh F (mk u,false) p n (vs.map mk)):=by
 have hj:=j18_eq F hF (u:=u) (n:=n) hv hl hN hN2
 have hs:=sumL_bd vs hv
 have hsb:sumL vs ≤ 21267647932558653966460912964485513216:=by
  have:(vs.length:Int) * BND ≤ 16 * BND:=Int.mul_le_mul_of_nonneg_right (by omega) (by rw [BND_eq]; omega)
  rw [BND_eq] at this hs
  omega
 have hm:magN u D n vs = bif nK n == 11 || (nK n == 12 || nK n == 16) then sumL vs + nN n else sumL vs:=by
  unfold magN
  rw [h]
  rcases hk with rfl | rfl | rfl | rfl | rfl | rfl | rfl | rfl <;> rfl
 have he:bound_meter_node.sh F (mk u,false) p n (vs.map mk) = bound_meter_node.j18 F (fun m r=>(some ((r,()),(m,())):Option bound_meter_node.sg.R)) (vs.map mk) (mk u,false) n (0,0):=by
  unfold bound_meter_node.sh
  have h':n.1 = k:=h
  rw [h']
  rcases hk with rfl | rfl | rfl | rfl | rfl | rfl | rfl | rfl <;> rfl
 have hf:(nK n == 15) = false:=by rw [h]; rcases hk with rfl | rfl | rfl | rfl | rfl | rfl | rfl | rfl <;> rfl
 rw [he,hj]
 have hb:0 ≤ magN u D n vs∧magN u D n vs < 170141183460469231731687303715884105728:=by
  rw [hm]
  cases (nK n == 11 || (nK n == 12 || nK n == 16)) <;> simp only [cond_true,cond_false] <;> omega
 rw [← hm]
 refine ⟨_,_,rfl,wf_mk (by rw [inR_iff]; omega),hb.1,.inr ⟨rfl,rfl,?_⟩⟩
 unfold farN
 rw [hf]
 exact hb.2
theorem mnode_eq (F:Nat) (hF:64 < F) {u:Int} (hu:1 ≤ u) (hu2:u ≤ 1000000000000000000000000) {p:tPlan.T} (hD:dE [] p.2.1 = 0) (hd4:p.2.1.length ≤ 4) {n:tNode.T} {pile:Nat} (hn:nodeE p.2.1.length n pile = 0)
  {vs:List Int} (hl:vs.length = ar n) (hv:∀ v ∈ vs,0 ≤ v∧v ≤ BND):NodeR u p.2.1 n vs (bound_meter_node.sh F (mk u,false) p n (vs.map mk)):=by
 obtain ⟨g1,g2,g3,g4,g5,g6,g7,g8⟩:=nodeE_ok hn
 have ha:=ar_le g1 g4
 have hN2:=most_le hd4 g3 g1
 have iu:inR u = true:=by rw [inR_iff]; omega
 have iN:inR (nN n) = true:=by rw [inR_iff]; omega
 rcases kinds16 g1 with h | h | h | h | h | h | h | h | h | h | h | h | h | h | h | h
 ·refine NodeR.of (v:=nN n) (by unfold magN; rw [h]; rfl) (by rw [h]; rfl) g2 false ?_ rfl
  unfold bound_meter_node.sh
  have h':n.1 = 1:=h
  rw [h',of_eq F (v:=nN n) (by omega) (by omega),(res_in iN).1,(res_in iN).2]
  rfl
 ·refine NodeR.of (v:=nN n * u) (by unfold magN; rw [h]; rfl) (by rw [h]; rfl) (Int.mul_nonneg g2 (by omega)) false ?_ rfl
  unfold bound_meter_node.sh
  have h':n.1 = 2:=h
  rw [h',of_eq F (v:=nN n) (by omega) (by omega)]
  have e:=mmul_eq F (mk u) false (wf_mk iN) (wf_mk iu)
  rw [val_mk,val_mk] at e
  exact (congrArg (fun x=>oB x fun c_3=>(some ((c_3.1.1,()),(c_3.2.1,())):Option bound_meter_node.sg.R)) e).trans rfl
 ·refine NodeR.of (v:=1099511627776) (by unfold magN; rw [h]; rfl) (by rw [h]; rfl) (by decide) false ?_ rfl
  unfold bound_meter_node.sh
  have h':n.1 = 3:=h
  rw [h',of_eq F (v:=1099511627776) (by omega) (by omega)]
  rfl
 ·have hNd:nN n ≤ (p.2.1.length:Int) - 1:=by have:=g3; rw [most_of h] at this; exact this
  have hi:(nN n).toNat < p.2.1.length:=by omega
  have hsz:1 ≤ dS (p.2.1.getD (nN n).toNat (ByteArray.empty,0))∧dS (p.2.1.getD (nN n).toNat (ByteArray.empty,0)) ≤ 1000000000000:=by
   rw [List.getD_eq_getElem?_getD,List.getElem?_eq_getElem hi]
   exact dE_sizes p.2.1 [] hD _ (List.getElem_mem _)
  have hc:=ceilD_bd hsz.1
  have ic:inR (ceilD 1099511627776 (dS (p.2.1.getD (nN n).toNat (ByteArray.empty,0)))) = true:=by rw [inR_iff]; omega
  refine NodeR.of (v:=ceilD 1099511627776 (dS (p.2.1.getD (nN n).toNat (ByteArray.empty,0)))) (by unfold magN; rw [h]; rfl) (by rw [h]; rfl) hc.1 false ?_ rfl
  unfold bound_meter_node.sh
  have h':n.1 = 4:=h
  have hid:idx (nN n) p.2.1.length = true:=idx_of (by omega) (by omega)
  have hof:=of_eq F (v:=dS (p.2.1.getD (nN n).toNat (ByteArray.empty,0))) (by omega) (by omega)
  have e:=div_ceil F hsz.1 hsz.2
  have e2:=keep_eq F (mk u) false (mk (ceilD 1099511627776 (dS (p.2.1.getD (nN n).toNat (ByteArray.empty,0))))) 0
  rw [h',of_eq F (v:=1099511627776) (by omega) (by omega),show idx n.2.1 p.2.1.length = true from hid,show wide_Of.sh F (get tDim p.2.1 n.2.1.toNat).2 = _ from hof]
  rw [(res_in ic).1,(res_in ic).2]
  show (oB (times_Div.sh F (mk 1099511627776) (mk _) 1) fun c_7=>oB (bound_meter_keep.sh F (mk u,false) c_7.1.1 c_7.1.2.1) fun c_8=>some ((c_8.1.1,()),(c_8.2.1,()))) = _
  rw [e]
  simp only [oB_some]
  rw [e2]
  rfl
 ·exact node_sum F hF p hv (by omega) g2 hN2 h (by decide)
 ·exact node_sum F hF p hv (by omega) g2 hN2 h (by decide)
 ·exact node_sum F hF p hv (by omega) g2 hN2 h (by decide)
 ·have ea:ar n = 2:=by rw [ar_of h]; rfl
  have b0:=getD_bd hv (i:=0) (by omega)
  have b1:=getD_bd hv (i:=1) (by omega)
  rw [BND_eq] at b0 b1
  refine NodeR.of (v:=vs.getD 0 0 * vs.getD 1 0) (by unfold magN; rw [h]; rfl) (by rw [h]; rfl) (Int.mul_nonneg b0.1 b1.1) false ?_ rfl
  unfold bound_meter_node.sh
  have h':n.1 = 8:=h
  have e:=mmul_eq F (mk u) false (wf_mk (v:=vs.getD 0 0) (by rw [inR_iff]; omega)) (wf_mk (v:=vs.getD 1 0) (by rw [inR_iff]; omega))
  rw [val_mk,val_mk] at e
  rw [h',idx0 (n:=(vs.map mk).length) (by simp; omega),idx1 (n:=(vs.map mk).length) (by simp; omega),getD_mk (i:=0) (by omega),getD_mk (i:=1) (by omega)]
  exact (congrArg (fun x=>oB x fun c_3=>(some ((c_3.1.1,()),(c_3.2.1,())):Option bound_meter_node.sg.R)) e).trans rfl
 ·exact node_sum F hF p hv (by omega) g2 hN2 h (by decide)
 ·exact node_sum F hF p hv (by omega) g2 hN2 h (by decide)
 ·exact node_sum F hF p hv (by omega) g2 hN2 h (by decide)
 ·exact node_sum F hF p hv (by omega) g2 hN2 h (by decide)
 ·have ea:ar n = 1:=by rw [ar_of h]; rfl
  have b0:=getD_bd hv (i:=0) (by omega)
  have ht:tierB n = true:=by unfold tierB asks; rw [h]; rfl
  obtain ⟨w,o,q1,q2,q3,q4⟩:=scale_eq F hF hu hu2 b0.1 b0.2 (g8 ht)
  have hm:magN u p.2.1 n vs = scaleM u (vs.getD 0 0) (nT n):=by unfold magN; rw [h]; rfl
  have hf:farN n (magN u p.2.1 n vs) = scaleM u (vs.getD 0 0) (nT n):=by unfold farN; rw [h,hm]; rfl
  refine ⟨w,o,?_,q2,by rw [hm]; exact q3,by rw [hf,hm]; exact q4⟩
  unfold bound_meter_node.sh
  have h':n.1 = 13:=h
  rw [h',idx0 (n:=(vs.map mk).length) (by simp; omega),getD_mk (i:=0) (by omega)]
  exact (congrArg (fun x=>oB x fun c_3=>(some ((c_3.1.1,()),(c_3.2.1,())):Option bound_meter_node.sg.R)) q1).trans rfl
 ·have ea:ar n = 1:=by rw [ar_of h]; rfl
  have b0:=getD_bd hv (i:=0) (by omega)
  have ht:tierB n = true:=by unfold tierB asks; rw [h]; rfl
  obtain ⟨w,o,q1,q2,q3,q4⟩:=scale_eq F hF hu hu2 b0.1 b0.2 (g8 ht)
  have hm:magN u p.2.1 n vs = scaleM u (vs.getD 0 0) (nT n):=by unfold magN; rw [h]; rfl
  have hf:farN n (magN u p.2.1 n vs) = scaleM u (vs.getD 0 0) (nT n):=by unfold farN; rw [h,hm]; rfl
  refine ⟨w,o,?_,q2,by rw [hm]; exact q3,by rw [hf,hm]; exact q4⟩
  unfold bound_meter_node.sh
  have h':n.1 = 14:=h
  rw [h',idx0 (n:=(vs.map mk).length) (by simp; omega),getD_mk (i:=0) (by omega)]
  exact (congrArg (fun x=>oB x fun c_3=>(some ((c_3.1.1,()),(c_3.2.1,())):Option bound_meter_node.sg.R)) q1).trans rfl
 ·have ea:ar n = 1:=by rw [ar_of h]; rfl
  have b0:=getD_bd hv (i:=0) (by omega)
  rw [BND_eq] at b0
  have hm:magN u p.2.1 n vs = vs.getD 0 0:=by unfold magN; rw [h]; rfl
  have hf:farN n (magN u p.2.1 n vs) = vs.getD 0 0 * 10000:=by unfold farN; rw [h,hm]; rfl
  have h':n.1 = 15:=h
  have e:=mmul_eq F (mk u) false (wf_mk (v:=vs.getD 0 0) (by rw [inR_iff]; omega)) (wf_mk (v:=10000) (by rw [inR_iff]; omega))
  rw [val_mk,val_mk] at e
  refine ⟨mk (vs.getD 0 0),errW (vs.getD 0 0 * 10000) != 0,?_,wf_mk (by rw [inR_iff]; omega),by rw [hm]; exact b0.1,?_⟩
  ·unfold bound_meter_node.sh
   rw [h',idx0 (n:=(vs.map mk).length) (by simp; omega),getD_mk (i:=0) (by omega),of_eq F (v:=10000) (by omega) (by omega)]
   exact (congrArg (fun x=>oB x fun c_3=>(some ((mk (vs.getD 0 0),()),(c_3.2.1,())):Option bound_meter_node.sg.R)) e).trans rfl
  ·rw [hf,hm]
   rcases inR_pos (v:=vs.getD 0 0 * 10000) (by omega) with ⟨i,b⟩ | ⟨i,b⟩
   ·rw [(res_in i).2]; exact .inr ⟨rfl,rfl,b⟩
   ·rw [res_out i]; exact .inl ⟨rfl,by rw [BND_eq]; omega⟩
 ·exact node_sum F hF p hv (by omega) g2 hN2 h (by decide)
theorem above_eq (F:Nat) {n:tNode.T} {v:Int} (h0:0 ≤ v) (h:farN n v < 170141183460469231731687303715884105728):bound_above.sh F n (mk v) = some ((decide (farN n v > BND),()),()):=by
 have hB:val (72057594037927936,0) = BND:=rfl
 have wB:wfW (72057594037927936,0):=by simp [wfW]
 have hc:∀ x:Int,decide (cmpZ x BND > 0) = decide (x > BND):=by
  intro x
  unfold cmpZ
  rcases Int.lt_trichotomy x BND with h | h | h
  ·rw [if_pos h,decide_eq_false (by omega),decide_eq_false (by omega)]
  ·rw [if_neg (by omega),if_pos h,decide_eq_false (by omega),decide_eq_false (by omega)]
  ·rw [if_neg (by omega),if_neg (by omega),decide_eq_true (by omega),decide_eq_true (by omega)]
 unfold bound_above.sh farN at *
 cases h15:(nK n == 15) with
 | true =>
  rw [h15] at h
  simp only [cond_true] at h ⊢
  have iv:inR v = true:=by rw [inR_iff]; omega
  have i2:inR (v * 10000) = true:=by rw [inR_iff]; omega
  rw [of_eq F (v:=10000) (by omega) (by omega)]
  simp only [oB_some]
  rw [wmul_eq F (wf_mk iv) (wf_mk (v:=10000) (by rw [inR_iff]; omega))]
  simp only [oB_some,val_mk]
  rw [(res_in i2).1,cmp_eq F (wf_mk i2) wB]
  simp only [oB_some,val_mk,hB,hc]
 | false =>
  rw [h15] at h
  simp only [cond_false] at h ⊢
  have iv:inR v = true:=by rw [inR_iff]; omega
  rw [cmp_eq F (wf_mk iv) wB]
  simp only [oB_some,val_mk,hB,hc]
theorem btakes_eq (F:Nat) {n:tNode.T} (hg:goodK n = true) (hk:kidsK n = true):bound_takes.sh F n = some (((ar n:Int),()),()):=by
 have h9:∀ k:Int,(nK n = k)→(k = 9 ∨ k = 10)→(ar n:Int) = nC n:=by
  intro k h hkk
  rw [kids_of h] at hk
  have hk:(decide (nC n ≥ 2) && decide (nC n ≤ 16)) = true:=by rcases hkk with rfl | rfl <;> exact hk
  simp at hk
  have:ar n = (nC n).toNat:=by rw [ar_of h]; rcases hkk with rfl | rfl <;> rfl
  omega
 unfold bound_takes.sh
 rcases kinds16 hg with h | h | h | h | h | h | h | h | h | h | h | h | h | h | h | h <;> rw [show n.1 = _ from h]
 ·rw [ar_of h]; rfl
 ·rw [ar_of h]; rfl
 ·rw [ar_of h]; rfl
 ·rw [ar_of h]; rfl
 ·rw [ar_of h]; rfl
 ·rw [ar_of h]; rfl
 ·rw [ar_of h]; rfl
 ·rw [ar_of h]; rfl
 ·rw [h9 9 h (.inl rfl)]; rfl
 ·rw [h9 10 h (.inr rfl)]; rfl
 ·rw [ar_of h]; rfl
 ·rw [ar_of h]; rfl
 ·rw [ar_of h]; rfl
 ·rw [ar_of h]; rfl
 ·rw [ar_of h]; rfl
 ·rw [ar_of h]; rfl
theorem measured_rg (F:Nat) (hF:64 < F) {R:Type} {u:Int} (hu:1 ≤ u) (hu2:u ≤ 1000000000000000000000000) {p:tPlan.T} (hD:dE [] p.2.1 = 0) (hd4:p.2.1.length ≤ 4) (kE:List tWide.T→Int→Option R) (kO:List tWide.T→Option R) (L:List tNode.T) (N:Int):∀ (xs:List tNode.T) (st:List Tree) (i:Nat) (mags:List tWide.T),
  okS p.2.1.length st xs→(flats st).length + xs.length ≤ 2048→mags.length ≤ (flats st).length→(∀ t ∈ st,0 ≤ mag u p.2.1 t∧mag u p.2.1 t ≤ BND) →
  bound_measured.l4.rg F kE (fun _ _ _ _ _ _ mags _=>kO mags) L N xs (i:Int) p (mk u,false) mags (st.map fun t=>mk (mag u p.2.1 t)) =
   match firstE (magE u p.2.1) (news st xs) i with
   | some (j,e)=>kE [] (j:Int)
   | none=>kO (mags ++ (news st xs).map fun t=>mk (mag u p.2.1 t)):=by
 intro xs
 induction xs with
 | nil=>intro st i mags h h2 h3 h4; simp [bound_measured.l4.rg,news,firstE]
 | cons n xs ih =>
  intro st i mags h h2 h3 h4
  obtain ⟨g1,g2,g3,g4,g5,g6,g7,g8⟩:=nodeE_ok h.1
  have hst:=len_flats st
  have hfs:=congrArg List.length (flats_step st n)
  simp only [List.length_cons,List.length_append,List.length_nil] at h2 hfs
  have hdr:∀ t ∈ st.drop (st.length - ar n),0 ≤ mag u p.2.1 t∧mag u p.2.1 t ≤ BND:=fun t ht=>h4 t (List.mem_of_mem_drop ht)
  have hmm:mag u p.2.1 (topT st n) = magN u p.2.1 n ((st.drop (st.length - ar n)).map (mag u p.2.1)):=by unfold topT; rw [mag_nd]
  have hnode:=mnode_eq F hF hu hu2 hD hd4 h.1 (vs:=(st.drop (st.length - ar n)).map (mag u p.2.1)) (by simp; omega) (by
   intro v hv
   obtain ⟨t,ht,rfl⟩:=List.mem_map.1 hv
   exact hdr t ht)
  obtain ⟨w,o,q1,q2,q3,q4⟩:=hnode
  rw [← hmm] at q3 q4
  have hl:(st.map fun t=>mk (mag u p.2.1 t)).length = st.length:=by simp
  have hE:magE u p.2.1 (topT st n) = bif decide (farN n (mag u p.2.1 (topT st n)) > BND) then 90 else 0:=rfl
  have hdm:(st.map fun t=>mk (mag u p.2.1 t)).drop (st.length - ar n) = ((st.drop (st.length - ar n)).map (mag u p.2.1)).map mk:=by
   rw [← List.map_drop,List.map_map]; rfl
  have ew:=wrap_sub g7 (by omega)
  have hb1:=bounds_lo (show st.length - ar n ≤ st.length by omega)
  have hb2:=bounds_hi (show st.length - ar n ≤ st.length by omega)
  have htk:(st.map fun t=>mk (mag u p.2.1 t)).take st.length = st.map fun t=>mk (mag u p.2.1 t):=List.take_of_length_le (by omega)
  have hbl1:∀ y,Nat.ble (mags.length + ([y]:List tWide.T).length) maxN = true:=fun y=>ble_of (by simp; omega)
  have hbl2:∀ y,Nat.ble (st.length - ar n + ([y]:List tWide.T).length) maxN = true:=fun y=>ble_of (by simp; omega)
  simp only [bound_measured.l4.rg]
  rw [btakes_eq F g1 g4]
  simp only [oB_some,hl,ew,hb1,hb2,htk,cond_true,hdm]
  rw [q1]
  simp only [oB_some,news,firstE,hE]
  rcases q4 with ⟨rfl,hbig⟩ | ⟨rfl,rfl,hsm⟩
  ·rw [decide_eq_true hbig]
   rfl
  ·rw [above_eq F q3 hsm]
   simp only [oB_some,cond_false]
   cases hfar:decide (farN n (mag u p.2.1 (topT st n)) > BND) with
   | true=>rfl
   | false =>
    have hfar:=of_decide_eq_false hfar
    have hle:mag u p.2.1 (topT st n) ≤ BND:=by
     unfold farN at hfar
     cases h15:(nK n == 15) with
     | true=>rw [h15] at hfar; simp only [cond_true] at hfar; omega
     | false=>rw [h15] at hfar; simp only [cond_false] at hfar; omega
    have hstep:(stepT st n).map (fun t=>mk (mag u p.2.1 t)) = (st.map fun t=>mk (mag u p.2.1 t)).take (st.length - ar n) ++ [mk (mag u p.2.1 (topT st n))]:=by
     unfold stepT; simp [List.map_take]
    have IH:=ih (stepT st n) (i + 1) (mags ++ [mk (mag u p.2.1 (topT st n))]) h.2 (by omega) (by simp; omega) (by
     intro t ht
     rcases List.mem_append.1 ht with ht | ht
     ·exact h4 t (List.mem_of_mem_take ht)
     ·rw [List.mem_singleton.1 ht]; exact ⟨q3,hle⟩)
    rw [hstep,rg_cast] at IH
    simp only [hbl1,hbl2,cond_true,cond_false]
    refine IH.trans ?_
    simp only [List.append_assoc,List.singleton_append,List.map_cons]
    rfl
def measR (u:Int) (D:List tDim.T) (t:Tree):List tWide.T×Int :=
 match firstE (magE u D) t.subs 0 with
 | some (j,e)=>([],(j:Int))
 | none=>(t.subs.map fun t=>mk (mag u D t),-1)
theorem measured_eq (F:Nat) (hF:4096 < F) {u:Int} (hu:1 ≤ u) (hu2:u ≤ 1000000000000000000000000) {p:tPlan.T} {t:Tree} (h:Good p t):bound_measured.sh F p (mk u) = some (((measR u p.2.1 t).1,(measR u p.2.1 t).2,()),()):=by
 unfold bound_measured.sh
 have hl:=h.len
 have hh:=headE_dims h.head
 refine Eq.trans (bound_measured.l4.rg_eq F _ _ p.2.2.2 _ rfl (by omega) p.2.2.2 0 F _ _ _ _ (by simp) (by omega)) ?_
 refine (measured_rg F (by omega) hu hu2 hh.2.2.1 hh.2.1 (fun r44 r54=>(some ((r44,r54,()),()):Option bound_measured.sg.R)) (fun mags=>bound_measured.j13 F (fun r46 r56=>some ((r46,r56,()),())) mags) p.2.2.2 _ p.2.2.2 [] 0 [] h.ok (by simp [flats]; omega) (by simp) (by simp)).trans ?_
 rw [h.subs]
 unfold measR
 cases firstE (magE u p.2.1) t.subs 0 with
 | some x=>rfl
 | none=>rfl
def unitV (t:Tree):Int:=10000 ^ (deep t).toNat
theorem unitV_bd {t:Tree} (h:deep t ≤ 6):1 ≤ unitV t∧unitV t ≤ 1000000000000000000000000:=by
 have:=(deep_bd t).1
 unfold unitV
 have:(deep t).toNat = 0 ∨ (deep t).toNat = 1 ∨ (deep t).toNat = 2 ∨ (deep t).toNat = 3 ∨ (deep t).toNat = 4 ∨ (deep t).toNat = 5 ∨ (deep t).toNat = 6:=by omega
 rcases this with h | h | h | h | h | h | h <;> rw [h] <;> decide
def unitR (D:List tDim.T) (t:Tree):tWide.T×Int×Int :=
 bif (typesR t).2.2 != 0 then ((0,0),(typesR t).2.1,(typesR t).2.2)
 else bif decide (deep t > 6) then ((0,0),(t.size:Int) - 1,90)
 else bif decide ((measR (unitV t) D t).2 ≥ 0) then ((0,0),(measR (unitV t) D t).2,90)
 else (mk (unitV t),0,0)
theorem FU_big:4096 < FU:=by decide
theorem Unit_eq {p:tPlan.T} {t:Tree} (h:Good p t):bound_Unit.sh FU p = some (((unitR p.2.1 t).1,(unitR p.2.1 t).2.1,(unitR p.2.1 t).2.2,()),()):=by
 have hl:=h.len
 have hs:t.size = p.2.2.2.length:=by rw [Tree.size,h.flat]
 have hp:=size_pos t
 unfold bound_Unit.sh unitR
 rw [Types_eq FU FU_big h]
 simp only [oB_some]
 cases h1:((typesR t).2.2 != 0) with
 | true=>rfl
 | false =>
  simp only [cond_false]
  rw [Scale_eq FU FU_big h]
  simp only [oB_some]
  rw [← hs,wrap_i64 (n:=(t.size:Int) - 1) (by omega) (by omega)]
  cases h2:decide (deep t > 6) with
  | true=>rfl
  | false =>
   have h2:=of_decide_eq_false h2
   have hd:=(deep_bd t).1
   have hu:=unitV_bd (t:=t) (by omega)
   simp only [cond_false]
   rw [power_eq hd (by omega)]
   simp only [oB_some]
   have:=measured_eq FU FU_big hu.1 hu.2 h
   unfold unitV at *
   rw [this]
   simp only [oB_some]
   cases decide ((measR (10000 ^ (deep t).toNat) p.2.1 t).2 ≥ 0) <;> rfl
theorem Unit_bad {p:tPlan.T} (h:(checkS p).2 ≠ 0):bound_Unit.sh FU p = some (((0,0),(checkS p).1,(checkS p).2,()),()):=by
 unfold bound_Unit.sh
 rw [Types_bad FU FU_big h]
 simp only [oB_some]
 rw [show ((checkS p).2 != 0) = true by simpa using h]
 rfl
theorem unitR_ok {D:List tDim.T} {t:Tree} (h:(unitR D t).2.2 = 0):(typesR t).2.2 = 0∧deep t ≤ 6∧(measR (unitV t) D t).2 < 0∧unitR D t = (mk (unitV t),0,0):=by
 unfold unitR at *
 cases h1:((typesR t).2.2 != 0) with
 | true =>
  rw [h1] at h
  have h:(typesR t).2.2 = 0:=h
  rw [h] at h1
  exact absurd h1 (by decide)
 | false =>
  rw [h1] at h
  cases h2:decide (deep t > 6) with
  | true=>rw [h2] at h; exact absurd (show (90:Int) = 0 from h) (by decide)
  | false =>
   rw [h2] at h
   cases h3:decide ((measR (unitV t) D t).2 ≥ 0) with
   | true=>rw [h3] at h; exact absurd (show (90:Int) = 0 from h) (by decide)
   | false =>
    have h2:=of_decide_eq_false h2
    have h3:=of_decide_eq_false h3
    exact ⟨by simpa using h1,by omega,by omega,rfl⟩
theorem awake_eq:octroilaw12_awake.sh FU = some ((true,()),()):=by kernel_rfl
theorem firstE_app (E:Tree→Int):∀ (a b:List Tree) (i:Nat),firstE E (a ++ b) i = match firstE E a i with | some x=>some x | none=>firstE E b (i + a.length)
 | [],b,i=>by simp [firstE]
 | t :: r,b,i=>by
  simp only [List.cons_append,firstE,List.length_cons]
  cases (E t != 0) with
  | true=>rfl
  | false =>
   simp only [cond_false]
   rw [firstE_app E r b (i + 1),show i + 1 + r.length = i + (r.length + 1) by omega]
theorem firstE_none {E:Tree→Int}:∀ {l:List Tree} {i:Nat} (j:Nat),firstE E l i = none→firstE E l j = none
 | [],i,j,h=>rfl
 | t :: r,i,j,h=>by
  simp only [firstE] at *
  cases ht:(E t != 0) with
  | true=>rw [ht] at h; cases h
  | false =>
   rw [ht] at h
   exact firstE_none (i:=i + 1) (j + 1) h
theorem firstE_mem {E:Tree→Int}:∀ {l:List Tree} {i:Nat},firstE E l i = none→∀ t ∈ l,E t = 0
 | [],i,h,t,ht=>by simp at ht
 | x :: r,i,h,t,ht=>by
  simp only [firstE] at h
  cases hx:(E x != 0) with
  | true=>rw [hx] at h; cases h
  | false =>
   rw [hx] at h
   rcases List.mem_cons.1 ht with rfl | ht
   ·simpa using hx
   ·exact firstE_mem (i:=i + 1) h t ht
theorem measR_ok {u:Int} {D:List tDim.T} {t:Tree} (h:(measR u D t).2 < 0):firstE (magE u D) t.subs 0 = none∧measR u D t = (t.subs.map fun t=>mk (mag u D t),-1):=by
 unfold measR at *
 cases hf:firstE (magE u D) t.subs 0 with
 | some x=>rw [hf] at h; obtain ⟨j,e⟩:=x; exact absurd h (by simp only; omega)
 | none=>exact ⟨rfl,rfl⟩
theorem typesR_ok {t:Tree} (h:(typesR t).2.2 = 0):firstE tyE t.subs 0 = none∧ty t = 1:=by
 unfold typesR at h
 cases hf:firstE tyE t.subs 0 with
 | some x =>
  rw [hf] at h
  have hne:∀ (l:List Tree) (i:Nat),firstE tyE l i = some x→x.2 ≠ 0:=by
   intro l
   induction l with
   | nil=>intro i h; cases h
   | cons t r ih =>
    intro i h
    simp only [firstE] at h
    cases he:(tyE t != 0) with
    | true =>
     rw [he] at h
     simp only [cond_true,Option.some.injEq] at h
     rw [← h]
     simpa using he
    | false=>rw [he] at h; exact ih _ h
  exact absurd h (hne _ _ hf)
 | none =>
  rw [hf] at h
  refine ⟨rfl,?_⟩
  cases ht:(ty t != 1) with
  | true=>rw [ht] at h; exact absurd (show (80:Int) = 0 from h) (by decide)
  | false=>simpa using ht
theorem meas_bd {u:Int} (hu:1 ≤ u) (hu2:u ≤ 1000000000000000000000000) {p:tPlan.T} (hD:dE [] p.2.1 = 0) (hd4:p.2.1.length ≤ 4):∀ (xs:List tNode.T) (st:List Tree),okS p.2.1.length st xs→(∀ t ∈ st,0 ≤ mag u p.2.1 t∧mag u p.2.1 t ≤ BND)→firstE (magE u p.2.1) (news st xs) 0 = none →
  ∀ t ∈ endT st xs,0 ≤ mag u p.2.1 t∧mag u p.2.1 t ≤ BND
 | [],st,h,h4,hf=>h4
 | n :: xs,st,h,h4,hf=>by
  obtain ⟨g1,g2,g3,g4,g5,g6,g7,g8⟩:=nodeE_ok h.1
  have hdr:∀ t ∈ st.drop (st.length - ar n),0 ≤ mag u p.2.1 t∧mag u p.2.1 t ≤ BND:=fun t ht=>h4 t (List.mem_of_mem_drop ht)
  have hmm:mag u p.2.1 (topT st n) = magN u p.2.1 n ((st.drop (st.length - ar n)).map (mag u p.2.1)):=by unfold topT; rw [mag_nd]
  obtain ⟨w,o,q1,q2,q3,q4⟩:=mnode_eq FU (by decide) hu hu2 hD hd4 h.1 (vs:=(st.drop (st.length - ar n)).map (mag u p.2.1)) (by simp; omega) (by
   intro v hv
   obtain ⟨t,ht,rfl⟩:=List.mem_map.1 hv
   exact hdr t ht)
  rw [← hmm] at q3
  simp only [news] at hf
  have hE:=firstE_mem hf (topT st n) (by simp)
  have hfar:farN n (mag u p.2.1 (topT st n)) ≤ BND:=by
   unfold magE at hE
   cases hx:decide (farN (topT st n).root (mag u p.2.1 (topT st n)) > BND) with
   | true=>rw [hx] at hE; exact absurd (show (90:Int) = 0 from hE) (by decide)
   | false=>have:=of_decide_eq_false hx; have hr:(topT st n).root = n:=rfl; rw [hr] at this; omega
  have hle:mag u p.2.1 (topT st n) ≤ BND:=by
   unfold farN at hfar
   cases h15:(nK n == 15) with
   | true=>rw [h15] at hfar; simp only [cond_true] at hfar; omega
   | false=>rw [h15] at hfar; exact hfar
  refine meas_bd hu hu2 hD hd4 xs (stepT st n) h.2 ?_ ?_
  ·intro t ht
   rcases List.mem_append.1 ht with ht | ht
   ·exact h4 t (List.mem_of_mem_take ht)
   ·rw [List.mem_singleton.1 ht]; exact ⟨q3,hle⟩
  ·simp only [firstE] at hf
   rw [show (magE u p.2.1 (topT st n) != 0) = false by simpa using hE] at hf
   exact firstE_none 0 hf
abbrev addN:tNode.T:=(6,0,0,0,[],0)
theorem subs_last (t:Tree):∃ l,t.subs = l ++ [t]:=by
 cases t with
 | nd n ks=>exact ⟨_,subs_nd n ks⟩
def lenOK (x:Int) (L:Nat):Prop:=1 ≤ L∧(2:Int) ^ (L - 1) ≤ x∧x < 2 ^ L
theorem lenOK_up {x:Int} {L:Nat} (m:Nat) (h:lenOK (x / 2 ^ m) L):lenOK x (L + m):=by
 obtain ⟨h1,h2,h3⟩:=h
 have hp:(0:Int) < 2 ^ m:=Int.pow_pos (by decide)
 refine ⟨by omega,?_,?_⟩
 ·rw [show L + m - 1 = (L - 1) + m by omega,Int.pow_add]
  have:=Int.mul_le_of_le_ediv hp h2
  exact this
 ·rw [Int.pow_add]
  exact Int.lt_mul_of_ediv_lt hp h3
theorem len_tab:∃ tab:ByteArray,(∀ (R:Type) (F:Nat) (k:Int→Option R) (x n:Int),math_bits_Len64.j7 F k x n = bif decide (x ≥ 256) then bif idx (IntKind.u8.wrap (x.fdiv (2 ^ (min (8:Int).toNat IntKind.u64.bits)))) tab.size then k (IntKind.i64.wrap ((IntKind.i64.wrap (n + 8)) + (IntKind.i64.wrap (bt tab (IntKind.u8.wrap (x.fdiv (2 ^ (min (8:Int).toNat IntKind.u64.bits)))))))) else none
  else bif idx (IntKind.u8.wrap x) tab.size then k (IntKind.i64.wrap (n + (IntKind.i64.wrap (bt tab (IntKind.u8.wrap x))))) else none)∧tab.size = 256 ∧
  (List.range 256).all (fun v=>Nat.beq v 0 || (decide (1 ≤ (bt tab (v:Int)).toNat) && (decide (bt tab (v:Int) ≤ 8) && (decide ((2:Int) ^ ((bt tab (v:Int)).toNat - 1) ≤ (v:Int)) && decide ((v:Int) < 2 ^ (bt tab (v:Int)).toNat))))) = true :=
 ⟨_,fun _ _ _ _ _=>rfl,rfl,by kernel_rfl⟩
theorem idx_of' {n:Int} {len:Nat} (h1:0 ≤ n) (h2:n < (len:Int)):idx n len = true:=by
 unfold idx; rw [decide_eq_true h1,decide_eq_true h2]; rfl
theorem wrap_u8 {n:Int} (h1:0 ≤ n) (h2:n < 256):IntKind.u8.wrap n = n:=by
 show (if (false && decide (n % 256 ≥ 128)) = true then n % 256 - 256 else n % 256) = _
 simp; omega
theorem len_j7 {R:Type} (F:Nat) (k:Int→Option R) {x n:Int} (h1:1 ≤ x) (h2:x < 65536) (n1:0 ≤ n) (n2:n ≤ 1000):∃ L:Nat,math_bits_Len64.j7 F k x n = k (n + (L:Int))∧L ≤ 16∧lenOK x L:=by
 obtain ⟨tab,t1,t2,t3⟩:=len_tab
 have small:∀ v:Int,1 ≤ v→v < 256→∃ L:Nat,bt tab v = (L:Int)∧L ≤ 8∧lenOK v L:=by
  intro v v1 v2
  have:=List.all_eq_true.1 t3 v.toNat (by simp; omega)
  rw [show ((v.toNat:Nat):Int) = v by omega] at this
  have hb:Nat.beq v.toNat 0 = false:=by
   cases hv:v.toNat with
   | zero=>omega
   | succ m=>rfl
  rw [hb] at this
  simp only [Bool.false_or,Bool.and_eq_true,decide_eq_true_eq] at this
  obtain ⟨a,b,c,d⟩:=this
  exact ⟨(bt tab v).toNat,by omega,by omega,a,c,d⟩
 rw [t1,t2]
 have e8:(2 ^ (min (8:Int).toNat IntKind.u64.bits):Int) = 256:=by decide
 rw [e8,Int.fdiv_eq_ediv_of_nonneg _ (by omega)]
 by_cases h:x ≥ 256
 ·obtain ⟨L,q1,q2,q3⟩:=small (x / 256) (by omega) (by omega)
  have q4:=lenOK_up 8 (x:=x) (L:=L) q3
  rw [decide_eq_true h,wrap_u8 (n:=x / 256) (by omega) (by omega),idx_of' (n:=x / 256) (by omega) (by omega),q1]
  simp only [cond_true]
  rw [wrap_i64 (n:=n + 8) (by omega) (by omega),wrap_i64 (n:=(L:Int)) (by omega) (by omega),wrap_i64 (by omega) (by omega)]
  exact ⟨L + 8,by congr 1; omega,by omega,q4⟩
 ·obtain ⟨L,q1,q2,q3⟩:=small x (by omega) (by omega)
  rw [decide_eq_false h,wrap_u8 (n:=x) (by omega) (by omega),idx_of' (n:=x) (by omega) (by omega),q1]
  simp only [cond_true,cond_false]
  rw [wrap_i64 (n:=(L:Int)) (by omega) (by omega),wrap_i64 (by omega) (by omega)]
  exact ⟨L,rfl,by omega,q3⟩
theorem len_j4 {R:Type} (F:Nat) (k:Int→Option R) {x n:Int} (h1:1 ≤ x) (h2:x < 4294967296) (n1:0 ≤ n) (n2:n ≤ 100):∃ L:Nat,math_bits_Len64.j4 F k x n = k (n + (L:Int))∧L ≤ 32∧lenOK x L:=by
 unfold math_bits_Len64.j4
 have e:(2 ^ (min (16:Int).toNat IntKind.u64.bits):Int) = 65536:=by decide
 rw [e,Int.fdiv_eq_ediv_of_nonneg _ (by omega)]
 by_cases h:x ≥ 65536
 ·rw [decide_eq_true h,wrap_i64 (n:=n + 16) (by omega) (by omega)]
  obtain ⟨L,q1,q2,q3⟩:=len_j7 F (fun n1=>k n1) (x:=x / 65536) (n:=n + 16) (by omega) (by omega) (by omega) (by omega)
  exact ⟨L + 16,by simp only [cond_true]; rw [q1]; congr 1; omega,by omega,lenOK_up 16 q3⟩
 ·rw [decide_eq_false h]
  obtain ⟨L,q1,q2,q3⟩:=len_j7 F (fun n1=>k n1) (x:=x) (n:=n) (by omega) (by omega) (by omega) (by omega)
  exact ⟨L,by simp only [cond_false]; rw [q1],by omega,q3⟩
theorem len64_eq (F:Nat) {x:Int} (h1:1 ≤ x) (h2:x < 18446744073709551616):∃ L:Nat,math_bits_Len64.sh F x = some (((L:Int),()),())∧L ≤ 64∧lenOK x L:=by
 unfold math_bits_Len64.sh
 have e:(2 ^ (min (32:Int).toNat IntKind.u64.bits):Int) = 4294967296:=by decide
 rw [e,Int.fdiv_eq_ediv_of_nonneg _ (by omega)]
 by_cases h:x ≥ 4294967296
 ·rw [decide_eq_true h]
  obtain ⟨L,q1,q2,q3⟩:=len_j4 F (fun n3=>(some ((n3,()),()):Option math_bits_Len64.sg.R)) (x:=x / 4294967296) (n:=32) (by omega) (by omega) (by omega) (by omega)
  exact ⟨L + 32,by simp only [cond_true]; rw [q1,show (32:Int) + (L:Int) = ((L + 32:Nat):Int) by omega],by omega,lenOK_up 32 q3⟩
 ·rw [decide_eq_false h]
  obtain ⟨L,q1,q2,q3⟩:=len_j4 F (fun n3=>(some ((n3,()),()):Option math_bits_Len64.sg.R)) (x:=x) (n:=0) (by omega) (by omega) (by omega) (by omega)
  exact ⟨L,by simp only [cond_false]; rw [q1,Int.zero_add],by omega,q3⟩
theorem lz_eq (F:Nat) {y:Int} (h1:1 ≤ y) (h2:y < 18446744073709551616):∃ s:Nat,math_bits_LeadingZeros64.sh F y = some (((s:Int),()),())∧s ≤ 63∧9223372036854775808 ≤ y * 2 ^ s∧y * 2 ^ s < 18446744073709551616:=by
 obtain ⟨L,q1,q2,q3,q4,q5⟩:=len64_eq F h1 h2
 unfold math_bits_LeadingZeros64.sh
 rw [q1]
 simp only [oB_some]
 rw [wrap_i64 (n:=64 - (L:Int)) (by omega) (by omega)]
 have hp:(0:Int) ≤ 2 ^ (64 - L):=Int.le_of_lt (Int.pow_pos (by decide))
 have hp':(0:Int) < 2 ^ (64 - L):=Int.pow_pos (by decide)
 refine ⟨64 - L,by rw [show (64:Int) - (L:Int) = ((64 - L:Nat):Int) by omega],by omega,?_,?_⟩
 ·have:=Int.mul_le_mul_of_nonneg_right q4 hp
  rw [← Int.pow_add,show L - 1 + (64 - L) = 63 by omega] at this
  exact this
 ·have:=Int.mul_lt_mul_of_pos_right q5 hp'
  rw [← Int.pow_add,show L + (64 - L) = 64 by omega] at this
  exact this
structure Guess (y1 y0 u un q qh rh:Int):Prop where
 y1a:2147483648 ≤ y1
 y1b:y1 < 4294967296
 y0a:0 ≤ y0
 y0b:y0 < 4294967296
 una:0 ≤ un
 unb:un < 4294967296
 ua:0 ≤ u
 ub:u < y1 * 4294967296 + y0
 q0:0 ≤ q
 qle:q * (y1 * 4294967296 + y0) ≤ u * 4294967296 + un
 qlt:u * 4294967296 + un < (q + 1) * (y1 * 4294967296 + y0)
 rh0:0 ≤ rh
 rhb:rh < 4294967296
 eq:qh * y1 + rh = u
 le:q ≤ qh
 hi:qh ≤ 4294967297
theorem Guess.qh_y {y1 y0 u un q qh rh:Int} (g:Guess y1 y0 u un q qh rh):qh * (y1 * 4294967296 + y0) = (u - rh) * 4294967296 + qh * y0:=by
 rw [Int.mul_add,← Int.mul_assoc,← g.eq]
 congr 2
 omega
theorem Guess.qsm {y1 y0 u un q qh rh:Int} (g:Guess y1 y0 u un q qh rh):q < 4294967296:=by
 have h:=g.qle
 have h1:=g.ub
 have hy:0 < y1 * 4294967296 + y0:=by have:=g.y1a; have:=g.y0a; omega
 rcases Int.lt_or_le q 4294967296 with h' | h'
 ·exact h'
 ·have:=Int.mul_le_mul_of_nonneg_right h' (Int.le_of_lt hy)
  have:=g.unb
  omega
theorem Guess.good {y1 y0 u un q qh rh:Int} (g:Guess y1 y0 u un q qh rh) (h:qh * y0 ≤ 4294967296 * rh + un):qh = q:=by
 have h1:=g.qh_y
 have h2:=g.qlt
 have hy:0 < y1 * 4294967296 + y0:=by have:=g.y1a; have:=g.y0a; omega
 have h3:qh * (y1 * 4294967296 + y0) < (q + 1) * (y1 * 4294967296 + y0):=by omega
 have:=Int.lt_of_mul_lt_mul_right h3 (Int.le_of_lt hy)
 have:=g.le
 omega
theorem Guess.big {y1 y0 u un q qh rh:Int} (g:Guess y1 y0 u un q qh rh) (h:4294967296 ≤ qh ∨ 4294967296 * rh + un < qh * y0):q + 1 ≤ qh:=by
 rcases h with h | h
 ·have:=g.qsm; omega
 ·have h1:=g.qh_y
  have h2:=g.qle
  have hy:0 < y1 * 4294967296 + y0:=by have:=g.y1a; have:=g.y0a; omega
  have h3:q * (y1 * 4294967296 + y0) < qh * (y1 * 4294967296 + y0):=by omega
  have:=Int.lt_of_mul_lt_mul_right h3 (Int.le_of_lt hy)
  omega
theorem Guess.next {y1 y0 u un q qh rh:Int} (g:Guess y1 y0 u un q qh rh) (h:q + 1 ≤ qh):(rh + y1 < 4294967296→Guess y1 y0 u un q (qh - 1) (rh + y1))∧(4294967296 ≤ rh + y1→qh - 1 = q):=by
 have e:(qh - 1) * y1 + (rh + y1) = u:=by rw [Int.sub_mul,Int.one_mul]; have:=g.eq; omega
 constructor
 ·intro hr
  exact {g with rh0:=by have:=g.rh0; have:=g.y1a; omega,rhb:=hr,eq:=e,le:=by omega,hi:=by have:=g.hi; omega}
 ·intro hr
  have hy0:=g.y0a
  have hm:(qh - 1) * y0 ≤ 4294967296 * y0:=Int.mul_le_mul_of_nonneg_right (by have:=g.hi; omega) hy0
  have hy:0 < y1 * 4294967296 + y0:=by have:=g.y1a; omega
  have h1:(qh - 1) * (y1 * 4294967296 + y0) = (u - (rh + y1)) * 4294967296 + (qh - 1) * y0:=by
   rw [Int.mul_add,← Int.mul_assoc,← e]
   congr 2
   omega
  have h2:=g.qlt
  have:=g.y0b
  have:=g.una
  have h3:(qh - 1) * (y1 * 4294967296 + y0) < (q + 1) * (y1 * 4294967296 + y0):=by omega
  have:=Int.lt_of_mul_lt_mul_right h3 (Int.le_of_lt hy)
  omega
theorem knuth17 (F:Nat) {R:Type} (k:Int→Int→Int→Int→Int→Int→Int→Int→Option R) (y s u0:Int) {y1 y0 u un q:Int}:∀ (m fu:Nat) (qh rh:Int),m < fu→4294967296 ≤ rh + m * 2147483648→Guess y1 y0 u un q qh rh →
  math_bits_Div64.l17 F (fun y s a b c d e q _ _=>k y s a b c d e q) (fun y s a b c d e q _ _=>k y s a b c d e q) fu y s y1 y0 u un u0 qh rh = k y s y1 y0 u un u0 q
 | 0,fu,qh,rh,hf,hm,g=>by have:=g.rhb; omega
 | m + 1,fu,qh,rh,hf,hm,g=>by
  obtain ⟨fu,rfl⟩:∃ j,fu = j + 1:=⟨fu - 1,by omega⟩
  have r0:=g.rh0
  have rb:=g.rhb
  have q0:=g.q0
  have ql:=g.le
  have qhi:=g.hi
  have a1:=g.y1a
  have a2:=g.y1b
  have b1:=g.y0a
  have b2:=g.y0b
  have un1:=g.una
  have un2:=g.unb
  have step:q + 1 ≤ qh→(bif decide ((IntKind.u64.wrap (rh + y1)) ≥ 4294967296) then k y s y1 y0 u un u0 (IntKind.u64.wrap (qh - 1)) else math_bits_Div64.l17 F (fun y s a b c d e q _ _=>k y s a b c d e q) (fun y s a b c d e q _ _=>k y s a b c d e q) fu y s y1 y0 u un u0 (IntKind.u64.wrap (qh - 1)) (IntKind.u64.wrap (rh + y1))) = k y s y1 y0 u un u0 q:=by
   intro h
   have hn:=g.next h
   rw [wrap_u64 (n:=rh + y1) (by omega) (by omega),wrap_u64 (n:=qh - 1) (by omega) (by omega)]
   by_cases hr:rh + y1 ≥ 4294967296
   ·rw [decide_eq_true hr,hn.2 hr]; rfl
   ·rw [decide_eq_false hr]
    exact knuth17 F k y s u0 m fu (qh - 1) (rh + y1) (by omega) (by push_cast at hm; omega) (hn.1 (by omega))
  simp only [math_bits_Div64.l17,math_bits_Div64.l17.body]
  by_cases hq:qh ≥ 4294967296
  ·rw [decide_eq_true hq]
   exact step (g.big (.inl hq))
  ·rw [decide_eq_false hq]
   have hz:=mul_bd (show 0 ≤ qh by omega) (show qh ≤ 4294967295 by omega) b1 (show y0 ≤ 4294967295 by omega)
   simp only [cond_false]
   rw [wrap_u64 (n:=qh * y0) (by omega) (by omega),wrap_u64 (n:=4294967296 * rh) (by omega) (by omega),wrap_u64 (n:=4294967296 * rh + un) (by omega) (by omega)]
   by_cases hc:qh * y0 > 4294967296 * rh + un
   ·rw [decide_eq_true hc]
    exact step (g.big (.inr hc))
   ·rw [decide_eq_false hc,g.good (by omega)]
    rfl
theorem knuth24 (F:Nat) {R:Type} (k:Int→Int→Int→Int→Int→Int→Int→Int→Option R) (y s Q1:Int) {y1 y0 u un q:Int}:∀ (m fu:Nat) (qh rh:Int),m < fu→4294967296 ≤ rh + m * 2147483648→Guess y1 y0 u un q qh rh →
  math_bits_Div64.l24 F (fun y s a b c d _ e q _=>k y s a b c d e q) (fun y s a b c d _ e q _=>k y s a b c d e q) fu y s y1 y0 un Q1 rh u qh = k y s y1 y0 un Q1 u q
 | 0,fu,qh,rh,hf,hm,g=>by have:=g.rhb; omega
 | m + 1,fu,qh,rh,hf,hm,g=>by
  obtain ⟨fu,rfl⟩:∃ j,fu = j + 1:=⟨fu - 1,by omega⟩
  have r0:=g.rh0
  have rb:=g.rhb
  have q0:=g.q0
  have ql:=g.le
  have qhi:=g.hi
  have a1:=g.y1a
  have a2:=g.y1b
  have b1:=g.y0a
  have b2:=g.y0b
  have un1:=g.una
  have un2:=g.unb
  have step:q + 1 ≤ qh→(bif decide ((IntKind.u64.wrap (rh + y1)) ≥ 4294967296) then k y s y1 y0 un Q1 u (IntKind.u64.wrap (qh - 1)) else math_bits_Div64.l24 F (fun y s a b c d _ e q _=>k y s a b c d e q) (fun y s a b c d _ e q _=>k y s a b c d e q) fu y s y1 y0 un Q1 (IntKind.u64.wrap (rh + y1)) u (IntKind.u64.wrap (qh - 1))) = k y s y1 y0 un Q1 u q:=by
   intro h
   have hn:=g.next h
   rw [wrap_u64 (n:=rh + y1) (by omega) (by omega),wrap_u64 (n:=qh - 1) (by omega) (by omega)]
   by_cases hr:rh + y1 ≥ 4294967296
   ·rw [decide_eq_true hr,hn.2 hr]; rfl
   ·rw [decide_eq_false hr]
    exact knuth24 F k y s Q1 m fu (qh - 1) (rh + y1) (by omega) (by push_cast at hm; omega) (hn.1 (by omega))
  simp only [math_bits_Div64.l24,math_bits_Div64.l24.body]
  by_cases hq:qh ≥ 4294967296
  ·rw [decide_eq_true hq]
   exact step (g.big (.inl hq))
  ·rw [decide_eq_false hq]
   have hz:=mul_bd (show 0 ≤ qh by omega) (show qh ≤ 4294967295 by omega) b1 (show y0 ≤ 4294967295 by omega)
   simp only [cond_false]
   rw [wrap_u64 (n:=qh * y0) (by omega) (by omega),wrap_u64 (n:=4294967296 * rh) (by omega) (by omega),wrap_u64 (n:=4294967296 * rh + un) (by omega) (by omega)]
   by_cases hc:qh * y0 > 4294967296 * rh + un
   ·rw [decide_eq_true hc]
    exact step (g.big (.inr hc))
   ·rw [decide_eq_false hc,g.good (by omega)]
    rfl
theorem Guess.first {y1 y0 u un:Int} (y1a:2147483648 ≤ y1) (y1b:y1 < 4294967296) (y0a:0 ≤ y0) (y0b:y0 < 4294967296) (una:0 ≤ un) (unb:un < 4294967296) (ua:0 ≤ u) (ub:u < y1 * 4294967296 + y0) :
  Guess y1 y0 u un ((u * 4294967296 + un) / (y1 * 4294967296 + y0)) (u / y1) (u % y1):=by
 have hy:0 < y1 * 4294967296 + y0:=by omega
 have e:=Int.emod_add_mul_ediv u y1
 have e2:u / y1 * y1 + u % y1 = u:=by rw [Int.mul_comm]; omega
 have r1:=Int.emod_nonneg u (show y1 ≠ 0 by omega)
 have r2:=Int.emod_lt_of_pos u (show 0 < y1 by omega)
 have hq0:0 ≤ u / y1:=Int.ediv_nonneg ua (by omega)
 have hqy:0 ≤ u / y1 * y0:=Int.mul_nonneg hq0 y0a
 refine ⟨y1a,y1b,y0a,y0b,una,unb,ua,ub,Int.ediv_nonneg (by omega) (by omega),Int.ediv_mul_le _ (by omega),Int.lt_ediv_add_one_mul_self _ hy,r1,by omega,e2,?_,?_⟩
 ·have h1:(u * 4294967296 + un) / (y1 * 4294967296 + y0) < u / y1 + 1:=by
   refine Int.ediv_lt_of_lt_mul hy ?_
   rw [Int.add_mul,Int.one_mul,Int.mul_add,← Int.mul_assoc]
   have:(u - u % y1) * 4294967296 = u / y1 * y1 * 4294967296:=by congr 1; omega
   omega
  omega
 ·have h1:u / y1 < 4294967298:=by
   refine Int.ediv_lt_of_lt_mul (by omega) ?_
   omega
  omega
theorem or_add {s:Nat} {a b:Int} (h0:0 ≤ a) (h1:a * 2 ^ s < 18446744073709551616) (h2:0 ≤ b) (h3:b < 2 ^ s) (h4:b < 18446744073709551616) (h5:a * 2 ^ s + b < 18446744073709551616) :
  IntKind.u64.wrap ((BitVec.ofInt IntKind.u64.bits (a * 2 ^ s) ||| BitVec.ofInt IntKind.u64.bits b).toNat:Int) = a * 2 ^ s + b:=by
 obtain ⟨A,rfl⟩:=Int.eq_ofNat_of_zero_le h0
 obtain ⟨B,rfl⟩:=Int.eq_ofNat_of_zero_le h2
 have e:((A:Int) * 2 ^ s) = ((A * 2 ^ s:Nat):Int):=by push_cast; rfl
 have e2:((2:Int) ^ s) = ((2 ^ s:Nat):Int):=by push_cast; rfl
 rw [e] at h1 h5 ⊢
 rw [e2] at h3
 show IntKind.u64.wrap ((BitVec.ofInt 64 ((A * 2 ^ s:Nat):Int) ||| BitVec.ofInt 64 (B:Int)).toNat:Int) = _
 rw [BitVec.ofInt_natCast,BitVec.ofInt_natCast,BitVec.toNat_or,BitVec.toNat_ofNat,BitVec.toNat_ofNat,Nat.mod_eq_of_lt (by omega:A * 2 ^ s < 2 ^ 64),Nat.mod_eq_of_lt (by omega)]
 have:=Nat.two_pow_add_eq_or_of_lt (i:=s) (b:=B) (by omega) A
 rw [Nat.mul_comm] at this
 rw [← this,wrap_u64 (by omega) (by omega)]
 push_cast
 rfl
theorem quo_unique {M y Q R':Int} (hy:0 < y) (h:M = Q * y + R') (h0:0 ≤ R') (h1:R' < y):M / y = Q∧M % y = R':=by
 have e:M = R' + y * Q:=by rw [Int.mul_comm] at h; omega
 rw [e,Int.add_mul_ediv_left _ _ (by omega),Int.add_mul_emod_self_left,Int.ediv_eq_zero_of_lt h0 h1,Int.emod_eq_of_lt h0 h1]
 omega
theorem div_j28 (F:Nat) {R:Type} (k:Int→Int→Option R) {Y un0 q1 r1 q0:Int} {s:Nat} (hs:s ≤ 63) (hY:Y < 18446744073709551616) (a1:0 ≤ q1) (a2:q1 < 4294967296) (b1:0 ≤ q0) (b2:q0 < 4294967296)
  (c1:0 ≤ un0) (c2:un0 < 4294967296) (d1:0 ≤ r1) (e1:q0 * Y ≤ r1 * 4294967296 + un0) (e2:r1 * 4294967296 + un0 < (q0 + 1) * Y) :
  math_bits_Div64.j28 F k Y (s:Int) un0 q1 r1 q0 = k (q1 * 4294967296 + q0) ((r1 * 4294967296 + un0 - q0 * Y) / 2 ^ s):=by
 unfold math_bits_Div64.j28
 rw [Int.add_mul,Int.one_mul] at e2
 rw [decide_eq_true (show (0:Int) ≤ (s:Int) by omega),Int.toNat_natCast,show min s IntKind.u64.bits = s from Nat.min_eq_left (by show s ≤ 64; omega)]
 simp only [cond_true]
 rw [wrap_u64 (n:=q1 * 4294967296) (by omega) (by omega),wrap_u64 (n:=q1 * 4294967296 + q0) (by omega) (by omega)]
 rw [Int.fdiv_eq_ediv_of_nonneg _ (Int.le_of_lt (Int.pow_pos (by decide)))]
 congr 2
 simp only [wrap_u64_mod]
 generalize q0 * Y = t at *
 omega
theorem div_j21 (F:Nat) (hF:4 < F) {R:Type} (k:Int→Int→Option R) {y1 y0 u un1 un0:Int} {s:Nat} (hs:s ≤ 63) (y1a:2147483648 ≤ y1) (y1b:y1 < 4294967296) (y0a:0 ≤ y0) (y0b:y0 < 4294967296)
  (ua:0 ≤ u) (ub:u < y1 * 4294967296 + y0) (una:0 ≤ un1) (unb:un1 < 4294967296) (c1:0 ≤ un0) (c2:un0 < 4294967296) :
  ∃ Q r,math_bits_Div64.j21 F k (y1 * 4294967296 + y0) (s:Int) y1 y0 u un1 un0 ((u * 4294967296 + un1) / (y1 * 4294967296 + y0)) = k Q (r / 2 ^ s)∧0 ≤ r∧r < y1 * 4294967296 + y0 ∧
   (u * 4294967296 + un1) * 4294967296 + un0 = Q * (y1 * 4294967296 + y0) + r:=by
 have hy:0 < y1 * 4294967296 + y0:=by omega
 have g:=Guess.first y1a y1b y0a y0b una unb ua ub
 have q1:=g.qsm
 have q1':=g.q0
 have em:=Int.mul_ediv_add_emod (u * 4294967296 + un1) (y1 * 4294967296 + y0)
 have r0:=Int.emod_nonneg (u * 4294967296 + un1) (show y1 * 4294967296 + y0 ≠ 0 by omega)
 have r1:=Int.emod_lt_of_pos (u * 4294967296 + un1) hy
 rw [Int.mul_comm] at em
 generalize hq:(u * 4294967296 + un1) / (y1 * 4294967296 + y0) = Q1 at *
 generalize hr:(u * 4294967296 + un1) % (y1 * 4294967296 + y0) = R1 at *
 have hw:IntKind.u64.wrap ((IntKind.u64.wrap ((IntKind.u64.wrap (u * 4294967296)) + un1)) - (IntKind.u64.wrap (Q1 * (y1 * 4294967296 + y0)))) = R1:=by
  simp only [wrap_u64_mod]
  generalize Q1 * (y1 * 4294967296 + y0) = t at *
  omega
 have g2:=Guess.first (u:=R1) (un:=un0) y1a y1b y0a y0b c1 c2 r0 r1
 have em2:=Int.mul_ediv_add_emod R1 y1
 have rr0:=Int.emod_nonneg R1 (show y1 ≠ 0 by omega)
 have rr1:=Int.emod_lt_of_pos R1 (show 0 < y1 by omega)
 rw [Int.mul_comm] at em2
 have gh:=g2.hi
 have gl:=Int.ediv_nonneg r0 (show 0 ≤ y1 by omega)
 have gm:=Int.mul_nonneg gl (show 0 ≤ y1 by omega)
 unfold math_bits_Div64.j21
 rw [hw,show (y1 != 0) = true from bne_iff_ne.2 (by omega),Int.tdiv_eq_ediv_of_nonneg r0]
 rw [wrap_u64 (n:=R1 / y1) (by omega) (by omega),wrap_u64 (n:=R1 / y1 * y1) (by omega) (by omega),wrap_u64 (n:=R1 - R1 / y1 * y1) (by omega) (by omega),show R1 - R1 / y1 * y1 = R1 % y1 by omega]
 simp only [cond_true]
 have hk:=knuth24 F (fun y s a b c d e q=>math_bits_Div64.j28 F (fun quo4 rem4=>k quo4 rem4) y s c d e q) (y1 * 4294967296 + y0) (s:Int) Q1 2 F (R1 / y1) (R1 % y1) (by omega) (by omega) g2
 rw [hk]
 have q2:=g2.qsm
 have q2':=g2.q0
 have q2l:=g2.qle
 have q2u:=g2.qlt
 generalize (R1 * 4294967296 + un0) / (y1 * 4294967296 + y0) = Q0 at *
 refine ⟨Q1 * 4294967296 + Q0,R1 * 4294967296 + un0 - Q0 * (y1 * 4294967296 + y0),?_,by omega,by rw [Int.add_mul,Int.one_mul] at q2u; omega,?_⟩
 ·exact div_j28 F _ hs (by omega) q1' q1 q2' q2 c1 c2 r0 q2l q2u
 ·rw [Int.add_mul (Q1 * 4294967296),Int.mul_right_comm Q1]
  omega
theorem div64_eq (F:Nat) (hF:4 < F) {hi lo y:Int} (h1:0 ≤ hi) (h2:hi < y) (h3:0 ≤ lo) (h4:lo < 18446744073709551616) (h5:y < 18446744073709551616) :
  math_bits_Div64.sh F hi lo y = some (((hi * 18446744073709551616 + lo) / y,(hi * 18446744073709551616 + lo) % y,()),()):=by
 unfold math_bits_Div64.sh
 rw [show (y == 0) = false by rw [beq_eq_false_iff_ne]; omega,show (y != 0) = true from bne_iff_ne.2 (by omega),decide_eq_false (show ¬ y ≤ hi by omega)]
 simp only [cond_false,cond_true]
 by_cases h0:hi = 0
 ·subst h0
  have hq:lo / y ≤ lo:=Int.ediv_le_self _ h3
  have hq0:0 ≤ lo / y:=Int.ediv_nonneg h3 (by omega)
  rw [beq_self_eq_true,Int.tdiv_eq_ediv_of_nonneg h3,Int.tmod_eq_emod_of_nonneg h3,wrap_u64 hq0 (by omega)]
  simp
 ·rw [show (hi == 0) = false by rw [beq_eq_false_iff_ne]; exact h0]
  obtain ⟨s,z1,z2,z3,z4⟩:=lz_eq F (y:=y) (by omega) h5
  rw [z1]
  simp only [oB_some,cond_false]
  rw [wrap_u64 (n:=(s:Int)) (by omega) (by omega),wrap_u64 (n:=64 - (s:Int)) (by omega) (by omega),show (64:Int) - (s:Int) = ((64 - s:Nat):Int) by omega,decide_eq_true (show (0:Int) ≤ (s:Int) by omega),
   decide_eq_true (show (0:Int) ≤ ((64 - s:Nat):Int) by omega),Int.toNat_natCast,Int.toNat_natCast,show min s IntKind.u64.bits = s from Nat.min_eq_left (by show s ≤ 64; omega),show min (64 - s) IntKind.u64.bits = 64 - s from Nat.min_eq_left (by show 64 - s ≤ 64; omega)]
  simp only [cond_true]
  have hP:(0:Int) < 2 ^ s:=Int.pow_pos (by decide)
  have hQ:(0:Int) < 2 ^ (64 - s):=Int.pow_pos (by decide)
  have hPQ:(2:Int) ^ s * 2 ^ (64 - s) = 18446744073709551616:=by rw [← Int.pow_add,show s + (64 - s) = 64 by omega]; rfl
  have hYw:IntKind.u64.wrap (y * 2 ^ s) = y * 2 ^ s:=wrap_u64 (by omega) (by omega)
  have hhi:hi * 2 ^ s < y * 2 ^ s:=Int.mul_lt_mul_of_pos_right h2 hP
  have hhi0:0 ≤ hi * 2 ^ s:=Int.mul_nonneg h1 (Int.le_of_lt hP)
  have hHw:IntKind.u64.wrap (hi * 2 ^ s) = hi * 2 ^ s:=wrap_u64 hhi0 (by omega)
  have hlo1:0 ≤ lo / 2 ^ (64 - s):=Int.ediv_nonneg h3 (Int.le_of_lt hQ)
  have hlo2:lo / 2 ^ (64 - s) < 2 ^ s:=Int.ediv_lt_of_lt_mul hQ (by rw [hPQ]; exact h4)
  have hlo3:lo / 2 ^ (64 - s) = lo * 2 ^ s / 18446744073709551616:=by
   rw [← hPQ,Int.mul_comm lo,Int.mul_ediv_mul_of_pos _ _ hP]
  have hM:(hi * 2 ^ s + lo / 2 ^ (64 - s)) * 18446744073709551616 + lo * 2 ^ s % 18446744073709551616 = (hi * 18446744073709551616 + lo) * 2 ^ s:=by
   rw [hlo3,Int.add_mul (hi * 18446744073709551616),Int.mul_right_comm hi]
   omega
  have hMl:(hi * 18446744073709551616 + lo) * 2 ^ s < y * 2 ^ s * 18446744073709551616:=by
   rw [Int.mul_right_comm y]
   exact Int.mul_lt_mul_of_pos_right (by omega) hP
  have hu:hi * 2 ^ s + lo / 2 ^ (64 - s) < y * 2 ^ s:=by omega
  have hu0:0 ≤ hi * 2 ^ s + lo / 2 ^ (64 - s):=by omega
  have hor:=or_add (s:=s) (a:=hi) (b:=lo / 2 ^ (64 - s)) h1 (by omega) hlo1 hlo2 (by omega) (by omega)
  rw [hYw,hHw,Int.fdiv_eq_ediv_of_nonneg lo (Int.le_of_lt hQ),hor,mask32 (by omega) (by omega),shr32 (by omega),wrap_u64_mod,mask32 (by omega) (by omega),shr32 (by omega)]
  generalize hi * 2 ^ s + lo / 2 ^ (64 - s) = u at *
  generalize hL:lo * 2 ^ s % 18446744073709551616 = L at *
  generalize hYY:y * 2 ^ s = Y at *
  have hL0:0 ≤ L:=by omega
  have hL1:L < 18446744073709551616:=by omega
  have g:=Guess.first (y1:=Y / 4294967296) (y0:=Y % 4294967296) (u:=u) (un:=L / 4294967296) (by omega) (by omega) (by omega) (by omega) (by omega) (by omega) hu0 (by omega)
  have em2:=Int.mul_ediv_add_emod u (Y / 4294967296)
  have rr0:=Int.emod_nonneg u (show Y / 4294967296 ≠ 0 by omega)
  have rr1:=Int.emod_lt_of_pos u (show 0 < Y / 4294967296 by omega)
  rw [Int.mul_comm] at em2
  have gh:=g.hi
  have gl:=Int.ediv_nonneg hu0 (show 0 ≤ Y / 4294967296 by omega)
  have gm:=Int.mul_nonneg gl (show 0 ≤ Y / 4294967296 by omega)
  rw [show (Y / 4294967296 != 0) = true from bne_iff_ne.2 (by omega),Int.tdiv_eq_ediv_of_nonneg hu0]
  rw [wrap_u64 (n:=u / (Y / 4294967296)) gl (by omega),wrap_u64 (n:=u / (Y / 4294967296) * (Y / 4294967296)) (by omega) (by omega),wrap_u64 (n:=u - u / (Y / 4294967296) * (Y / 4294967296)) (by omega) (by omega),show u - u / (Y / 4294967296) * (Y / 4294967296) = u % (Y / 4294967296) by omega]
  simp only [cond_true]
  have hk:=knuth17 F (fun y s a b c d e q=>math_bits_Div64.j21 F (fun quo7 rem7=>(some ((quo7,rem7,()),()):Option math_bits_Div64.sg.R)) y s a b c d e q) Y (s:Int) (L % 4294967296) 2 F (u / (Y / 4294967296)) (u % (Y / 4294967296)) (by omega) (by omega) g
  rw [hk]
  have hj:=div_j21 F hF (fun quo7 rem7=>(some ((quo7,rem7,()),()):Option math_bits_Div64.sg.R)) (y1:=Y / 4294967296) (y0:=Y % 4294967296) (u:=u) (un1:=L / 4294967296) (un0:=L % 4294967296) z2 (by omega) (by omega) (by omega) (by omega) hu0 (by omega) (by omega) (by omega) (by omega) (by omega)
  rw [show Y / 4294967296 * 4294967296 + Y % 4294967296 = Y by omega] at hj ⊢
  obtain ⟨Q,r,e1,e2,e3,e4⟩:=hj
  rw [e1]
  have e5:(hi * 18446744073709551616 + lo) * 2 ^ s = Q * Y + r:=by rw [← hM,← e4]; omega
  have e6:r = (hi * 18446744073709551616 + lo - Q * y) * 2 ^ s:=by
   rw [Int.sub_mul,Int.mul_assoc Q,hYY]; omega
  have e7:r / 2 ^ s = hi * 18446744073709551616 + lo - Q * y:=by rw [e6,Int.mul_ediv_cancel _ (Int.ne_of_gt hP)]
  rw [e7]
  have e8:0 ≤ hi * 18446744073709551616 + lo - Q * y:=by rw [← e7]; exact Int.ediv_nonneg e2 (Int.le_of_lt hP)
  have e9:hi * 18446744073709551616 + lo - Q * y < y:=by rw [← e7]; exact Int.ediv_lt_of_lt_mul hP (by rw [hYY]; exact e3)
  obtain ⟨f1,f2⟩:=quo_unique (M:=hi * 18446744073709551616 + lo) (y:=y) (Q:=Q) (R':=hi * 18446744073709551616 + lo - Q * y) (by omega) (by omega) e8 e9
  rw [f1,f2]
theorem mask1 {x:Int} (h1:0 ≤ x) (h2:x < 18446744073709551616):IntKind.u64.wrap ((BitVec.ofInt IntKind.u64.bits x &&& BitVec.ofInt IntKind.u64.bits 1).toNat:Int) = x % 2:=by
 obtain ⟨X,rfl⟩:=Int.eq_ofNat_of_zero_le h1
 show IntKind.u64.wrap ((BitVec.ofInt 64 (X:Int) &&& BitVec.ofInt 64 ((1:Nat):Int)).toNat:Int) = _
 rw [BitVec.ofInt_natCast,BitVec.ofInt_natCast,BitVec.toNat_and,BitVec.toNat_ofNat,BitVec.toNat_ofNat,Nat.mod_eq_of_lt (by omega:X < 2 ^ 64),Nat.mod_eq_of_lt (by decide)]
 have:X &&& 1 = X % 2:=Nat.and_two_pow_sub_one_eq_mod X 1
 rw [this,wrap_u64 (by omega) (by omega)]
 omega
theorem shl1 {x:Int}:x * 2 ^ (min (1:Int).toNat IntKind.u64.bits) = x * 2:=by
 have e:(2 ^ (min (1:Int).toNat IntKind.u64.bits):Int) = 2:=by decide
 rw [e]
theorem shr63u {x:Int} (h:0 ≤ x):x.fdiv (2 ^ (min (63:Int).toNat IntKind.u64.bits)) = x / 9223372036854775808:=by
 have e:(2 ^ (min (63:Int).toNat IntKind.u64.bits):Int) = 9223372036854775808:=by decide
 rw [e,Int.fdiv_eq_ediv_of_nonneg _ (by omega)]
theorem qr_body (F:Nat) {R:Type} (k0:Int→Int→Int→Int→Int→Int→Int→Bool→Option R) (rec:Int→Int→Int→Int→Int→Int→Int→Option R) {al bh bl q r B:Int} {i:Nat} (hi:i < 64)
  (ha1:0 ≤ al) (ha2:al < 18446744073709551616) (hb1:0 ≤ bh) (hb2:bh ≤ 9223372036854775808) (hl1:0 ≤ bl) (hl2:bl < 18446744073709551616) (hB:B = bh * 18446744073709551616 + bl) (hB2:B ≤ 170141183460469231731687303715884105728)
  (hq1:0 ≤ q) (hq2:q * 2 ^ (i + 1) + 2 ^ (i + 1) ≤ 18446744073709551616) (hr1:0 ≤ r) (hr2:r < B) :
  times_quoRem.l7.body F k0 rec al bh bl (q * 2 ^ (i + 1)) (r / 18446744073709551616) (r % 18446744073709551616) (i:Int) =
   if B ≤ 2 * r + al / 2 ^ i % 2 then rec al bh bl ((2 * q + 1) * 2 ^ i) ((2 * r + al / 2 ^ i % 2 - B) / 18446744073709551616) ((2 * r + al / 2 ^ i % 2 - B) % 18446744073709551616) (IntKind.i64.wrap ((i:Int) - 1))
   else rec al bh bl ((2 * q) * 2 ^ i) ((2 * r + al / 2 ^ i % 2) / 18446744073709551616) ((2 * r + al / 2 ^ i % 2) % 18446744073709551616) (IntKind.i64.wrap ((i:Int) - 1)):=by
 have hP:(0:Int) < 2 ^ i:=Int.pow_pos (by decide)
 have hP2:(2:Int) ^ (i + 1) = 2 * 2 ^ i:=by rw [Int.pow_succ,Int.mul_comm]
 have hb0:0 ≤ al / 2 ^ i:=Int.ediv_nonneg ha1 (Int.le_of_lt hP)
 have hbl:al / 2 ^ i ≤ al:=Int.ediv_le_self _ ha1
 have hsh:al.fdiv (2 ^ (min (i:Int).toNat IntKind.u64.bits)) = al / 2 ^ i:=by
  rw [Int.toNat_natCast,show min i IntKind.u64.bits = i from Nat.min_eq_left (by show i ≤ 64; omega),Int.fdiv_eq_ediv_of_nonneg _ (Int.le_of_lt hP)]
 have hbit:al / 2 ^ i % 2 = 0 ∨ al / 2 ^ i % 2 = 1:=by omega
 have hq3:q * 2 ^ (i + 1) = 2 * q * 2 ^ i:=by rw [hP2,← Int.mul_assoc,Int.mul_comm q]
 have w1:IntKind.u64.wrap (r / 18446744073709551616 * 2) = r / 18446744073709551616 * 2 ^ 1:=by rw [wrap_u64 (by omega) (by omega)]; rfl
 have w2:IntKind.u64.wrap (r % 18446744073709551616 * 2) = (r % 18446744073709551616 % 9223372036854775808) * 2 ^ 1:=by rw [wrap_u64_mod]; omega
 have o1:=or_add (s:=1) (a:=r / 18446744073709551616) (b:=r % 18446744073709551616 / 9223372036854775808) (by omega) (by omega) (by omega) (by omega) (by omega) (by omega)
 have o2:=or_add (s:=1) (a:=r % 18446744073709551616 % 9223372036854775808) (b:=al / 2 ^ i % 2) (by omega) (by omega) (by omega) (by omega) (by omega) (by omega)
 have o3:IntKind.u64.wrap ((BitVec.ofInt IntKind.u64.bits (q * 2 ^ (i + 1)) ||| BitVec.ofInt IntKind.u64.bits (IntKind.u64.wrap (1 * 2 ^ (min (i:Int).toNat IntKind.u64.bits)))).toNat:Int) = (2 * q + 1) * 2 ^ i:=by
  have hm:=Int.mul_nonneg hq1 (Int.le_of_lt hP)
  rw [Int.toNat_natCast,show min i IntKind.u64.bits = i from Nat.min_eq_left (by show i ≤ 64; omega),Int.one_mul,wrap_u64 (n:=2 ^ i) (by omega) (by rw [hq3,hP2,Int.mul_assoc] at hq2; omega)]
  rw [or_add (s:=i + 1) (a:=q) (b:=2 ^ i) hq1 (by omega) (by omega) (by omega) (by rw [hq3,hP2,Int.mul_assoc] at hq2; omega) (by omega),hq3,Int.add_mul,Int.one_mul]
 unfold times_quoRem.l7.body
 rw [decide_eq_true (show (i:Int) ≥ 0 by omega),shl1,shl1,w1,w2,shr63u (by omega),o1,hsh,mask1 (x:=al / 2 ^ i) (by omega) (by omega),o2,o3]
 simp only [cond_true]
 rw [hq3]
 generalize al / 2 ^ i % 2 = c at *
 have e1:r / 18446744073709551616 * 2 ^ 1 + r % 18446744073709551616 / 9223372036854775808 = (2 * r + c) / 18446744073709551616:=by omega
 have e2:r % 18446744073709551616 % 9223372036854775808 * 2 ^ 1 + c = (2 * r + c) % 18446744073709551616:=by omega
 rw [e1,e2]
 have hn1:0 ≤ 2 * r + c:=by omega
 have hn2:2 * r + c < 2 * B:=by omega
 generalize 2 * r + c = N at *
 clear e1 e2 o1 o2 o3 w1 w2
 have sub:∀ bo:Int,(N % 18446744073709551616 < bl∧bo = 1) ∨ (bl ≤ N % 18446744073709551616∧bo = 0)→B ≤ N→(N / 18446744073709551616 - bh - bo) % 18446744073709551616 = (N - B) / 18446744073709551616:=by
  intro bo h h'
  omega
 have s1:=sub64_eq F (x:=N % 18446744073709551616) (y:=bl) (c:=0) (by omega) hl1 hl2 (by omega) (by omega)
 have hbo:(N % 18446744073709551616 < bl∧(if N % 18446744073709551616 < bl + 0 then (1:Int) else 0) = 1) ∨ (bl ≤ N % 18446744073709551616∧(if N % 18446744073709551616 < bl + 0 then (1:Int) else 0) = 0):=by split <;> omega
 rw [s1]
 generalize (if N % 18446744073709551616 < bl + 0 then (1:Int) else 0) = bo at *
 have s2:=sub64_eq F (x:=N / 18446744073709551616) (y:=bh) (c:=bo) (by omega) hb1 (by omega) (by omega) (by omega)
 simp only [oB_some]
 rw [s2]
 simp only [oB_some]
 by_cases hle:B ≤ N
 ·rw [if_pos hle,sub bo hbo hle,show (N % 18446744073709551616 - bl - 0) % 18446744073709551616 = (N - B) % 18446744073709551616 by omega]
  by_cases hg:N / 18446744073709551616 > bh
  ·rw [decide_eq_true hg]; rfl
  ·rw [decide_eq_false hg,show (N / 18446744073709551616 == bh) = true by rw [beq_iff_eq]; omega,decide_eq_true (show N % 18446744073709551616 ≥ bl by omega)]; rfl
 ·rw [if_neg hle,decide_eq_false (show ¬ N / 18446744073709551616 > bh by omega)]
  by_cases he:N / 18446744073709551616 = bh
  ·rw [show (N / 18446744073709551616 == bh) = true by rw [beq_iff_eq]; exact he,decide_eq_false (show ¬ N % 18446744073709551616 ≥ bl by omega)]; rfl
  ·rw [show (N / 18446744073709551616 == bh) = false by rw [beq_eq_false_iff_ne]; exact he]; rfl
theorem bit_of {ah al:Int} (ha:0 ≤ al) {n:Nat} (hn:n < 64):(ah * 18446744073709551616 + al) / 2 ^ n = 2 * ((ah * 18446744073709551616 + al) / 2 ^ (n + 1)) + al / 2 ^ n % 2:=by
 have hP:(0:Int) < 2 ^ n:=Int.pow_pos (by decide)
 have e:ah * 18446744073709551616 + al = al + 2 ^ n * (2 * (2 ^ (63 - n) * ah)):=by
  have:(2:Int) ^ n * (2 * (2 ^ (63 - n) * ah)) = (2 ^ n * 2 ^ (63 - n)) * (2 * ah):=by rw [Int.mul_left_comm 2,Int.mul_assoc]
  rw [this,← Int.pow_add,show n + (63 - n) = 63 by omega]
  omega
 have e2:(ah * 18446744073709551616 + al) / 2 ^ (n + 1) = (ah * 18446744073709551616 + al) / 2 ^ n / 2:=by
  rw [Int.pow_succ,Int.ediv_ediv_of_nonneg (Int.le_of_lt hP)]
 have e3:(ah * 18446744073709551616 + al) / 2 ^ n = al / 2 ^ n + 2 * (2 ^ (63 - n) * ah):=by
  rw [e,Int.add_mul_ediv_left _ _ (by omega)]
 rw [e2,e3]
 generalize al / 2 ^ n = x at *
 generalize (2:Int) ^ (63 - n) * ah = z at *
 omega
theorem qr_loop (F:Nat) {R:Type} (k:Int→Int→Int→Option R) {ah al bh bl B:Int} (ha1:0 ≤ al) (ha2:al < 18446744073709551616) (hb1:0 ≤ bh) (hb2:bh ≤ 9223372036854775808) (hl1:0 ≤ bl) (hl2:bl < 18446744073709551616)
  (hB:B = bh * 18446744073709551616 + bl) (hB2:B ≤ 170141183460469231731687303715884105728):∀ (n fu:Nat) (q r:Int),n < fu→n ≤ 64→0 ≤ q→q * 2 ^ n + 2 ^ n ≤ 18446744073709551616→0 ≤ r→r < B →
  (ah * 18446744073709551616 + al) / 2 ^ n = q * B + r →
  times_quoRem.l7 F (fun _ _ _ ql rh rl _ _=>k ql rh rl) fu al bh bl (q * 2 ^ n) (r / 18446744073709551616) (r % 18446744073709551616) ((n:Int) - 1) =
   k ((ah * 18446744073709551616 + al) / B) ((ah * 18446744073709551616 + al) % B / 18446744073709551616) ((ah * 18446744073709551616 + al) % B % 18446744073709551616)
 | 0,fu,q,r,hf,hn,hq1,hq2,hr1,hr2,he=>by
  obtain ⟨fu,rfl⟩:∃ j,fu = j + 1:=⟨fu - 1,by omega⟩
  simp only [Int.pow_zero,Int.ediv_one] at he
  obtain ⟨f1,f2⟩:=quo_unique (M:=ah * 18446744073709551616 + al) (y:=B) (Q:=q) (R':=r) (by omega) he hr1 hr2
  rw [f1,f2]
  simp only [times_quoRem.l7,times_quoRem.l7.body]
  rw [decide_eq_false (show ¬ (((0:Nat):Int) - 1) ≥ 0 by omega)]
  simp
 | n + 1,fu,q,r,hf,hn,hq1,hq2,hr1,hr2,he=>by
  obtain ⟨fu,rfl⟩:∃ j,fu = j + 1:=⟨fu - 1,by omega⟩
  have hP:(0:Int) < 2 ^ n:=Int.pow_pos (by decide)
  have hP2:(2:Int) ^ (n + 1) = 2 * 2 ^ n:=by rw [Int.pow_succ,Int.mul_comm]
  have hq3:q * 2 ^ (n + 1) = 2 * (q * 2 ^ n):=by rw [hP2,Int.mul_left_comm]
  simp only [times_quoRem.l7]
  rw [show ((n + 1:Nat):Int) - 1 = ((n:Nat):Int) by omega]
  rw [qr_body F _ _ (by omega) ha1 ha2 hb1 hb2 hl1 hl2 hB hB2 hq1 hq2 hr1 hr2,wrap_i64 (n:=(n:Int) - 1) (by omega) (by omega)]
  have hbit:=bit_of (ah:=ah) ha1 (n:=n) (by omega)
  have hbb:al / 2 ^ n % 2 = 0 ∨ al / 2 ^ n % 2 = 1:=by omega
  rw [he] at hbit
  have hq4:2 * q * 2 ^ n = 2 * (q * 2 ^ n):=by rw [Int.mul_assoc]
  split
  ·refine qr_loop F k ha1 ha2 hb1 hb2 hl1 hl2 hB hB2 n fu _ _ (by omega) (by omega) (by omega) ?_ (by omega) (by omega) ?_
   ·rw [Int.add_mul,Int.one_mul,hq4]; omega
   ·rw [hbit,Int.add_mul,Int.one_mul,Int.mul_assoc]; omega
  ·refine qr_loop F k ha1 ha2 hb1 hb2 hl1 hl2 hB hB2 n fu _ _ (by omega) (by omega) (by omega) ?_ (by omega) (by omega) ?_
   ·rw [hq4]; omega
   ·rw [hbit,Int.mul_assoc]; omega
theorem lquoRem_eq (F:Nat) (hF:70 < F) {ah al bh bl:Int} (h1:0 ≤ ah) (h1':ah < 18446744073709551616) (ha1:0 ≤ al) (ha2:al < 18446744073709551616) (hb1:0 ≤ bh) (hb2:bh ≤ 9223372036854775808) (hl1:0 ≤ bl) (hl2:bl < 18446744073709551616)
  (hB0:0 < bh * 18446744073709551616 + bl) (hB2:bh * 18446744073709551616 + bl ≤ 170141183460469231731687303715884105728) :
  times_quoRem.sh F ah al bh bl = some (((ah * 18446744073709551616 + al) / (bh * 18446744073709551616 + bl) / 18446744073709551616,(ah * 18446744073709551616 + al) / (bh * 18446744073709551616 + bl) % 18446744073709551616,
   (ah * 18446744073709551616 + al) % (bh * 18446744073709551616 + bl) / 18446744073709551616,(ah * 18446744073709551616 + al) % (bh * 18446744073709551616 + bl) % 18446744073709551616,()),()):=by
 unfold times_quoRem.sh
 by_cases hb:bh = 0
 ·subst hb
  rw [beq_self_eq_true,show (bl != 0) = true from bne_iff_ne.2 (by omega),Int.tmod_eq_emod_of_nonneg h1,Int.tdiv_eq_ediv_of_nonneg h1]
  have m0:=Int.emod_nonneg ah (show bl ≠ 0 by omega)
  have m1:=Int.emod_lt_of_pos ah (show 0 < bl by omega)
  have d0:=Int.ediv_nonneg h1 hl1
  have d1:ah / bl ≤ ah:=Int.ediv_le_self _ h1
  simp only [cond_true]
  rw [div64_eq F (by omega) m0 m1 ha1 ha2 hl2,wrap_u64 (n:=ah / bl) d0 (by omega)]
  simp only [oB_some]
  have hM0:0 ≤ ah % bl * 18446744073709551616 + al:=by omega
  have q0:0 ≤ (ah % bl * 18446744073709551616 + al) / bl:=Int.ediv_nonneg hM0 hl1
  have q1:(ah % bl * 18446744073709551616 + al) / bl < 18446744073709551616:=Int.ediv_lt_of_lt_mul (by omega) (by omega)
  have r0:=Int.emod_nonneg (ah % bl * 18446744073709551616 + al) (show bl ≠ 0 by omega)
  have r1:=Int.emod_lt_of_pos (ah % bl * 18446744073709551616 + al) (show 0 < bl by omega)
  have e1:=Int.mul_ediv_add_emod ah bl
  have e2:=Int.mul_ediv_add_emod (ah % bl * 18446744073709551616 + al) bl
  rw [show (0:Int) * 18446744073709551616 + bl = bl by omega]
  obtain ⟨f1,f2⟩:=quo_unique (M:=ah * 18446744073709551616 + al) (y:=bl) (Q:=ah / bl * 18446744073709551616 + (ah % bl * 18446744073709551616 + al) / bl) (R':=(ah % bl * 18446744073709551616 + al) % bl) (by omega) (by
   rw [Int.add_mul,Int.mul_right_comm,Int.mul_comm _ bl,Int.mul_comm _ bl]; omega) r0 r1
  rw [f1,f2]
  generalize (ah % bl * 18446744073709551616 + al) / bl = x at *
  generalize (ah % bl * 18446744073709551616 + al) % bl = z at *
  generalize ah / bl = w at *
  rw [show (w * 18446744073709551616 + x) / 18446744073709551616 = w by omega,show (w * 18446744073709551616 + x) % 18446744073709551616 = x by omega,show z / 18446744073709551616 = 0 by omega,show z % 18446744073709551616 = z by omega]
 ·rw [show (bh == 0) = false by rw [beq_eq_false_iff_ne]; exact hb]
  simp only [cond_false]
  have hl:=qr_loop F (fun ql rh rl=>(some ((0,ql,rh,rl,()),()):Option times_quoRem.sg.R)) (ah:=ah) (al:=al) (bh:=bh) (bl:=bl) ha1 ha2 hb1 hb2 hl1 hl2 rfl hB2 64 F 0 ah (by omega) (by omega) (by omega) (by decide) h1 (by omega) (by
   rw [show (2:Int) ^ 64 = 18446744073709551616 from rfl]; omega)
  rw [show (0:Int) * 2 ^ 64 = 0 by decide,show ah / 18446744073709551616 = 0 by omega,show ah % 18446744073709551616 = ah by omega,show ((64:Nat):Int) - 1 = 63 from rfl] at hl
  rw [hl]
  have q0:0 ≤ (ah * 18446744073709551616 + al) / (bh * 18446744073709551616 + bl):=Int.ediv_nonneg (by omega) (by omega)
  have q1:(ah * 18446744073709551616 + al) / (bh * 18446744073709551616 + bl) < 18446744073709551616:=Int.ediv_lt_of_lt_mul (by omega) (by omega)
  generalize (ah * 18446744073709551616 + al) / (bh * 18446744073709551616 + bl) = x at *
  rw [show x / 18446744073709551616 = 0 by omega,show x % 18446744073709551616 = x by omega]
def dsg (a b:Int):Bool:=!(decide (a < 0) == decide (b < 0))
def aQ (a b:Int):Int:=(a.natAbs:Int) / (b.natAbs:Int)
def aR (a b:Int):Int:=(a.natAbs:Int) % (b.natAbs:Int)
def tq (a b:Int):Int:=bif dsg a b then -aQ a b else aQ a b
def tr (a b:Int):Int:=bif decide (a < 0) then -aR a b else aR a b
theorem aQR {a b:Int} (hb:b ≠ 0):0 ≤ aQ a b∧0 ≤ aR a b∧aR a b < b.natAbs∧(b.natAbs:Int) * aQ a b + aR a b = a.natAbs∧aQ a b ≤ a.natAbs:=by
 unfold aQ aR
 exact ⟨Int.ediv_nonneg (by omega) (by omega),Int.emod_nonneg _ (by omega),Int.emod_lt_of_pos _ (by omega),Int.mul_ediv_add_emod _ _,Int.ediv_le_self _ (by omega)⟩
theorem mk_zero {v:Int}:(((mk v).1 == 0) && (((mk v).2 == 0) && true)) = decide (v = 0):=by
 by_cases h:v = 0
 ·subst h; rfl
 ·rw [decide_eq_false h]
  simp only [mk,Bool.and_true,Bool.and_eq_false_iff,beq_eq_false_iff_ne]
  omega
theorem val_zero {b:Int×Int} (hb:wfW b):((b.1 == 0) && ((b.2 == 0) && true)) = decide (val b = 0):=by
 rw [← mk_val hb,mk_zero,val_mk]
theorem quorem_eq (F:Nat) (hF:70 < F) {a b:Int×Int} (ha:wfW a) (hb:wfW b) (h0:val b ≠ 0) :
  times_QuoRem.sh F a b = some ((bif inR (tq (val a) (val b)) then mk (tq (val a) (val b)) else (0,0),bif inR (tq (val a) (val b)) then mk (tr (val a) (val b)) else (0,0),errW (tq (val a) (val b)),()),()):=by
 have ba:=abs_bd ha
 have bb:=abs_bd hb
 have hq:=aQR (a:=val a) h0
 have hneg:(!(decide (a.1 < 0) == decide (b.1 < 0))) = dsg (val a) (val b):=by rw [val_neg ha,val_neg hb]; rfl
 unfold times_QuoRem.sh
 rw [val_zero hb,decide_eq_false h0]
 simp only [cond_false]
 rw [abs_eq F ha,abs_eq F hb]
 simp only [oB_some]
 have e1:((val a).natAbs:Int) / 18446744073709551616 * 18446744073709551616 + ((val a).natAbs:Int) % 18446744073709551616 = (val a).natAbs:=by omega
 have e2:((val b).natAbs:Int) / 18446744073709551616 * 18446744073709551616 + ((val b).natAbs:Int) % 18446744073709551616 = (val b).natAbs:=by omega
 have hl:=lquoRem_eq F hF (ah:=((val a).natAbs:Int) / 18446744073709551616) (al:=((val a).natAbs:Int) % 18446744073709551616) (bh:=((val b).natAbs:Int) / 18446744073709551616) (bl:=((val b).natAbs:Int) % 18446744073709551616)
  (by omega) (by omega) (by omega) (by omega) (by omega) (by omega) (by omega) (by omega) (by omega) (by omega)
 rw [e1,e2] at hl
 rw [hl,hneg]
 simp only [oB_some]
 rw [show ((val a).natAbs:Int) / ((val b).natAbs:Int) = aQ (val a) (val b) from rfl,show ((val a).natAbs:Int) % ((val b).natAbs:Int) = aR (val a) (val b) from rfl]
 rw [join_eq F (v:=tq (val a) (val b)) (by omega) (by omega) (by omega) (by omega) (by
  unfold tq
  rw [show aQ (val a) (val b) / 18446744073709551616 * 18446744073709551616 + aQ (val a) (val b) % 18446744073709551616 = aQ (val a) (val b) by omega])]
 simp only [oB_some]
 cases hi:inR (tq (val a) (val b)) with
 | false=>simp only [resW,errW,hi,cond_false]; rfl
 | true =>
  simp only [resW,errW,hi,cond_true,bne_self_eq_false,cond_false]
  rw [val_neg ha]
  rw [join_eq F (v:=tr (val a) (val b)) (by omega) (by omega) (by omega) (by omega) (by
   unfold tr
   rw [show aR (val a) (val b) / 18446744073709551616 * 18446744073709551616 + aR (val a) (val b) % 18446744073709551616 = aR (val a) (val b) by omega])]
  have hi2:inR (tr (val a) (val b)) = true:=by
   rw [inR_iff]; unfold tr
   cases decide (val a < 0) <;> simp only [cond_true,cond_false] <;> omega
  simp only [oB_some,resW,errW,hi2,cond_true]
theorem aw1 {x y bo:Int} (h1:0 ≤ x) (h2:x < y) (h3:y ≤ 170141183460469231731687303715884105728)
  (hbo:(y % 18446744073709551616 < x % 18446744073709551616∧bo = 1) ∨ (x % 18446744073709551616 ≤ y % 18446744073709551616∧bo = 0)) :
  (y / 18446744073709551616 - x / 18446744073709551616 - bo) % 18446744073709551616 = (y - x) / 18446744073709551616:=by omega
theorem aw2 {x y:Int}:(y % 18446744073709551616 - x % 18446744073709551616 - 0) % 18446744073709551616 = (y - x) % 18446744073709551616:=by omega
theorem aw3 {x y:Int} (h1:0 ≤ x) (h2:x < y) (h:x / 18446744073709551616 > (y - x) / 18446744073709551616):y < 2 * x:=by omega
theorem aw4 {x y:Int} (h1:0 ≤ x) (h2:x < y) (h:x / 18446744073709551616 = (y - x) / 18446744073709551616) (h':x % 18446744073709551616 > (y - x) % 18446744073709551616):y < 2 * x:=by omega
theorem aw5 {x y:Int} (h1:0 ≤ x) (h2:x < y) (h:x / 18446744073709551616 = (y - x) / 18446744073709551616) (h':¬ x % 18446744073709551616 > (y - x) % 18446744073709551616):¬ y < 2 * x:=by omega
theorem aw6 {x y:Int} (h:x / 18446744073709551616 = (y - x) / 18446744073709551616) (h':x % 18446744073709551616 = (y - x) % 18446744073709551616):2 * x = y:=by omega
theorem aw7 {x y:Int} (h:¬ x % 18446744073709551616 = (y - x) % 18446744073709551616):¬ 2 * x = y:=by omega
theorem aw8 {x y:Int} (h:¬ x / 18446744073709551616 > (y - x) / 18446744073709551616) (h':¬ x / 18446744073709551616 = (y - x) / 18446744073709551616):¬ y < 2 * x:=by omega
theorem aw9 {x y:Int} (h':¬ x / 18446744073709551616 = (y - x) / 18446744073709551616):¬ 2 * x = y:=by omega
def awB (m q r b:Int):Bool :=
 bif m == 0 then dsg r b else bif m == 1 then !dsg r b else bif m == 2 then false else
  decide ((b.natAbs:Int) < 2 * r.natAbs) || (decide (2 * (r.natAbs:Int) = b.natAbs) && (m == 3 || decide (q % 2 = 1)))
theorem away_eq (F:Nat) {q r b:Int×Int} (hq:wfW q) (hr:wfW r) (hb:wfW b) (m:Int) (hlt:((val r).natAbs:Int) < (val b).natAbs) :
  times_away.sh F q r b m = some ((awB m (val q) (val r) (val b),()),()):=by
 have br:=abs_bd hr
 have bb:=abs_bd hb
 have hq2:IntKind.u64.wrap ((BitVec.ofInt IntKind.u64.bits q.2 &&& BitVec.ofInt IntKind.u64.bits 1).toNat:Int) = val q % 2:=by
  rw [mask1 hq.2.2.1 hq.2.2.2]
  simp only [val]
  omega
 unfold times_away.sh awB
 rw [hq2]
 rw [val_neg hr,val_neg hb]
 rw [show (!(decide (val r < 0) == decide (val b < 0))) = dsg (val r) (val b) from rfl]
 cases h0:(m == 0) with
 | true=>simp only [cond_true,cond_false,Bool.true_or,Bool.false_or,Bool.and_true,Bool.true_and]
 | false =>
 cases h1:(m == 1) with
 | true=>simp only [cond_true,cond_false,Bool.true_or,Bool.false_or,Bool.and_true,Bool.true_and]
 | false =>
 cases h2:(m == 2) with
 | true=>simp only [cond_true,cond_false,Bool.true_or,Bool.false_or,Bool.and_true,Bool.true_and]
 | false =>
 simp only [cond_false]
 have A:=abs_eq F hr
 have B:=abs_eq F hb
 generalize ((val r).natAbs:Int) = x at *
 generalize ((val b).natAbs:Int) = y at *
 rw [A,oB_some,B,oB_some]
 have s1:=sub64_eq F (x:=y % 18446744073709551616) (y:=x % 18446744073709551616) (c:=0) (by omega) (by omega) (by omega) (by omega) (by omega)
 have hbo:(y % 18446744073709551616 < x % 18446744073709551616∧(if y % 18446744073709551616 < x % 18446744073709551616 + 0 then (1:Int) else 0) = 1) ∨ (x % 18446744073709551616 ≤ y % 18446744073709551616∧(if y % 18446744073709551616 < x % 18446744073709551616 + 0 then (1:Int) else 0) = 0):=by split <;> omega
 rw [s1]
 generalize (if y % 18446744073709551616 < x % 18446744073709551616 + 0 then (1:Int) else 0) = bo at *
 have s2:=sub64_eq F (x:=y / 18446744073709551616) (y:=x / 18446744073709551616) (c:=bo) (by omega) (by omega) (by omega) (by omega) (by omega)
 rw [oB_some,s2,oB_some]
 rw [aw1 br.1 hlt bb.2 hbo,aw2]
 clear s1 s2 hbo hq2
 by_cases g1:x / 18446744073709551616 > (y - x) / 18446744073709551616
 ·rw [decide_eq_true g1,decide_eq_true (aw3 br.1 hlt g1)]; simp only [cond_true,cond_false,Bool.true_or,Bool.or_true,Bool.false_or,Bool.or_false,Bool.and_true,Bool.true_and,Bool.false_and,decide_true,beq_self_eq_true]
 ·rw [decide_eq_false g1]
  by_cases g2:x / 18446744073709551616 = (y - x) / 18446744073709551616
  ·rw [show (x / 18446744073709551616 == (y - x) / 18446744073709551616) = true by rw [beq_iff_eq]; exact g2]
   simp only [cond_true,cond_false]
   by_cases g3:x % 18446744073709551616 > (y - x) % 18446744073709551616
   ·rw [decide_eq_true g3,decide_eq_true (aw4 br.1 hlt g2 g3)]; simp only [cond_true,cond_false,Bool.true_or,Bool.or_true,Bool.false_or,Bool.or_false,Bool.and_true,Bool.true_and,Bool.false_and,decide_true,beq_self_eq_true]
   ·rw [decide_eq_false g3,decide_eq_false (aw5 br.1 hlt g2 g3)]
    by_cases g4:x % 18446744073709551616 = (y - x) % 18446744073709551616
    ·rw [show (x % 18446744073709551616 == (y - x) % 18446744073709551616) = true by rw [beq_iff_eq]; exact g4,decide_eq_true (aw6 g2 g4)]
     cases (m == 3) with
     | true=>simp only [cond_true,cond_false,Bool.true_or,Bool.false_or,Bool.and_true,Bool.true_and]
     | false =>
      simp only [cond_true,cond_false,Bool.false_or,Bool.true_and]
      by_cases g5:val q % 2 = 1
      ·rw [g5]; simp only [cond_true,cond_false,Bool.true_or,Bool.or_true,Bool.false_or,Bool.or_false,Bool.and_true,Bool.true_and,Bool.false_and,decide_true,beq_self_eq_true]
      ·rw [decide_eq_false g5,show (val q % 2 == 1) = false by rw [beq_eq_false_iff_ne]; exact g5]
    ·rw [show (x % 18446744073709551616 == (y - x) % 18446744073709551616) = false by rw [beq_eq_false_iff_ne]; exact g4,decide_eq_false (aw7 g4)]; simp only [cond_true,cond_false,Bool.true_or,Bool.or_true,Bool.false_or,Bool.or_false,Bool.and_true,Bool.true_and,Bool.false_and,decide_true,beq_self_eq_true]
  ·rw [show (x / 18446744073709551616 == (y - x) / 18446744073709551616) = false by rw [beq_eq_false_iff_ne]; exact g2,decide_eq_false (aw8 g1 g2),decide_eq_false (aw9 g2)]; simp only [cond_true,cond_false,Bool.true_or,Bool.or_true,Bool.false_or,Bool.or_false,Bool.and_true,Bool.true_and,Bool.false_and,decide_true,beq_self_eq_true]
def divM (m a b:Int):Int :=
 bif decide (tr a b = 0) then tq a b else bif !awB m (tq a b) (tr a b) b then tq a b else bif dsg a b then tq a b - 1 else tq a b + 1
theorem tr_abs (a b:Int) (hb:b ≠ 0):((tr a b).natAbs:Int) = aR a b:=by
 have:=aQR (a:=a) hb
 unfold tr
 cases decide (a < 0) <;> simp only [cond_true,cond_false] <;> omega
theorem div_eq (F:Nat) (hF:70 < F) {a b m:Int} (ha:inR a = true) (hb:inR b = true) (h0:b ≠ 0) (hq:inR (tq a b) = true) (m0:0 ≤ m) (m4:m ≤ 4):times_Div.sh F (mk a) (mk b) m = some ((mk (divM m a b),0,()),()):=by
 have qr:=aQR (a:=a) h0
 have ha':=inR_iff.1 ha
 have hb':=inR_iff.1 hb
 have hr:inR (tr a b) = true:=by
  rw [inR_iff]; unfold tr
  cases decide (a < 0) <;> simp only [cond_true,cond_false] <;> omega
 unfold times_Div.sh divM
 rw [decide_eq_false (show ¬ m < 0 by omega),decide_eq_false (show ¬ m > 4 by omega),quorem_eq F hF (wf_mk ha) (wf_mk hb) (by rw [val_mk]; exact h0)]
 simp only [val_mk,hq,cond_true,cond_false,oB_some,errW,bne_self_eq_false]
 rw [mk_zero]
 by_cases hz:tr a b = 0
 ·rw [decide_eq_true hz]; rfl
 ·rw [decide_eq_false hz]
  simp only [cond_false]
  rw [away_eq F (wf_mk hq) (wf_mk hr) (wf_mk hb) m (by rw [val_mk,val_mk,tr_abs a b h0]; omega)]
  simp only [oB_some,val_mk]
  cases awB m (tq a b) (tr a b) b with
  | false=>rfl
  | true =>
   have hr0:aR a b ≠ 0:=fun h=>hz (by unfold tr; rw [h]; cases decide (a < 0) <;> rfl)
   have hb2:(2:Int) ≤ b.natAbs:=by omega
   have hq2:2 * aQ a b ≤ a.natAbs:=by
    have:=Int.mul_le_mul_of_nonneg_right hb2 qr.1
    omega
   have hw:(!(decide ((mk a).1 < 0) == decide ((mk b).1 < 0))) = dsg a b:=by rw [val_neg (wf_mk ha),val_neg (wf_mk hb),val_mk,val_mk]; rfl
   rw [hw,of_eq F (by omega) (by omega)]
   simp only [oB_some,Bool.not_true,cond_false]
   cases hd:dsg a b with
   | true =>
    have i:inR (tq a b - 1) = true:=by rw [inR_iff]; unfold tq; rw [hd]; simp only [cond_true]; omega
    rw [sub_eq F (wf_mk hq) (wf_mk (by rw [inR_iff]; omega))]
    simp only [cond_true,oB_some,val_mk,resW,errW,i]
   | false =>
    have i:inR (tq a b + 1) = true:=by rw [inR_iff]; unfold tq; rw [hd]; simp only [cond_false]; omega
    rw [add_eq F (wf_mk hq) (wf_mk (by rw [inR_iff]; omega))]
    simp only [cond_false,cond_true,oB_some,val_mk,resW,errW,i]
theorem divM_exact {m c b:Int} (hb:0 < b):divM m (c * b) b = c:=by
 have hn:(((c * b).natAbs:Nat):Int) = c.natAbs * b:=by
  rw [Int.natAbs_mul]; push_cast; rw [show ((b.natAbs:Nat):Int) = b by omega]
 have hR:aR (c * b) b = 0:=by
  unfold aR
  rw [hn,show ((b.natAbs:Nat):Int) = b by omega,Int.mul_emod_left]
 have hQ:aQ (c * b) b = c.natAbs:=by
  unfold aQ
  rw [hn,show ((b.natAbs:Nat):Int) = b by omega,Int.mul_ediv_cancel _ (by omega)]
 have h1:tr (c * b) b = 0:=by unfold tr; rw [hR]; cases decide (c * b < 0) <;> rfl
 unfold divM tq dsg
 rw [h1,hQ,decide_eq_false (show ¬ b < 0 by omega)]
 by_cases hc:c < 0
 ·rw [decide_eq_true (show c * b < 0 from Int.mul_neg_of_neg_of_pos hc hb)]
  simp; omega
 ·rw [decide_eq_false (show ¬ c * b < 0 by have:=Int.mul_nonneg (show 0 ≤ c by omega) (Int.le_of_lt hb); omega)]
  simp; omega
def minF (m:Int) (l:List Int):Int:=l.foldl (fun m x=>if x < m then x else m) m
def minL:List Int→Int
 | []=>0
 | a :: r=>minF a r
theorem cmpZ_pos {a b:Int}:decide (cmpZ a b > 0) = decide (a > b):=by
 unfold cmpZ
 by_cases h:a < b
 ·rw [if_pos h,decide_eq_false (show ¬ a > b by omega)]; rfl
 ·rw [if_neg h]
  by_cases h':a = b
  ·rw [if_pos h',decide_eq_false (show ¬ a > b by omega)]; rfl
  ·rw [if_neg h',decide_eq_true (show a > b by omega)]; rfl
def cntT (x:Int):List tTier.T→Nat
 | []=>0
 | a :: r=>if tF a < x then cntT x r + 1 else 0
theorem cntT_le (x:Int):∀ l:List tTier.T,cntT x l ≤ l.length
 | []=>by simp [cntT]
 | a :: r=>by
  have:=cntT_le x r
  simp only [cntT,List.length_cons]
  split <;> omega
def wayT:List tTier.T→Nat→Int
 | a :: b :: r,k + 1=>tR a * (tF b - tF a) + wayT (b :: r) k
 | _,_=>0
theorem farZ_abs (v:Int):-farZ v ≤ v∧v ≤ farZ v:=by unfold farZ; split <;> omega
theorem abs_mul_bd {a b m n:Int} (h1:-m ≤ a) (h2:a ≤ m) (h3:-n ≤ b) (h4:b ≤ n):-(m * n) ≤ a * b∧a * b ≤ m * n:=by
 have hm:0 ≤ m:=by omega
 have hn:0 ≤ n:=by omega
 have e1:(a.natAbs:Int) * (b.natAbs:Int) ≤ m * n:=Int.mul_le_mul (by omega) (by omega) (by omega) hm
 have e2:((a * b).natAbs:Int) = (a.natAbs:Int) * (b.natAbs:Int):=by rw [Int.natAbs_mul]; push_cast; rfl
 omega
theorem wayT_bd:∀ (l:List tTier.T) (lo:Int) (k:Nat),-1 ≤ lo→incT lo l→-waysS l ≤ wayT l k∧wayT l k ≤ waysS l
 | [],lo,k,_,h=>by simp [waysS,wayT]
 | [a],lo,k,_,h=>by simp [waysS,wayT]
 | a :: b :: r,lo,0,hlo,h=>by
  have:=(waysS_bd (a :: b :: r) lo hlo h).1
  simp only [wayT]; omega
 | a :: b :: r,lo,k + 1,hlo,h=>by
  obtain ⟨a1,a2,a3,a4,a5⟩:=h
  have ih:=wayT_bd (b :: r) (tF a) k (by omega) a5
  obtain ⟨b1,b2,b3,b4,b5⟩:=a5
  have hf:=farZ_abs (tR a)
  have:=abs_mul_bd hf.1 hf.2 (show -(tF b - tF a) ≤ tF b - tF a by omega) (show tF b - tF a ≤ tF b - tF a by omega)
  simp only [wayT,waysS]
  omega
theorem rateM_ge:∀ (l:List tTier.T) (r0:Int),r0 ≤ rateM r0 l∧∀ t ∈ l,farZ (tR t) ≤ rateM r0 l
 | [],r0=>⟨by simp [rateM],by simp⟩
 | a :: r,r0=>by
  have ih:=rateM_ge r (if farZ (tR a) > r0 then farZ (tR a) else r0)
  have e:rateM r0 (a :: r) = rateM (if farZ (tR a) > r0 then farZ (tR a) else r0) r:=rfl
  have h0:r0 ≤ (if farZ (tR a) > r0 then farZ (tR a) else r0)∧farZ (tR a) ≤ (if farZ (tR a) > r0 then farZ (tR a) else r0):=by split <;> omega
  rw [e]
  refine ⟨by omega,fun t ht=>?_⟩
  rcases List.mem_cons.1 ht with rfl | ht
  ·omega
  ·exact ih.2 t ht
def topT' (x:Int) (l:List tTier.T):tTier.T:=l.getD (cntT x l - 1) (0,0)
def grad (x:Int) (l:List tTier.T):Int:=if cntT x l = 0 then 0 else wayT l (cntT x l - 1) + tR (topT' x l) * (x - tF (topT' x l))
def vol (x:Int) (l:List tTier.T):Int:=if cntT x l = 0 then 0 else x * tR (topT' x l)
def holdB (op x n:Int):Bool :=
 bif op == 1 then decide (x < n) else bif op == 2 then decide (x ≤ n) else bif op == 3 then decide (x > n) else bif op == 4 then decide (x ≥ n) else bif op == 5 then decide (x = n) else !decide (x = n)
def evN (u:Int) (D:List tDim.T) (q:List Int) (n:tNode.T) (vs:List Int):Int :=
 bif nK n == 1 then nN n else bif nK n == 2 then nN n * u else bif nK n == 3 then q.getD (nN n).toNat 0
 else bif nK n == 4 then ceilD (q.getD (nN n).toNat 0) (dS (D.getD (nN n).toNat (ByteArray.empty,0)))
 else bif nK n == 5 then 0 - vs.getD 0 0 else bif nK n == 6 then vs.getD 0 0 + vs.getD 1 0 else bif nK n == 7 then vs.getD 0 0 - vs.getD 1 0
 else bif nK n == 8 then vs.getD 0 0 * vs.getD 1 0 else bif nK n == 9 then minL vs else bif nK n == 10 then maxL vs
 else bif nK n == 11 then maxL [0,vs.getD 0 0 - nN n] else bif nK n == 12 then minL [nN n,vs.getD 0 0]
 else bif nK n == 13 then u * grad (vs.getD 0 0) (nT n) else bif nK n == 14 then u * vol (vs.getD 0 0) (nT n)
 else bif nK n == 15 then divM 2 (vs.getD 0 0 * (10000 - nN n)) 10000
 else bif holdB (nO n) (vs.getD 0 0) (nN n) then vs.getD 1 0 else vs.getD 2 0
def ev (u:Int) (D:List tDim.T) (q:List Int):Tree→Int:=Tree.fold (evN u D q)
theorem ev_nd (u:Int) (D:List tDim.T) (q:List Int) (n:tNode.T) (ks:List Tree):ev u D q (.nd n ks) = evN u D q n (ks.map (ev u D q)):=Tree.fold_nd _ n ks
theorem sumL_ge:∀ (l:List Int),(∀ v ∈ l,0 ≤ v)→∀ v ∈ l,v ≤ sumL l
 | [],h,v,hv=>by simp at hv
 | x :: r,h,v,hv=>by
  have hx:=h x (by simp)
  have h0:0 ≤ sumL r:=by
   have:∀ (l:List Int),(∀ v ∈ l,0 ≤ v)→0 ≤ sumL l:=by
    intro l
    induction l with
    | nil=>intro _; simp [sumL]
    | cons y s ih=>intro hh; have:=ih (fun v hv=>hh v (by simp [hv])); have:=hh y (by simp); simp only [sumL,List.sum_cons] at *; omega
   exact this r (fun v hv=>h v (by simp [hv]))
  have ih:=sumL_ge r (fun v hv=>h v (by simp [hv]))
  simp only [sumL,List.sum_cons] at *
  rcases List.mem_cons.1 hv with rfl | hv
  ·omega
  ·have:=ih v hv; omega
structure Kids (ks:List Tree) (V M:Tree→Int):Prop where
 lo:∀ k ∈ ks,-M k ≤ V k
 hi:∀ k ∈ ks,V k ≤ M k
 bd:∀ k ∈ ks,M k ≤ BND
theorem Kids.nn {ks:List Tree} {V M:Tree→Int} (h:Kids ks V M):∀ k ∈ ks,0 ≤ M k:=fun k hk=>by
 have:=h.lo k hk; have:=h.hi k hk; omega
theorem Kids.sum {ks:List Tree} {V M:Tree→Int} (h:Kids ks V M):∀ k ∈ ks,M k ≤ sumL (ks.map M):=fun k hk =>
 sumL_ge _ (by simp only [List.mem_map]; rintro v ⟨k,hk,rfl⟩; exact h.nn k hk) _ (List.mem_map_of_mem hk)
theorem Kids.inr {ks:List Tree} {V M:Tree→Int} (h:Kids ks V M):∀ v ∈ ks.map V,inR v = true:=by
 simp only [List.mem_map]
 rintro v ⟨k,hk,rfl⟩
 have hBND:BND = 1329227995784915872903807060280344576:=rfl
 have:=h.lo k hk; have:=h.hi k hk; have:=h.bd k hk
 rw [inR_iff]; omega
def okQ (D:List tDim.T) (q:List Int):Prop:=q.length = D.length∧∀ x ∈ q,0 ≤ x∧x ≤ 1099511627776
theorem okQ.at {D:List tDim.T} {q:List Int} (h:okQ D q) {i:Nat} (hi:i < D.length):0 ≤ q.getD i 0∧q.getD i 0 ≤ 1099511627776:=getD_bd h.2 (by rw [h.1]; exact hi)
theorem ceilQ_bd {x s:Int} (h0:0 ≤ x) (h:x ≤ 1099511627776) (h1:1 ≤ s):0 ≤ ceilD x s∧ceilD x s ≤ ceilD 1099511627776 s:=by
 have hq1:0 ≤ x / s:=Int.ediv_nonneg (by omega) (by omega)
 have e1:=Int.mul_ediv_add_emod x s
 have e2:=Int.mul_ediv_add_emod 1099511627776 s
 have r1:=Int.emod_nonneg x (show s ≠ 0 by omega)
 have r2:=Int.emod_nonneg 1099511627776 (show s ≠ 0 by omega)
 have hm:x / s ≤ 1099511627776 / s:=Int.ediv_le_ediv (by omega) h
 unfold ceilD
 refine ⟨by split <;> omega,?_⟩
 split
 ·split <;> omega
 ·split
  ·rename_i a b
   rcases Int.lt_or_eq_of_le hm with hlt | heq
   ·omega
   ·rw [heq] at e1; omega
  ·omega
theorem len2 {α:Type} {l:List α} (h:l.length = 2):∃ a b,l = [a,b]:=by
 match l,h with
 | [a,b],_=>exact ⟨a,b,rfl⟩
theorem len3 {α:Type} {l:List α} (h:l.length = 3):∃ a b c,l = [a,b,c]:=by
 match l,h with
 | [a,b,c],_=>exact ⟨a,b,c,rfl⟩
structure Inv (u:Int) (D:List tDim.T) (q:List Int) (t:Tree):Prop where
 lo:-mag u D t ≤ ev u D q t
 hi:ev u D q t ≤ mag u D t
 bd:mag u D t ≤ BND
theorem farN_ge {n:tNode.T} {v:Int} (h0:0 ≤ v) (h:farN n v ≤ BND):v ≤ BND:=by
 unfold farN at h
 cases h15:(nK n == 15) with
 | true=>rw [h15] at h; simp only [cond_true] at h; omega
 | false=>rw [h15] at h; exact h
theorem unit_ok {p:tPlan.T} {t:Tree} (h:Good p t) (hu:(unitR p.2.1 t).2.2 = 0):deep t ≤ 6∧firstE tyE t.subs 0 = none∧ty t = 1∧firstE (magE (unitV t) p.2.1) t.subs 0 = none∧unitR p.2.1 t = (mk (unitV t),0,0):=by
 obtain ⟨a1,a2,a3,a4⟩:=unitR_ok hu
 exact ⟨a2,(typesR_ok a1).1,(typesR_ok a1).2,(measR_ok a3).1,a4⟩
theorem subs_self (t:Tree):t ∈ t.subs:=by
 obtain ⟨s,hs⟩:=subs_last t
 rw [hs]; simp
theorem int_eq (F:Nat) {v:Int} (h:inR v = true):wide_Int.sh F (mk v) = some ((bif decide (-9223372036854775808 ≤ v) && decide (v < 9223372036854775808) then v else 0,decide (-9223372036854775808 ≤ v) && decide (v < 9223372036854775808),()),()):=by
 have hv:=inR_iff.1 h
 unfold wide_Int.sh
 simp only [mk]
 obtain ⟨k,e1,e2,e3⟩:=wrap_ex (v % 18446744073709551616)
 rw [shr63 e2 e3]
 generalize IntKind.i64.wrap (v % 18446744073709551616) = r at *
 by_cases hr:-9223372036854775808 ≤ v∧v < 9223372036854775808
 ·have er:r = v:=by omega
  have e0:(v / 18446744073709551616 != if r < 0 then (-1:Int) else 0) = false:=by
   have:v / 18446744073709551616 = if r < 0 then (-1:Int) else 0:=by split <;> omega
   rw [this]; simp
  rw [e0,decide_eq_true hr.1,decide_eq_true hr.2,er]
  rfl
 ·have e0:(v / 18446744073709551616 != if r < 0 then (-1:Int) else 0) = true:=by
   rw [bne_iff_ne]; split <;> omega
  rw [e0]
  rcases Int.lt_or_le v (-9223372036854775808) with h' | h'
  ·rw [decide_eq_false (show ¬ -9223372036854775808 ≤ v by omega)]; rfl
  ·rw [decide_eq_true h',decide_eq_false (show ¬ v < 9223372036854775808 by omega)]; rfl
theorem tq_bd {a b:Int} (hb:b ≠ 0):-(a.natAbs:Int) ≤ tq a b∧tq a b ≤ a.natAbs:=by
 have:=aQR (a:=a) hb
 unfold tq
 cases dsg a b <;> simp only [cond_true,cond_false] <;> omega
def Dv (S u:Int) (D:List tDim.T) (q:List Int) (t:Tree):Prop:=ty t = 1→∃ c,ev u D q t = c * 10000 ^ (S - deep t).toNat
theorem deep_kid {ks:List Tree} {k:Tree} (hk:k ∈ ks):0 ≤ deep k∧deep k ≤ maxL (ks.map deep):=by
 have h0:∀ x ∈ ks.map deep,0 ≤ x:=by simp only [List.mem_map]; rintro x ⟨k,hk,rfl⟩; exact (deep_bd k).1
 exact ⟨(deep_bd k).1,(maxL_ge h0).2 _ (List.mem_map_of_mem hk)⟩
theorem deep_top (n:tNode.T) (ks:List Tree):maxL (ks.map deep) ≤ deep (.nd n ks):=by
 rw [deep_nd]
 cases nK n == 15 <;> simp only [cond_true,cond_false] <;> omega
theorem Dv.mul {S u:Int} {D:List tDim.T} {q:List Int} {t:Tree} (h:Dv S u D q t) (ht:ty t = 1) {e:Int} (h1:deep t ≤ e) (h2:e ≤ S):∃ c,ev u D q t = c * 10000 ^ (S - e).toNat:=by
 obtain ⟨c,hc⟩:=h ht
 have h0:=(deep_bd t).1
 refine ⟨c * 10000 ^ (e - deep t).toNat,?_⟩
 rw [hc,Int.mul_assoc,← Int.pow_add,show (e - deep t).toNat + (S - e).toNat = (S - deep t).toNat by omega]
theorem oneL_one {l:List Int} (h:oneL l = 1):∀ x ∈ l,x = 1:=by
 cases l with
 | nil=>simp
 | cons a r =>
  simp only [oneL] at h
  cases hr:r.all (fun x=>x == a) with
  | false=>rw [hr] at h; exact absurd (show (-1:Int) = 1 from h) (by decide)
  | true =>
   rw [hr] at h
   have h:a = 1:=h
   intro x hx
   rcases List.mem_cons.1 hx with rfl | hx
   ·exact h
   ·have:=List.all_eq_true.1 hr x hx
    rw [← h]; simpa using this
theorem prodT_one {a b:Int} (h:prodT a b = 1):a = 1 ∨ b = 1:=by
 unfold prodT at h
 cases h1:(a == 0) with
 | true=>rw [h1] at h; exact .inr h
 | false =>
  rw [h1] at h
  cases h2:(b == 0) with
  | true=>rw [h2] at h; exact .inl h
  | false =>
   rw [h2] at h
   cases h3:(cntB a && b == 1) with
   | true=>simp at h3; exact .inr h3.2
   | false =>
    rw [h3] at h
    cases h4:(cntB b && a == 1) with
    | true=>simp at h4; exact .inl h4.2
    | false=>rw [h4] at h; exact absurd (show (-1:Int) = 1 from h) (by decide)
theorem deep_subs (t:Tree):∀ s ∈ t.subs,deep s ≤ deep t:=by
 refine Tree.ind (P:=fun t=>∀ s ∈ t.subs,deep s ≤ deep t) (fun n ks ih=>?_) t
 intro s hs
 rw [subs_nd] at hs
 rcases List.mem_append.1 hs with hs | hs
 ·unfold subss at hs
  obtain ⟨l,hl,hsl⟩:=List.mem_flatten.1 hs
  obtain ⟨k,hk,rfl⟩:=List.mem_map.1 hl
  have h1:=ih k hk s hsl
  have h2:=(deep_kid hk).2
  have h3:=deep_top n ks
  omega
 ·rw [List.mem_singleton.1 hs]; exact Int.le_refl _
def lv:List Int→Int
 | []=>0
 | d :: r=>d + 65536 * lv r
def DG (l:List Int):Prop:=∀ d ∈ l,0 ≤ d∧d < 65536
theorem DG.cons {d:Int} {r:List Int} (h:DG (d :: r)):(0 ≤ d∧d < 65536)∧DG r:=⟨h d (by simp),fun x hx=>h x (by simp [hx])⟩
theorem DG.mk {d:Int} {r:List Int} (h:0 ≤ d∧d < 65536) (hr:DG r):DG (d :: r):=fun x hx=>by
 rcases List.mem_cons.1 hx with rfl | hx
 ·exact h
 ·exact hr x hx
theorem DG.nil:DG []:=fun x hx=>by simp at hx
def hor (d c b a:Int):Int:=a + 65536 * b + 4294967296 * c + 281474976710656 * d
def TG (t:Tree):Prop:=∀ s ∈ t.subs,goodK s.root = true∧kidsK s.root = true∧ar s.root = s.kids.length
theorem TG.kids {n:tNode.T} {ks:List Tree} (h:TG (.nd n ks)):∀ k ∈ ks,TG k:=fun k hk s hs=>h s (by
 rw [subs_nd]
 refine List.mem_append.2 (.inl ?_)
 unfold subss
 exact List.mem_flatten.2 ⟨k.subs,List.mem_map.2 ⟨k,hk,rfl⟩,hs⟩)
def NR (r:tBound_meter.T) (v:Int):Prop:=0 ≤ v∧wfW r.1∧((r.2 = true∧170141183460469231731687303715884105728 ≤ v) ∨ (r = (mk v,false)∧v < 170141183460469231731687303715884105728))
theorem NR.of {v:Int} (h:0 ≤ v):NR (resW v,errW v != 0) v:=by
 refine ⟨h,wf_resW v,?_⟩
 rcases inR_pos h with ⟨i,b⟩ | ⟨i,b⟩
 ·rw [(res_in i).1,(res_in i).2]; exact .inr ⟨rfl,b⟩
 ·exact .inl ⟨res_out i,b⟩
def wfL (l:tLine.T):Prop:=wfW l.1∧wfW l.2.1∧wfW l.2.2
def lA (l:tLine.T):Int:=val l.1
def lB (l:tLine.T):Int:=val l.2.1
def lC (l:tLine.T):Int:=val l.2.2
def fitB (s q:Int):Bool:=decide (s ≥ 1) && (decide (s ≤ 1000000000000) && (decide (q ≥ 0) && decide (q ≤ 1099511627776)))
theorem fit_eq (F:Nat) (s q:Int):line_fit.sh F s q = some ((fitB s q,()),()):=by
 unfold line_fit.sh fitB
 cases decide (s ≥ 1) <;> cases decide (s ≤ 1000000000000) <;> cases decide (q ≥ 0) <;> rfl
theorem fitB_iff {s q:Int}:fitB s q = true ↔ 1 ≤ s∧s ≤ 1000000000000∧0 ≤ q∧q ≤ 1099511627776:=by
 simp [fitB]
theorem blk_bd {q s:Int} (h:fitB s q = true):0 ≤ ceilD q s∧ceilD q s ≤ 1099511627777:=by
 obtain ⟨h1,h2,h3,h4⟩:=fitB_iff.1 h
 have a1:0 ≤ q / s:=Int.ediv_nonneg h3 (by omega)
 have a2:q / s ≤ q:=Int.ediv_le_self _ h3
 unfold ceilD
 split <;> omega
theorem lblocks_eq (F:Nat) {s q:Int} (h:fitB s q = true):line_blocks.sh F q s = some ((ceilD q s,()),()):=by
 obtain ⟨h1,h2,h3,h4⟩:=fitB_iff.1 h
 have a1:0 ≤ q / s:=Int.ediv_nonneg h3 (by omega)
 have a2:q / s ≤ q:=Int.ediv_le_self _ h3
 have a3:0 ≤ q % s:=Int.emod_nonneg _ (by omega)
 have a4:q % s < s:=Int.emod_lt_of_pos _ (by omega)
 unfold line_blocks.sh ceilD
 rw [show (s != 0) = true from bne_iff_ne.2 (by omega),Int.tdiv_eq_ediv_of_nonneg h3,Int.tmod_eq_emod_of_nonneg h3,wrap_i64 (n:=q / s) (by omega) (by omega)]
 simp only [cond_true]
 by_cases hz:q % s = 0
 ·rw [hz,if_pos rfl,if_neg (by omega),wrap_i64 (by omega) (by omega)]
 ·have:(if 1 < q % s then (1:Int) else q % s) = 1:=by split <;> omega
  rw [this,if_neg hz,wrap_i64 (by omega) (by omega)]
def valueR (a b c s q:Int):Int×Int :=
 bif !fitB s q then (0,1)
 else bif !inR (b * q) then (0,10)
 else bif !inR (c * ceilD q s) then (0,10)
 else bif !inR (a + b * q) then (0,10)
 else bif !inR (a + b * q + c * ceilD q s) then (0,10)
 else (a + b * q + c * ceilD q s,0)
theorem lvalue_eq (F:Nat) {l:tLine.T} (hl:wfL l) (s q:Int):line_Value.sh F l s q = some ((mk (valueR (lA l) (lB l) (lC l) s q).1,(valueR (lA l) (lB l) (lC l) s q).2,()),()):=by
 unfold line_Value.sh valueR
 rw [fit_eq,oB_some]
 cases hf:fitB s q with
 | false=>rfl
 | true =>
  obtain ⟨h1,h2,h3,h4⟩:=fitB_iff.1 hf
  obtain ⟨b1,b2⟩:=blk_bd hf
  have iq:inR q = true:=inR_i64 (by omega) (by omega)
  have ib:inR (ceilD q s) = true:=inR_i64 (by omega) (by omega)
  simp only [Bool.not_true,cond_false]
  rw [of_eq F (v:=q) (by omega) (by omega),oB_some,wmul_eq F hl.2.1 (wf_mk iq),oB_some,val_mk,show val l.2.1 = lB l from rfl]
  cases hB:inR (lB l * q) with
  | false =>
   have:errW (lB l * q) = 10:=by unfold errW; rw [hB]; rfl
   simp only [this]
   rfl
  | true =>
   have e1:errW (lB l * q) = 0:=by unfold errW; rw [hB]; rfl
   have e2:resW (lB l * q) = mk (lB l * q):=by unfold resW; rw [hB]; rfl
   simp only [e1,bne_self_eq_false,Bool.not_true,cond_false]
   rw [lblocks_eq F hf,oB_some,of_eq F (v:=ceilD q s) (by omega) (by omega),oB_some,wmul_eq F hl.2.2 (wf_mk ib),oB_some,val_mk,show val l.2.2 = lC l from rfl]
   cases hC:inR (lC l * ceilD q s) with
   | false =>
    have:errW (lC l * ceilD q s) = 10:=by unfold errW; rw [hC]; rfl
    simp only [this]
    rfl
   | true =>
    have e3:errW (lC l * ceilD q s) = 0:=by unfold errW; rw [hC]; rfl
    have e4:resW (lC l * ceilD q s) = mk (lC l * ceilD q s):=by unfold resW; rw [hC]; rfl
    simp only [e3,bne_self_eq_false,Bool.not_true,cond_false]
    rw [e2,e4,add_eq F hl.1 (wf_mk hB),oB_some,val_mk,show val l.1 = lA l from rfl]
    cases hA:inR (lA l + lB l * q) with
    | false =>
     have:errW (lA l + lB l * q) = 10:=by unfold errW; rw [hA]; rfl
     simp only [this]
     rfl
    | true =>
     have e5:errW (lA l + lB l * q) = 0:=by unfold errW; rw [hA]; rfl
     have e6:resW (lA l + lB l * q) = mk (lA l + lB l * q):=by unfold resW; rw [hA]; rfl
     simp only [e5,bne_self_eq_false,Bool.not_true,cond_false]
     rw [e6,add_eq F (wf_mk hA) (wf_mk hC),oB_some,val_mk,val_mk]
     unfold resW errW
     cases hD:inR (lA l + lB l * q + lC l * ceilD q s) <;> rfl
abbrev LZ:=Int×Int×Int
def wL (z:LZ):tLine.T:=(mk z.1,mk z.2.1,mk z.2.2)
def kM (s:Int):Int:=ceilD 1099511627776 s
def nA (v:Int):Int:=(v.natAbs:Int)
theorem nA_nn (v:Int):0 ≤ nA v:=by unfold nA; omega
theorem nA_mul (a b:Int):nA (a * b) = nA a * nA b:=by unfold nA; rw [Int.natAbs_mul]; push_cast; rfl
theorem nA_add (a b:Int):nA (a + b) ≤ nA a + nA b:=by unfold nA; omega
theorem nA_sub (a b:Int):nA (a - b) ≤ nA a + nA b:=by unfold nA; omega
theorem nA_of {a:Int} (h:0 ≤ a):nA a = a:=by unfold nA; omega
def spanZ (s:Int) (z:LZ):Int:=nA z.1 + nA z.2.1 * 1099511627776 + nA z.2.2 * kM s
def valZ (s:Int) (z:LZ) (q:Int):Int:=z.1 + z.2.1 * q + z.2.2 * ceilD q s
def LIM:Int:=85070591730234615865843651857942052864
theorem kM_bd {s:Int} (h:1 ≤ s):1 ≤ kM s∧kM s ≤ 1099511627777:=by
 refine ⟨?_,(ceilD_bd h).2⟩
 have hq:0 ≤ 1099511627776 / s:=Int.ediv_nonneg (by omega) (by omega)
 have e:=Int.mul_ediv_add_emod 1099511627776 s
 unfold kM ceilD
 by_cases h0:1099511627776 / s = 0
 ·rw [h0] at e
  rw [if_neg (by omega)]
  omega
 ·split <;> omega
theorem nA_le_mul {a k:Int} (h:1 ≤ k):nA a ≤ nA a * k:=by
 have:=Int.mul_le_mul_of_nonneg_left h (nA_nn a)
 omega
theorem span_nn {s:Int} (h:1 ≤ s) (z:LZ):0 ≤ spanZ s z:=by
 unfold spanZ
 have h1:=nA_nn z.1
 have h2:=nA_nn z.2.1
 have h3:=Int.mul_nonneg (nA_nn z.2.2) (show 0 ≤ kM s by have:=kM_bd h; omega)
 omega
theorem span_parts {s:Int} (h:1 ≤ s) (z:LZ):nA z.1 ≤ spanZ s z∧nA z.2.1 ≤ spanZ s z∧nA z.2.2 ≤ spanZ s z∧nA z.2.1 * 1099511627776 ≤ spanZ s z∧nA z.2.2 * kM s ≤ spanZ s z:=by
 unfold spanZ
 have h1:=nA_nn z.1
 have h2:=nA_nn z.2.1
 have h4:=nA_nn z.2.2
 have h3:=nA_le_mul (a:=z.2.2) (kM_bd h).1
 omega
theorem inR_nA {v:Int} (h:nA v ≤ LIM):inR v = true:=by
 unfold nA LIM at h
 rw [inR_iff]; omega
theorem nA_le {a b m:Int} (h1:nA a ≤ b) (h2:b ≤ m):nA a ≤ m:=Int.le_trans h1 h2
theorem wf_wL {s:Int} (h:1 ≤ s) {z:LZ} (hz:spanZ s z ≤ LIM):wfL (wL z):=by
 obtain ⟨h1,h2,h3,_,_⟩:=span_parts h z
 exact ⟨wf_mk (inR_nA (nA_le h1 hz)),wf_mk (inR_nA (nA_le h2 hz)),wf_mk (inR_nA (nA_le h3 hz))⟩
theorem val_parts {s q:Int} (h:fitB s q = true) (z:LZ):nA (z.2.1 * q) ≤ nA z.2.1 * 1099511627776∧nA (z.2.2 * ceilD q s) ≤ nA z.2.2 * kM s:=by
 obtain ⟨h1,h2,h3,h4⟩:=fitB_iff.1 h
 obtain ⟨b1,b2⟩:=ceilQ_bd h3 h4 h1
 rw [nA_mul,nA_mul,nA_of h3,nA_of b1]
 exact ⟨Int.mul_le_mul_of_nonneg_left h4 (nA_nn _),Int.mul_le_mul_of_nonneg_left b2 (nA_nn _)⟩
theorem val_span {s q:Int} (h:fitB s q = true) (z:LZ):nA (valZ s z q) ≤ spanZ s z:=by
 obtain ⟨p1,p2⟩:=val_parts h z
 unfold valZ spanZ
 have e1:=nA_add (z.1 + z.2.1 * q) (z.2.2 * ceilD q s)
 have e2:=nA_add z.1 (z.2.1 * q)
 omega
theorem Value_eq (F:Nat) {s q:Int} (h:fitB s q = true) {z:LZ} (hz:spanZ s z ≤ LIM):line_Value.sh F (wL z) s q = some ((mk (valZ s z q),0,()),()):=by
 have h1:=(fitB_iff.1 h).1
 rw [lvalue_eq F (wf_wL h1 hz) s q]
 obtain ⟨p1,p2⟩:=val_parts h z
 obtain ⟨s1,s2,s3,s4,s5⟩:=span_parts h1 z
 have e2:=nA_add z.1 (z.2.1 * q)
 have v0:=val_span h z
 have ev:lA (wL z) = z.1:=val_mk
 have eb:lB (wL z) = z.2.1:=val_mk
 have ec:lC (wL z) = z.2.2:=val_mk
 have hs:nA z.1 + nA z.2.1 * 1099511627776 ≤ spanZ s z:=by
  unfold spanZ
  have:=Int.mul_nonneg (nA_nn z.2.2) (show 0 ≤ kM s by have:=kM_bd h1; omega)
  omega
 have i1:inR (z.2.1 * q) = true:=inR_nA (by omega)
 have i2:inR (z.2.2 * ceilD q s) = true:=inR_nA (by omega)
 have i3:inR (z.1 + z.2.1 * q) = true:=inR_nA (by omega)
 have i4:inR (z.1 + z.2.1 * q + z.2.2 * ceilD q s) = true:=inR_nA (by unfold valZ at v0; omega)
 unfold valueR
 rw [ev,eb,ec,h,i1,i2,i3,i4]
 rfl
def addL (x y:LZ):LZ:=(x.1 + y.1,x.2.1 + y.2.1,x.2.2 + y.2.2)
def subL (x y:LZ):LZ:=(x.1 - y.1,x.2.1 - y.2.1,x.2.2 - y.2.2)
def scaleL (x:LZ) (k:Int):LZ:=(x.1 * k,x.2.1 * k,x.2.2 * k)
def constL (v:Int):LZ:=(v,0,0)
theorem val_add (s:Int) (x y:LZ) (q:Int):valZ s (addL x y) q = valZ s x q + valZ s y q:=by
 simp only [valZ,addL,Int.add_mul]; omega
theorem val_sub (s:Int) (x y:LZ) (q:Int):valZ s (subL x y) q = valZ s x q - valZ s y q:=by
 simp only [valZ,subL,Int.sub_mul]; omega
theorem val_scale (s:Int) (x:LZ) (k q:Int):valZ s (scaleL x k) q = valZ s x q * k:=by
 simp only [valZ,scaleL,Int.add_mul]
 rw [Int.mul_right_comm x.2.1,Int.mul_right_comm x.2.2]
theorem val_const (s v q:Int):valZ s (constL v) q = v:=by simp [valZ,constL]
theorem span_const {s:Int} (v:Int):spanZ s (constL v) = nA v:=by
 have:nA 0 = 0:=rfl
 simp [spanZ,constL,this]
theorem span_add {s:Int} (h:1 ≤ s) (x y:LZ):spanZ s (addL x y) ≤ spanZ s x + spanZ s y:=by
 have h3:=Int.mul_le_mul_of_nonneg_right (nA_add x.2.2 y.2.2) (show 0 ≤ kM s by have:=kM_bd h; omega)
 have h1:=nA_add x.1 y.1
 have h2:=nA_add x.2.1 y.2.1
 rw [Int.add_mul] at h3
 simp only [spanZ,addL]
 omega
theorem span_sub {s:Int} (h:1 ≤ s) (x y:LZ):spanZ s (subL x y) ≤ spanZ s x + spanZ s y:=by
 have h3:=Int.mul_le_mul_of_nonneg_right (nA_sub x.2.2 y.2.2) (show 0 ≤ kM s by have:=kM_bd h; omega)
 have h1:=nA_sub x.1 y.1
 have h2:=nA_sub x.2.1 y.2.1
 rw [Int.add_mul] at h3
 simp only [spanZ,subL]
 omega
theorem span_scale (s:Int) (x:LZ) (k:Int):spanZ s (scaleL x k) = spanZ s x * nA k:=by
 simp only [spanZ,scaleL,nA_mul,Int.add_mul]
 rw [Int.mul_right_comm (nA x.2.1),Int.mul_right_comm (nA x.2.2)]
theorem zero_mk:mk 0 = (0,0):=rfl
theorem nconst_eq (F:Nat) (v:Int):normal_constant.sh F (mk v) = some ((wL (constL v),()),()):=by
 unfold normal_constant.sh wL constL
 simp only [zero_mk]
theorem ladd_eq (F:Nat) {s:Int} (h:1 ≤ s) {x y:LZ} (hx:spanZ s x ≤ LIM) (hy:spanZ s y ≤ LIM) (hxy:spanZ s (addL x y) ≤ LIM):normal_add.sh F (wL x) (wL y) = some ((wL (addL x y),()),()):=by
 obtain ⟨a1,a2,a3⟩:=wf_wL h hx
 obtain ⟨b1,b2,b3⟩:=wf_wL h hy
 obtain ⟨c1,c2,c3,_,_⟩:=span_parts h (addL x y)
 have i1:inR (x.1 + y.1) = true:=inR_nA (nA_le c1 hxy)
 have i2:inR (x.2.1 + y.2.1) = true:=inR_nA (nA_le c2 hxy)
 have i3:inR (x.2.2 + y.2.2) = true:=inR_nA (nA_le c3 hxy)
 unfold normal_add.sh line_Add.sh
 rw [add_eq F a1 b1,oB_some,add_eq F a2 b2,oB_some,add_eq F a3 b3,oB_some]
 simp only [wL,val_mk]
 unfold resW errW
 rw [i1,i2,i3]
 rfl
theorem lsub_eq (F:Nat) {s:Int} (h:1 ≤ s) {x y:LZ} (hx:spanZ s x ≤ LIM) (hy:spanZ s y ≤ LIM) (hxy:spanZ s (subL x y) ≤ LIM):normal_sub.sh F (wL x) (wL y) = some ((wL (subL x y),()),()):=by
 obtain ⟨a1,a2,a3⟩:=wf_wL h hx
 obtain ⟨b1,b2,b3⟩:=wf_wL h hy
 obtain ⟨c1,c2,c3,_,_⟩:=span_parts h (subL x y)
 have i1:inR (x.1 - y.1) = true:=inR_nA (nA_le c1 hxy)
 have i2:inR (x.2.1 - y.2.1) = true:=inR_nA (nA_le c2 hxy)
 have i3:inR (x.2.2 - y.2.2) = true:=inR_nA (nA_le c3 hxy)
 unfold normal_sub.sh line_Sub.sh
 rw [sub_eq F a1 b1,oB_some,sub_eq F a2 b2,oB_some,sub_eq F a3 b3,oB_some]
 simp only [wL,val_mk]
 unfold resW errW
 rw [i1,i2,i3]
 rfl
theorem lby_eq (F:Nat) {s:Int} (h:1 ≤ s) {x:LZ} {k:Int} (hx:spanZ s x ≤ LIM) (hk:inR k = true) (hxy:spanZ s (scaleL x k) ≤ LIM):normal_by.sh F (wL x) (mk k) = some ((wL (scaleL x k),()),()):=by
 obtain ⟨a1,a2,a3⟩:=wf_wL h hx
 obtain ⟨c1,c2,c3,_,_⟩:=span_parts h (scaleL x k)
 have i1:inR (x.1 * k) = true:=inR_nA (nA_le c1 hxy)
 have i2:inR (x.2.1 * k) = true:=inR_nA (nA_le c2 hxy)
 have i3:inR (x.2.2 * k) = true:=inR_nA (nA_le c3 hxy)
 unfold normal_by.sh line_Scale.sh
 rw [wmul_eq F a1 (wf_mk hk),oB_some,wmul_eq F a2 (wf_mk hk),oB_some,wmul_eq F a3 (wf_mk hk),oB_some]
 simp only [wL,val_mk]
 unfold resW errW
 rw [i1,i2,i3]
 rfl
theorem wL_inj {s:Int} (h:1 ≤ s) {x y:LZ} (e:wL x = wL y):x = y:=by
 have h1:=congrArg (fun l:tLine.T=>val l.1) e
 have h2:=congrArg (fun l:tLine.T=>val l.2.1) e
 have h3:=congrArg (fun l:tLine.T=>val l.2.2) e
 simp only [wL,val_mk] at h1 h2 h3
 obtain ⟨x1,x2,x3⟩:=x
 obtain ⟨y1,y2,y3⟩:=y
 simp only at h1 h2 h3
 subst h1 h2 h3
 rfl
theorem mk_neg {v:Int}:decide ((mk v).1 < 0) = decide (v < 0):=by
 apply decide_eq_decide.2
 simp only [mk]; omega
theorem sign_pos (F:Nat) {v:Int}:∃ k,wide_Sign.sh F (mk v) = some ((k,()),())∧decide (k > 0) = decide (v > 0)∧decide (k ≥ 0) = decide (v ≥ 0)∧decide (k ≤ 0) = decide (v ≤ 0):=by
 unfold wide_Sign.sh
 rw [mk_neg,mk_zero]
 by_cases h:v < 0
 ·rw [decide_eq_true h]
  exact ⟨-1,rfl,by simp; omega,by simp; omega,by simp; omega⟩
 ·rw [decide_eq_false h]
  by_cases h0:v = 0
  ·rw [decide_eq_true h0]
   exact ⟨0,rfl,by simp; omega,by simp; omega,by simp; omega⟩
  ·rw [decide_eq_false h0]
   exact ⟨1,rfl,by simp; omega,by simp; omega,by simp; omega⟩
def abvZ (s:Int) (z:LZ) (q:Int):Bool:=decide (valZ s z q > 0)
theorem nabove_eq (F:Nat) {m:tNormal_maker.T} {q:Int} (h:fitB m.2.2 q = true) {z:LZ} (hz:spanZ m.2.2 z ≤ LIM):normal_maker_above.sh F m (wL z) q = some ((abvZ m.2.2 z q,()),()):=by
 unfold normal_maker_above.sh abvZ
 rw [Value_eq F h hz,oB_some]
 obtain ⟨k,e,e1,_⟩:=sign_pos F (v:=valZ m.2.2 z q)
 rw [e,oB_some,e1]
end Go.VS
