import Derived.Test.YtepflleaeogafaaGreatDoorL1
set_option linter.unusedVariables false
set_option linter.unusedSimpArgs false
set_option linter.unusedSectionVars false
set_option linter.unusedVariables false
set_option linter.unusedSimpArgs false
set_option maxRecDepth 100000
namespace Go.VS
open Go
theorem mask32 {x:Int} (h1:0 ≤ x) (h2:x < 18446744073709551616):IntKind.u64.wrap ((BitVec.ofInt IntKind.u64.bits x &&& BitVec.ofInt IntKind.u64.bits 4294967295).toNat:Int) = x % 4294967296:=by
 obtain ⟨X,rfl⟩:=Int.eq_ofNat_of_zero_le h1
 show IntKind.u64.wrap ((BitVec.ofInt 64 (X:Int) &&& BitVec.ofInt 64 ((4294967295:Nat):Int)).toNat:Int) = _
 rw [BitVec.ofInt_natCast,BitVec.ofInt_natCast,BitVec.toNat_and,BitVec.toNat_ofNat,BitVec.toNat_ofNat,Nat.mod_eq_of_lt (by omega:X < 2 ^ 64),Nat.mod_eq_of_lt (by decide)]
 have:X &&& 4294967295 = X % 4294967296:=Nat.and_two_pow_sub_one_eq_mod X 32
 rw [this,wrap_u64 (by omega) (by omega)]
 omega
theorem or_zero {x:Int} (h1:0 ≤ x) (h2:x < 18446744073709551616):IntKind.u64.wrap ((BitVec.ofInt IntKind.u64.bits x ||| BitVec.ofInt IntKind.u64.bits 0).toNat:Int) = x:=by
 obtain ⟨X,rfl⟩:=Int.eq_ofNat_of_zero_le h1
 show IntKind.u64.wrap ((BitVec.ofInt 64 (X:Int) ||| BitVec.ofInt 64 ((0:Nat):Int)).toNat:Int) = _
 rw [BitVec.ofInt_natCast,BitVec.ofInt_natCast,BitVec.toNat_or,BitVec.toNat_ofNat,BitVec.toNat_ofNat,Nat.mod_eq_of_lt (by omega:X < 2 ^ 64)]
 simp
 rw [wrap_u64 (by omega) (by omega)]
theorem zero_or {x:Int} (h1:0 ≤ x) (h2:x < 18446744073709551616):IntKind.u64.wrap ((BitVec.ofInt IntKind.u64.bits 0 ||| BitVec.ofInt IntKind.u64.bits x).toNat:Int) = x:=by
 rw [BitVec.or_comm]; exact or_zero h1 h2
theorem shr32 {x:Int} (h:0 ≤ x):x.fdiv (2 ^ (min (32:Int).toNat IntKind.u64.bits)) = x / 4294967296:=by
 have e:(2 ^ (min (32:Int).toNat IntKind.u64.bits):Int) = 4294967296:=by decide
 rw [e,Int.fdiv_eq_ediv_of_nonneg _ (by omega)]
theorem mul_bd {a b m n:Int} (ha:0 ≤ a) (ha':a ≤ m) (hb:0 ≤ b) (hb':b ≤ n):0 ≤ a * b∧a * b ≤ m * n :=
 ⟨Int.mul_nonneg ha hb,Int.mul_le_mul ha' hb' hb (by omega)⟩
theorem mul64_eq (F:Nat) {x y:Int} (h1:0 ≤ x) (h2:x < 18446744073709551616) (h3:0 ≤ y) (h4:y < 18446744073709551616) :
  math_bits_Mul64.sh F x y = some ((x * y / 18446744073709551616,x * y % 18446744073709551616,()),()):=by
 unfold math_bits_Mul64.sh
 rw [mask32 h1 h2,mask32 h3 h4,shr32 h1,shr32 h3]
 have hx:x = x / 4294967296 * 4294967296 + x % 4294967296:=by omega
 have hy:y = y / 4294967296 * 4294967296 + y % 4294967296:=by omega
 have bx1:0 ≤ x / 4294967296∧x / 4294967296 ≤ 4294967295:=by omega
 have bx0:0 ≤ x % 4294967296∧x % 4294967296 ≤ 4294967295:=by omega
 have by1:0 ≤ y / 4294967296∧y / 4294967296 ≤ 4294967295:=by omega
 have by0:0 ≤ y % 4294967296∧y % 4294967296 ≤ 4294967295:=by omega
 have hxy:x * y = (x / 4294967296) * (y / 4294967296) * 18446744073709551616 + ((x / 4294967296) * (y % 4294967296) + (x % 4294967296) * (y / 4294967296)) * 4294967296 + (x % 4294967296) * (y % 4294967296):=by
  generalize x / 4294967296 = x1 at *
  generalize x % 4294967296 = x0 at *
  generalize y / 4294967296 = y1 at *
  generalize y % 4294967296 = y0 at *
  rw [hx,hy]
  simp only [Int.add_mul,Int.mul_add]
  have r1:x1 * 4294967296 * (y1 * 4294967296) = x1 * y1 * 18446744073709551616:=by
   rw [Int.mul_assoc,Int.mul_left_comm 4294967296,← Int.mul_assoc]; rfl
  have r2:x1 * 4294967296 * y0 = x1 * y0 * 4294967296:=by rw [Int.mul_right_comm]
  have r3:x0 * (y1 * 4294967296) = x0 * y1 * 4294967296:=by rw [Int.mul_assoc]
  rw [r1,r2,r3]
  omega
 have A:=mul_bd bx1.1 bx1.2 by1.1 by1.2
 have B:=mul_bd bx1.1 bx1.2 by0.1 by0.2
 have C:=mul_bd bx0.1 bx0.2 by1.1 by1.2
 have D:=mul_bd bx0.1 bx0.2 by0.1 by0.2
 rw [hxy]
 generalize (x / 4294967296) * (y / 4294967296) = a at *
 generalize (x / 4294967296) * (y % 4294967296) = b at *
 generalize (x % 4294967296) * (y / 4294967296) = c at *
 generalize (x % 4294967296) * (y % 4294967296) = d at *
 clear hxy hx hy bx1 bx0 by1 by0
 have w1:IntKind.u64.wrap a = a:=wrap_u64 (by omega) (by omega)
 have w2:IntKind.u64.wrap b = b:=wrap_u64 (by omega) (by omega)
 have w3:IntKind.u64.wrap c = c:=wrap_u64 (by omega) (by omega)
 have w4:IntKind.u64.wrap d = d:=wrap_u64 (by omega) (by omega)
 rw [w1,w2,w3,w4,shr32 D.1]
 have w5:IntKind.u64.wrap (b + d / 4294967296) = b + d / 4294967296:=wrap_u64 (by omega) (by omega)
 rw [w5,mask32 (by omega) (by omega),shr32 (by omega)]
 have w6:IntKind.u64.wrap ((b + d / 4294967296) % 4294967296 + c) = (b + d / 4294967296) % 4294967296 + c:=wrap_u64 (by omega) (by omega)
 rw [w6,shr32 (by omega)]
 have w7:IntKind.u64.wrap (a + (b + d / 4294967296) / 4294967296) = a + (b + d / 4294967296) / 4294967296:=wrap_u64 (by omega) (by omega)
 rw [w7]
 have w8:IntKind.u64.wrap (a + (b + d / 4294967296) / 4294967296 + ((b + d / 4294967296) % 4294967296 + c) / 4294967296) = a + (b + d / 4294967296) / 4294967296 + ((b + d / 4294967296) % 4294967296 + c) / 4294967296:=wrap_u64 (by omega) (by omega)
 rw [w8,wrap_u64_mod]
 exact some2 (by omega) (by omega)
theorem val_neg {a:Int×Int} (ha:wfW a):decide (a.1 < 0) = decide (val a < 0):=by
 obtain ⟨a1,a2⟩:=a
 obtain ⟨h1,h2,h3,h4⟩:=ha
 have:a1 < 0 ↔ val (a1,a2) < 0:=by simp only [val] at *; omega
 simp [this]
theorem abs_bd {a:Int×Int} (ha:wfW a):0 ≤ ((val a).natAbs:Int)∧((val a).natAbs:Int) ≤ 170141183460469231731687303715884105728:=by
 have:=inR_iff.1 (inR_val ha)
 omega
theorem prod_sign {x y m n:Int} (hm:m = x.natAbs) (hn:n = y.natAbs):x * y = bif !(decide (x < 0) == decide (y < 0)) then -(m * n) else m * n:=by
 subst hm hn
 by_cases h1:x < 0
 ·have e1:(x.natAbs:Int) = -x:=by omega
  by_cases h2:y < 0
  ·have e2:(y.natAbs:Int) = -y:=by omega
   simp [h1,h2,e1,e2,Int.neg_mul_neg]
  ·have e2:(y.natAbs:Int) = y:=by omega
   simp [h1,h2,e1,e2,Int.neg_mul]
 ·have e1:(x.natAbs:Int) = x:=by omega
  by_cases h2:y < 0
  ·have e2:(y.natAbs:Int) = -y:=by omega
   simp [h1,h2,e1,e2,Int.mul_neg]
  ·have e2:(y.natAbs:Int) = y:=by omega
   simp [h1,h2,e1,e2]
theorem wmul_j (F:Nat) {R:Type} (k:(Int×Int)→Int→Option R) {a b:Int×Int} (ha:wfW a) (hb:wfW b) (r:Int×Int) {ah al bh bl:Int}
  (h1:0 ≤ ah∧ah ≤ 9223372036854775808) (h2:0 ≤ al∧al < 18446744073709551616) (h3:0 ≤ bh∧bh ≤ 9223372036854775808) (h4:0 ≤ bl∧bl < 18446744073709551616)
  (hA:((val a).natAbs:Int) = ah * 18446744073709551616 + al) (hB:((val b).natAbs:Int) = bh * 18446744073709551616 + bl) (h0:ah = 0 ∨ bh = 0) :
  times_Mul.j5 F (fun e w=>k w e) (fun e w=>k w e) ah al bh bl a b r = k (resW (val a * val b)) (errW (val a * val b)):=by
 unfold times_Mul.j5
 rw [mul64_eq F h2.1 h2.2 h4.1 h4.2]
 simp only [oB_some]
 have hp:times_pick.sh F (ah != 0) bl al = some ((if ah ≠ 0 then bl else al,()),()):=by
  unfold times_pick.sh
  by_cases h:ah = 0
  ·simp [h]
  ·have:(ah != 0) = true:=by simp [h]
   simp [this,h]
 rw [hp]
 simp only [oB_some]
 obtain ⟨c,hc1,hc2,hc3⟩:∃ c,c = ah * bl + bh * al∧math_bits_Mul64.sh F (IntKind.u64.wrap ((BitVec.ofInt IntKind.u64.bits ah ||| BitVec.ofInt IntKind.u64.bits bh).toNat:Int)) (if ah ≠ 0 then bl else al) =
   some ((c / 18446744073709551616,c % 18446744073709551616,()),())∧0 ≤ c:=by
  rcases h0 with rfl | rfl
  ·refine ⟨bh * al,by simp,?_,Int.mul_nonneg h3.1 h2.1⟩
   rw [zero_or h3.1 (by omega),if_neg (by simp),mul64_eq F h3.1 (by omega) h2.1 h2.2]
  ·refine ⟨ah * bl,by simp,?_,Int.mul_nonneg h1.1 h4.1⟩
   rw [or_zero h1.1 (by omega)]
   by_cases h:ah = 0
   ·subst h
    rw [if_neg (by simp),mul64_eq F (by omega) (by omega) h2.1 h2.2]
    simp
   ·rw [if_pos h,mul64_eq F h1.1 (by omega) h4.1 h4.2]
 rw [hc2]
 simp only [oB_some]
 have hd:0 ≤ al * bl:=Int.mul_nonneg h2.1 h4.1
 have hd':al * bl ≤ 340282366920938463426481119284349108225:=(mul_bd h2.1 (by omega:al ≤ 18446744073709551615) h4.1 (by omega:bl ≤ 18446744073709551615)).2
 have hm:((val a).natAbs:Int) * ((val b).natAbs:Int) = c * 18446744073709551616 + al * bl:=by
  rw [hA,hB,hc1]
  rcases h0 with rfl | rfl
  ·simp only [Int.zero_mul,Int.zero_add,Int.mul_add]
   have:al * (bh * 18446744073709551616) = bh * al * 18446744073709551616:=by rw [Int.mul_left_comm,← Int.mul_assoc]
   omega
  ·simp only [Int.zero_mul,Int.zero_add,Int.add_zero,Int.add_mul]
   have:ah * 18446744073709551616 * bl = ah * bl * 18446744073709551616:=by rw [Int.mul_right_comm]
   omega
 have hs:=prod_sign (x:=val a) (y:=val b) rfl rfl
 rw [hm,← val_neg ha,← val_neg hb] at hs
 generalize al * bl = d at *
 generalize hsg:(!(decide (a.1 < 0) == decide (b.1 < 0))) = sg at *
 rw [add64_eq F (by omega) (by omega) (by omega) (by omega)]
 simp only [oB_some]
 by_cases q1:c / 18446744073709551616 = 0
 ·have e1:(c / 18446744073709551616 != 0) = false:=by simp [q1]
  rw [e1]
  simp only [cond_false]
  by_cases q2:(d / 18446744073709551616 + c % 18446744073709551616 + 0) / 18446744073709551616 = 0
  ·have e2:((d / 18446744073709551616 + c % 18446744073709551616 + 0) / 18446744073709551616 != 0) = false:=by rw [q2]; rfl
   rw [e2]
   simp only [cond_false]
   rw [join_eq F (v:=val a * val b) (by omega) (by omega) (by omega) (by omega) (by rw [hs]; cases sg <;> simp only [cond_true,cond_false] <;> omega)]
   simp only [oB_some]
  ·have e2:((d / 18446744073709551616 + c % 18446744073709551616 + 0) / 18446744073709551616 != 0) = true:=bne_iff_ne.2 q2
   rw [e2]
   simp only [cond_true]
   have hr:inR (val a * val b) = false:=by rw [inR_no,hs]; cases sg <;> simp only [cond_true,cond_false] <;> omega
   simp only [resW,errW,hr,cond_false]
 ·have e1:(c / 18446744073709551616 != 0) = true:=by simp [q1]
  rw [e1]
  simp only [cond_true]
  have hr:inR (val a * val b) = false:=by rw [inR_no,hs]; cases sg <;> simp only [cond_true,cond_false] <;> omega
  simp only [resW,errW,hr,cond_false]
theorem wmul_eq (F:Nat) {a b:Int×Int} (ha:wfW a) (hb:wfW b):times_Mul.sh F a b = some ((resW (val a * val b),errW (val a * val b),()),()):=by
 have ba:=abs_bd ha
 have bb:=abs_bd hb
 unfold times_Mul.sh
 rw [abs_eq F ha,abs_eq F hb]
 simp only [oB_some]
 have key:∀ (h0:((val a).natAbs:Int) / 18446744073709551616 = 0 ∨ ((val b).natAbs:Int) / 18446744073709551616 = 0),times_Mul.j5 F (fun e w=>some ((w,e,()),())) (fun e w=>some ((w,e,()),()))
   (((val a).natAbs:Int) / 18446744073709551616) (((val a).natAbs:Int) % 18446744073709551616) (((val b).natAbs:Int) / 18446744073709551616) (((val b).natAbs:Int) % 18446744073709551616) a b (0,0) =
   (some ((resW (val a * val b),errW (val a * val b),()),()):Option times_Mul.sg.R):=fun h0 =>
  wmul_j F (fun w e=>some ((w,e,()),())) ha hb (0,0) (by omega) (by omega) (by omega) (by omega) (by omega) (by omega) h0
 by_cases q1:((val a).natAbs:Int) / 18446744073709551616 = 0
 ·have e1:(((val a).natAbs:Int) / 18446744073709551616 != 0) = false:=by simp [q1]
  rw [e1]
  simp only [cond_false]
  exact key (.inl q1)
 ·have e1:(((val a).natAbs:Int) / 18446744073709551616 != 0) = true:=by simp [q1]
  rw [e1]
  simp only [cond_true]
  by_cases q2:((val b).natAbs:Int) / 18446744073709551616 = 0
  ·have e2:(((val b).natAbs:Int) / 18446744073709551616 != 0) = false:=by simp [q2]
   rw [e2]
   simp only [cond_false]
   exact key (.inr q2)
  ·have e2:(((val b).natAbs:Int) / 18446744073709551616 != 0) = true:=by simp [q2]
   rw [e2]
   simp only [cond_true]
   have hs:=prod_sign (x:=val a) (y:=val b) rfl rfl
   have hp:(18446744073709551616:Int) * 18446744073709551616 ≤ ((val a).natAbs:Int) * ((val b).natAbs:Int):=Int.mul_le_mul (by omega) (by omega) (by omega) (by omega)
   have hr:inR (val a * val b) = false:=by
    rw [inR_no,hs]
    generalize ((val a).natAbs:Int) * ((val b).natAbs:Int) = m at *
    cases (!(decide (val a < 0) == decide (val b < 0))) <;> simp only [cond_true,cond_false] <;> omega
   simp only [resW,errW,hr,cond_false]
end Go.VS
