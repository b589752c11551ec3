import Derived.Test.YthekefnghiaocaaDoorL16
set_option linter.unusedVariables false
set_option linter.unusedSimpArgs false
set_option linter.unusedSectionVars false
set_option linter.unusedVariables false
set_option linter.unusedSimpArgs false
set_option maxRecDepth 100000
namespace Go.VS
open Go
theorem mask1 {x:Int} (h1:0 ≤ x) (h2:x < 18446744073709551616):IntKind.u64.wrap ((BitVec.ofInt IntKind.u64.bits x &&& BitVec.ofInt IntKind.u64.bits 1).toNat:Int) = x % 2:=by
 obtain ⟨X,rfl⟩:=Int.eq_ofNat_of_zero_le h1
 show IntKind.u64.wrap ((BitVec.ofInt 64 (X:Int) &&& BitVec.ofInt 64 ((1:Nat):Int)).toNat:Int) = _
 rw [BitVec.ofInt_natCast,BitVec.ofInt_natCast,BitVec.toNat_and,BitVec.toNat_ofNat,BitVec.toNat_ofNat,Nat.mod_eq_of_lt (by omega:X < 2 ^ 64),Nat.mod_eq_of_lt (by decide)]
 have:X &&& 1 = X % 2:=Nat.and_two_pow_sub_one_eq_mod X 1
 rw [this,wrap_u64 (by omega) (by omega)]
 omega
theorem shl1 {x:Int}:x * 2 ^ (min (1:Int).toNat IntKind.u64.bits) = x * 2:=by
 have e:(2 ^ (min (1:Int).toNat IntKind.u64.bits):Int) = 2:=by decide
 rw [e]
theorem shr63u {x:Int} (h:0 ≤ x):x.fdiv (2 ^ (min (63:Int).toNat IntKind.u64.bits)) = x / 9223372036854775808:=by
 have e:(2 ^ (min (63:Int).toNat IntKind.u64.bits):Int) = 9223372036854775808:=by decide
 rw [e,Int.fdiv_eq_ediv_of_nonneg _ (by omega)]
theorem qr_body (F:Nat) {R:Type} (k0:Int→Int→Int→Int→Int→Int→Int→Bool→Option R) (rec:Int→Int→Int→Int→Int→Int→Int→Option R) {al bh bl q r B:Int} {i:Nat} (hi:i < 64)
  (ha1:0 ≤ al) (ha2:al < 18446744073709551616) (hb1:0 ≤ bh) (hb2:bh ≤ 9223372036854775808) (hl1:0 ≤ bl) (hl2:bl < 18446744073709551616) (hB:B = bh * 18446744073709551616 + bl) (hB2:B ≤ 170141183460469231731687303715884105728)
  (hq1:0 ≤ q) (hq2:q * 2 ^ (i + 1) + 2 ^ (i + 1) ≤ 18446744073709551616) (hr1:0 ≤ r) (hr2:r < B) :
  times_quoRem.l7.body F k0 rec al bh bl (q * 2 ^ (i + 1)) (r / 18446744073709551616) (r % 18446744073709551616) (i:Int) =
   if B ≤ 2 * r + al / 2 ^ i % 2 then rec al bh bl ((2 * q + 1) * 2 ^ i) ((2 * r + al / 2 ^ i % 2 - B) / 18446744073709551616) ((2 * r + al / 2 ^ i % 2 - B) % 18446744073709551616) (IntKind.i64.wrap ((i:Int) - 1))
   else rec al bh bl ((2 * q) * 2 ^ i) ((2 * r + al / 2 ^ i % 2) / 18446744073709551616) ((2 * r + al / 2 ^ i % 2) % 18446744073709551616) (IntKind.i64.wrap ((i:Int) - 1)):=by
 have hP:(0:Int) < 2 ^ i:=Int.pow_pos (by decide)
 have hP2:(2:Int) ^ (i + 1) = 2 * 2 ^ i:=by rw [Int.pow_succ,Int.mul_comm]
 have hb0:0 ≤ al / 2 ^ i:=Int.ediv_nonneg ha1 (Int.le_of_lt hP)
 have hbl:al / 2 ^ i ≤ al:=Int.ediv_le_self _ ha1
 have hsh:al.fdiv (2 ^ (min (i:Int).toNat IntKind.u64.bits)) = al / 2 ^ i:=by
  rw [Int.toNat_natCast,show min i IntKind.u64.bits = i from Nat.min_eq_left (by show i ≤ 64; omega),Int.fdiv_eq_ediv_of_nonneg _ (Int.le_of_lt hP)]
 have hbit:al / 2 ^ i % 2 = 0 ∨ al / 2 ^ i % 2 = 1:=by omega
 have hq3:q * 2 ^ (i + 1) = 2 * q * 2 ^ i:=by rw [hP2,← Int.mul_assoc,Int.mul_comm q]
 have w1:IntKind.u64.wrap (r / 18446744073709551616 * 2) = r / 18446744073709551616 * 2 ^ 1:=by rw [wrap_u64 (by omega) (by omega)]; rfl
 have w2:IntKind.u64.wrap (r % 18446744073709551616 * 2) = (r % 18446744073709551616 % 9223372036854775808) * 2 ^ 1:=by rw [wrap_u64_mod]; omega
 have o1:=or_add (s:=1) (a:=r / 18446744073709551616) (b:=r % 18446744073709551616 / 9223372036854775808) (by omega) (by omega) (by omega) (by omega) (by omega) (by omega)
 have o2:=or_add (s:=1) (a:=r % 18446744073709551616 % 9223372036854775808) (b:=al / 2 ^ i % 2) (by omega) (by omega) (by omega) (by omega) (by omega) (by omega)
 have o3:IntKind.u64.wrap ((BitVec.ofInt IntKind.u64.bits (q * 2 ^ (i + 1)) ||| BitVec.ofInt IntKind.u64.bits (IntKind.u64.wrap (1 * 2 ^ (min (i:Int).toNat IntKind.u64.bits)))).toNat:Int) = (2 * q + 1) * 2 ^ i:=by
  have hm:=Int.mul_nonneg hq1 (Int.le_of_lt hP)
  rw [Int.toNat_natCast,show min i IntKind.u64.bits = i from Nat.min_eq_left (by show i ≤ 64; omega),Int.one_mul,wrap_u64 (n:=2 ^ i) (by omega) (by rw [hq3,hP2,Int.mul_assoc] at hq2; omega)]
  rw [or_add (s:=i + 1) (a:=q) (b:=2 ^ i) hq1 (by omega) (by omega) (by omega) (by rw [hq3,hP2,Int.mul_assoc] at hq2; omega) (by omega),hq3,Int.add_mul,Int.one_mul]
 unfold times_quoRem.l7.body
 rw [decide_eq_true (show (i:Int) ≥ 0 by omega),shl1,shl1,w1,w2,shr63u (by omega),o1,hsh,mask1 (x:=al / 2 ^ i) (by omega) (by omega),o2,o3]
 simp only [cond_true]
 rw [hq3]
 generalize al / 2 ^ i % 2 = c at *
 have e1:r / 18446744073709551616 * 2 ^ 1 + r % 18446744073709551616 / 9223372036854775808 = (2 * r + c) / 18446744073709551616:=by omega
 have e2:r % 18446744073709551616 % 9223372036854775808 * 2 ^ 1 + c = (2 * r + c) % 18446744073709551616:=by omega
 rw [e1,e2]
 have hn1:0 ≤ 2 * r + c:=by omega
 have hn2:2 * r + c < 2 * B:=by omega
 generalize 2 * r + c = N at *
 clear e1 e2 o1 o2 o3 w1 w2
 have sub:∀ bo:Int,(N % 18446744073709551616 < bl∧bo = 1) ∨ (bl ≤ N % 18446744073709551616∧bo = 0)→B ≤ N→(N / 18446744073709551616 - bh - bo) % 18446744073709551616 = (N - B) / 18446744073709551616:=by
  intro bo h h'
  omega
 have s1:=sub64_eq F (x:=N % 18446744073709551616) (y:=bl) (c:=0) (by omega) hl1 hl2 (by omega) (by omega)
 have hbo:(N % 18446744073709551616 < bl∧(if N % 18446744073709551616 < bl + 0 then (1:Int) else 0) = 1) ∨ (bl ≤ N % 18446744073709551616∧(if N % 18446744073709551616 < bl + 0 then (1:Int) else 0) = 0):=by split <;> omega
 rw [s1]
 generalize (if N % 18446744073709551616 < bl + 0 then (1:Int) else 0) = bo at *
 have s2:=sub64_eq F (x:=N / 18446744073709551616) (y:=bh) (c:=bo) (by omega) hb1 (by omega) (by omega) (by omega)
 simp only [oB_some]
 rw [s2]
 simp only [oB_some]
 by_cases hle:B ≤ N
 ·rw [if_pos hle,sub bo hbo hle,show (N % 18446744073709551616 - bl - 0) % 18446744073709551616 = (N - B) % 18446744073709551616 by omega]
  by_cases hg:N / 18446744073709551616 > bh
  ·rw [decide_eq_true hg]; rfl
  ·rw [decide_eq_false hg,show (N / 18446744073709551616 == bh) = true by rw [beq_iff_eq]; omega,decide_eq_true (show N % 18446744073709551616 ≥ bl by omega)]; rfl
 ·rw [if_neg hle,decide_eq_false (show ¬ N / 18446744073709551616 > bh by omega)]
  by_cases he:N / 18446744073709551616 = bh
  ·rw [show (N / 18446744073709551616 == bh) = true by rw [beq_iff_eq]; exact he,decide_eq_false (show ¬ N % 18446744073709551616 ≥ bl by omega)]; rfl
  ·rw [show (N / 18446744073709551616 == bh) = false by rw [beq_eq_false_iff_ne]; exact he]; rfl
theorem bit_of {ah al:Int} (ha:0 ≤ al) {n:Nat} (hn:n < 64):(ah * 18446744073709551616 + al) / 2 ^ n = 2 * ((ah * 18446744073709551616 + al) / 2 ^ (n + 1)) + al / 2 ^ n % 2:=by
 have hP:(0:Int) < 2 ^ n:=Int.pow_pos (by decide)
 have e:ah * 18446744073709551616 + al = al + 2 ^ n * (2 * (2 ^ (63 - n) * ah)):=by
  have:(2:Int) ^ n * (2 * (2 ^ (63 - n) * ah)) = (2 ^ n * 2 ^ (63 - n)) * (2 * ah):=by rw [Int.mul_left_comm 2,Int.mul_assoc]
  rw [this,← Int.pow_add,show n + (63 - n) = 63 by omega]
  omega
 have e2:(ah * 18446744073709551616 + al) / 2 ^ (n + 1) = (ah * 18446744073709551616 + al) / 2 ^ n / 2:=by
  rw [Int.pow_succ,Int.ediv_ediv_of_nonneg (Int.le_of_lt hP)]
 have e3:(ah * 18446744073709551616 + al) / 2 ^ n = al / 2 ^ n + 2 * (2 ^ (63 - n) * ah):=by
  rw [e,Int.add_mul_ediv_left _ _ (by omega)]
 rw [e2,e3]
 generalize al / 2 ^ n = x at *
 generalize (2:Int) ^ (63 - n) * ah = z at *
 omega
theorem qr_loop (F:Nat) {R:Type} (k:Int→Int→Int→Option R) {ah al bh bl B:Int} (ha1:0 ≤ al) (ha2:al < 18446744073709551616) (hb1:0 ≤ bh) (hb2:bh ≤ 9223372036854775808) (hl1:0 ≤ bl) (hl2:bl < 18446744073709551616)
  (hB:B = bh * 18446744073709551616 + bl) (hB2:B ≤ 170141183460469231731687303715884105728):∀ (n fu:Nat) (q r:Int),n < fu→n ≤ 64→0 ≤ q→q * 2 ^ n + 2 ^ n ≤ 18446744073709551616→0 ≤ r→r < B →
  (ah * 18446744073709551616 + al) / 2 ^ n = q * B + r →
  times_quoRem.l7 F (fun _ _ _ ql rh rl _ _=>k ql rh rl) fu al bh bl (q * 2 ^ n) (r / 18446744073709551616) (r % 18446744073709551616) ((n:Int) - 1) =
   k ((ah * 18446744073709551616 + al) / B) ((ah * 18446744073709551616 + al) % B / 18446744073709551616) ((ah * 18446744073709551616 + al) % B % 18446744073709551616)
 | 0,fu,q,r,hf,hn,hq1,hq2,hr1,hr2,he=>by
  obtain ⟨fu,rfl⟩:∃ j,fu = j + 1:=⟨fu - 1,by omega⟩
  simp only [Int.pow_zero,Int.ediv_one] at he
  obtain ⟨f1,f2⟩:=quo_unique (M:=ah * 18446744073709551616 + al) (y:=B) (Q:=q) (R':=r) (by omega) he hr1 hr2
  rw [f1,f2]
  simp only [times_quoRem.l7,times_quoRem.l7.body]
  rw [decide_eq_false (show ¬ (((0:Nat):Int) - 1) ≥ 0 by omega)]
  simp
 | n + 1,fu,q,r,hf,hn,hq1,hq2,hr1,hr2,he=>by
  obtain ⟨fu,rfl⟩:∃ j,fu = j + 1:=⟨fu - 1,by omega⟩
  have hP:(0:Int) < 2 ^ n:=Int.pow_pos (by decide)
  have hP2:(2:Int) ^ (n + 1) = 2 * 2 ^ n:=by rw [Int.pow_succ,Int.mul_comm]
  have hq3:q * 2 ^ (n + 1) = 2 * (q * 2 ^ n):=by rw [hP2,Int.mul_left_comm]
  simp only [times_quoRem.l7]
  rw [show ((n + 1:Nat):Int) - 1 = ((n:Nat):Int) by omega]
  rw [qr_body F _ _ (by omega) ha1 ha2 hb1 hb2 hl1 hl2 hB hB2 hq1 hq2 hr1 hr2,wrap_i64 (n:=(n:Int) - 1) (by omega) (by omega)]
  have hbit:=bit_of (ah:=ah) ha1 (n:=n) (by omega)
  have hbb:al / 2 ^ n % 2 = 0 ∨ al / 2 ^ n % 2 = 1:=by omega
  rw [he] at hbit
  have hq4:2 * q * 2 ^ n = 2 * (q * 2 ^ n):=by rw [Int.mul_assoc]
  split
  ·refine qr_loop F k ha1 ha2 hb1 hb2 hl1 hl2 hB hB2 n fu _ _ (by omega) (by omega) (by omega) ?_ (by omega) (by omega) ?_
   ·rw [Int.add_mul,Int.one_mul,hq4]; omega
   ·rw [hbit,Int.add_mul,Int.one_mul,Int.mul_assoc]; omega
  ·refine qr_loop F k ha1 ha2 hb1 hb2 hl1 hl2 hB hB2 n fu _ _ (by omega) (by omega) (by omega) ?_ (by omega) (by omega) ?_
   ·rw [hq4]; omega
   ·rw [hbit,Int.mul_assoc]; omega
theorem lquoRem_eq (F:Nat) (hF:70 < F) {ah al bh bl:Int} (h1:0 ≤ ah) (h1':ah < 18446744073709551616) (ha1:0 ≤ al) (ha2:al < 18446744073709551616) (hb1:0 ≤ bh) (hb2:bh ≤ 9223372036854775808) (hl1:0 ≤ bl) (hl2:bl < 18446744073709551616)
  (hB0:0 < bh * 18446744073709551616 + bl) (hB2:bh * 18446744073709551616 + bl ≤ 170141183460469231731687303715884105728) :
  times_quoRem.sh F ah al bh bl = some (((ah * 18446744073709551616 + al) / (bh * 18446744073709551616 + bl) / 18446744073709551616,(ah * 18446744073709551616 + al) / (bh * 18446744073709551616 + bl) % 18446744073709551616,
   (ah * 18446744073709551616 + al) % (bh * 18446744073709551616 + bl) / 18446744073709551616,(ah * 18446744073709551616 + al) % (bh * 18446744073709551616 + bl) % 18446744073709551616,()),()):=by
 unfold times_quoRem.sh
 by_cases hb:bh = 0
 ·subst hb
  rw [beq_self_eq_true,show (bl != 0) = true from bne_iff_ne.2 (by omega),Int.tmod_eq_emod_of_nonneg h1,Int.tdiv_eq_ediv_of_nonneg h1]
  have m0:=Int.emod_nonneg ah (show bl ≠ 0 by omega)
  have m1:=Int.emod_lt_of_pos ah (show 0 < bl by omega)
  have d0:=Int.ediv_nonneg h1 hl1
  have d1:ah / bl ≤ ah:=Int.ediv_le_self _ h1
  simp only [cond_true]
  rw [div64_eq F (by omega) m0 m1 ha1 ha2 hl2,wrap_u64 (n:=ah / bl) d0 (by omega)]
  simp only [oB_some]
  have hM0:0 ≤ ah % bl * 18446744073709551616 + al:=by omega
  have q0:0 ≤ (ah % bl * 18446744073709551616 + al) / bl:=Int.ediv_nonneg hM0 hl1
  have q1:(ah % bl * 18446744073709551616 + al) / bl < 18446744073709551616:=Int.ediv_lt_of_lt_mul (by omega) (by omega)
  have r0:=Int.emod_nonneg (ah % bl * 18446744073709551616 + al) (show bl ≠ 0 by omega)
  have r1:=Int.emod_lt_of_pos (ah % bl * 18446744073709551616 + al) (show 0 < bl by omega)
  have e1:=Int.mul_ediv_add_emod ah bl
  have e2:=Int.mul_ediv_add_emod (ah % bl * 18446744073709551616 + al) bl
  rw [show (0:Int) * 18446744073709551616 + bl = bl by omega]
  obtain ⟨f1,f2⟩:=quo_unique (M:=ah * 18446744073709551616 + al) (y:=bl) (Q:=ah / bl * 18446744073709551616 + (ah % bl * 18446744073709551616 + al) / bl) (R':=(ah % bl * 18446744073709551616 + al) % bl) (by omega) (by
   rw [Int.add_mul,Int.mul_right_comm,Int.mul_comm _ bl,Int.mul_comm _ bl]; omega) r0 r1
  rw [f1,f2]
  generalize (ah % bl * 18446744073709551616 + al) / bl = x at *
  generalize (ah % bl * 18446744073709551616 + al) % bl = z at *
  generalize ah / bl = w at *
  rw [show (w * 18446744073709551616 + x) / 18446744073709551616 = w by omega,show (w * 18446744073709551616 + x) % 18446744073709551616 = x by omega,show z / 18446744073709551616 = 0 by omega,show z % 18446744073709551616 = z by omega]
 ·rw [show (bh == 0) = false by rw [beq_eq_false_iff_ne]; exact hb]
  simp only [cond_false]
  have hl:=qr_loop F (fun ql rh rl=>(some ((0,ql,rh,rl,()),()):Option times_quoRem.sg.R)) (ah:=ah) (al:=al) (bh:=bh) (bl:=bl) ha1 ha2 hb1 hb2 hl1 hl2 rfl hB2 64 F 0 ah (by omega) (by omega) (by omega) (by decide) h1 (by omega) (by
   rw [show (2:Int) ^ 64 = 18446744073709551616 from rfl]; omega)
  rw [show (0:Int) * 2 ^ 64 = 0 by decide,show ah / 18446744073709551616 = 0 by omega,show ah % 18446744073709551616 = ah by omega,show ((64:Nat):Int) - 1 = 63 from rfl] at hl
  rw [hl]
  have q0:0 ≤ (ah * 18446744073709551616 + al) / (bh * 18446744073709551616 + bl):=Int.ediv_nonneg (by omega) (by omega)
  have q1:(ah * 18446744073709551616 + al) / (bh * 18446744073709551616 + bl) < 18446744073709551616:=Int.ediv_lt_of_lt_mul (by omega) (by omega)
  generalize (ah * 18446744073709551616 + al) / (bh * 18446744073709551616 + bl) = x at *
  rw [show x / 18446744073709551616 = 0 by omega,show x % 18446744073709551616 = x by omega]
end Go.VS
