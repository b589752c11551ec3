import Derived.Test.YthekefnghiaocaaDoorL15
set_option linter.unusedVariables false
set_option linter.unusedSimpArgs false
set_option linter.unusedSectionVars false
set_option linter.unusedVariables false
set_option linter.unusedSimpArgs false
set_option maxRecDepth 100000
namespace Go.VS
open Go
theorem or_add {s:Nat} {a b:Int} (h0:0 ≤ a) (h1:a * 2 ^ s < 18446744073709551616) (h2:0 ≤ b) (h3:b < 2 ^ s) (h4:b < 18446744073709551616) (h5:a * 2 ^ s + b < 18446744073709551616) :
  IntKind.u64.wrap ((BitVec.ofInt IntKind.u64.bits (a * 2 ^ s) ||| BitVec.ofInt IntKind.u64.bits b).toNat:Int) = a * 2 ^ s + b:=by
 obtain ⟨A,rfl⟩:=Int.eq_ofNat_of_zero_le h0
 obtain ⟨B,rfl⟩:=Int.eq_ofNat_of_zero_le h2
 have e:((A:Int) * 2 ^ s) = ((A * 2 ^ s:Nat):Int):=by push_cast; rfl
 have e2:((2:Int) ^ s) = ((2 ^ s:Nat):Int):=by push_cast; rfl
 rw [e] at h1 h5 ⊢
 rw [e2] at h3
 show IntKind.u64.wrap ((BitVec.ofInt 64 ((A * 2 ^ s:Nat):Int) ||| BitVec.ofInt 64 (B:Int)).toNat:Int) = _
 rw [BitVec.ofInt_natCast,BitVec.ofInt_natCast,BitVec.toNat_or,BitVec.toNat_ofNat,BitVec.toNat_ofNat,Nat.mod_eq_of_lt (by omega:A * 2 ^ s < 2 ^ 64),Nat.mod_eq_of_lt (by omega)]
 have:=Nat.two_pow_add_eq_or_of_lt (i:=s) (b:=B) (by omega) A
 rw [Nat.mul_comm] at this
 rw [← this,wrap_u64 (by omega) (by omega)]
 push_cast
 rfl
theorem quo_unique {M y Q R':Int} (hy:0 < y) (h:M = Q * y + R') (h0:0 ≤ R') (h1:R' < y):M / y = Q∧M % y = R':=by
 have e:M = R' + y * Q:=by rw [Int.mul_comm] at h; omega
 rw [e,Int.add_mul_ediv_left _ _ (by omega),Int.add_mul_emod_self_left,Int.ediv_eq_zero_of_lt h0 h1,Int.emod_eq_of_lt h0 h1]
 omega
theorem div_j28 (F:Nat) {R:Type} (k:Int→Int→Option R) {Y un0 q1 r1 q0:Int} {s:Nat} (hs:s ≤ 63) (hY:Y < 18446744073709551616) (a1:0 ≤ q1) (a2:q1 < 4294967296) (b1:0 ≤ q0) (b2:q0 < 4294967296)
  (c1:0 ≤ un0) (c2:un0 < 4294967296) (d1:0 ≤ r1) (e1:q0 * Y ≤ r1 * 4294967296 + un0) (e2:r1 * 4294967296 + un0 < (q0 + 1) * Y) :
  math_bits_Div64.j28 F k Y (s:Int) un0 q1 r1 q0 = k (q1 * 4294967296 + q0) ((r1 * 4294967296 + un0 - q0 * Y) / 2 ^ s):=by
 unfold math_bits_Div64.j28
 rw [Int.add_mul,Int.one_mul] at e2
 rw [decide_eq_true (show (0:Int) ≤ (s:Int) by omega),Int.toNat_natCast,show min s IntKind.u64.bits = s from Nat.min_eq_left (by show s ≤ 64; omega)]
 simp only [cond_true]
 rw [wrap_u64 (n:=q1 * 4294967296) (by omega) (by omega),wrap_u64 (n:=q1 * 4294967296 + q0) (by omega) (by omega)]
 rw [Int.fdiv_eq_ediv_of_nonneg _ (Int.le_of_lt (Int.pow_pos (by decide)))]
 congr 2
 simp only [wrap_u64_mod]
 generalize q0 * Y = t at *
 omega
theorem div_j21 (F:Nat) (hF:4 < F) {R:Type} (k:Int→Int→Option R) {y1 y0 u un1 un0:Int} {s:Nat} (hs:s ≤ 63) (y1a:2147483648 ≤ y1) (y1b:y1 < 4294967296) (y0a:0 ≤ y0) (y0b:y0 < 4294967296)
  (ua:0 ≤ u) (ub:u < y1 * 4294967296 + y0) (una:0 ≤ un1) (unb:un1 < 4294967296) (c1:0 ≤ un0) (c2:un0 < 4294967296) :
  ∃ Q r,math_bits_Div64.j21 F k (y1 * 4294967296 + y0) (s:Int) y1 y0 u un1 un0 ((u * 4294967296 + un1) / (y1 * 4294967296 + y0)) = k Q (r / 2 ^ s)∧0 ≤ r∧r < y1 * 4294967296 + y0 ∧
   (u * 4294967296 + un1) * 4294967296 + un0 = Q * (y1 * 4294967296 + y0) + r:=by
 have hy:0 < y1 * 4294967296 + y0:=by omega
 have g:=Guess.first y1a y1b y0a y0b una unb ua ub
 have q1:=g.qsm
 have q1':=g.q0
 have em:=Int.mul_ediv_add_emod (u * 4294967296 + un1) (y1 * 4294967296 + y0)
 have r0:=Int.emod_nonneg (u * 4294967296 + un1) (show y1 * 4294967296 + y0 ≠ 0 by omega)
 have r1:=Int.emod_lt_of_pos (u * 4294967296 + un1) hy
 rw [Int.mul_comm] at em
 generalize hq:(u * 4294967296 + un1) / (y1 * 4294967296 + y0) = Q1 at *
 generalize hr:(u * 4294967296 + un1) % (y1 * 4294967296 + y0) = R1 at *
 have hw:IntKind.u64.wrap ((IntKind.u64.wrap ((IntKind.u64.wrap (u * 4294967296)) + un1)) - (IntKind.u64.wrap (Q1 * (y1 * 4294967296 + y0)))) = R1:=by
  simp only [wrap_u64_mod]
  generalize Q1 * (y1 * 4294967296 + y0) = t at *
  omega
 have g2:=Guess.first (u:=R1) (un:=un0) y1a y1b y0a y0b c1 c2 r0 r1
 have em2:=Int.mul_ediv_add_emod R1 y1
 have rr0:=Int.emod_nonneg R1 (show y1 ≠ 0 by omega)
 have rr1:=Int.emod_lt_of_pos R1 (show 0 < y1 by omega)
 rw [Int.mul_comm] at em2
 have gh:=g2.hi
 have gl:=Int.ediv_nonneg r0 (show 0 ≤ y1 by omega)
 have gm:=Int.mul_nonneg gl (show 0 ≤ y1 by omega)
 unfold math_bits_Div64.j21
 rw [hw,show (y1 != 0) = true from bne_iff_ne.2 (by omega),Int.tdiv_eq_ediv_of_nonneg r0]
 rw [wrap_u64 (n:=R1 / y1) (by omega) (by omega),wrap_u64 (n:=R1 / y1 * y1) (by omega) (by omega),wrap_u64 (n:=R1 - R1 / y1 * y1) (by omega) (by omega),show R1 - R1 / y1 * y1 = R1 % y1 by omega]
 simp only [cond_true]
 have hk:=knuth24 F (fun y s a b c d e q=>math_bits_Div64.j28 F (fun quo4 rem4=>k quo4 rem4) y s c d e q) (y1 * 4294967296 + y0) (s:Int) Q1 2 F (R1 / y1) (R1 % y1) (by omega) (by omega) g2
 rw [hk]
 have q2:=g2.qsm
 have q2':=g2.q0
 have q2l:=g2.qle
 have q2u:=g2.qlt
 generalize (R1 * 4294967296 + un0) / (y1 * 4294967296 + y0) = Q0 at *
 refine ⟨Q1 * 4294967296 + Q0,R1 * 4294967296 + un0 - Q0 * (y1 * 4294967296 + y0),?_,by omega,by rw [Int.add_mul,Int.one_mul] at q2u; omega,?_⟩
 ·exact div_j28 F _ hs (by omega) q1' q1 q2' q2 c1 c2 r0 q2l q2u
 ·rw [Int.add_mul (Q1 * 4294967296),Int.mul_right_comm Q1]
  omega
theorem div64_eq (F:Nat) (hF:4 < F) {hi lo y:Int} (h1:0 ≤ hi) (h2:hi < y) (h3:0 ≤ lo) (h4:lo < 18446744073709551616) (h5:y < 18446744073709551616) :
  math_bits_Div64.sh F hi lo y = some (((hi * 18446744073709551616 + lo) / y,(hi * 18446744073709551616 + lo) % y,()),()):=by
 unfold math_bits_Div64.sh
 rw [show (y == 0) = false by rw [beq_eq_false_iff_ne]; omega,show (y != 0) = true from bne_iff_ne.2 (by omega),decide_eq_false (show ¬ y ≤ hi by omega)]
 simp only [cond_false,cond_true]
 by_cases h0:hi = 0
 ·subst h0
  have hq:lo / y ≤ lo:=Int.ediv_le_self _ h3
  have hq0:0 ≤ lo / y:=Int.ediv_nonneg h3 (by omega)
  rw [beq_self_eq_true,Int.tdiv_eq_ediv_of_nonneg h3,Int.tmod_eq_emod_of_nonneg h3,wrap_u64 hq0 (by omega)]
  simp
 ·rw [show (hi == 0) = false by rw [beq_eq_false_iff_ne]; exact h0]
  obtain ⟨s,z1,z2,z3,z4⟩:=lz_eq F (y:=y) (by omega) h5
  rw [z1]
  simp only [oB_some,cond_false]
  rw [wrap_u64 (n:=(s:Int)) (by omega) (by omega),wrap_u64 (n:=64 - (s:Int)) (by omega) (by omega),show (64:Int) - (s:Int) = ((64 - s:Nat):Int) by omega,decide_eq_true (show (0:Int) ≤ (s:Int) by omega),
   decide_eq_true (show (0:Int) ≤ ((64 - s:Nat):Int) by omega),Int.toNat_natCast,Int.toNat_natCast,show min s IntKind.u64.bits = s from Nat.min_eq_left (by show s ≤ 64; omega),show min (64 - s) IntKind.u64.bits = 64 - s from Nat.min_eq_left (by show 64 - s ≤ 64; omega)]
  simp only [cond_true]
  have hP:(0:Int) < 2 ^ s:=Int.pow_pos (by decide)
  have hQ:(0:Int) < 2 ^ (64 - s):=Int.pow_pos (by decide)
  have hPQ:(2:Int) ^ s * 2 ^ (64 - s) = 18446744073709551616:=by rw [← Int.pow_add,show s + (64 - s) = 64 by omega]; rfl
  have hYw:IntKind.u64.wrap (y * 2 ^ s) = y * 2 ^ s:=wrap_u64 (by omega) (by omega)
  have hhi:hi * 2 ^ s < y * 2 ^ s:=Int.mul_lt_mul_of_pos_right h2 hP
  have hhi0:0 ≤ hi * 2 ^ s:=Int.mul_nonneg h1 (Int.le_of_lt hP)
  have hHw:IntKind.u64.wrap (hi * 2 ^ s) = hi * 2 ^ s:=wrap_u64 hhi0 (by omega)
  have hlo1:0 ≤ lo / 2 ^ (64 - s):=Int.ediv_nonneg h3 (Int.le_of_lt hQ)
  have hlo2:lo / 2 ^ (64 - s) < 2 ^ s:=Int.ediv_lt_of_lt_mul hQ (by rw [hPQ]; exact h4)
  have hlo3:lo / 2 ^ (64 - s) = lo * 2 ^ s / 18446744073709551616:=by
   rw [← hPQ,Int.mul_comm lo,Int.mul_ediv_mul_of_pos _ _ hP]
  have hM:(hi * 2 ^ s + lo / 2 ^ (64 - s)) * 18446744073709551616 + lo * 2 ^ s % 18446744073709551616 = (hi * 18446744073709551616 + lo) * 2 ^ s:=by
   rw [hlo3,Int.add_mul (hi * 18446744073709551616),Int.mul_right_comm hi]
   omega
  have hMl:(hi * 18446744073709551616 + lo) * 2 ^ s < y * 2 ^ s * 18446744073709551616:=by
   rw [Int.mul_right_comm y]
   exact Int.mul_lt_mul_of_pos_right (by omega) hP
  have hu:hi * 2 ^ s + lo / 2 ^ (64 - s) < y * 2 ^ s:=by omega
  have hu0:0 ≤ hi * 2 ^ s + lo / 2 ^ (64 - s):=by omega
  have hor:=or_add (s:=s) (a:=hi) (b:=lo / 2 ^ (64 - s)) h1 (by omega) hlo1 hlo2 (by omega) (by omega)
  rw [hYw,hHw,Int.fdiv_eq_ediv_of_nonneg lo (Int.le_of_lt hQ),hor,mask32 (by omega) (by omega),shr32 (by omega),wrap_u64_mod,mask32 (by omega) (by omega),shr32 (by omega)]
  generalize hi * 2 ^ s + lo / 2 ^ (64 - s) = u at *
  generalize hL:lo * 2 ^ s % 18446744073709551616 = L at *
  generalize hYY:y * 2 ^ s = Y at *
  have hL0:0 ≤ L:=by omega
  have hL1:L < 18446744073709551616:=by omega
  have g:=Guess.first (y1:=Y / 4294967296) (y0:=Y % 4294967296) (u:=u) (un:=L / 4294967296) (by omega) (by omega) (by omega) (by omega) (by omega) (by omega) hu0 (by omega)
  have em2:=Int.mul_ediv_add_emod u (Y / 4294967296)
  have rr0:=Int.emod_nonneg u (show Y / 4294967296 ≠ 0 by omega)
  have rr1:=Int.emod_lt_of_pos u (show 0 < Y / 4294967296 by omega)
  rw [Int.mul_comm] at em2
  have gh:=g.hi
  have gl:=Int.ediv_nonneg hu0 (show 0 ≤ Y / 4294967296 by omega)
  have gm:=Int.mul_nonneg gl (show 0 ≤ Y / 4294967296 by omega)
  rw [show (Y / 4294967296 != 0) = true from bne_iff_ne.2 (by omega),Int.tdiv_eq_ediv_of_nonneg hu0]
  rw [wrap_u64 (n:=u / (Y / 4294967296)) gl (by omega),wrap_u64 (n:=u / (Y / 4294967296) * (Y / 4294967296)) (by omega) (by omega),wrap_u64 (n:=u - u / (Y / 4294967296) * (Y / 4294967296)) (by omega) (by omega),show u - u / (Y / 4294967296) * (Y / 4294967296) = u % (Y / 4294967296) by omega]
  simp only [cond_true]
  have hk:=knuth17 F (fun y s a b c d e q=>math_bits_Div64.j21 F (fun quo7 rem7=>(some ((quo7,rem7,()),()):Option math_bits_Div64.sg.R)) y s a b c d e q) Y (s:Int) (L % 4294967296) 2 F (u / (Y / 4294967296)) (u % (Y / 4294967296)) (by omega) (by omega) g
  rw [hk]
  have hj:=div_j21 F hF (fun quo7 rem7=>(some ((quo7,rem7,()),()):Option math_bits_Div64.sg.R)) (y1:=Y / 4294967296) (y0:=Y % 4294967296) (u:=u) (un1:=L / 4294967296) (un0:=L % 4294967296) z2 (by omega) (by omega) (by omega) (by omega) hu0 (by omega) (by omega) (by omega) (by omega) (by omega)
  rw [show Y / 4294967296 * 4294967296 + Y % 4294967296 = Y by omega] at hj ⊢
  obtain ⟨Q,r,e1,e2,e3,e4⟩:=hj
  rw [e1]
  have e5:(hi * 18446744073709551616 + lo) * 2 ^ s = Q * Y + r:=by rw [← hM,← e4]; omega
  have e6:r = (hi * 18446744073709551616 + lo - Q * y) * 2 ^ s:=by
   rw [Int.sub_mul,Int.mul_assoc Q,hYY]; omega
  have e7:r / 2 ^ s = hi * 18446744073709551616 + lo - Q * y:=by rw [e6,Int.mul_ediv_cancel _ (Int.ne_of_gt hP)]
  rw [e7]
  have e8:0 ≤ hi * 18446744073709551616 + lo - Q * y:=by rw [← e7]; exact Int.ediv_nonneg e2 (Int.le_of_lt hP)
  have e9:hi * 18446744073709551616 + lo - Q * y < y:=by rw [← e7]; exact Int.ediv_lt_of_lt_mul hP (by rw [hYY]; exact e3)
  obtain ⟨f1,f2⟩:=quo_unique (M:=hi * 18446744073709551616 + lo) (y:=y) (Q:=Q) (R':=hi * 18446744073709551616 + lo - Q * y) (by omega) (by omega) e8 e9
  rw [f1,f2]
end Go.VS
