import Derived.Test.YthekefnghiaocaaGreatDoorL22
import Derived.Test.YthekefnghiaocaaGreatDoorM10
set_option linter.unusedVariables false
set_option linter.unusedSimpArgs false
set_option linter.unusedSectionVars false
set_option linter.unusedVariables false
set_option linter.unusedSimpArgs false
set_option maxRecDepth 100000
namespace Go.VS
open Go
theorem rsub_eq (F:Nat) (hF:20 < F) {a b:Int×Int} (ha:wfW a) (hb:wfW b):octroiref01_Sub.sh F a b = some ((resW (val a - val b),errW (val a - val b),()),()):=by
 obtain ⟨la,da,ra⟩:=digs_eq F hF ha
 obtain ⟨lb,db,rb⟩:=digs_eq F hF hb
 obtain ⟨lt,dt,rt⟩:=turned_eq F hF rb
 obtain ⟨l,dl,rl⟩:=plus_eq F hF ra rt
 have h1:=val_bd ha
 have h2:=val_bd hb
 unfold octroiref01_Sub.sh
 rw [da,oB_some,db,oB_some,dt,oB_some,dl,oB_some,told_eq F hF rl (by omega) (by omega),oB_some,show val a + -val b = val a - val b by omega]
theorem rtwice_eq (F:Nat) {V c:Int} (h0:0 ≤ V) (hc:c = 0 ∨ c = 1) (h1:2 * V + c < 340282366920938463463374607431768211456) :
  octroiref02_twice.sh F (V / 18446744073709551616) (V % 18446744073709551616) c = some (((2 * V + c) / 18446744073709551616,(2 * V + c) % 18446744073709551616,()),()):=by
 unfold octroiref02_twice.sh
 rw [shr63u (by omega)]
 simp only [wrap_u64_mod]
 exact some2 (by omega) (by omega)
theorem ratleast_eq (F:Nat) {V bh bl:Int} (h2:0 ≤ bl) (h3:bl < 18446744073709551616):octroiref02_atLeast.sh F (V / 18446744073709551616) (V % 18446744073709551616) bh bl = some ((decide (bh * 18446744073709551616 + bl ≤ V),()),()):=by
 unfold octroiref02_atLeast.sh
 by_cases g:V / 18446744073709551616 > bh
 ·rw [decide_eq_true g,decide_eq_true (show bh * 18446744073709551616 + bl ≤ V by omega)]; rfl
 ·rw [decide_eq_false g]
  by_cases e:V / 18446744073709551616 = bh
  ·rw [show (V / 18446744073709551616 == bh) = true by rw [beq_iff_eq]; exact e]
   simp only [cond_true,cond_false]
   rw [show decide (V % 18446744073709551616 ≥ bl) = decide (bh * 18446744073709551616 + bl ≤ V) from decide_eq_decide.2 (by omega)]
  ·rw [show (V / 18446744073709551616 == bh) = false by rw [beq_eq_false_iff_ne]; exact e,decide_eq_false (show ¬ bh * 18446744073709551616 + bl ≤ V by omega)]; rfl
theorem rless_eq (F:Nat) {V bh bl:Int} (h0:0 ≤ V) (h1:V < 340282366920938463463374607431768211456) (hb:0 ≤ bh) (h2:0 ≤ bl) (h3:bl < 18446744073709551616) (hle:bh * 18446744073709551616 + bl ≤ V) :
  octroiref02_less.sh F (V / 18446744073709551616) (V % 18446744073709551616) bh bl = some (((V - (bh * 18446744073709551616 + bl)) / 18446744073709551616,(V - (bh * 18446744073709551616 + bl)) % 18446744073709551616,()),()):=by
 unfold octroiref02_less.sh
 simp only [wrap_u64_mod]
 by_cases g:V % 18446744073709551616 < bl
 ·rw [decide_eq_true g]
  simp only [cond_true]
  exact some2 (by omega) (by omega)
 ·rw [decide_eq_false g]
  simp only [cond_false]
  exact some2 (by omega) (by omega)
theorem rstep (F:Nat) {R:Type} (rec:Int→Int→Int→Int→Option R) {q r B bh bl c:Int} (hc:c = 0 ∨ c = 1) (hb:0 ≤ bh) (h2:0 ≤ bl) (h3:bl < 18446744073709551616) (hB:B = bh * 18446744073709551616 + bl) (hB2:B ≤ 170141183460469231731687303715884105728)
  (hr1:0 ≤ r) (hr2:r < B) (hq1:0 ≤ q) (hq2:2 * q + 1 < 340282366920938463463374607431768211456) :
  (oB (octroiref02_twice.sh F (r / 18446744073709551616) (r % 18446744073709551616) c) fun c_3=>oB (octroiref02_atLeast.sh F c_3.1.1 c_3.1.2.1 bh bl) fun c_4 =>
   bif c_4.1.1 then oB (octroiref02_less.sh F c_3.1.1 c_3.1.2.1 bh bl) fun c_5=>oB (octroiref02_twice.sh F (q / 18446744073709551616) (q % 18446744073709551616) 1) fun c_6=>rec c_6.1.1 c_6.1.2.1 c_5.1.1 c_5.1.2.1
   else oB (octroiref02_twice.sh F (q / 18446744073709551616) (q % 18446744073709551616) 0) fun c_7=>rec c_7.1.1 c_7.1.2.1 c_3.1.1 c_3.1.2.1) =
  if B ≤ 2 * r + c then rec ((2 * q + 1) / 18446744073709551616) ((2 * q + 1) % 18446744073709551616) ((2 * r + c - B) / 18446744073709551616) ((2 * r + c - B) % 18446744073709551616)
  else rec (2 * q / 18446744073709551616) (2 * q % 18446744073709551616) ((2 * r + c) / 18446744073709551616) ((2 * r + c) % 18446744073709551616):=by
 have hR:2 * r + c < 340282366920938463463374607431768211456:=by omega
 rw [rtwice_eq F hr1 hc hR,oB_some,ratleast_eq F h2 h3,oB_some,← hB]
 by_cases hle:B ≤ 2 * r + c
 ·rw [if_pos hle,decide_eq_true hle]
  simp only [cond_true]
  rw [rless_eq F (by omega) hR hb h2 h3 (by omega),oB_some,rtwice_eq F hq1 (.inr rfl) hq2,oB_some,← hB]
 ·rw [if_neg hle,decide_eq_false hle]
  simp only [cond_false]
  rw [rtwice_eq F hq1 (.inl rfl) (by omega),oB_some,Int.add_zero]
theorem bit_hi {ah al:Int} (ha:0 ≤ al) (ha2:al < 18446744073709551616) (m:Nat):(ah * 18446744073709551616 + al) / 2 ^ (64 + m) = 2 * ((ah * 18446744073709551616 + al) / 2 ^ (64 + m + 1)) + ah / 2 ^ m % 2:=by
 have hP:(0:Int) < 2 ^ m:=Int.pow_pos (by decide)
 have e0:(ah * 18446744073709551616 + al) / 2 ^ (64 + m) = ah / 2 ^ m:=by
  rw [Int.pow_add,show (2:Int) ^ 64 = 18446744073709551616 from rfl,← Int.ediv_ediv_of_nonneg (by omega)]
  congr 1; omega
 have e1:(ah * 18446744073709551616 + al) / 2 ^ (64 + m + 1) = ah / 2 ^ m / 2:=by
  rw [Int.pow_succ,← Int.ediv_ediv_of_nonneg (Int.le_of_lt (Int.pow_pos (by decide))),e0]
 rw [e0,e1]
 generalize ah / 2 ^ m = x
 omega
theorem rqr_loop (F:Nat) {R:Type} (k:Int→Int→Int→Int→tWide.T→tWide.T→Option R) (a b r4 r5:tWide.T) {ah al bh bl B:Int} (h0:0 ≤ ah) (ha1:0 ≤ al) (ha2:al < 18446744073709551616) (hb1:0 ≤ bh) (hl1:0 ≤ bl) (hl2:bl < 18446744073709551616)
  (hB:B = bh * 18446744073709551616 + bl) (hB2:B ≤ 170141183460469231731687303715884105728):∀ (n fu:Nat) (q r:Int),n < fu→n ≤ 128→0 ≤ q→q * 2 ^ n + 2 ^ n ≤ 340282366920938463463374607431768211456→0 ≤ r→r < B →
  (ah * 18446744073709551616 + al) / 2 ^ n = q * B + r →
  octroiref02_QuoRem.l10 F (fun _ _ _ _ qh ql rh rl _ _ a b _ _=>k qh ql rh rl a b) fu ah al bh bl (q / 18446744073709551616) (q % 18446744073709551616) (r / 18446744073709551616) (r % 18446744073709551616) ((n:Int) - 1) a b r4 r5 =
   k ((ah * 18446744073709551616 + al) / B / 18446744073709551616) ((ah * 18446744073709551616 + al) / B % 18446744073709551616) ((ah * 18446744073709551616 + al) % B / 18446744073709551616) ((ah * 18446744073709551616 + al) % B % 18446744073709551616) a b
 | 0,fu,q,r,hf,hn,hq1,hq2,hr1,hr2,he=>by
  obtain ⟨fu,rfl⟩:∃ j,fu = j + 1:=⟨fu - 1,by omega⟩
  simp only [Int.pow_zero,Int.ediv_one] at he
  obtain ⟨f1,f2⟩:=quo_unique (M:=ah * 18446744073709551616 + al) (y:=B) (Q:=q) (R':=r) (by omega) he hr1 hr2
  rw [f1,f2]
  simp only [octroiref02_QuoRem.l10,octroiref02_QuoRem.l10.body]
  rw [decide_eq_false (show ¬ (((0:Nat):Int) - 1) ≥ 0 by omega)]
  simp only [cond_false]
 | n + 1,fu,q,r,hf,hn,hq1,hq2,hr1,hr2,he=>by
  obtain ⟨fu,rfl⟩:∃ j,fu = j + 1:=⟨fu - 1,by omega⟩
  have hP:(0:Int) < 2 ^ n:=Int.pow_pos (by decide)
  have hP2:(2:Int) ^ (n + 1) = 2 * 2 ^ n:=by rw [Int.pow_succ,Int.mul_comm]
  have hq3:q * 2 ^ (n + 1) = 2 * (q * 2 ^ n):=by rw [hP2,Int.mul_left_comm]
  have hq4:2 * q * 2 ^ n = 2 * (q * 2 ^ n):=by rw [Int.mul_assoc]
  have hqq:q ≤ q * 2 ^ n:=by
   have:=Int.mul_le_mul_of_nonneg_left (show (1:Int) ≤ 2 ^ n by omega) hq1
   omega
  have wmod:IntKind.u64.wrap (((n:Nat):Int).tmod 64) = ((n % 64:Nat):Int):=by
   rw [Int.tmod_eq_emod_of_nonneg (by omega),wrap_u64 (by omega) (by omega)]; omega
  have hmin:min (n % 64) IntKind.u64.bits = n % 64:=Nat.min_eq_left (by show n % 64 ≤ 64; omega)
  obtain ⟨c,hc,hbit,hstep⟩:∃ c:Int,(c = 0 ∨ c = 1)∧(ah * 18446744073709551616 + al) / 2 ^ n = 2 * (q * B + r) + c ∧
    ∀ (rec:Int→Int→Int→Int→Int→Int→Int→Int→Int→tWide.T→tWide.T→tWide.T→tWide.T→Option R) (k0:Int→Int→Int→Int→Int→Int→Int→Int→Int→Bool→tWide.T→tWide.T→tWide.T→tWide.T→Option R),
     octroiref02_QuoRem.l10.body F k0 rec ah al bh bl (q / 18446744073709551616) (q % 18446744073709551616) (r / 18446744073709551616) (r % 18446744073709551616) (n:Int) a b r4 r5 =
     (oB (octroiref02_twice.sh F (r / 18446744073709551616) (r % 18446744073709551616) c) fun c_3=>oB (octroiref02_atLeast.sh F c_3.1.1 c_3.1.2.1 bh bl) fun c_4 =>
   bif c_4.1.1 then oB (octroiref02_less.sh F c_3.1.1 c_3.1.2.1 bh bl) fun c_5=>oB (octroiref02_twice.sh F (q / 18446744073709551616) (q % 18446744073709551616) 1) fun c_6=>rec ah al bh bl c_6.1.1 c_6.1.2.1 c_5.1.1 c_5.1.2.1 (IntKind.i64.wrap ((n:Int) - 1)) a b r4 r5
   else oB (octroiref02_twice.sh F (q / 18446744073709551616) (q % 18446744073709551616) 0) fun c_7=>rec ah al bh bl c_7.1.1 c_7.1.2.1 c_3.1.1 c_3.1.2.1 (IntKind.i64.wrap ((n:Int) - 1)) a b r4 r5):=by
   by_cases hn64:n < 64
   ·refine ⟨al / 2 ^ n % 2,by omega,by rw [← he]; exact bit_of ha1 hn64,fun rec k0=>?_⟩
    unfold octroiref02_QuoRem.l10.body
    rw [decide_eq_true (show (n:Int) ≥ 0 by omega),wmod,decide_eq_true (show (0:Int) ≤ ((n % 64:Nat):Int) by omega),decide_eq_false (show ¬ (n:Int) ≥ 64 by omega),Int.toNat_natCast,hmin,show n % 64 = n by omega,
     Int.fdiv_eq_ediv_of_nonneg al (Int.le_of_lt hP),Int.tmod_eq_emod_of_nonneg (Int.ediv_nonneg ha1 (Int.le_of_lt hP))]
    simp only [cond_true,cond_false]
   ·have hP6:(0:Int) < 2 ^ (n - 64):=Int.pow_pos (by decide)
    refine ⟨ah / 2 ^ (n - 64) % 2,by omega,?_,fun rec k0=>?_⟩
    ·have:=bit_hi (ah:=ah) ha1 ha2 (n - 64)
     rw [show 64 + (n - 64) = n by omega] at this
     rw [← he]; exact this
    ·unfold octroiref02_QuoRem.l10.body
     rw [decide_eq_true (show (n:Int) ≥ 0 by omega),wmod,decide_eq_true (show (0:Int) ≤ ((n % 64:Nat):Int) by omega),decide_eq_true (show (n:Int) ≥ 64 by omega),Int.toNat_natCast,hmin,show n % 64 = n - 64 by omega,
      Int.fdiv_eq_ediv_of_nonneg ah (Int.le_of_lt hP6),Int.tmod_eq_emod_of_nonneg (Int.ediv_nonneg h0 (Int.le_of_lt hP6))]
     simp only [cond_true,cond_false]
  simp only [octroiref02_QuoRem.l10]
  rw [show ((n + 1:Nat):Int) - 1 = ((n:Nat):Int) by omega,hstep,wrap_i64 (n:=(n:Int) - 1) (by omega) (by omega)]
  have hs:=rstep F (fun qh ql rh rl=>octroiref02_QuoRem.l10 F (fun _ _ _ _ qh ql rh rl _ _ a b _ _=>k qh ql rh rl a b) fu ah al bh bl qh ql rh rl ((n:Int) - 1) a b r4 r5) (q:=q) (r:=r) hc hb1 hl1 hl2 hB hB2 hr1 hr2 hq1 (by omega)
  refine hs.trans ?_
  split
  ·refine rqr_loop F k a b r4 r5 h0 ha1 ha2 hb1 hl1 hl2 hB hB2 n fu _ _ (by omega) (by omega) (by omega) ?_ (by omega) (by omega) ?_
   ·rw [Int.add_mul,Int.one_mul,hq4]; omega
   ·rw [hbit,Int.add_mul,Int.one_mul,Int.mul_assoc]; omega
  ·refine rqr_loop F k a b r4 r5 h0 ha1 ha2 hb1 hl1 hl2 hB hB2 n fu _ _ (by omega) (by omega) (by omega) ?_ (by omega) (by omega) ?_
   ·rw [hq4]; omega
   ·rw [hbit,Int.mul_assoc]; omega
theorem rquorem_eq (F:Nat) (hF:150 < F) {a b:Int×Int} (ha:wfW a) (hb:wfW b) (h0:val b ≠ 0) :
  octroiref02_QuoRem.sh F a b = some ((bif inR (tq (val a) (val b)) then mk (tq (val a) (val b)) else (0,0),bif inR (tq (val a) (val b)) then mk (tr (val a) (val b)) else (0,0),errW (tq (val a) (val b)),()),()):=by
 have ba:=abs_bd ha
 have bb:=abs_bd hb
 have hq:=aQR (a:=val a) h0
 have hneg:(!(decide (a.1 < 0) == decide (b.1 < 0))) = dsg (val a) (val b):=by rw [val_neg ha,val_neg hb]; rfl
 have e1:((val a).natAbs:Int) / 18446744073709551616 * 18446744073709551616 + ((val a).natAbs:Int) % 18446744073709551616 = (val a).natAbs:=by omega
 have e2:((val b).natAbs:Int) / 18446744073709551616 * 18446744073709551616 + ((val b).natAbs:Int) % 18446744073709551616 = (val b).natAbs:=by omega
 have main:octroiref02_QuoRem.j3 F (fun r616 r416 r516=>some ((r416,r516,r616,()),())) (fun r617 r417 r517=>(some ((r417,r517,r617,()),()):Option octroiref02_QuoRem.sg.R)) a b (0,0) (0,0) =
   some ((bif inR (tq (val a) (val b)) then mk (tq (val a) (val b)) else (0,0),bif inR (tq (val a) (val b)) then mk (tr (val a) (val b)) else (0,0),errW (tq (val a) (val b)),()),()):=by
  unfold octroiref02_QuoRem.j3
  rw [rabs_eq F (by omega) ha,oB_some,rabs_eq F (by omega) hb,oB_some]
  have hl:=rqr_loop F (fun qh13 ql13 rh13 rl13 a13 b13=>oB (octroiref01_Join.sh F (!(decide (a13.1 < 0) == decide (b13.1 < 0))) qh13 ql13) fun c_14 =>
 bif (c_14.1.2.1 != 0) then (some (((0,0),(0,0),c_14.1.2.1,()),()):Option octroiref02_QuoRem.sg.R)
 else oB (octroiref01_Join.sh F (decide (a13.1 < 0)) rh13 rl13) fun c_15 =>
 some ((c_14.1.1,c_15.1.1,0,()),())) a b (0,0) (0,0) (ah:=((val a).natAbs:Int) / 18446744073709551616) (al:=((val a).natAbs:Int) % 18446744073709551616) (bh:=((val b).natAbs:Int) / 18446744073709551616) (bl:=((val b).natAbs:Int) % 18446744073709551616)
   (B:=(val b).natAbs) (by omega) (by omega) (by omega) (by omega) (by omega) (by omega) (by omega) (by omega) 128 F 0 0 (by omega) (by omega) (by omega) (by decide) (by omega) (by omega) (by
    rw [e1,show (2:Int) ^ 128 = 340282366920938463463374607431768211456 from rfl]; omega)
  rw [e1,show (0:Int) / 18446744073709551616 = 0 from rfl,show (0:Int) % 18446744073709551616 = 0 from rfl,show ((128:Nat):Int) - 1 = 127 from rfl] at hl
  refine hl.trans ?_
  rw [hneg,show ((val a).natAbs:Int) / ((val b).natAbs:Int) = aQ (val a) (val b) from rfl,show ((val a).natAbs:Int) % ((val b).natAbs:Int) = aR (val a) (val b) from rfl]
  rw [rjoin_eq F (by omega) (v:=tq (val a) (val b)) (by omega) (by omega) (by omega) (by omega) (by
   unfold tq
   rw [show aQ (val a) (val b) / 18446744073709551616 * 18446744073709551616 + aQ (val a) (val b) % 18446744073709551616 = aQ (val a) (val b) by omega]),oB_some]
  cases hi:inR (tq (val a) (val b)) with
  | false=>simp only [resW,errW,hi,cond_false]; rfl
  | true =>
   simp only [resW,errW,hi,cond_true,bne_self_eq_false,cond_false]
   rw [val_neg ha]
   rw [rjoin_eq F (by omega) (v:=tr (val a) (val b)) (by omega) (by omega) (by omega) (by omega) (by
    unfold tr
    rw [show aR (val a) (val b) / 18446744073709551616 * 18446744073709551616 + aR (val a) (val b) % 18446744073709551616 = aR (val a) (val b) by omega]),oB_some]
   have hi2:inR (tr (val a) (val b)) = true:=by
    rw [inR_iff]; unfold tr
    cases decide (val a < 0) <;> simp only [cond_true,cond_false] <;> omega
   simp only [resW,errW,hi2,cond_true]
 unfold octroiref02_QuoRem.sh
 have hz:=val_zero hb
 rw [decide_eq_false h0] at hz
 cases h1:(b.1 == 0) with
 | false=>simp only [cond_false]; exact main
 | true =>
  rw [h1] at hz
  simp only [Bool.true_and,Bool.and_true] at hz
  rw [hz]
  simp only [cond_true,cond_false]
  exact main
theorem rnearer_eq (F:Nat) (hF:150 < F) {q r b:Int×Int} (hq:wfW q) (hr:wfW r) (hb:wfW b) (m:Int) (hm:m = 3 ∨ m = 4) (hlt:((val r).natAbs:Int) < (val b).natAbs) :
  octroiref02_nearer.sh F q r b m = some ((awB m (val q) (val r) (val b),()),()):=by
 have br:=abs_bd hr
 have bb:=abs_bd hb
 have hq2:q.2.tmod 2 = val q % 2:=by
  rw [Int.tmod_eq_emod_of_nonneg hq.2.2.1]
  simp only [val]; omega
 have haw:awB m (val q) (val r) (val b) = (decide (((val b).natAbs:Int) < 2 * (val r).natAbs) || (decide (2 * ((val r).natAbs:Int) = (val b).natAbs) && (m == 3 || decide (val q % 2 = 1)))):=by
  rcases hm with rfl | rfl <;> rfl
 rw [haw]
 unfold octroiref02_nearer.sh
 rw [hq2]
 have A:=rabs_eq F (by omega) hr
 have B:=rabs_eq F (by omega) hb
 generalize ((val r).natAbs:Int) = x at *
 generalize ((val b).natAbs:Int) = y at *
 have hless:=rless_eq F (V:=y) (bh:=x / 18446744073709551616) (bl:=x % 18446744073709551616) (by omega) (by omega) (by omega) (by omega) (by omega) (by omega)
 rw [show x / 18446744073709551616 * 18446744073709551616 + x % 18446744073709551616 = x by omega] at hless
 have hat:=ratleast_eq F (V:=x) (bh:=(y - x) / 18446744073709551616) (bl:=(y - x) % 18446744073709551616) (by omega) (by omega)
 rw [show (y - x) / 18446744073709551616 * 18446744073709551616 + (y - x) % 18446744073709551616 = y - x by omega] at hat
 rw [A,oB_some,B,oB_some,hless,oB_some]
 by_cases g2:x / 18446744073709551616 = (y - x) / 18446744073709551616
 ·rw [show (x / 18446744073709551616 == (y - x) / 18446744073709551616) = true by rw [beq_iff_eq]; exact g2]
  simp only [cond_true]
  by_cases g4:x % 18446744073709551616 = (y - x) % 18446744073709551616
  ·rw [show (x % 18446744073709551616 == (y - x) % 18446744073709551616) = true by rw [beq_iff_eq]; exact g4,decide_eq_true (aw6 g2 g4),decide_eq_false (show ¬ y < 2 * x by have:=aw6 g2 g4; omega)]
   rw [show (val q % 2 == 1) = decide (val q % 2 = 1) by
    by_cases g5:val q % 2 = 1
    ·rw [g5]; rfl
    ·rw [decide_eq_false g5,beq_eq_false_iff_ne]; exact g5]
   cases (m == 3) <;> simp only [cond_true,cond_false,Bool.true_or,Bool.false_or,Bool.true_and]
  ·rw [show (x % 18446744073709551616 == (y - x) % 18446744073709551616) = false by rw [beq_eq_false_iff_ne]; exact g4,decide_eq_false (aw7 g4)]
   simp only [cond_false]
   rw [hat,oB_some,show decide (y - x ≤ x) = decide (y < 2 * x) from decide_eq_decide.2 (by have:=aw7 g4; omega)]
   simp only [Bool.false_and,Bool.or_false]
 ·rw [show (x / 18446744073709551616 == (y - x) / 18446744073709551616) = false by rw [beq_eq_false_iff_ne]; exact g2,decide_eq_false (aw9 g2)]
  simp only [cond_false]
  rw [hat,oB_some,show decide (y - x ≤ x) = decide (y < 2 * x) from decide_eq_decide.2 (by have:=aw9 g2; omega)]
  simp only [Bool.false_and,Bool.or_false]
theorem dsg_tr {a b:Int} (hb:b ≠ 0) (h:tr a b ≠ 0):dsg (tr a b) b = dsg a b:=by
 have:=aQR (a:=a) hb
 unfold dsg
 have:decide (tr a b < 0) = decide (a < 0):=by
  unfold tr at *
  cases ha:decide (a < 0) with
  | true=>rw [ha] at h; simp only [cond_true] at h ⊢; exact decide_eq_true (by omega)
  | false=>simp only [cond_false]; exact decide_eq_false (by omega)
 rw [this]
theorem rdiv_eq (F:Nat) (hF:150 < F) {a b m:Int} (ha:inR a = true) (hb:inR b = true) (h0:b ≠ 0) (hq:inR (tq a b) = true) (m0:0 ≤ m) (m4:m ≤ 4):octroiref02_Div.sh F (mk a) (mk b) m = some ((mk (divM m a b),0,()),()):=by
 have qr:=aQR (a:=a) h0
 have ha':=inR_iff.1 ha
 have hb':=inR_iff.1 hb
 have hr:inR (tr a b) = true:=by
  rw [inR_iff]; unfold tr
  cases decide (a < 0) <;> simp only [cond_true,cond_false] <;> omega
 have hw:(!(decide ((mk a).1 < 0) == decide ((mk b).1 < 0))) = dsg a b:=by rw [val_neg (wf_mk ha),val_neg (wf_mk hb),val_mk,val_mk]; rfl
 have hz:=mk_zero (v:=tr a b)
 have tail:∀ fur:Bool,tr a b ≠ 0→octroiref02_Div.j18 F (fun r76 r66=>some ((r66,r76,()),())) (fun r77 r67=>some ((r67,r77,()),())) (fun r78 r68=>(some ((r68,r78,()),()):Option octroiref02_Div.sg.R)) (dsg a b) fur (0,0) (mk (tq a b)) =
   some ((mk (bif !fur then tq a b else bif dsg a b then tq a b - 1 else tq a b + 1),0,()),()):=by
  intro fur hz
  unfold octroiref02_Div.j18
  cases fur with
  | false=>rfl
  | true =>
   have hr0:aR a b ≠ 0:=fun h=>hz (by unfold tr; rw [h]; cases decide (a < 0) <;> rfl)
   have hb2:(2:Int) ≤ b.natAbs:=by omega
   have hq2:2 * aQ a b ≤ a.natAbs:=by
    have:=Int.mul_le_mul_of_nonneg_right hb2 qr.1
    omega
   rw [rof_eq F (by omega) (by omega)]
   simp only [Bool.not_true,cond_false]
   cases hd:dsg a b with
   | true =>
    have i:inR (tq a b - 1) = true:=by rw [inR_iff]; unfold tq; rw [hd]; simp only [cond_true]; omega
    simp only [cond_true]
    rw [oB_some,rsub_eq F (by omega) (wf_mk hq) (wf_mk (by rw [inR_iff]; omega)),oB_some,val_mk,val_mk]
    simp only [resW,errW,i,cond_true]
   | false =>
    have i:inR (tq a b + 1) = true:=by rw [inR_iff]; unfold tq; rw [hd]; simp only [cond_false]; omega
    simp only [cond_false]
    rw [oB_some,radd_eq F (by omega) (wf_mk hq) (wf_mk (by rw [inR_iff]; omega)),oB_some,val_mk,val_mk]
    simp only [resW,errW,i,cond_true]
 have main:tr a b ≠ 0→octroiref02_Div.j8 F (fun r76 r66=>some ((r66,r76,()),())) (fun r77 r67=>some ((r67,r77,()),())) (fun r78 r68=>(some ((r68,r78,()),()):Option octroiref02_Div.sg.R)) m (mk a) (mk b) (0,0) (mk (tq a b)) (mk (tr a b)) = some ((mk (divM m a b),0,()),()):=by
  intro hz
  have hdm:divM m a b = bif !awB m (tq a b) (tr a b) b then tq a b else bif dsg a b then tq a b - 1 else tq a b + 1:=by unfold divM; rw [decide_eq_false hz]; rfl
  have hds:=dsg_tr h0 hz
  rw [hdm]
  unfold octroiref02_Div.j8
  rw [hw]
  have m5:m = 0 ∨ m = 1 ∨ m = 2 ∨ m = 3 ∨ m = 4:=by omega
  rcases m5 with rfl | rfl | rfl | rfl | rfl
  ·rw [show awB 0 (tq a b) (tr a b) b = dsg a b by unfold awB; rw [hds]; rfl]
   exact tail (dsg a b) hz
  ·rw [show awB 1 (tq a b) (tr a b) b = !dsg a b by unfold awB; rw [hds]; rfl]
   exact tail (!dsg a b) hz
  ·rw [show awB 2 (tq a b) (tr a b) b = false from rfl]
   exact tail false hz
  ·have hn:=rnearer_eq F hF (wf_mk hq) (wf_mk hr) (wf_mk hb) 3 (.inl rfl) (by rw [val_mk,val_mk,tr_abs a b h0]; omega)
   rw [val_mk,val_mk,val_mk] at hn
   rw [hn]
   exact tail _ hz
  ·have hn:=rnearer_eq F hF (wf_mk hq) (wf_mk hr) (wf_mk hb) 4 (.inr rfl) (by rw [val_mk,val_mk,tr_abs a b h0]; omega)
   rw [val_mk,val_mk,val_mk] at hn
   rw [hn]
   exact tail _ hz
 unfold octroiref02_Div.sh
 rw [decide_eq_false (show ¬ m < 0 by omega),decide_eq_false (show ¬ m > 4 by omega),rquorem_eq F hF (wf_mk ha) (wf_mk hb) (by rw [val_mk]; exact h0)]
 simp only [val_mk,hq,cond_true,cond_false,oB_some,errW,bne_self_eq_false]
 by_cases hz0:tr a b = 0
 ·rw [hz0]
  unfold divM
  rw [hz0]
  rfl
 ·rw [decide_eq_false hz0] at hz
  cases h1:((mk (tr a b)).1 == 0) with
  | false=>simp only [cond_false]; exact main hz0
  | true =>
   rw [h1] at hz
   simp only [Bool.true_and,Bool.and_true] at hz
   rw [hz]
   simp only [cond_true,cond_false]
   exact main hz0
theorem rint_eq (F:Nat) {v:Int} (h:inR v = true):octroiref01_Int.sh F (mk v) = some ((bif decide (-9223372036854775808 ≤ v) && decide (v < 9223372036854775808) then v else 0,decide (-9223372036854775808 ≤ v) && decide (v < 9223372036854775808),()),()):=by
 have hv:=inR_iff.1 h
 unfold octroiref01_Int.sh
 obtain ⟨k,e1,e2,e3⟩:=wrap_ex (mk v).2
 rw [rof_eq F e2 e3,oB_some]
 simp only [mk] at e1 e2 e3 ⊢
 generalize IntKind.i64.wrap (v % 18446744073709551616) = r at *
 by_cases hr:-9223372036854775808 ≤ v∧v < 9223372036854775808
 ·have er:r = v:=by omega
  rw [er,decide_eq_true hr.1,decide_eq_true hr.2]
  simp
 ·have e0:((r / 18446744073709551616 == v / 18446744073709551616) && ((r % 18446744073709551616 == v % 18446744073709551616) && true)) = false:=by
   simp only [Bool.and_true,Bool.and_eq_false_iff,beq_eq_false_iff_ne]
   omega
  rw [e0]
  rcases Int.lt_or_le v (-9223372036854775808) with h' | h'
  ·rw [decide_eq_false (show ¬ -9223372036854775808 ≤ v by omega)]; rfl
  ·rw [decide_eq_true h',decide_eq_false (show ¬ v < 9223372036854775808 by omega)]; rfl
end Go.VS
