/- Plain laws, joined from smaller texts. -/
import Derived.Test.YtepflleaeogafaaGreatDoorQKa
set_option linter.unusedVariables false
set_option linter.unusedSimpArgs false
set_option linter.unusedSectionVars false
set_option maxRecDepth 100000
namespace Go.VS
open Go
theorem floor_div {a b:Int} (ha:0 ≤ a) (hb:0 < b):divM 0 a b * b ≤ a∧a < (divM 0 a b + 1) * b∧0 ≤ divM 0 a b∧divM 0 a b ≤ a:=by
 obtain ⟨q0,q1,q2,q3,q4⟩:=aQR (a:=a) (b:=b) (by omega)
 have e:divM 0 a b = aQ a b:=by
  unfold divM tq tr awB dsg
  rw [decide_eq_false (show ¬ a < 0 by omega),decide_eq_false (show ¬ b < 0 by omega)]
  simp only [beq_self_eq_true,Bool.not_true,cond_false,cond_true]
  rw [decide_eq_false (show ¬ aR a b < 0 by omega)]
  simp
 rw [e]
 have n1:(b.natAbs:Int) = b:=by omega
 have n2:(a.natAbs:Int) = a:=by omega
 rw [n1] at q2 q3
 rw [n2] at q3 q4
 rw [Int.add_mul,Int.mul_comm (aQ a b) b]
 omega
theorem ceil_div {a b:Int} (ha:a < 0) (hb:b < 0):divM 1 a b * b ≤ a∧a < (divM 1 a b - 1) * b∧1 ≤ divM 1 a b∧divM 1 a b ≤ -a:=by
 obtain ⟨q0,q1,q2,q3,q4⟩:=aQR (a:=a) (b:=b) (by omega)
 have n1:(b.natAbs:Int) = -b:=by omega
 have n2:(a.natAbs:Int) = -a:=by omega
 have e:divM 1 a b = if aR a b = 0 then aQ a b else aQ a b + 1:=by
  unfold divM tq tr awB dsg
  rw [decide_eq_true ha,decide_eq_true hb]
  simp only [beq_self_eq_true,Bool.not_true,cond_false,cond_true]
  by_cases hr:aR a b = 0
  ·rw [hr]; rfl
  ·rw [decide_eq_false (show ¬ -aR a b = 0 by omega),decide_eq_true (show -aR a b < 0 by omega),if_neg hr]
   rfl
 rw [n1] at q2 q3
 rw [n2] at q3 q4
 rw [Int.neg_mul,Int.mul_comm] at q3
 rw [e]
 have hb1:aQ a b ≤ aQ a b * (-b):=by
  have:=Int.mul_le_mul_of_nonneg_left (show 1 ≤ -b by omega) q0
  omega
 rw [Int.mul_neg] at hb1
 split
 ·rename_i hr
  rw [Int.sub_mul]
  by_cases h0:aQ a b = 0
  ·rw [h0] at q3; omega
  ·omega
 ·rename_i hr
  rw [show aQ a b + 1 - 1 = aQ a b by omega,Int.add_mul]
  omega
def tnB (was:Bool) (v:Int):Bool:=!(decide (v > 0) == was)
theorem tq_bd2 {a b:Int} (hb:b ≠ 0) (ha:nA a ≤ LIM):inR (tq a b) = true:=by
 have:=tq_bd (a:=a) (b:=b) hb
 unfold nA LIM at ha
 rw [inR_iff]; omega
theorem step_tail (F:Nat) {n most:Int} (hn:inR n = true):∃ k:Int,(oB (wide_Int.sh F (mk n)) fun c_7=>bif c_7.1.2.1 then (some ((c_7.1.1,decide (c_7.1.1 ≤ most),()),()):Option line_walk_steps.sg.R) else some ((c_7.1.1,false,()),())) =
  some ((k,decide (-9223372036854775808 ≤ n) && decide (n < 9223372036854775808) && decide (n ≤ most),()),())∧((decide (-9223372036854775808 ≤ n) && decide (n < 9223372036854775808)) = true→k = n):=by
 rw [int_eq F hn,oB_some]
 cases h:(decide (-9223372036854775808 ≤ n) && decide (n < 9223372036854775808)) with
 | false=>exact ⟨0,rfl,fun h=>by cases h⟩
 | true=>exact ⟨n,rfl,fun _=>rfl⟩
theorem steps_eq (F:Nat) (hF:70 < F) (l:tLine.T) (s:Int) (was:Bool) {v d most:Int} (hv:nA v ≤ LIM) (hd:nA d ≤ LIM) (hm:0 ≤ most) (hm2:most < 9223372036854775808) :
  ∃ (n:Int) (ok:Bool),line_walk_steps.sh F (l,s,was) (mk v) (mk d) most = some ((n,ok,()),())∧(ok = true→0 ≤ n∧n ≤ most∧tnB was (v + n * d) = true∧∀ j,0 ≤ j→j < n→tnB was (v + j * d) = false) ∧
  (ok = false→∀ j,0 ≤ j→j ≤ most→tnB was (v + j * d) = false):=by
 have iv:=inR_nA hv
 have id:=inR_nA hd
 have hL:LIM = 85070591730234615865843651857942052864:=rfl
 unfold line_walk_steps.sh
 obtain ⟨k,e,e1,e2,e3⟩:=sign_pos F (v:=v)
 obtain ⟨k',e',e1',e2',e3'⟩:=sign_pos F (v:=d)
 rw [e,oB_some,e1]
 cases ht:(!(decide (v > 0) == was)) with
 | true=>exact ⟨0,true,rfl,fun _=>⟨by omega,hm,by unfold tnB; rw [Int.zero_mul,Int.add_zero]; exact ht,fun j h1 h2=>by omega⟩,fun h=>by cases h⟩
 | false =>
  have hs:decide (v > 0) = was:=by simpa using ht
  simp only [cond_false]
  rw [e',oB_some,oB_some,e2',e3']
  have ineg:inR (-v) = true:=by unfold nA at hv; rw [inR_iff]; omega
  have rneg:resW (-v) = mk (-v):=by unfold resW; rw [ineg]; rfl
  have nneg:nA (-v) ≤ LIM:=by unfold nA at *; omega
  cases was with
  | true =>
   have hv0:v > 0:=of_decide_eq_true hs
   simp only [cond_true,Bool.not_true,cond_false]
   by_cases hd0:d ≥ 0
   ·rw [decide_eq_true hd0]
    refine ⟨0,false,rfl,(fun h=>by cases h),fun _ j h1 h2=>?_⟩
    unfold tnB
    have:=Int.mul_nonneg h1 hd0
    rw [decide_eq_true (show v + j * d > 0 by omega)]
    rfl
   ·rw [decide_eq_false hd0]
    simp only [cond_false,line_walk_steps.j5,cond_true,line_walk_steps.j10]
    rw [neg_eq F (wf_mk iv),oB_some,val_mk,rneg,div_eq F hF ineg id (by omega) (tq_bd2 (by omega) nneg) (by omega) (by omega),oB_some,div_eq F hF ineg id (by omega) (tq_bd2 (by omega) nneg) (by omega) (by omega),oB_some]
    obtain ⟨c1,c2,c3,c4⟩:=ceil_div (a:=-v) (b:=d) (by omega) (by omega)
    generalize divM 1 (-v) d = n at *
    have hn:inR n = true:=by unfold nA at hv; rw [inR_iff]; omega
    obtain ⟨k,ek,hk⟩:=step_tail F (n:=n) (most:=most) hn
    have hlow:∀ j,0 ≤ j→j < n→tnB true (v + j * d) = false:=fun j h1 h2=>by
     have:=Int.mul_le_mul_of_nonpos_right (show j ≤ n - 1 by omega) (show d ≤ 0 by omega)
     unfold tnB
     rw [decide_eq_true (show v + j * d > 0 by omega)]
     rfl
    refine ⟨k,_,ek,fun h=>?_,fun h j h1 h2=>?_⟩
    ·rw [Bool.and_eq_true] at h
     have:=hk h.1
     subst this
     refine ⟨by omega,of_decide_eq_true h.2,?_,hlow⟩
     unfold tnB
     rw [decide_eq_false (show ¬ v + k * d > 0 by omega)]
     rfl
    ·refine hlow j h1 ?_
     rw [decide_eq_true (show -9223372036854775808 ≤ n by omega),Bool.true_and] at h
     by_cases hm3:n ≤ most
     ·rw [decide_eq_true hm3,decide_eq_true (show n < 9223372036854775808 by omega)] at h; cases h
     ·omega
  | false =>
   have hv0:¬ v > 0:=of_decide_eq_false hs
   simp only [cond_true,Bool.not_false,cond_false]
   by_cases hd0:d ≤ 0
   ·rw [decide_eq_true hd0]
    refine ⟨0,false,rfl,(fun h=>by cases h),fun _ j h1 h2=>?_⟩
    unfold tnB
    have:=Int.mul_le_mul_of_nonneg_left hd0 h1
    rw [Int.mul_zero] at this
    rw [decide_eq_false (show ¬ v + j * d > 0 by omega)]
    rfl
   ·rw [decide_eq_false hd0]
    simp only [cond_false,line_walk_steps.j5,cond_true,line_walk_steps.j10]
    rw [neg_eq F (wf_mk iv),oB_some,val_mk,rneg,div_eq F hF ineg id (by omega) (tq_bd2 (by omega) nneg) (by omega) (by omega),oB_some]
    obtain ⟨c1,c2,c3,c4⟩:=floor_div (a:=-v) (b:=d) (by omega) (by omega)
    generalize divM 0 (-v) d = n at *
    have hn:inR n = true:=by unfold nA at hv; rw [inR_iff]; omega
    have hn1:inR (n + 1) = true:=by unfold nA at hv; rw [inR_iff]; omega
    rw [of_eq F (v:=1) (by omega) (by omega),oB_some,add_eq F (wf_mk hn) (wf_mk (by decide)),oB_some,val_mk,val_mk,show resW (n + 1) = mk (n + 1) by unfold resW; rw [hn1]; rfl]
    obtain ⟨k,ek,hk⟩:=step_tail F (n:=n + 1) (most:=most) hn1
    have hlow:∀ j,0 ≤ j→j < n + 1→tnB false (v + j * d) = false:=fun j h1 h2=>by
     have:=Int.mul_le_mul_of_nonneg_right (show j ≤ n by omega) (show 0 ≤ d by omega)
     unfold tnB
     rw [decide_eq_false (show ¬ v + j * d > 0 by omega)]
     rfl
    refine ⟨k,_,ek,fun h=>?_,fun h j h1 h2=>?_⟩
    ·rw [Bool.and_eq_true] at h
     have:=hk h.1
     subst this
     refine ⟨by omega,of_decide_eq_true h.2,?_,hlow⟩
     unfold tnB
     rw [decide_eq_true (show v + (n + 1) * d > 0 by omega)]
     rfl
    ·refine hlow j h1 ?_
     rw [decide_eq_true (show -9223372036854775808 ≤ n + 1 by omega),Bool.true_and] at h
     by_cases hm3:n + 1 ≤ most
     ·rw [decide_eq_true hm3,decide_eq_true (show n + 1 < 9223372036854775808 by omega)] at h; cases h
     ·omega
theorem ceil_of {q s k:Int} (hs:1 ≤ s) (h1:(k - 1) * s < q) (h2:q ≤ k * s):ceilD q s = k:=by
 have e:=Int.mul_ediv_add_emod q s
 have r1:=Int.emod_nonneg q (show s ≠ 0 by omega)
 have r2:=Int.emod_lt_of_pos q (show 0 < s by omega)
 rw [Int.mul_comm] at e
 unfold ceilD
 generalize q / s = d at *
 have hd1:d ≤ k:=by
  rcases Int.lt_or_le k d with h | h
  ·have:=Int.mul_le_mul_of_nonneg_right (show k + 1 ≤ d by omega) (show 0 ≤ s by omega)
   rw [Int.add_mul] at this; omega
  ·exact h
 have hd2:k - 1 ≤ d:=by
  rcases Int.lt_or_le d (k - 1) with h | h
  ·have:=Int.mul_le_mul_of_nonneg_right (show d + 1 ≤ k - 1 by omega) (show 0 ≤ s by omega)
   rw [Int.add_mul] at this; omega
  ·exact h
 split
 ·rename_i h0
  rw [h0] at e
  rcases Int.lt_or_le d k with h | h
  ·have:d = k - 1:=by omega
   subst this
   omega
  ·omega
 ·rename_i h0
  rcases Int.lt_or_le d k with h | h
  ·omega
  ·have:d = k:=by omega
   subst this
   omega
theorem ceil_in {q s:Int} (hs:1 ≤ s):(ceilD q s - 1) * s < q∧q ≤ ceilD q s * s:=by
 have e:=Int.mul_ediv_add_emod q s
 have r1:=Int.emod_nonneg q (show s ≠ 0 by omega)
 have r2:=Int.emod_lt_of_pos q (show 0 < s by omega)
 rw [Int.mul_comm] at e
 unfold ceilD
 generalize q / s = d at *
 split
 ·rw [Int.add_zero,Int.sub_mul]; omega
 ·rw [show d + 1 - 1 = d by omega,Int.add_mul]; omega
def turnB (was:Bool) (s:Int) (z:LZ) (q:Int):Bool:=tnB was (valZ s z q)
theorem val_step {s:Int} {z:LZ} {x y k:Int} (hx:ceilD x s = k) (hy:ceilD y s = k):valZ s z y = valZ s z x + (y - x) * z.2.1:=by
 unfold valZ
 rw [hx,hy]
 grind
theorem turn_mid {was:Bool} {s:Int} {z:LZ} {lo hi x k:Int} (h1:lo ≤ x) (h2:x ≤ hi) (hlo:ceilD lo s = k) (hx:ceilD x s = k) (hhi:ceilD hi s = k) (t1:turnB was s z lo = false) (t2:turnB was s z hi = false):turnB was s z x = false:=by
 have e1:=val_step (z:=z) hlo hx
 have e2:=val_step (z:=z) hx hhi
 have p1:z.2.1 ≥ 0→0 ≤ (x - lo) * z.2.1∧0 ≤ (hi - x) * z.2.1:=fun h=>⟨Int.mul_nonneg (by omega) h,Int.mul_nonneg (by omega) h⟩
 have p2:z.2.1 ≤ 0→(x - lo) * z.2.1 ≤ 0∧(hi - x) * z.2.1 ≤ 0:=fun h=>⟨Int.mul_nonpos_of_nonneg_of_nonpos (by omega) h,Int.mul_nonpos_of_nonneg_of_nonpos (by omega) h⟩
 unfold turnB tnB at *
 generalize valZ s z x = vx at *
 generalize valZ s z lo = vl at *
 generalize valZ s z hi = vh at *
 generalize (x - lo) * z.2.1 = d1 at *
 generalize (hi - x) * z.2.1 = d2 at *
 generalize z.2.1 = b at *
 cases was with
 | true =>
  have t1:vl > 0:=by simpa using t1
  have t2:vh > 0:=by simpa using t2
  rw [decide_eq_true (show vx > 0 by rcases Int.le_total 0 b with h | h <;> first | (have:=p1 h; omega) | (have:=p2 h; omega))]
  rfl
 | false =>
  have t1:¬ vl > 0:=by simpa using t1
  have t2:¬ vh > 0:=by simpa using t2
  rw [decide_eq_false (show ¬ vx > 0 by rcases Int.le_total 0 b with h | h <;> first | (have:=p1 h; omega) | (have:=p2 h; omega))]
  rfl
theorem walk_at (F:Nat) {s q:Int} (h:fitB s q = true) {z:LZ} (hz:spanZ s z ≤ LIM) (was:Bool):line_walk_at.sh F (wL z,s,was) q = some ((mk (valZ s z q),()),()):=by
 unfold line_walk_at.sh
 rw [Value_eq F h hz,oB_some]
theorem within_eq (F:Nat) (hF:70 < F) {s:Int} {z:LZ} (hz:spanZ s z ≤ LIM) (hs:1 ≤ s) (hs2:s ≤ 1000000000000) (was:Bool) {lo hi k:Int} (h0:0 ≤ lo) (h1:hi ≤ 1099511627776) (hk:∀ x,lo ≤ x→x ≤ hi→ceilD x s = k) :
  ∃ (f:Int) (ok:Bool),line_walk_within.sh F (wL z,s,was) lo hi = some ((f,ok,()),())∧(ok = true→lo ≤ f∧f ≤ hi∧turnB was s z f = true∧∀ x,lo ≤ x→x < f→turnB was s z x = false) ∧
  (ok = false→∀ x,lo ≤ x→x ≤ hi→turnB was s z x = false):=by
 unfold line_walk_within.sh
 by_cases hlt:lo > hi
 ·rw [decide_eq_true hlt]
  exact ⟨0,false,rfl,(fun h=>by cases h),fun _ x a b=>by omega⟩
 ·rw [decide_eq_false hlt]
  simp only [cond_false]
  have hf:fitB s lo = true:=fitB_iff.2 ⟨hs,hs2,h0,by omega⟩
  obtain ⟨_,sb,_⟩:=span_parts hs z
  rw [walk_at F hf hz,oB_some,wrap_i64 (n:=hi - lo) (by omega) (by omega)]
  obtain ⟨n,ok,e,a1,a2⟩:=steps_eq F hF (wL z) s was (v:=valZ s z lo) (d:=z.2.1) (most:=hi - lo) (nA_le (val_span hf z) hz) (nA_le sb hz) (by omega) (by omega)
  have e':line_walk_steps.sh F (wL z,s,was) (mk (valZ s z lo)) (wL z).2.1 (hi - lo) = some ((n,ok,()),()):=e
  show ∃ (f:Int) (ok:Bool),(oB (line_walk_steps.sh F (wL z,s,was) (mk (valZ s z lo)) (wL z).2.1 (hi - lo)) fun c_2=>_) = _∧_
  rw [e',oB_some]
  have hv:∀ j,0 ≤ j→j ≤ hi - lo→valZ s z lo + j * z.2.1 = valZ s z (lo + j):=fun j b1 b2=>by
   rw [val_step (z:=z) (hk lo (by omega) (by omega)) (hk (lo + j) (by omega) (by omega)),show lo + j - lo = j by omega]
  refine ⟨_,ok,rfl,fun h=>?_,fun h x b1 b2=>?_⟩
  ·obtain ⟨b1,b2,b3,b4⟩:=a1 h
   rw [wrap_i64 (n:=lo + n) (by omega) (by omega)]
   refine ⟨by omega,by omega,?_,fun x d1 d2=>?_⟩
   ·unfold turnB; rw [← hv n b1 b2]; exact b3
   ·have:=b4 (x - lo) (by omega) (by omega)
    rw [hv (x - lo) (by omega) (by omega),show lo + (x - lo) = x by omega] at this
    exact this
  ·have:=a2 h (x - lo) (by omega) (by omega)
   rw [hv (x - lo) (by omega) (by omega),show lo + (x - lo) = x by omega] at this
   exact this
def bLo (s k:Int):Int:=(k - 1) * s + 1
def bHi (s k:Int):Int:=k * s
theorem lo_step (s:Int) (hs:1 ≤ s) (z:LZ) {k i:Int}:valZ s z (bLo s i) = valZ s z (bLo s k) + (i - k) * (z.2.1 * s + z.2.2):=by
 have h:∀ j,ceilD (bLo s j) s = j:=fun j=>ceil_of hs (by unfold bLo; omega) (by unfold bLo; rw [Int.sub_mul]; omega)
 unfold valZ
 rw [h,h]
 unfold bLo
 grind
theorem hi_step (s:Int) (hs:1 ≤ s) (z:LZ) {k i:Int}:valZ s z (bHi s i) = valZ s z (bHi s k) + (i - k) * (z.2.1 * s + z.2.2):=by
 have h:∀ j,ceilD (bHi s j) s = j:=fun j=>ceil_of hs (by unfold bHi; rw [Int.sub_mul]; omega) (by unfold bHi; omega)
 unfold valZ
 rw [h,h]
 unfold bHi
 grind
theorem drift_bd {s:Int} (hs:1 ≤ s) (hs2:s ≤ 1000000000000) (z:LZ):nA (z.2.1 * s) ≤ spanZ s z∧nA (z.2.1 * s + z.2.2) ≤ spanZ s z:=by
 have h1:=nA_add (z.2.1 * s) z.2.2
 have h2:nA (z.2.1 * s) ≤ nA z.2.1 * 1099511627776:=by
  rw [nA_mul,nA_of (show 0 ≤ s by omega)]
  exact Int.mul_le_mul_of_nonneg_left (by omega) (nA_nn _)
 have h3:=nA_le_mul (a:=z.2.2) (kM_bd hs).1
 have h4:=nA_nn z.1
 have h5:=Int.mul_nonneg (nA_nn z.2.2) (show 0 ≤ kM s by have:=kM_bd hs; omega)
 unfold spanZ
 omega
theorem block_eq (F:Nat) (l:tLine.T) {s k:Int} (was:Bool) (hs:1 ≤ s) (hs2:s ≤ 1000000000000) (hk:1 ≤ k) (hk2:(k - 1) * s ≤ 1099511627776):line_walk_block.sh F (l,s,was) k = some ((bLo s k,(if 1099511627776 < bHi s k then 1099511627776 else bHi s k),()),()):=by
 unfold line_walk_block.sh bLo bHi
 have h0:=Int.mul_nonneg (show 0 ≤ k - 1 by omega) (show 0 ≤ s by omega)
 have hks:k - 1 ≤ (k - 1) * s:=by
  have:=Int.mul_le_mul_of_nonneg_left hs (show 0 ≤ k - 1 by omega)
  omega
 have e:k * s = (k - 1) * s + s:=by rw [Int.sub_mul]; omega
 rw [wrap_i64 (n:=k - 1) (by omega) (by omega),wrap_i64 (n:=(k - 1) * s) (by omega) (by omega),wrap_i64 (n:=(k - 1) * s + 1) (by omega) (by omega),wrap_i64 (n:=k * s) (by omega) (by omega)]
theorem lo_fit {s k:Int} (hs:1 ≤ s) (hs2:s ≤ 1000000000000) (hk:1 ≤ k) (hk2:k * s ≤ 1099511627776):fitB s (bLo s k) = true∧fitB s (bHi s k) = true:=by
 have h0:=Int.mul_nonneg (show 0 ≤ k - 1 by omega) (show 0 ≤ s by omega)
 have e:k * s = (k - 1) * s + s:=by rw [Int.sub_mul]; omega
 exact ⟨fitB_iff.2 ⟨hs,hs2,by unfold bLo; omega,by unfold bLo; omega⟩,fitB_iff.2 ⟨hs,hs2,by unfold bHi; omega,by unfold bHi; omega⟩⟩
theorem ahead_eq (F:Nat) (hF:70 < F) {s:Int} {z:LZ} (hz:spanZ s z ≤ LIM) (hs:1 ≤ s) (hs2:s ≤ 1000000000000) (was:Bool) {k most:Int} (hk:1 ≤ k) (hmost:most * s ≤ 1099511627776) :
  ∃ (j:Int) (ok:Bool),line_walk_ahead.sh F (wL z,s,was) k most = some ((j,ok,()),()) ∧
  (ok = true→k ≤ j∧j ≤ most∧(turnB was s z (bLo s j) = true ∨ turnB was s z (bHi s j) = true)∧∀ i,k ≤ i→i < j→turnB was s z (bLo s i) = false∧turnB was s z (bHi s i) = false) ∧
  (ok = false→∀ i,k ≤ i→i ≤ most→turnB was s z (bLo s i) = false∧turnB was s z (bHi s i) = false):=by
 unfold line_walk_ahead.sh
 by_cases hlt:k > most
 ·rw [decide_eq_true hlt]
  exact ⟨0,false,rfl,(fun h=>by cases h),fun _ x a b=>by omega⟩
 ·rw [decide_eq_false hlt]
  simp only [cond_false]
  have hks:k * s ≤ 1099511627776:=by
   have:=Int.mul_le_mul_of_nonneg_right (show k ≤ most by omega) (show 0 ≤ s by omega)
   omega
  have hms:most ≤ most * s:=by
   have:=Int.mul_le_mul_of_nonneg_left hs (show 0 ≤ most by omega)
   omega
  have e:k * s = (k - 1) * s + s:=by rw [Int.sub_mul]; omega
  obtain ⟨f1,f2⟩:=lo_fit hs hs2 hk hks
  obtain ⟨_,sb,sc,_⟩:=span_parts hs z
  obtain ⟨d1,d2⟩:=drift_bd hs hs2 z
  have i1:inR (z.2.1 * s) = true:=inR_nA (nA_le d1 hz)
  have i2:inR (z.2.1 * s + z.2.2) = true:=inR_nA (nA_le d2 hz)
  have is:inR s = true:=inR_i64 (by omega) (by omega)
  rw [of_eq F (v:=s) (by omega) (by omega),oB_some,show (wL z).2.1 = mk z.2.1 from rfl,show (wL z).2.2 = mk z.2.2 from rfl,wmul_eq F (wf_mk (inR_nA (nA_le sb hz))) (wf_mk is),oB_some,val_mk,val_mk,
   show resW (z.2.1 * s) = mk (z.2.1 * s) by unfold resW; rw [i1]; rfl,add_eq F (wf_mk i1) (wf_mk (inR_nA (nA_le sc hz))),oB_some,val_mk,val_mk,show resW (z.2.1 * s + z.2.2) = mk (z.2.1 * s + z.2.2) by unfold resW; rw [i2]; rfl,
   block_eq F (wL z) was hs hs2 hk (by omega),oB_some]
  have hh:¬ 1099511627776 < bHi s k:=by unfold bHi; omega
  rw [if_neg hh,walk_at F f1 hz,oB_some,wrap_i64 (n:=most - k) (by omega) (by omega)]
  obtain ⟨a,isA,ea,a1,a2⟩:=steps_eq F hF (wL z) s was (v:=valZ s z (bLo s k)) (d:=z.2.1 * s + z.2.2) (most:=most - k) (nA_le (val_span f1 z) hz) (nA_le d2 hz) (by omega) (by omega)
  obtain ⟨b,isB,eb,b1,b2⟩:=steps_eq F hF (wL z) s was (v:=valZ s z (bHi s k)) (d:=z.2.1 * s + z.2.2) (most:=most - k) (nA_le (val_span f2 z) hz) (nA_le d2 hz) (by omega) (by omega)
  rw [ea,oB_some,walk_at F f2 hz,oB_some,eb,oB_some]
  have va:∀ j,valZ s z (bLo s k) + j * (z.2.1 * s + z.2.2) = valZ s z (bLo s (k + j)):=fun j=>by
   rw [lo_step s hs z (k:=k) (i:=k + j),show k + j - k = j by omega]
  have vb:∀ j,valZ s z (bHi s k) + j * (z.2.1 * s + z.2.2) = valZ s z (bHi s (k + j)):=fun j=>by
   rw [hi_step s hs z (k:=k) (i:=k + j),show k + j - k = j by omega]
  have A1:isA = true→0 ≤ a∧a ≤ most - k∧turnB was s z (bLo s (k + a)) = true∧∀ i,k ≤ i→i < k + a→turnB was s z (bLo s i) = false:=fun h=>by
   obtain ⟨c1,c2,c3,c4⟩:=a1 h
   refine ⟨c1,c2,?_,fun i g1 g2=>?_⟩
   ·unfold turnB; rw [← va]; exact c3
   ·have:=c4 (i - k) (by omega) (by omega)
    rw [va,show k + (i - k) = i by omega] at this
    exact this
  have B1:isB = true→0 ≤ b∧b ≤ most - k∧turnB was s z (bHi s (k + b)) = true∧∀ i,k ≤ i→i < k + b→turnB was s z (bHi s i) = false:=fun h=>by
   obtain ⟨c1,c2,c3,c4⟩:=b1 h
   refine ⟨c1,c2,?_,fun i g1 g2=>?_⟩
   ·unfold turnB; rw [← vb]; exact c3
   ·have:=c4 (i - k) (by omega) (by omega)
    rw [vb,show k + (i - k) = i by omega] at this
    exact this
  have A2:isA = false→∀ i,k ≤ i→i ≤ most→turnB was s z (bLo s i) = false:=fun h i g1 g2=>by
   have:=a2 h (i - k) (by omega) (by omega)
   rw [va,show k + (i - k) = i by omega] at this
   exact this
  have B2:isB = false→∀ i,k ≤ i→i ≤ most→turnB was s z (bHi s i) = false:=fun h i g1 g2=>by
   have:=b2 h (i - k) (by omega) (by omega)
   rw [vb,show k + (i - k) = i by omega] at this
   exact this
  clear a1 a2 b1 b2 va vb ea eb
  cases isA with
  | true =>
   obtain ⟨c1,c2,c3,c4⟩:=A1 rfl
   cases isB with
   | true =>
    obtain ⟨g1,g2,g3,g4⟩:=B1 rfl
    by_cases hab:b < a
    ·refine ⟨k + b,true,?_,fun _=>⟨by omega,by omega,.inr g3,fun i h1 h2=>⟨c4 i h1 (by omega),g4 i h1 h2⟩⟩,fun h=>by cases h⟩
     simp only [cond_true]
     rw [if_pos hab,wrap_i64 (n:=k + b) (by omega) (by omega)]
    ·refine ⟨k + a,true,?_,fun _=>⟨by omega,by omega,.inl c3,fun i h1 h2=>⟨c4 i h1 h2,g4 i h1 (by omega)⟩⟩,fun h=>by cases h⟩
     simp only [cond_true]
     rw [if_neg hab,wrap_i64 (n:=k + a) (by omega) (by omega)]
   | false =>
    refine ⟨k + a,true,?_,fun _=>⟨by omega,by omega,.inl c3,fun i h1 h2=>⟨c4 i h1 h2,B2 rfl i h1 (by omega)⟩⟩,fun h=>by cases h⟩
    simp only [cond_true,cond_false]
    rw [wrap_i64 (n:=k + a) (by omega) (by omega)]
  | false =>
   simp only [cond_false]
   refine ⟨_,isB,rfl,fun h=>?_,fun h i h1 h2=>⟨A2 rfl i h1 h2,B2 h i h1 h2⟩⟩
   obtain ⟨g1,g2,g3,g4⟩:=B1 h
   rw [wrap_i64 (n:=k + b) (by omega) (by omega)]
   exact ⟨by omega,by omega,.inr g3,fun i h1 h2=>⟨A2 rfl i h1 (by omega),g4 i h1 h2⟩⟩
def isFlip (s:Int) (z:LZ) (q f:Int):Prop:=q < f∧f ≤ 1099511627777∧(∀ x,q < x→x < f→abvZ s z x = abvZ s z q)∧(f ≤ 1099511627776→abvZ s z f ≠ abvZ s z q)
theorem isFlip_inj {s:Int} {z:LZ} {q f g:Int} (hf:isFlip s z q f) (hg:isFlip s z q g):f = g:=by
 obtain ⟨a1,a2,a3,a4⟩:=hf
 obtain ⟨b1,b2,b3,b4⟩:=hg
 rcases Int.lt_trichotomy f g with h | h | h
 ·exact absurd (b3 f a1 h) (a4 (by omega))
 ·exact h
 ·exact absurd (a3 g b1 h) (b4 (by omega))
theorem turn_abv {s:Int} {z:LZ} {q x:Int}:turnB (abvZ s z q) s z x = false ↔ abvZ s z x = abvZ s z q:=by
 unfold turnB tnB abvZ
 simp only [Bool.not_eq_false',beq_iff_eq]
theorem turn_abv' {s:Int} {z:LZ} {q x:Int}:turnB (abvZ s z q) s z x = true ↔ abvZ s z x ≠ abvZ s z q:=by
 rw [← Bool.not_eq_false,ne_eq,turn_abv]
theorem lspan_eq (F:Nat) {s:Int} (hs:1 ≤ s) (hs2:s ≤ 1000000000000) {z:LZ} (hz:spanZ s z ≤ LIM):line_Span.sh F (wL z) s = some ((mk (spanZ s z),0,()),()):=by
 have hL:LIM = 85070591730234615865843651857942052864:=rfl
 have hfar:∀ v,nA v ≤ LIM→line_far.sh F (mk v) = some ((mk (nA v),0,()),()):=fun v hv=>by
  have iv:=inR_nA hv
  unfold line_far.sh
  rw [mk_neg]
  by_cases h:v < 0
  ·rw [decide_eq_true h,cond_true,neg_eq F (wf_mk iv),oB_some,val_mk,show -v = nA v by unfold nA; omega]
   have:inR (nA v) = true:=by rw [inR_iff]; have:=nA_nn v; omega
   unfold resW errW
   rw [this]; rfl
  ·rw [decide_eq_false h,cond_false,show nA v = v by unfold nA; omega]
 obtain ⟨s1,s2,s3,_⟩:=span_parts hs z
 unfold line_Span.sh
 rw [fit_eq,oB_some,fitB_iff.2 ⟨hs,hs2,by omega,by omega⟩]
 simp only [Bool.not_true,cond_false]
 rw [show (wL z).1 = mk z.1 from rfl,show (wL z).2.1 = mk z.2.1 from rfl,show (wL z).2.2 = mk z.2.2 from rfl,hfar _ (nA_le s1 hz),oB_some,hfar _ (nA_le s2 hz),oB_some,hfar _ (nA_le s3 hz),oB_some]
 simp only [bne_self_eq_false,cond_false]
 have hab:∀ v,nA (nA v) = nA v:=fun v=>nA_of (nA_nn v)
 have e1:spanZ s (nA z.1,nA z.2.1,nA z.2.2) = spanZ s z:=by
  unfold spanZ
  rw [hab,hab,hab]
 have e2:valZ s (nA z.1,nA z.2.1,nA z.2.2) 1099511627776 = spanZ s z:=rfl
 have:=Value_eq F (s:=s) (q:=1099511627776) (fitB_iff.2 ⟨hs,hs2,by omega,by omega⟩) (z:=(nA z.1,nA z.2.1,nA z.2.2)) (by rw [e1]; exact hz)
 rw [show ((mk (nA z.1),mk (nA z.2.1),mk (nA z.2.2)):tLine.T) = wL (nA z.1,nA z.2.1,nA z.2.2) from rfl,this,oB_some,e2]
theorem cmp_lim (F:Nat) {v:Int} (h0:0 ≤ v) (h:v ≤ LIM):∃ k,wide_Cmp.sh F (mk v) (4611686018427387904,0) = some ((k,()),())∧decide (k > 0) = false:=by
 have hL:LIM = 85070591730234615865843651857942052864:=rfl
 have e:((4611686018427387904,0):Int×Int) = mk LIM:=by rw [hL]; rfl
 rw [e,cmp_eq F (wf_mk (by rw [inR_iff]; omega)) (wf_mk (by rw [inR_iff]; omega)),val_mk,val_mk]
 exact ⟨_,rfl,by rw [cmpZ_pos]; exact decide_eq_false (by omega)⟩
theorem ceil_mono {s x y:Int} (hs:1 ≤ s) (h:x ≤ y):ceilD x s ≤ ceilD y s:=by
 obtain ⟨a1,a2⟩:=ceil_in (q:=x) hs
 obtain ⟨b1,b2⟩:=ceil_in (q:=y) hs
 rcases Int.lt_or_le (ceilD y s) (ceilD x s) with h' | h'
 ·have:=Int.mul_le_mul_of_nonneg_right (show ceilD y s ≤ ceilD x s - 1 by omega) (show 0 ≤ s by omega)
  omega
 ·exact h'
theorem lo_ceil {s k:Int} (hs:1 ≤ s):ceilD (bLo s k) s = k∧ceilD (bHi s k) s = k :=
 ⟨ceil_of hs (by unfold bLo; omega) (by unfold bLo; rw [Int.sub_mul]; omega),ceil_of hs (by unfold bHi; rw [Int.sub_mul]; omega) (by unfold bHi; omega)⟩
theorem lo_hi {s k:Int} (hs:1 ≤ s):bLo s k ≤ bHi s k:=by unfold bLo bHi; rw [Int.sub_mul]; omega
theorem no_turn {was:Bool} {s:Int} {z:LZ} {q j:Int} (hs:1 ≤ s) (h1:∀ x,q < x→x ≤ ceilD q s * s→x ≤ 1099511627776→turnB was s z x = false)
  (h2:∀ i,ceilD q s + 1 ≤ i→i < j→turnB was s z (bLo s i) = false∧turnB was s z (bHi s i) = false):∀ x,q < x→x < bLo s j→x ≤ 1099511627776→turnB was s z x = false:=by
 intro x hx hxj hx2
 by_cases hk:x ≤ ceilD q s * s
 ·exact h1 x hx hk hx2
 ·obtain ⟨a1,a2⟩:=ceil_in (q:=x) hs
  have hlo:ceilD q s + 1 ≤ ceilD x s:=by
   rcases Int.lt_or_le (ceilD q s) (ceilD x s) with h | h
   ·omega
   ·have:=Int.mul_le_mul_of_nonneg_right h (show 0 ≤ s by omega)
    omega
  have hhi:ceilD x s < j:=by
   rcases Int.lt_or_le (ceilD x s) j with h | h
   ·exact h
   ·have:=Int.mul_le_mul_of_nonneg_right (show j - 1 ≤ ceilD x s - 1 by omega) (show 0 ≤ s by omega)
    unfold bLo at hxj
    omega
  obtain ⟨t1,t2⟩:=h2 _ hlo hhi
  obtain ⟨l1,l2⟩:=lo_ceil (s:=s) (k:=ceilD x s) hs
  exact turn_mid (show bLo s (ceilD x s) ≤ x by unfold bLo; omega) (show x ≤ bHi s (ceilD x s) from a2) l1 rfl l2 t1 t2
theorem flip_j15 (F:Nat) (hF:70 < F) {s q:Int} {z:LZ} (hz:spanZ s z ≤ LIM) (hs:1 ≤ s) (hs2:s ≤ 1000000000000) (hq:0 ≤ q) (j:Int) (hj1:1 ≤ j) (hjq:q < bLo s j) (hj:j ≤ kM s)
  (hn:∀ x,q < x→x < bLo s j→x ≤ 1099511627776→turnB (abvZ s z q) s z x = false)
  (hend:j < kM s→(turnB (abvZ s z q) s z (bLo s j) = true ∨ turnB (abvZ s z q) s z (bHi s j) = true)) (k0 k1 k2:Int→Int→Option line_Flip.sg.R)
  (e1:k1 = k2):∃ f:Int,line_Flip.j15 F k0 k1 k2 (kM s) j (wL z,s,abvZ s z q) = k1 f 0∧isFlip s z q f:=by
 obtain ⟨m1,m2⟩:=ceil_in (q:=1099511627776) hs
 have hjs:(j - 1) * s < 1099511627776:=by
  have:=Int.mul_le_mul_of_nonneg_right (show j - 1 ≤ kM s - 1 by omega) (show 0 ≤ s by omega)
  unfold kM at this
  omega
 obtain ⟨l1,l2⟩:=lo_ceil (s:=s) (k:=j) hs
 have hll:=lo_hi (s:=s) (k:=j) hs
 have h0:=Int.mul_nonneg (show 0 ≤ j - 1 by omega) (show 0 ≤ s by omega)
 unfold line_Flip.j15
 rw [decide_eq_false (show ¬ j > kM s by omega)]
 simp only [cond_false]
 rw [block_eq F (wL z) (abvZ s z q) hs hs2 hj1 (by omega),oB_some]
 obtain ⟨hi,ehi,h1,h2,h3⟩:∃ hi:Int,(if 1099511627776 < bHi s j then (1099511627776:Int) else bHi s j) = hi∧hi ≤ 1099511627776∧hi ≤ bHi s j∧bLo s j ≤ hi:=by
  refine ⟨_,rfl,?_,?_,?_⟩ <;> split <;> unfold bLo at * <;> omega
 simp only [ehi]
 obtain ⟨f,ok,e,a1,a2⟩:=within_eq F hF hz hs hs2 (abvZ s z q) (lo:=bLo s j) (hi:=hi) (k:=j) (by unfold bLo; omega) h1 (fun x g1 g2=>ceil_of hs (by unfold bLo at g1; omega) (by unfold bHi at h2; omega))
 rw [e,oB_some]
 cases ok with
 | true =>
  obtain ⟨c1,c2,c3,c4⟩:=a1 rfl
  refine ⟨f,rfl,by omega,by omega,fun x g1 g2=>turn_abv.1 ?_,fun _=>turn_abv'.1 c3⟩
  rcases Int.lt_or_le x (bLo s j) with h | h
  ·exact hn x g1 h (by omega)
  ·exact c4 x h g2
 | false =>
  have a2:=a2 rfl
  refine ⟨1099511627777,by rw [e1]; rfl,by unfold bLo at *; omega,by omega,fun x g1 g2=>turn_abv.1 ?_,fun h=>by omega⟩
  rcases Int.lt_or_le x (bLo s j) with h | h
  ·exact hn x g1 h (by omega)
  ·by_cases hjk:j < kM s
   ·have hbs:bHi s j ≤ 1099511627776:=by
     have:=Int.mul_le_mul_of_nonneg_right (show j ≤ kM s - 1 by omega) (show 0 ≤ s by omega)
     unfold kM at this
     unfold bHi
     omega
    rw [if_neg (by omega)] at ehi
    subst ehi
    rcases hend hjk with t | t
    ·rw [a2 _ (by omega) (by omega)] at t; cases t
    ·rw [a2 _ (by omega) (by omega)] at t; cases t
   ·have hjk:j = kM s:=by omega
    have hbs:1099511627776 ≤ bHi s j:=by rw [hjk]; exact m2
    refine a2 x h ?_
    by_cases hlt:1099511627776 < bHi s j
    ·rw [if_pos hlt] at ehi; omega
    ·rw [if_neg hlt] at ehi; omega
theorem flip_eq (F:Nat) (hF:70 < F) {s q:Int} {z:LZ} (hz:spanZ s z ≤ LIM) (h:fitB s q = true):∃ f:Int,line_Flip.sh F (wL z) s q = some ((f,0,()),())∧isFlip s z q f:=by
 obtain ⟨hs,hs2,hq,hq2⟩:=fitB_iff.1 h
 obtain ⟨k,ek,hk⟩:=cmp_lim F (span_nn hs z) hz
 unfold line_Flip.sh
 rw [fit_eq,oB_some,h]
 simp only [Bool.not_true,cond_false]
 rw [lspan_eq F hs hs2 hz,oB_some]
 simp only [bne_self_eq_false,cond_false]
 rw [ek,oB_some,hk]
 simp only [cond_false]
 rw [walk_at F h hz,oB_some]
 obtain ⟨g,eg,hg,_⟩:=sign_pos F (v:=valZ s z q)
 rw [eg,oB_some,lblocks_eq F h,oB_some,lblocks_eq F (fitB_iff.2 ⟨hs,hs2,by omega,by omega⟩),oB_some,hg,show decide (valZ s z q > 0) = abvZ s z q from rfl,show ceilD 1099511627776 s = kM s from rfl]
 obtain ⟨m1,m2⟩:=ceil_in (q:=1099511627776) hs
 obtain ⟨n1,n2⟩:=ceil_in (q:=q) hs
 have hkM:ceilD 1099511627776 s = kM s:=rfl
 rw [hkM] at m1 m2
 have hkq:=ceil_mono (x:=q) (y:=1099511627776) hs hq2
 rw [hkM] at hkq
 have hk0:=(blk_bd h).1
 have hk1:=kM_bd hs
 have hks:ceilD q s * s ≤ 2099511627776:=by
  rw [Int.sub_mul] at n1; omega
 have hks0:=Int.mul_nonneg hk0 (show 0 ≤ s by omega)
 rw [wrap_i64 (n:=q + 1) (by omega) (by omega),wrap_i64 (n:=ceilD q s * s) (by omega) (by omega),wrap_i64 (n:=ceilD q s + 1) (by omega) (by omega),wrap_i64 (n:=kM s - 1) (by omega) (by omega)]
 obtain ⟨hi,ehi,h1,h2,h3⟩:∃ hi:Int,(if 1099511627776 < ceilD q s * s then (1099511627776:Int) else ceilD q s * s) = hi∧hi ≤ 1099511627776∧hi ≤ ceilD q s * s∧∀ x,x ≤ ceilD q s * s→x ≤ 1099511627776→x ≤ hi:=by
  refine ⟨_,rfl,?_,?_,?_⟩
  ·split <;> omega
  ·split <;> omega
  ·intro x g1 g2
   split <;> omega
 simp only [ehi]
 obtain ⟨f,ok,e,a1,a2⟩:=within_eq F hF hz hs hs2 (abvZ s z q) (lo:=q + 1) (hi:=hi) (k:=ceilD q s) (by omega) h1 (fun x g1 g2=>ceil_of hs (by omega) (by omega))
 rw [e,oB_some]
 cases ok with
 | true =>
  obtain ⟨c1,c2,c3,c4⟩:=a1 rfl
  exact ⟨f,rfl,by omega,by omega,fun x g1 g2=>turn_abv.1 (c4 x (by omega) g2),fun _=>turn_abv'.1 c3⟩
 | false =>
  have a2:∀ x,q < x→x ≤ ceilD q s * s→x ≤ 1099511627776→turnB (abvZ s z q) s z x = false:=fun x g1 g2 g3=>a2 rfl x (by omega) (h3 x g2 g3)
  simp only [cond_false]
  obtain ⟨j,ok,e,b1,b2⟩:=ahead_eq F hF hz hs hs2 (abvZ s z q) (k:=ceilD q s + 1) (most:=kM s - 1) (by omega) (by omega)
  rw [e,oB_some]
  have hlo:∀ j,ceilD q s + 1 ≤ j→q < bLo s j:=fun j hj=>by
   have:=Int.mul_le_mul_of_nonneg_right (show ceilD q s ≤ j - 1 by omega) (show 0 ≤ s by omega)
   unfold bLo
   omega
  cases ok with
  | true =>
   obtain ⟨c1,c2,c3,c4⟩:=b1 rfl
   simp only [Bool.not_true,cond_false]
   exact flip_j15 F hF hz hs hs2 hq j (by omega) (hlo j c1) (by omega) (no_turn hs a2 c4) (fun _=>c3) _ _ _ rfl
  | false =>
   have b2:=b2 rfl
   simp only [Bool.not_false,cond_true]
   by_cases hlast:ceilD q s + 1 > kM s
   ·rw [if_pos hlast]
    have hkk:ceilD q s = kM s:=by omega
    unfold line_Flip.j15
    rw [decide_eq_true hlast]
    refine ⟨1099511627777,rfl,by omega,by omega,fun x g1 g2=>turn_abv.1 (a2 x g1 ?_ (by omega)),fun g=>by omega⟩
    rw [hkk]; omega
   ·rw [if_neg hlast]
    exact flip_j15 F hF hz hs hs2 hq (kM s) (by omega) (hlo _ (by omega)) (by omega) (no_turn hs a2 (fun i g1 g2=>b2 i g1 (by omega))) (fun g=>by omega) _ _ _ rfl
abbrev PZ:=Int×LZ
def wP (p:PZ):tPiece.T:=(p.1,wL p.2)
def lineAt:List PZ→Int→LZ
 | [],_=>(0,0,0)
 | p :: r,q=>match r with
  | []=>p.2
  | p' :: _=>bif decide (p'.1 ≤ q) then lineAt r q else p.2
def nextAt:List PZ→Int→Int→Int
 | [],_,n=>n
 | p :: r,q,n=>match r with
  | []=>n
  | p' :: _=>bif decide (p'.1 ≤ q) then nextAt r q n else if p'.1 < n then p'.1 else n
theorem lineAt_two (p p':PZ) (r:List PZ) (q:Int):lineAt (p :: p' :: r) q = bif decide (p'.1 ≤ q) then lineAt (p' :: r) q else p.2:=rfl
theorem nextAt_two (p p':PZ) (r:List PZ) (q n:Int):nextAt (p :: p' :: r) q n = bif decide (p'.1 ≤ q) then nextAt (p' :: r) q n else if p'.1 < n then p'.1 else n:=rfl
theorem nextAt_bd:∀ (ps:List PZ) (q n:Int),nextAt ps q n ≤ n∧(q < n→q < nextAt ps q n)∧∀ x,q ≤ x→x < nextAt ps q n→lineAt ps x = lineAt ps q
 | [],q,n=>⟨Int.le_refl _,fun h=>h,fun x _ _=>rfl⟩
 | [p],q,n=>⟨Int.le_refl _,fun h=>h,fun x _ _=>rfl⟩
 | p :: p' :: r,q,n=>by
  have ih:=nextAt_bd (p' :: r) q n
  rw [nextAt_two]
  by_cases h:p'.1 ≤ q
  ·rw [decide_eq_true h]
   simp only [cond_true]
   refine ⟨ih.1,ih.2.1,fun x h1 h2=>?_⟩
   rw [lineAt_two,lineAt_two,decide_eq_true h,decide_eq_true (show p'.1 ≤ x by omega)]
   exact ih.2.2 x h1 h2
  ·rw [decide_eq_false h]
   simp only [cond_false]
   refine ⟨by split <;> omega,fun h'=>by split <;> omega,fun x h1 h2=>?_⟩
   rw [lineAt_two,lineAt_two,decide_eq_false h,decide_eq_false (show ¬ p'.1 ≤ x by split at h2 <;> omega)]
   rfl
theorem lineAt_mem:∀ (ps:List PZ) (q:Int),ps ≠ []→∃ p ∈ ps,lineAt ps q = p.2
 | [],q,h=>absurd rfl h
 | [p],q,h=>⟨p,by simp,rfl⟩
 | p :: p' :: r,q,h=>by
  obtain ⟨x,hx,e⟩:=lineAt_mem (p' :: r) q (by simp)
  rw [lineAt_two]
  cases decide (p'.1 ≤ q) with
  | true=>exact ⟨x,List.mem_cons_of_mem _ hx,e⟩
  | false=>exact ⟨p,by simp,rfl⟩
def nextK (kids:List (List PZ)) (q n:Int):Int:=kids.foldl (fun n ps=>nextAt ps q n) n
theorem nextK_bd:∀ (kids:List (List PZ)) (q n:Int),nextK kids q n ≤ n∧(q < n→q < nextK kids q n)∧∀ x,q ≤ x→x < nextK kids q n→kids.map (fun ps=>lineAt ps x) = kids.map fun ps=>lineAt ps q
 | [],q,n=>⟨Int.le_refl _,fun h=>h,fun x _ _=>rfl⟩
 | ps :: r,q,n=>by
  have a:=nextAt_bd ps q n
  have ih:=nextK_bd r q (nextAt ps q n)
  have e:nextK (ps :: r) q n = nextK r q (nextAt ps q n):=rfl
  rw [e]
  refine ⟨by omega,fun h=>ih.2.1 (a.2.1 h),fun x h1 h2=>?_⟩
  rw [List.map_cons,List.map_cons,ih.2.2 x h1 h2,a.2.2 x h1 (by omega)]
open Classical in
noncomputable def flipZ (s:Int) (z:LZ) (q:Int):Int:=if h:∃ f,isFlip s z q f then Classical.choose h else 0
theorem flipZ_eq {s:Int} {z:LZ} {q f:Int} (h:isFlip s z q f):flipZ s z q = f:=by
 unfold flipZ
 rw [dif_pos ⟨f,h⟩]
 exact isFlip_inj (Classical.choose_spec (⟨f,h⟩:∃ f,isFlip s z q f)) h
noncomputable def nextT (s q:Int) (turn:List LZ) (n:Int):Int:=turn.foldl (fun n t=>if flipZ s t q < n then flipZ s t q else n) n
theorem nextT_bd (s q:Int):∀ (turn:List LZ) (n:Int),(∀ t ∈ turn,∃ f,isFlip s t q f)→nextT s q turn n ≤ n∧(q < n→q < nextT s q turn n)∧∀ x,q ≤ x→x < nextT s q turn n→∀ t ∈ turn,abvZ s t x = abvZ s t q
 | [],n,h=>⟨Int.le_refl _,fun h=>h,fun x _ _ t ht=>by simp at ht⟩
 | t :: r,n,h=>by
  obtain ⟨f,hf⟩:=h t (by simp)
  have ef:=flipZ_eq hf
  have ih:=nextT_bd s q r (if flipZ s t q < n then flipZ s t q else n) (fun x hx=>h x (List.mem_cons_of_mem _ hx))
  have e:nextT s q (t :: r) n = nextT s q r (if flipZ s t q < n then flipZ s t q else n):=rfl
  rw [e]
  rw [ef] at ih ⊢
  obtain ⟨f1,f2,f3,f4⟩:=hf
  obtain ⟨m,em,m1,m2,m3⟩:∃ m:Int,(if f < n then f else n) = m∧m ≤ n∧m ≤ f∧(m = f ∨ m = n):=by
   refine ⟨_,rfl,?_,?_,?_⟩ <;> split <;> omega
  rw [em] at ih ⊢
  refine ⟨by omega,fun hn=>ih.2.1 (by omega),fun x h1 h2 y hy=>?_⟩
  rcases List.mem_cons.1 hy with rfl | hy
  ·rcases Int.lt_or_le q x with hx | hx
   ·exact f3 x hx (by omega)
   ·rw [show x = q by omega]
  ·exact ih.2.2 x h1 h2 y hy
def lastL (out:List PZ):Option LZ:=out.getLast?.map (·.2)
def putZ (out:List PZ) (q:Int) (l:LZ):List PZ:=if lastL out = some l then out else out ++ [(q,l)]
noncomputable def nextZ (c:List LZ→Int→LZ×List LZ) (s:Int) (kids:List (List PZ)) (q:Int):Int :=
 nextT s q (c (kids.map fun ps=>lineAt ps q) q).2 (nextK kids q 1099511627777)
noncomputable def mdZ (c:List LZ→Int→LZ×List LZ) (s:Int) (kids:List (List PZ)):Nat→Int→List PZ→Option (List PZ)
 | 0,q,out=>bif decide (q ≤ 1099511627776) then none else some out
 | fu + 1,q,out=>bif decide (q ≤ 1099511627776) then
   (if (putZ out q (c (kids.map fun ps=>lineAt ps q) q).1).length > 256 then none
   else mdZ c s kids fu (nextZ c s kids q) (putZ out q (c (kids.map fun ps=>lineAt ps q) q).1))
  else some out
def chainZ:List PZ→Prop
 | []=>True
 | p :: r=>(match r with | []=>True | p' :: _=>p.1 < p'.1∧p'.1 ≤ 1099511627776∧p.2 ≠ p'.2)∧chainZ r
structure PG (s M:Int) (V:Int→Int) (Q:LZ→Prop) (ps:List PZ):Prop where
 ne:ps ≠ []
 len:ps.length ≤ 256
 hd:∀ p,ps.head? = some p→p.1 = 0
 ch:chainZ ps
 sp:∀ p ∈ ps,spanZ s p.2 ≤ M
 pr:∀ p ∈ ps,Q p.2
 vl:∀ q,0 ≤ q→q ≤ 1099511627776→valZ s (lineAt ps q) q = V q
theorem chainZ_snoc:∀ (out:List PZ) (q:Int) (l:LZ),chainZ out→(∀ p,out.getLast? = some p→p.1 < q∧p.2 ≠ l)→q ≤ 1099511627776→chainZ (out ++ [(q,l)])
 | [],q,l,h,h1,h2=>⟨trivial,trivial⟩
 | [p],q,l,h,h1,h2=>by
  have:=h1 p rfl
  exact ⟨⟨this.1,h2,this.2⟩,trivial,trivial⟩
 | p :: p' :: r,q,l,h,h1,h2=>by
  have ih:=chainZ_snoc (p' :: r) q l h.2 (fun x hx=>h1 x (by rw [List.getLast?_cons_cons]; exact hx)) h2
  exact ⟨h.1,ih⟩
def chainEnd:List PZ→Int→Bool
 | [],_=>true
 | p :: r,x=>match r with
  | []=>true
  | p' :: _=>decide (p'.1 ≤ x) && chainEnd r x
theorem lineAt_snoc:∀ (out:List PZ) (q:Int) (l:LZ) (x:Int),out ≠ []→lineAt (out ++ [(q,l)]) x = (bif decide (q ≤ x) && chainEnd out x then l else lineAt out x)
 | [],q,l,x,h=>absurd rfl h
 | [p],q,l,x,h=>by
  show (bif decide (q ≤ x) then _ else _) = _
  cases decide (q ≤ x) <;> rfl
 | p :: p' :: r,q,l,x,h=>by
  have ih:=lineAt_snoc (p' :: r) q l x (by simp)
  show lineAt (p :: p' :: (r ++ [(q,l)])) x = _
  rw [lineAt_two,show p' :: (r ++ [(q,l)]) = (p' :: r) ++ [(q,l)] from rfl,ih,lineAt_two]
  show _ = bif decide (q ≤ x) && (decide (p'.1 ≤ x) && chainEnd (p' :: r) x) then _ else _
  cases decide (p'.1 ≤ x) <;> cases decide (q ≤ x) <;> cases chainEnd (p' :: r) x <;> rfl
theorem chainEnd_of:∀ (out:List PZ) (x:Int),chainZ out→(∀ p,out.getLast? = some p→p.1 ≤ x)→chainEnd out x = true
 | [],x,h,h1=>rfl
 | [p],x,h,h1=>rfl
 | p :: p' :: r,x,h,h1=>by
  have hl:∀ y,(p' :: r).getLast? = some y→y.1 ≤ x:=fun y hy=>h1 y (by rw [List.getLast?_cons_cons]; exact hy)
  have ih:=chainEnd_of (p' :: r) x h.2 hl
  show (decide (p'.1 ≤ x) && chainEnd (p' :: r) x) = true
  rw [ih,Bool.and_true,decide_eq_true_eq]
  exact le_last (p' :: r) h.2 x hl p' rfl
where le_last:∀ (out:List PZ),chainZ out→∀ (x:Int),(∀ p,out.getLast? = some p→p.1 ≤ x)→∀ p,out.head? = some p→p.1 ≤ x
 | [],h,x,h1,p,hp=>by cases hp
 | [a],h,x,h1,p,hp=>h1 p hp
 | a :: b :: r,h,x,h1,p,hp=>by
  have:=le_last (b :: r) h.2 x (fun y hy=>h1 y (by rw [List.getLast?_cons_cons]; exact hy)) b rfl
  have hp:a = p:=by simpa using hp
  subst hp
  have:=h.1.1
  omega
theorem lineAt_last:∀ (out:List PZ) (x:Int) (p:PZ),chainEnd out x = true→out.getLast? = some p→lineAt out x = p.2
 | [],x,p,h,h1=>by cases h1
 | [a],x,p,h,h1=>by
  have h1:a = p:=by simpa using h1
  subst h1; rfl
 | a :: b :: r,x,p,h,h1=>by
  have h:(decide (b.1 ≤ x) && chainEnd (b :: r) x) = true:=h
  rw [Bool.and_eq_true] at h
  rw [lineAt_two,h.1,cond_true]
  exact lineAt_last (b :: r) x p h.2 (by rw [← h1,List.getLast?_cons_cons])
structure Pre (s M:Int) (V:Int→Int) (Q:LZ→Prop) (q:Int) (out:List PZ):Prop where
 q0:q = 0→out = []
 q1:0 < q→out ≠ []
 len:out.length ≤ 256
 hd:∀ p,out.head? = some p→p.1 = 0
 ch:chainZ out
 la:∀ p,out.getLast? = some p→p.1 < q
 sp:∀ p ∈ out,spanZ s p.2 ≤ M
 pr:∀ p ∈ out,Q p.2
 vl:∀ x,0 ≤ x→x < q→x ≤ 1099511627776→valZ s (lineAt out x) x = V x
def Step (s M:Int) (V:Int→Int) (Q:LZ→Prop) (c:List LZ→Int→LZ×List LZ) (kids:List (List PZ)):Prop :=
 ∀ q,0 ≤ q→q ≤ 1099511627776→spanZ s (c (kids.map fun ps=>lineAt ps q) q).1 ≤ M∧Q (c (kids.map fun ps=>lineAt ps q) q).1 ∧
  (∀ t ∈ (c (kids.map fun ps=>lineAt ps q) q).2,∃ f,isFlip s t q f) ∧
  ∀ x,q ≤ x→x ≤ 1099511627776→(kids.map fun ps=>lineAt ps x) = (kids.map fun ps=>lineAt ps q)→(∀ t ∈ (c (kids.map fun ps=>lineAt ps q) q).2,abvZ s t x = abvZ s t q) →
   valZ s (c (kids.map fun ps=>lineAt ps q) q).1 x = V x
theorem nextZ_bd {s M:Int} {V:Int→Int} {Q:LZ→Prop} {c:List LZ→Int→LZ×List LZ} {kids:List (List PZ)} (hs:Step s M V Q c kids) {q:Int} (h0:0 ≤ q) (h1:q ≤ 1099511627776) :
  q < nextZ c s kids q∧nextZ c s kids q ≤ 1099511627777∧∀ x,q ≤ x→x < nextZ c s kids q→valZ s (c (kids.map fun ps=>lineAt ps q) q).1 x = V x:=by
 obtain ⟨_,_,a3,a4⟩:=hs q h0 h1
 have hK:=nextK_bd kids q 1099511627777
 have hT:=nextT_bd s q (c (kids.map fun ps=>lineAt ps q) q).2 (nextK kids q 1099511627777) a3
 refine ⟨hT.2.1 (hK.2.1 (by omega)),Int.le_trans hT.1 hK.1,fun x g1 g2=>?_⟩
 unfold nextZ at g2
 exact a4 x g1 (by omega) (hK.2.2 x g1 (by omega)) (hT.2.2 x g1 g2)
theorem pre_step {s M:Int} {V:Int→Int} {Q:LZ→Prop} {c:List LZ→Int→LZ×List LZ} {kids:List (List PZ)} (hs:Step s M V Q c kids) {q:Int} (h0:0 ≤ q) (h1:q ≤ 1099511627776) {out:List PZ} (hp:Pre s M V Q q out)
  (hl:¬ (putZ out q (c (kids.map fun ps=>lineAt ps q) q).1).length > 256):Pre s M V Q (nextZ c s kids q) (putZ out q (c (kids.map fun ps=>lineAt ps q) q).1):=by
 obtain ⟨n1,n2,n3⟩:=nextZ_bd hs h0 h1
 obtain ⟨a1,a2,_,_⟩:=hs q h0 h1
 generalize (c (kids.map fun ps=>lineAt ps q) q).1 = l at *
 generalize nextZ c s kids q = n at *
 unfold putZ at *
 by_cases he:lastL out = some l
 ·rw [if_pos he] at hl ⊢
  obtain ⟨p,hp1,hp2⟩:∃ p,out.getLast? = some p∧p.2 = l:=by
   unfold lastL at he
   cases hx:out.getLast? with
   | none=>rw [hx] at he; cases he
   | some p=>rw [hx] at he; exact ⟨p,rfl,by simpa using he⟩
  have hla:=hp.la p hp1
  refine ⟨fun h=>by omega,fun _ h=>(by rw [h] at hp1; cases hp1),hp.len,hp.hd,hp.ch,fun p' h=>by have:=hp.la p' h; omega,hp.sp,hp.pr,fun x x1 x2 x3=>?_⟩
  rcases Int.lt_or_le x q with hx | hx
  ·exact hp.vl x x1 hx x3
  ·rw [lineAt_last out x p (chainEnd_of out x hp.ch (fun y hy=>by have:=hp.la y hy; omega)) hp1,hp2]
   exact n3 x hx x2
 ·rw [if_neg he] at hl ⊢
  refine ⟨fun h=>by omega,fun _ h=>by simp at h,by omega,?_,?_,?_,?_,?_,?_⟩
  ·intro p h
   rcases Int.lt_or_le 0 q with hq | hq
   ·have hne:=hp.q1 hq
    cases out with
    | nil=>exact absurd rfl hne
    | cons a r=>exact hp.hd p (by simpa using h)
   ·have:=hp.q0 (by omega)
    subst this
    have h:(q,l) = p:=by simpa using h
    rw [← h]; show q = 0; omega
  ·refine chainZ_snoc out q l hp.ch (fun p hp1=>⟨hp.la p hp1,fun e=>he ?_⟩) h1
   unfold lastL
   rw [hp1,← e]; rfl
  ·intro p h
   have h:(q,l) = p:=by simpa using h
   rw [← h]; exact n1
  ·intro p h
   rcases List.mem_append.1 h with h | h
   ·exact hp.sp p h
   ·rw [List.mem_singleton.1 h]; exact a1
  ·intro p h
   rcases List.mem_append.1 h with h | h
   ·exact hp.pr p h
   ·rw [List.mem_singleton.1 h]; exact a2
  ·intro x x1 x2 x3
   by_cases hne:out = []
   ·subst hne
    have hq:q = 0:=by
     rcases Int.lt_or_le 0 q with hq | hq
     ·exact absurd rfl (hp.q1 hq)
     ·omega
    exact n3 x (by omega) x2
   ·rw [lineAt_snoc out q l x hne]
    rcases Int.lt_or_le x q with hx | hx
    ·rw [decide_eq_false (show ¬ q ≤ x by omega)]
     exact hp.vl x x1 hx x3
    ·rw [decide_eq_true hx,chainEnd_of out x hp.ch (fun y hy=>by have:=hp.la y hy; omega)]
     exact n3 x hx x2
theorem mdZ_PG {s M:Int} {V:Int→Int} {Q:LZ→Prop} {c:List LZ→Int→LZ×List LZ} {kids:List (List PZ)} (hs:Step s M V Q c kids):∀ (fu:Nat) (q:Int) (out:List PZ),0 ≤ q→q ≤ 1099511627777→Pre s M V Q q out →
  ∀ res,mdZ c s kids fu q out = some res→PG s M V Q res:=by
 have fin:∀ (q:Int) (out:List PZ),¬ q ≤ 1099511627776→Pre s M V Q q out→PG s M V Q out:=fun q out h hp =>
  ⟨hp.q1 (by omega),hp.len,hp.hd,hp.ch,hp.sp,hp.pr,fun x x1 x2=>hp.vl x x1 (by omega) x2⟩
 intro fu
 induction fu with
 | zero =>
  intro q out h0 h1 hp res h
  unfold mdZ at h
  by_cases hq:q ≤ 1099511627776
  ·rw [decide_eq_true hq] at h; cases h
  ·rw [decide_eq_false hq] at h
   have h:out = res:=by simpa using h
   subst h
   exact fin q out hq hp
 | succ fu ih =>
  intro q out h0 h1 hp res h
  unfold mdZ at h
  by_cases hq:q ≤ 1099511627776
  ·rw [decide_eq_true hq,cond_true] at h
   split at h
   ·cases h
   ·rename_i hl
    obtain ⟨n1,n2,_⟩:=nextZ_bd hs h0 hq
    exact ih _ _ (by omega) n2 (pre_step hs h0 hq hp hl) res h
  ·rw [decide_eq_false hq] at h
   have h:out = res:=by simpa using h
   subst h
   exact fin q out hq hp
theorem made_PG {s M:Int} {V:Int→Int} {Q:LZ→Prop} {c:List LZ→Int→LZ×List LZ} {kids:List (List PZ)} (hs:Step s M V Q c kids) {res:List PZ} (h:mdZ c s kids 4096 0 [] = some res):PG s M V Q res :=
 mdZ_PG hs 4096 0 [] (by omega) (by omega) ⟨fun _=>rfl,fun h=>absurd h (by decide),by simp,(fun p h=>by cases h),trivial,(fun p h=>by cases h),(fun p h=>by simp at h),(fun p h=>by simp at h),fun x x1 x2 _=>by omega⟩ res h
def lineB (l m:tLine.T):Bool:=(l.1.1 == m.1.1) && ((l.1.2 == m.1.2) && ((l.2.1.1 == m.2.1.1) && ((l.2.1.2 == m.2.1.2) && ((l.2.2.1 == m.2.2.1) && ((l.2.2.2 == m.2.2.2) && true)))))
theorem lineB_iff {l m:tLine.T}:lineB l m = true ↔ l = m:=by
 obtain ⟨⟨a,b⟩,⟨c,d⟩,e,f⟩:=l
 obtain ⟨⟨a',b'⟩,⟨c',d'⟩,e',f'⟩:=m
 unfold lineB
 simp only [Bool.and_eq_true,beq_iff_eq,Bool.and_true,Prod.mk.injEq]
 constructor
 ·rintro ⟨h1,h2,h3,h4,h5,h6⟩; exact ⟨⟨h1,h2⟩,⟨h3,h4⟩,h5,h6⟩
 ·rintro ⟨⟨h1,h2⟩,⟨h3,h4⟩,h5,h6⟩; exact ⟨h1,h2,h3,h4,h5,h6⟩
theorem get_set_eq {l:List Int} {i:Nat} {v:Int} (h:i < l.length):get (.int .i64) (l.set i v) i = v:=by
 unfold get
 rw [List.getD_eq_getElem?_getD,List.getElem?_set_self h]
 rfl
theorem get_set_ne {l:List Int} {i j:Nat} {v:Int} (h:j ≠ i):get (.int .i64) (l.set i v) j = get (.int .i64) l j:=by
 unfold get
 rw [List.getD_eq_getElem?_getD,List.getD_eq_getElem?_getD,List.getElem?_set_ne (Ne.symm h)]
theorem map_drop {ps:List PZ} {a:Nat} {p:PZ} {r:List PZ} (h:ps.drop a = p :: r):(ps.map wP).drop a = wP p :: r.map wP:=by
 rw [← List.map_drop,h]; rfl
theorem md_l11 (F:Nat)
  (of:Nat×tNormal_maker.T) (kids:List (List tPiece.T)) (runs q next:Int) (t30:List (List tPiece.T)) (t31 t32:Int) (m:tNormal_maker.T) (out:List tPiece.T) (lines:List tLine.T) {ps:List PZ} (hps:ps.length ≤ 256) (i:Nat) :
  ∀ (r:List PZ) (p:PZ) (a fu:Nat) (at_:List Int),ps.drop a = p :: r→i < at_.length→get (.int .i64) at_ i = (a:Int)→r.length < fu →
  ∃ (a':Nat) (p':PZ) (r':List PZ) (b:Bool) (at':List Int),ps.drop a' = p' :: r'∧(∀ x,q ≤ x→lineAt (p' :: r') x = lineAt (p :: r) x)∧(∀ x n,q ≤ x→nextAt (p' :: r') x n = nextAt (p :: r) x n)∧(∀ y r2,r' = y :: r2→q < y.1) ∧
   at'.length = at_.length∧get (.int .i64) at' i = (a':Int)∧(∀ j,j ≠ i→get (.int .i64) at' j = get (.int .i64) at_ j) ∧
   ∀ {R:Type} (k0:(Nat×tNormal_maker.T)→(List (List tPiece.T))→Int→Int→Int→Int→(List tPiece.T)→(List (List tPiece.T))→Int→Int→Bool→tNormal_maker.T→(List tPiece.T)→(List Int)→(List tLine.T)→Option R),normal_maker_made.l11 F k0 fu of kids runs q next (i:Int) (ps.map wP) t30 t31 t32 m out at_ lines = k0 of kids runs q next (i:Int) (ps.map wP) t30 t31 t32 b m out at' lines
 | r,p,a,0,at_,h,hi,hg,hf=>by omega
 | [],p,a,fu + 1,at_,h,hi,hg,hf=>by
  have hl:=congrArg List.length h
  simp only [List.length_drop,List.length_cons,List.length_nil] at hl
  refine ⟨a,p,[],false,at_,h,fun _ _=>rfl,fun _ _ _=>rfl,(fun y r2 e=>by cases e),rfl,hg,fun _ _=>rfl,fun k0=>?_⟩
  simp only [normal_maker_made.l11,normal_maker_made.l11.body,rg_idx hi,Int.toNat_natCast,hg,List.length_map]
  rw [wrap_i64 (n:=(a:Int) + 1) (by omega) (by omega),decide_eq_false (show ¬ (a:Int) + 1 < (ps.length:Int) by omega)]
  rfl
 | y :: r,p,a,fu + 1,at_,h,hi,hg,hf=>by
  have hl:=congrArg List.length h
  simp only [List.length_drop,List.length_cons] at hl
  have h2:=rg_next h
  have g2:=rg_get (t:=tPiece) (map_drop h2)
  have w:IntKind.i64.wrap ((a:Int) + 1) = ((a + 1:Nat):Int):=by rw [wrap_i64 (by omega) (by omega)]; simp
  by_cases hq:y.1 ≤ q
  ·obtain ⟨a',p',r',b,at',e1,e2,e3,e4,e5,e6,e7,e8⟩:=md_l11 F of kids runs q next t30 t31 t32 m out lines hps i r y (a + 1) fu (at_.set i ((a + 1:Nat):Int)) h2 (by simpa using hi) (get_set_eq hi) (by simp at hf; omega)
   refine ⟨a',p',r',b,at',e1,fun x hx=>?_,fun x n hx=>?_,e4,by simpa using e5,e6,fun j hj=>(by rw [e7 j hj,get_set_ne hj]),?_⟩
   ·rw [e2 x hx,lineAt_two,decide_eq_true (show y.1 ≤ x by omega)]; rfl
   ·rw [e3 x n hx,nextAt_two,decide_eq_true (show y.1 ≤ x by omega)]; rfl
   ·intro R k0
    rw [← e8 k0]
    simp only [normal_maker_made.l11,normal_maker_made.l11.body,rg_idx hi,Int.toNat_natCast,hg,List.length_map,w]
    rw [decide_eq_true (show ((a + 1:Nat):Int) < (ps.length:Int) by omega),rg_idx (show a + 1 < ps.length by omega),show get tPiece (ps.map wP) (a + 1) = wP y from g2]
    simp only [cond_true]
    rw [show decide ((wP y).1 ≤ q) = true from decide_eq_true hq]
    rfl
  ·refine ⟨a,p,y :: r,false,at_,h,fun _ _=>rfl,fun _ _ _=>rfl,(fun z r2 e=>?_),rfl,hg,fun _ _=>rfl,?_⟩
   ·have e:y = z:=by injection e
    rw [← e]; omega
   ·intro R k0
    simp only [normal_maker_made.l11,normal_maker_made.l11.body,rg_idx hi,Int.toNat_natCast,hg,List.length_map,w]
    rw [decide_eq_true (show ((a + 1:Nat):Int) < (ps.length:Int) by omega),rg_idx (show a + 1 < ps.length by omega),show get tPiece (ps.map wP) (a + 1) = wP y from g2]
    simp only [cond_true]
    rw [show decide ((wP y).1 ≤ q) = false from decide_eq_false hq]
    rfl
def atOK (q:Int) (ps:List PZ) (v:Int):Prop:=∃ (a:Nat) (p:PZ) (r:List PZ),v = (a:Int)∧ps.drop a = p :: r∧(∀ x,q ≤ x→lineAt (p :: r) x = lineAt ps x)∧∀ x n,q ≤ x→nextAt (p :: r) x n = nextAt ps x n
theorem atOK.mono {q q':Int} {ps:List PZ} {v:Int} (h:atOK q ps v) (hq:q ≤ q'):atOK q' ps v:=by
 obtain ⟨a,p,r,h1,h2,h3,h4⟩:=h
 exact ⟨a,p,r,h1,h2,fun x hx=>h3 x (by omega),fun x n hx=>h4 x n (by omega)⟩
theorem at_zero {q:Int} {ps:List PZ} (h:ps ≠ []):atOK q ps 0:=by
 cases ps with
 | nil=>exact absurd rfl h
 | cons p r=>exact ⟨0,p,r,rfl,rfl,fun _ _=>rfl,fun _ _ _=>rfl⟩
def nxOf (r:List PZ) (n:Int):Int:=match r with | []=>n | y :: _=>if y.1 < n then y.1 else n
theorem next_now {q n:Int} {p:PZ} {r:List PZ} (h:∀ y r2,r = y :: r2→q < y.1):lineAt (p :: r) q = p.2∧nextAt (p :: r) q n = nxOf r n:=by
 cases r with
 | nil=>exact ⟨rfl,rfl⟩
 | cons y r =>
  have:=h y r rfl
  rw [lineAt_two,nextAt_two,decide_eq_false (show ¬ y.1 ≤ q by omega)]
  exact ⟨rfl,rfl⟩
theorem md_l9 (F:Nat) (hF:300 < F)
  (of:Nat×tNormal_maker.T) (kids:List (List tPiece.T)) (runs q:Int) (m:tNormal_maker.T) (out:List tPiece.T) {KS:List (List PZ)} (hK:∀ ps ∈ KS,ps.length ≤ 256) (hK16:KS.length ≤ 16) :
  ∀ (ks:List (List PZ)) (i fu:Nat) (next:Int) (at_:List Int) (lines:List tLine.T),KS.drop i = ks→at_.length = KS.length→(∀ j,j < KS.length→atOK q (KS.getD j []) (get (.int .i64) at_ j))→lines.length = KS.length→ks.length < fu →
  ∃ (at':List Int) (x:Int),at'.length = KS.length∧(∀ j,j < KS.length→atOK q (KS.getD j []) (get (.int .i64) at' j)) ∧
   ∀ {R:Type} (k0:(Nat×tNormal_maker.T)→(List (List tPiece.T))→Int→Int→Int→(List (List tPiece.T))→Int→Int→Bool→tNormal_maker.T→(List tPiece.T)→(List Int)→(List tLine.T)→Option R),normal_maker_made.l9 F k0 fu of kids runs q next (KS.map fun ps=>ps.map wP) (KS.length:Int) (i:Int) m out at_ lines =
   k0 of kids runs q (nextK ks q next) (KS.map fun ps=>ps.map wP) (KS.length:Int) x false m out at' (lines.take i ++ ks.map fun ps=>wL (lineAt ps q))
 | ks,i,0,next,at_,lines,h,ha,hat,hl,hf=>by omega
 | [],i,fu + 1,next,at_,lines,h,ha,hat,hl,hf=>by
  have:=rg_end h
  refine ⟨at_,(i:Int),ha,hat,fun k0=>?_⟩
  simp only [normal_maker_made.l9,normal_maker_made.l9.body]
  rw [decide_eq_false (show ¬ (i:Int) < (KS.length:Int) by omega),List.take_of_length_le (by omega)]
  simp [nextK]
 | ps :: ks,i,fu + 1,next,at_,lines,h,ha,hat,hl,hf=>by
  have hlt:=rg_len h
  have hps:KS.getD i [] = ps:=by
   have:=congrArg (·[0]?) h
   rw [List.getD_eq_getElem?_getD]
   simp at this
   rw [this]; rfl
  have hmem:ps ∈ KS:=by
   rw [← hps,List.getD_eq_getElem?_getD,List.getElem?_eq_getElem hlt]
   exact List.getElem_mem _
  have hp256:=hK ps hmem
  have hgk:get (.sl tPiece) (KS.map fun ps=>ps.map wP) i = ps.map wP:=by
   unfold get
   rw [List.getD_eq_getElem?_getD,List.getElem?_map,List.getElem?_eq_getElem hlt]
   rw [List.getD_eq_getElem?_getD,List.getElem?_eq_getElem hlt] at hps
   have hps:KS[i] = ps:=hps
   rw [← hps]; rfl
  have hai:=hat i hlt
  rw [hps] at hai
  obtain ⟨a,p,r,v1,v2,v3,v4⟩:=hai
  have hd:=congrArg List.length v2
  simp only [List.length_drop,List.length_cons] at hd
  obtain ⟨a',p',r',b,at',e1,e2,e3,e4,e5,e6,e7,e8⟩:=md_l11 F of kids runs q next (KS.map fun ps=>ps.map wP) (KS.length:Int) (i:Int) m out lines hp256 i r p a F at_ v2 (by omega) v1 (by omega)
  have hl2:=congrArg List.length e1
  simp only [List.length_drop,List.length_cons] at hl2
  have w:IntKind.i64.wrap ((a':Int) + 1) = ((a' + 1:Nat):Int):=by rw [wrap_i64 (by omega) (by omega)]; simp
  have wi:IntKind.i64.wrap ((i:Int) + 1) = ((i + 1:Nat):Int):=by rw [wrap_i64 (by omega) (by omega)]; simp
  have gp:=rg_get (t:=tPiece) (map_drop e1)
  rw [Int.toNat_natCast] at gp
  have hnow:=next_now (n:=next) (p:=p') e4
  have el:lineAt ps q = p'.2:=by rw [← v3 q (Int.le_refl _),← e2 q (Int.le_refl _)]; exact hnow.1
  have en:nextAt ps q next = nxOf r' next:=by rw [← v4 q next (Int.le_refl _),← e3 q next (Int.le_refl _)]; exact hnow.2
  have hat':∀ j,j < KS.length→atOK q (KS.getD j []) (get (.int .i64) at' j):=fun j hj=>by
   by_cases hji:j = i
   ·subst hji
    rw [hps,e6]
    exact ⟨a',p',r',rfl,e1,fun x hx=>by rw [e2 x hx,v3 x hx],fun x n hx=>by rw [e3 x n hx,v4 x n hx]⟩
   ·rw [e7 j hji]; exact hat j hj
  have hset:∀ v:tLine.T,(lines.set i v).take (i + 1) = lines.take i ++ [v]:=fun v=>by
   rw [List.take_set,List.take_add_one,List.getElem?_eq_getElem (by omega)]
   have:(lines.take i).length = i:=by simp; omega
   rw [Option.toList_some,List.set_append_right _ _ (by omega),this,Nat.sub_self]
   rfl
  have hstart:∀ {R:Type} (k0:(Nat×tNormal_maker.T)→(List (List tPiece.T))→Int→Int→Int→(List (List tPiece.T))→Int→Int→Bool→tNormal_maker.T→(List tPiece.T)→(List Int)→(List tLine.T)→Option R),
    normal_maker_made.l9 F k0 (fu + 1) of kids runs q next (KS.map fun ps=>ps.map wP) (KS.length:Int) (i:Int) m out at_ lines =
    normal_maker_made.l9 F k0 fu of kids runs q (nxOf r' next) (KS.map fun ps=>ps.map wP) (KS.length:Int) ((i + 1:Nat):Int) m out at' (lines.set i (wP p').2):=by
   intro R k0
   simp only [normal_maker_made.l9,normal_maker_made.l9.body]
   rw [decide_eq_true (show (i:Int) < (KS.length:Int) by omega),rg_idx (show i < (KS.map fun ps=>ps.map wP).length by simpa using hlt),Int.toNat_natCast,hgk,e8]
   rw [rg_idx (show i < at'.length by omega),rg_idx (show i < lines.length by omega),Int.toNat_natCast,e6,w,wi,rg_idx (show a' < (ps.map wP).length by simp; omega),Int.toNat_natCast,Int.toNat_natCast,gp,List.length_map]
   cases r' with
   | nil =>
    simp only [List.length_nil] at hl2
    rw [decide_eq_false (show ¬ ((a' + 1:Nat):Int) < (ps.length:Int) by omega)]
    rfl
   | cons y r2 =>
    simp only [List.length_cons] at hl2
    have gy:=rg_get (t:=tPiece) (map_drop (rg_next e1))
    rw [Int.toNat_natCast] at gy
    rw [decide_eq_true (show ((a' + 1:Nat):Int) < (ps.length:Int) by omega),rg_idx (show a' + 1 < ps.length by omega),gy]
    rfl
  obtain ⟨at2,x,f1,f2,f3⟩:=md_l9 F hF of kids runs q m out hK hK16 ks (i + 1) fu (nxOf r' next) at' (lines.set i (wP p').2) (rg_next h) (by omega) hat' (by simpa using hl) (by simp at hf; omega)
  refine ⟨at2,x,f1,f2,fun k0=>(hstart k0).trans ((f3 k0).trans ?_)⟩
  rw [hset,show nextK (ps :: ks) q next = nextK ks q (nextAt ps q next) from rfl,en,List.map_cons,el,List.append_assoc]
  rfl
theorem md_l19 (F:Nat) (hF:70 < F)
  (T:List tLine.T) (N:Int) (of:Nat×tNormal_maker.T) (kids:List (List tPiece.T)) (runs q:Int) (m:tNormal_maker.T) (l:tLine.T) (out:List tPiece.T) (at_:List Int) (lines:List tLine.T) (hq:fitB m.2.2 q = true) :
  ∀ (ts:List LZ) (i next:Int),(∀ t ∈ ts,spanZ m.2.2 t ≤ LIM)→∃ i':Int,∀ {R:Type} (k0:(Nat×tNormal_maker.T)→(List (List tPiece.T))→Int→Int→Int→(List tLine.T)→Int→Int→Bool→tNormal_maker.T→tLine.T→(List tPiece.T)→(List Int)→(List tLine.T)→Option R),normal_maker_made.l19.rg F k0 T N (ts.map wL) i of kids runs q next m l out at_ lines = k0 of kids runs q (nextT m.2.2 q ts next) T N i' (decide (i' < N)) m l out at_ lines
 | [],i,next,h=>⟨i,fun k0=>rfl⟩
 | t :: ts,i,next,h=>by
  obtain ⟨f,e,hf⟩:=flip_eq F hF (h t (by simp)) hq
  obtain ⟨i',ih⟩:=md_l19 F hF T N of kids runs q m l out at_ lines hq ts (i + 1) (if f < next then f else next) (fun x hx=>h x (List.mem_cons_of_mem _ hx))
  refine ⟨i',fun k0=>?_⟩
  rw [List.map_cons,normal_maker_made.l19.rg,e,oB_some]
  show normal_maker_made.l19.rg F k0 T N (ts.map wL) (i + 1) of kids runs q (if f < next then f else next) m l out at_ lines = _
  rw [ih]
  have e2:nextT m.2.2 q (t :: ts) next = nextT m.2.2 q ts (if flipZ m.2.2 t q < next then flipZ m.2.2 t q else next):=rfl
  rw [e2,flipZ_eq hf]
theorem lineB_w {x y:LZ}:lineB (wL x) (wL y) = decide (x = y):=by
 by_cases h:x = y
 ·rw [decide_eq_true h,h]; exact lineB_iff.2 rfl
 ·rw [decide_eq_false h]
  cases hb:lineB (wL x) (wL y) with
  | false=>rfl
  | true=>exact absurd (wL_inj (s:=1) (by omega) (lineB_iff.1 hb)) h
theorem last_get {out:List PZ} {p:PZ} (h:out.getLast? = some p):get tPiece (out.map wP) (out.length - 1) = wP p:=by
 unfold get
 rw [List.getD_eq_getElem?_getD,List.getElem?_map]
 rw [List.getLast?_eq_getElem?] at h
 rw [h]; rfl
def Calls (F:Nat) (of:Nat×tNormal_maker.T) (c:List LZ→Int→LZ×List LZ) (s:Int) (kids:List (List PZ)):Prop :=
 ∀ q,0 ≤ q→q ≤ 1099511627776→normal_maker_made.d99 F of.1 (of.2,(kids.map fun ps=>wL (lineAt ps q)),q,()) = some ((wL (c (kids.map fun ps=>lineAt ps q) q).1,(c (kids.map fun ps=>lineAt ps q) q).2.map wL,()),()) ∧
  (∀ t ∈ (c (kids.map fun ps=>lineAt ps q) q).2,spanZ s t ≤ LIM)∧(c (kids.map fun ps=>lineAt ps q) q).2.length ≤ 16
noncomputable def mdN (c:List LZ→Int→LZ×List LZ) (s:Int) (kids:List (List PZ)) (n:Nat) (q:Int) (out:List PZ):Option (List PZ) :=
 match n with | 0=>none | n + 1=>(if out.length > 256 then none else mdZ c s kids n (nextZ c s kids q) out)
theorem md_l6 (F:Nat) (hF:300 < F) {R:Type} (k0:(List tPiece.T)→Bool→Option R) (k1:List tPiece.T→Option R) (of:Nat×tNormal_maker.T) {KS:List (List PZ)} (hK:∀ ps ∈ KS,ps.length ≤ 256) (hK16:KS.length ≤ 16)
  (m:tNormal_maker.T) (hs:1 ≤ m.2.2) (hs2:m.2.2 ≤ 1000000000000) {c:List LZ→Int→LZ×List LZ} (hc:Calls F of c m.2.2 KS) (hnx:∀ q,0 ≤ q→q ≤ 1099511627776→q < nextZ c m.2.2 KS q) :
  ∀ (n fu:Nat) (runs q:Int) (out:List PZ) (at_:List Int) (lines:List tLine.T),runs = 4096 - (n:Int)→n ≤ 4096→n < fu→0 ≤ q→out.length ≤ 256→at_.length = KS.length→(∀ j,j < KS.length→atOK q (KS.getD j []) (get (.int .i64) at_ j))→lines.length = KS.length →
   normal_maker_made.l6 F k0 (fun _ _ _ _ _ _ out _ _=>k1 out) fu of (KS.map fun ps=>ps.map wP) runs q m (out.map wP) at_ lines =
    match mdZ c m.2.2 KS n q out with | some res=>k1 (res.map wP) | none=>k0 [] false:=by
 intro n fu
 induction fu generalizing n with
 | zero=>intro runs q out at_ lines hr hn hf; omega
 | succ fu ih =>
  intro runs q out at_ lines hr hn hf h0 ho ha hat hl
  by_cases hq:q ≤ 1099511627776
  ·obtain ⟨c1,c2,c3⟩:=hc q h0 hq
   have hfq:fitB m.2.2 q = true:=fitB_iff.2 ⟨hs,hs2,h0,hq⟩
   obtain ⟨at',x,b1,b2,b3⟩:=md_l9 F hF of (KS.map fun ps=>ps.map wP) runs q m (out.map wP) hK hK16 KS 0 F 1099511627777 at_ lines rfl ha hat hl (by omega)
   have hnx:=hnx q h0 hq
   have hmd:mdZ c m.2.2 KS n q out = mdN c m.2.2 KS n q (putZ out q (c (KS.map fun ps=>lineAt ps q) q).1):=by
    cases n with
    | zero=>simp only [mdZ,mdN,decide_eq_true hq,cond_true]
    | succ n=>simp only [mdZ,mdN,decide_eq_true hq,cond_true]
   have hnz:nextT m.2.2 q (c (KS.map fun ps=>lineAt ps q) q).2 (nextK KS q 1099511627777) = nextZ c m.2.2 KS q:=rfl
   generalize hL:(c (KS.map fun ps=>lineAt ps q) q).1 = l at *
   generalize hT:(c (KS.map fun ps=>lineAt ps q) q).2 = tn at *
   simp only [normal_maker_made.l6,normal_maker_made.l6.body]
   rw [decide_eq_true hq,show ((KS.map fun ps=>ps.map wP).length:Int) = (KS.length:Int) by simp]
   simp only [cond_true]
   have b3':=@b3 R
   rw [show ((0:Nat):Int) = 0 from rfl] at b3'
   rw [b3',List.take_zero,List.nil_append,c1,oB_some]
   have hrg:=fun k=>normal_maker_made.l19.rg_eq (R:=R) F k (tn.map wL) ((tn.map wL).length:Int) rfl (by simp; omega) (tn.map wL) 0 F of (KS.map fun ps=>ps.map wP) runs q (nextK KS q 1099511627777) m (wL l) (out.map wP) at' (KS.map fun ps=>wL (lineAt ps q)) rfl (by simp; omega)
   rw [show ((0:Nat):Int) = 0 from rfl] at hrg
   rw [hrg]
   obtain ⟨i',e19⟩:=md_l19 F (by omega) (tn.map wL) ((tn.map wL).length:Int) of (KS.map fun ps=>ps.map wP) runs q m (wL l) (out.map wP) at' (KS.map fun ps=>wL (lineAt ps q)) hfq tn 0 (nextK KS q 1099511627777) c2
   rw [e19,hnz,hmd]
   have hl5:(KS.map fun ps=>wL (lineAt ps q)).length = KS.length:=by simp
   have hat5:∀ j,j < KS.length→atOK (nextZ c m.2.2 KS q) (KS.getD j []) (get (.int .i64) at' j):=fun j hj=>(b2 j hj).mono (by omega)
   have common:∀ out':List PZ,(bif decide (IntKind.i64.wrap (runs + 1) > 4096) then k0 [] false else bif decide (((out'.map wP).length:Int) > 256) then k0 [] false
     else normal_maker_made.l6 F k0 (fun _ _ _ _ _ _ out _ _=>k1 out) fu of (KS.map fun ps=>ps.map wP) (IntKind.i64.wrap (runs + 1)) (nextZ c m.2.2 KS q) m (out'.map wP) at' (KS.map fun ps=>wL (lineAt ps q))) =
     match mdN c m.2.2 KS n q out' with | some res=>k1 (res.map wP) | none=>k0 [] false:=by
    intro out'
    rw [wrap_i64 (n:=runs + 1) (by omega) (by omega)]
    cases n with
    | zero=>rw [decide_eq_true (show runs + 1 > 4096 by omega)]; rfl
    | succ n =>
     rw [decide_eq_false (show ¬ runs + 1 > 4096 by omega)]
     simp only [cond_false]
     by_cases ho:out'.length > 256
     ·rw [decide_eq_true (show ((out'.map wP).length:Int) > 256 by simp; omega)]
      simp only [mdN,if_pos ho,cond_true]
     ·rw [decide_eq_false (show ¬ ((out'.map wP).length:Int) > 256 by simp; omega)]
      simp only [mdN,if_neg ho,cond_false]
      exact ih n (runs + 1) (nextZ c m.2.2 KS q) out' at' (KS.map fun ps=>wL (lineAt ps q)) (by omega) (by omega) (by omega) (by omega) (by omega) b1 hat5 hl5
   have hble:Nat.ble ((out.map wP).length + ([(q,wL l)]:List tPiece.T).length) maxN = true:=ble_of (by simp; omega)
   have hsn:out.map wP ++ ([(q,wL l)]:List tPiece.T) = (out ++ [(q,l)]).map wP:=by rw [List.map_append]; rfl
   cases hout:out with
   | nil =>
    have c0:=common [(q,l)]
    rw [hout] at hble hsn
    have hp:putZ [] q l = [(q,l)]:=by unfold putZ lastL; rw [if_neg (by simp)]; rfl
    rw [hp]
    rw [show (((([]:List PZ).map wP).length:Int) == 0) = true from rfl,hble,hsn]
    simp only [cond_true]
    exact c0
   | cons a r =>
    have hne:out ≠ []:=by rw [hout]; simp
    obtain ⟨p,hp⟩:∃ p,out.getLast? = some p:=⟨_,List.getLast?_eq_some_getLast hne⟩
    have hlen:1 ≤ out.length:=by rw [hout]; simp
    rw [← hout]
    have hb:=lineB_w (x:=p.2) (y:=l)
    rw [show (((out.map wP).length:Int) == 0) = false by simp; omega,hble,hsn,wrap_i64 (n:=((out.map wP).length:Int) - 1) (by simp; omega) (by simp; omega),
     show ((out.map wP).length:Int) - 1 = ((out.length - 1:Nat):Int) by simp; omega,rg_idx (show out.length - 1 < (out.map wP).length by simp; omega),Int.toNat_natCast,last_get hp]
    simp only [cond_true,cond_false]
    show (bif !(lineB (wL p.2) (wL l)) then _ else _) = _
    rw [hb]
    have hll:lastL out = some p.2:=by unfold lastL; rw [hp]; rfl
    by_cases he:p.2 = l
    ·rw [decide_eq_true he]
     have c0:=common out
     have hpz:putZ out q l = out:=by unfold putZ; rw [if_pos (by rw [hll,he])]
     rw [hpz]
     simp only [Bool.not_true,Bool.not_false,cond_true,cond_false]
     exact c0
    ·rw [decide_eq_false he]
     have c0:=common (out ++ [(q,l)])
     have hpz:putZ out q l = out ++ [(q,l)]:=by unfold putZ; rw [if_neg (by rw [hll]; simp; exact he)]
     rw [hpz]
     simp only [Bool.not_true,Bool.not_false,cond_true,cond_false]
     exact c0
  ·simp only [normal_maker_made.l6,normal_maker_made.l6.body]
   rw [decide_eq_false hq]
   have:mdZ c m.2.2 KS n q out = some out:=by
    cases n <;> simp only [mdZ,decide_eq_false hq,cond_false]
   rw [this]
   rfl
def mdR (r:Option (List PZ)):normal_maker_made.sg.R:=match r with | some res=>((res.map wP,true,()),()) | none=>(([],false,()),())
theorem made_eq (F:Nat) (hF:4200 < F) (of:Nat×tNormal_maker.T) {KS:List (List PZ)} (hK:∀ ps ∈ KS,ps.length ≤ 256) (hK16:KS.length ≤ 16) (hne:∀ ps ∈ KS,ps ≠ [])
  (m:tNormal_maker.T) (hs:1 ≤ m.2.2) (hs2:m.2.2 ≤ 1000000000000) {c:List LZ→Int→LZ×List LZ} (hc:Calls F of c m.2.2 KS) (hnx:∀ q,0 ≤ q→q ≤ 1099511627776→q < nextZ c m.2.2 KS q) :
  normal_maker_made.sh F m of (KS.map fun ps=>ps.map wP) = some (mdR (mdZ c m.2.2 KS 4096 0 [])):=by
 unfold normal_maker_made.sh
 have hz:∀ j,get (.int .i64) (zeroL (.int .i64) KS.length) j = 0:=fun j=>by
  unfold get zeroL
  rw [List.getD_eq_getElem?_getD,List.getElem?_replicate]
  split <;> rfl
 have hlen:(KS.map fun ps=>ps.map wP).length = KS.length:=by simp
 have hmx:(maxN:Int) ≥ 16:=by decide
 rw [hlen,decide_eq_true (show (0:Int) ≤ (KS.length:Int) by omega),decide_eq_true (show (KS.length:Int) ≤ (KS.length:Int) by omega),decide_eq_true (show (KS.length:Int) ≤ (maxN:Int) by omega),Int.toNat_natCast]
 simp only [Bool.and_true,cond_true]
 have:=md_l6 F (by omega) (fun r66 r76=>(some ((r66,r76,()),()):Option normal_maker_made.sg.R)) (fun out7=>normal_maker_made.j30 F (fun r68 r78=>some ((r68,r78,()),())) out7) of hK hK16 m hs hs2 hc hnx 4096 F 0 0 [] (zeroL (.int .i64) KS.length) (zeroL tLine KS.length) (by omega) (by omega) (by omega) (by omega) (by simp) (by simp [zeroL])
  (fun j hj=>by
   rw [hz]
   refine at_zero (hne _ ?_)
   rw [List.getD_eq_getElem?_getD,List.getElem?_eq_getElem hj]
   exact List.getElem_mem _) (by simp [zeroL])
 refine this.trans ?_
 unfold mdR
 cases mdZ c m.2.2 KS 4096 0 [] <;> rfl
abbrev z0:LZ:=(0,0,0)
def lessL (l:LZ) (n:Int):LZ:=subL l (constL n)
def tsAt (l:LZ) (ts:List tTier.T) (n:Nat):List LZ :=
 (if n = 0 then [] else [lessL l (tF (ts.getD (n - 1) (0,0)))]) ++ (if n < ts.length then [lessL l (tF (ts.getD n (0,0)))] else [])
def gradL (u:Int) (l:LZ) (ts:List tTier.T) (n:Nat):LZ :=
 if n = 0 then z0 else scaleL (addL (scaleL (lessL l (tF (ts.getD (n - 1) (0,0)))) (tR (ts.getD (n - 1) (0,0)))) (constL (wayT ts (n - 1)))) u
def volL (u:Int) (l:LZ) (ts:List tTier.T) (n:Nat):LZ:=if n = 0 then z0 else scaleL (scaleL l (tR (ts.getD (n - 1) (0,0)))) u
def offP (N a:Int):Int:=divM 2 (a * (10000 - N)) 10000
def offL (N:Int) (l:LZ):LZ:=(offP N l.1,offP N l.2.1,offP N l.2.2)
def chZ (n:tNode.T) (u s:Int) (k:List LZ) (q:Int):LZ×List LZ :=
 bif nK n == 5 then (subL z0 (k.getD 0 z0),[])
 else bif nK n == 6 then (addL (k.getD 0 z0) (k.getD 1 z0),[])
 else bif nK n == 7 then (subL (k.getD 0 z0) (k.getD 1 z0),[])
 else bif nK n == 8 then ((if k.getD 0 z0 = constL (k.getD 0 z0).1 then scaleL (k.getD 1 z0) (k.getD 0 z0).1 else scaleL (k.getD 0 z0) (k.getD 1 z0).1),[])
 else bif nK n == 9 then ((bif abvZ s (subL (k.getD 0 z0) (k.getD 1 z0)) q then k.getD 1 z0 else k.getD 0 z0),[subL (k.getD 0 z0) (k.getD 1 z0)])
 else bif nK n == 10 then ((bif abvZ s (subL (k.getD 1 z0) (k.getD 0 z0)) q then k.getD 1 z0 else k.getD 0 z0),[subL (k.getD 1 z0) (k.getD 0 z0)])
 else bif nK n == 11 then ((bif abvZ s (lessL (k.getD 0 z0) (nN n)) q then lessL (k.getD 0 z0) (nN n) else z0),[lessL (k.getD 0 z0) (nN n)])
 else bif nK n == 12 then ((bif abvZ s (lessL (k.getD 0 z0) (nN n)) q then constL (nN n) else k.getD 0 z0),[lessL (k.getD 0 z0) (nN n)])
 else bif nK n == 13 then (gradL u (k.getD 0 z0) (nT n) (cntT (valZ s (k.getD 0 z0) q) (nT n)),tsAt (k.getD 0 z0) (nT n) (cntT (valZ s (k.getD 0 z0) q) (nT n)))
 else bif nK n == 14 then (volL u (k.getD 0 z0) (nT n) (cntT (valZ s (k.getD 0 z0) q) (nT n)),tsAt (k.getD 0 z0) (nT n) (cntT (valZ s (k.getD 0 z0) q) (nT n)))
 else bif nK n == 15 then (offL (nN n) (k.getD 0 z0),[])
 else ((bif holdB (nO n) (valZ s (k.getD 0 z0) q) (nN n) then k.getD 1 z0 else k.getD 2 z0),[lessL (k.getD 0 z0) (nN n),lessL (k.getD 0 z0) (nN n - 1)])
def Got (s M:Int) (W:Int→Int) (q:Int) (g:LZ×List LZ):Prop :=
 spanZ s g.1 ≤ M∧(∀ t ∈ g.2,spanZ s t ≤ LIM)∧g.2.length ≤ 16∧∀ x,(∀ t ∈ g.2,abvZ s t x = abvZ s t q)→valZ s g.1 x = W x
theorem span_z0 (s:Int):spanZ s z0 = 0:=by
 have:nA 0 = 0:=rfl
 simp [spanZ,this]
theorem val_z0 (s q:Int):valZ s z0 q = 0:=by simp [valZ]
theorem span_less {s:Int} (h:1 ≤ s) (l:LZ) (n:Int):spanZ s (lessL l n) ≤ spanZ s l + nA n:=by
 have:=span_sub h l (constL n)
 rw [span_const] at this
 exact this
theorem val_less (s:Int) (l:LZ) (n q:Int):valZ s (lessL l n) q = valZ s l q - n:=by
 unfold lessL; rw [val_sub,val_const]
theorem abv_less (s:Int) (l:LZ) (n q:Int):abvZ s (lessL l n) q = decide (n < valZ s l q):=by
 unfold abvZ; rw [val_less]; exact decide_eq_decide.2 (by omega)
theorem got_flat {s M:Int} {W:Int→Int} {q:Int} {l:LZ} (h1:spanZ s l ≤ M) (h2:∀ x,valZ s l x = W x):Got s M W q (l,[]) :=
 ⟨h1,by simp,by simp,fun x _=>h2 x⟩
theorem got_neg {s A:Int} (hs:1 ≤ s) {a:LZ} (ha:spanZ s a ≤ A) (q:Int):Got s A (fun x=>0 - valZ s a x) q (subL z0 a,[]) :=
 got_flat (by have:=span_sub hs z0 a; rw [span_z0] at this; omega) (fun x=>by rw [val_sub,val_z0])
theorem got_add {s A B:Int} (hs:1 ≤ s) {a b:LZ} (ha:spanZ s a ≤ A) (hb:spanZ s b ≤ B) (q:Int):Got s (A + B) (fun x=>valZ s a x + valZ s b x) q (addL a b,[]) :=
 got_flat (by have:=span_add hs a b; omega) (fun x=>by rw [val_add])
theorem got_sub {s A B:Int} (hs:1 ≤ s) {a b:LZ} (ha:spanZ s a ≤ A) (hb:spanZ s b ≤ B) (q:Int):Got s (A + B) (fun x=>valZ s a x - valZ s b x) q (subL a b,[]) :=
 got_flat (by have:=span_sub hs a b; omega) (fun x=>by rw [val_sub])
theorem const_eta {a:LZ} (h:a = constL a.1) (s x:Int):valZ s a x = a.1:=by rw [h,val_const]; rfl
theorem const_span {s:Int} {a:LZ} (h:a = constL a.1):spanZ s a = nA a.1:=by rw [h,span_const]; rfl
theorem got_mul {s A B:Int} (hs:1 ≤ s) {a b:LZ} (ha:spanZ s a ≤ A) (hb:spanZ s b ≤ B) (hc:a = constL a.1 ∨ b = constL b.1) (q:Int) :
  Got s (A * B) (fun x=>valZ s a x * valZ s b x) q ((if a = constL a.1 then scaleL b a.1 else scaleL a b.1),[]):=by
 have n1:=span_nn hs a
 have n2:=span_nn hs b
 have hm:spanZ s a * spanZ s b ≤ A * B:=Int.mul_le_mul ha hb n2 (by omega)
 by_cases h:a = constL a.1
 ·rw [if_pos h]
  exact got_flat (by rw [span_scale,← const_span h,Int.mul_comm]; exact hm) (fun x=>by rw [val_scale,const_eta h,Int.mul_comm])
 ·rw [if_neg h]
  have h:=hc.resolve_left h
  exact got_flat (by rw [span_scale,← const_span h]; exact hm) (fun x=>by rw [val_scale,const_eta h])
theorem got_min {s A B:Int} (hs:1 ≤ s) {a b:LZ} (ha:spanZ s a ≤ A) (hb:spanZ s b ≤ B) (hA:0 ≤ A) (hB:0 ≤ B) (hL:A + B ≤ LIM) (q:Int) :
  Got s (A + B) (fun x=>if valZ s b x < valZ s a x then valZ s b x else valZ s a x) q ((bif abvZ s (subL a b) q then b else a),[subL a b]):=by
 have hd:=span_sub hs a b
 refine ⟨by cases abvZ s (subL a b) q <;> simp only [cond_true,cond_false] <;> omega,fun t ht=>?_,by simp,fun x hx=>?_⟩
 ·rw [List.mem_singleton.1 ht]; omega
 ·rw [← hx _ (List.mem_singleton.2 rfl)]
  unfold abvZ
  rw [val_sub]
  by_cases h:valZ s b x < valZ s a x
  ·rw [decide_eq_true (show valZ s a x - valZ s b x > 0 by omega)]; exact (if_pos h).symm
  ·rw [decide_eq_false (show ¬ valZ s a x - valZ s b x > 0 by omega)]; exact (if_neg h).symm
theorem got_max {s A B:Int} (hs:1 ≤ s) {a b:LZ} (ha:spanZ s a ≤ A) (hb:spanZ s b ≤ B) (hA:0 ≤ A) (hB:0 ≤ B) (hL:A + B ≤ LIM) (q:Int) :
  Got s (A + B) (fun x=>if valZ s b x > valZ s a x then valZ s b x else valZ s a x) q ((bif abvZ s (subL b a) q then b else a),[subL b a]):=by
 have hd:=span_sub hs b a
 refine ⟨by cases abvZ s (subL b a) q <;> simp only [cond_true,cond_false] <;> omega,fun t ht=>?_,by simp,fun x hx=>?_⟩
 ·rw [List.mem_singleton.1 ht]; omega
 ·rw [← hx _ (List.mem_singleton.2 rfl)]
  unfold abvZ
  rw [val_sub]
  by_cases h:valZ s b x > valZ s a x
  ·rw [decide_eq_true (show valZ s b x - valZ s a x > 0 by omega)]; exact (if_pos h).symm
  ·rw [decide_eq_false (show ¬ valZ s b x - valZ s a x > 0 by omega)]; exact (if_neg h).symm
theorem got_over {s A N:Int} (hs:1 ≤ s) {a:LZ} (ha:spanZ s a ≤ A) (hN:0 ≤ N) (hA:0 ≤ A) (hL:A + N ≤ LIM) (q:Int) :
  Got s (A + N) (fun x=>maxL [0,valZ s a x - N]) q ((bif abvZ s (lessL a N) q then lessL a N else z0),[lessL a N]):=by
 have hd:=span_less hs a N
 rw [nA_of hN] at hd
 refine ⟨by cases abvZ s (lessL a N) q <;> simp only [cond_true,cond_false] <;> first | (rw [span_z0]; omega) | omega,fun t ht=>?_,by simp,fun x hx=>?_⟩
 ·rw [List.mem_singleton.1 ht]; omega
 ·rw [← hx _ (List.mem_singleton.2 rfl),abv_less]
  show _ = (if valZ s a x - N > 0 then valZ s a x - N else 0)
  by_cases h:N < valZ s a x
  ·rw [decide_eq_true h,if_pos (by omega),cond_true,val_less]
  ·rw [decide_eq_false h,if_neg (by omega),cond_false,val_z0]
theorem got_upto {s A N:Int} (hs:1 ≤ s) {a:LZ} (ha:spanZ s a ≤ A) (hN:0 ≤ N) (hA:0 ≤ A) (hL:A + N ≤ LIM) (q:Int) :
  Got s (A + N) (fun x=>minL [N,valZ s a x]) q ((bif abvZ s (lessL a N) q then constL N else a),[lessL a N]):=by
 have hd:=span_less hs a N
 rw [nA_of hN] at hd
 have hc:=span_const (s:=s) N
 rw [nA_of hN] at hc
 refine ⟨by cases abvZ s (lessL a N) q <;> simp only [cond_true,cond_false] <;> omega,fun t ht=>?_,by simp,fun x hx=>?_⟩
 ·rw [List.mem_singleton.1 ht]; omega
 ·rw [← hx _ (List.mem_singleton.2 rfl),abv_less]
  show _ = (if valZ s a x < N then valZ s a x else N)
  by_cases h:N < valZ s a x
  ·rw [decide_eq_true h,if_neg (by omega),cond_true,val_const]
  ·rw [decide_eq_false h]
   show valZ s a x = _
   split <;> omega
theorem scale_scale (z:LZ) (a b:Int):scaleL (scaleL z a) b = scaleL z (a * b):=by simp only [scaleL,Int.mul_assoc]
theorem offP_scale (N c:Int):offP N (c * 10000) = c * (10000 - N):=by
 unfold offP
 rw [Int.mul_right_comm,divM_exact (by decide)]
theorem offL_scale (N:Int) (z:LZ):offL N (scaleL z 10000) = scaleL z (10000 - N):=by
 unfold offL scaleL
 simp only [offP_scale]
theorem got_off {s A N:Int} (hs:1 ≤ s) {a:LZ} (ha:spanZ s a ≤ A) (hN:0 ≤ N) (hN2:N ≤ 10000) (hd:∃ z,a = scaleL z 10000) (q:Int) :
  Got s A (fun x=>divM 2 (valZ s a x * (10000 - N)) 10000) q (offL N a,[]):=by
 obtain ⟨z,rfl⟩:=hd
 rw [offL_scale]
 refine got_flat ?_ (fun x=>?_)
 ·rw [span_scale] at ha ⊢
  have:=span_nn hs z
  rw [nA_of (show 0 ≤ 10000 - N by omega)]
  rw [nA_of (by omega)] at ha
  have:=Int.mul_le_mul_of_nonneg_left (show 10000 - N ≤ 10000 by omega) this
  omega
 ·rw [val_scale,val_scale]
  exact (offP_scale N (valZ s z x)).symm
theorem got_test {s A B C N:Int} (hs:1 ≤ s) {a b c:LZ} (ha:spanZ s a ≤ A) (hb:spanZ s b ≤ B) (hc:spanZ s c ≤ C) (hN:0 ≤ N) (hA:0 ≤ A) (hB:0 ≤ B) (hC:0 ≤ C) (hL:A + N + 1 ≤ LIM) (op q:Int) :
  Got s (A + (B + C) + N) (fun x=>bif holdB op (valZ s a x) N then valZ s b x else valZ s c x) q ((bif holdB op (valZ s a q) N then b else c),[lessL a N,lessL a (N - 1)]):=by
 have h1:=span_less hs a N
 have h2:=span_less hs a (N - 1)
 rw [nA_of hN] at h1
 have h3:nA (N - 1) ≤ N + 1:=by unfold nA; omega
 refine ⟨by cases holdB op (valZ s a q) N <;> simp only [cond_true,cond_false] <;> omega,fun t ht=>?_,by simp,fun x hx=>?_⟩
 ·simp only [List.mem_cons,List.not_mem_nil,or_false] at ht
  rcases ht with rfl | rfl <;> omega
 ·have e1:=hx (lessL a N) (by simp)
  have e2:=hx (lessL a (N - 1)) (by simp)
  rw [abv_less,abv_less] at e1 e2
  have e1:=decide_eq_decide.1 e1
  have e2:=decide_eq_decide.1 e2
  have:holdB op (valZ s a x) N = holdB op (valZ s a q) N:=by
   unfold holdB
   rw [decide_eq_decide.2 (show valZ s a x < N ↔ valZ s a q < N by omega),decide_eq_decide.2 (show valZ s a x ≤ N ↔ valZ s a q ≤ N by omega),decide_eq_decide.2 (show valZ s a x > N ↔ valZ s a q > N by omega),
    decide_eq_decide.2 (show valZ s a x ≥ N ↔ valZ s a q ≥ N by omega),decide_eq_decide.2 (show valZ s a x = N ↔ valZ s a q = N by omega)]
  show valZ s (bif holdB op (valZ s a q) N then b else c) x = bif holdB op (valZ s a x) N then valZ s b x else valZ s c x
  rw [this]
  cases holdB op (valZ s a q) N <;> rfl
theorem incT_mem:∀ (l:List tTier.T) (lo:Int),incT lo l→∀ t ∈ l,lo < tF t
 | [],lo,h,t,ht=>by simp at ht
 | a :: r,lo,h,t,ht=>by
  obtain ⟨a1,a2,a3,a4,a5⟩:=h
  rcases List.mem_cons.1 ht with rfl | ht
  ·exact a1
  ·have:=incT_mem r (tF a) a5 t ht; omega
theorem tget_mem {l:List tTier.T} {n:Nat} (h:n < l.length):l.getD n (0,0) ∈ l:=by
 rw [List.getD_eq_getElem?_getD,List.getElem?_eq_getElem h]; exact List.getElem_mem _
theorem cntT_iff:∀ (l:List tTier.T) (lo:Int),incT lo l→∀ (x:Int) (n:Nat),n ≤ l.length→(0 < n→tF (l.getD (n - 1) (0,0)) < x)→(n < l.length→¬ tF (l.getD n (0,0)) < x)→cntT x l = n
 | [],lo,h,x,n,h1,h2,h3=>by simp at h1; simp [cntT,h1]
 | a :: r,lo,h,x,0,h1,h2,h3=>by
  have:¬ tF a < x:=h3 (by simp)
  simp only [cntT]; rw [if_neg this]
 | a :: r,lo,h,x,n + 1,h1,h2,h3=>by
  obtain ⟨a1,a2,a3,a4,a5⟩:=h
  have h2:tF ((a :: r).getD n (0,0)) < x:=h2 (by omega)
  have hax:tF a < x:=by
   cases n with
   | zero=>exact h2
   | succ m =>
    have:=incT_mem r (tF a) a5 _ (tget_mem (show m < r.length by simp at h1; omega))
    have h2:tF (r.getD m (0,0)) < x:=h2
    omega
  simp only [cntT]; rw [if_pos hax,cntT_iff r (tF a) a5 x n (by simpa using h1) (fun h=>by
   obtain ⟨m,rfl⟩:∃ m,n = m + 1:=⟨n - 1,by omega⟩
   exact h2) (fun h=>h3 (by simp; omega))]
theorem cntT_sp:∀ (l:List tTier.T) (x:Int),(0 < cntT x l→tF (l.getD (cntT x l - 1) (0,0)) < x)∧(cntT x l < l.length→¬ tF (l.getD (cntT x l) (0,0)) < x)
 | [],x=>by simp [cntT]
 | a :: r,x=>by
  have ih:=cntT_sp r x
  simp only [cntT]
  by_cases h:tF a < x
  ·rw [if_pos h,Nat.add_sub_cancel]
   refine ⟨fun _=>?_,fun h1=>ih.2 (by simp at h1; omega)⟩
   cases hc:cntT x r with
   | zero=>exact h
   | succ m=>have:=ih.1 (by omega); rw [hc] at this; exact this
  ·rw [if_neg h]
   exact ⟨fun h=>by omega,fun _=>h⟩
theorem le_lastF:∀ (l:List tTier.T) (lo:Int),incT lo l→∀ n,n < l.length→tF (l.getD n (0,0)) ≤ lastF l
 | [],lo,h,n,hn=>by simp at hn
 | [a],lo,h,n,hn=>by
  have:n = 0:=by simp at hn; omega
  subst this; exact Int.le_refl _
 | a :: b :: r,lo,h,0,hn=>by
  obtain ⟨a1,a2,a3,a4,a5⟩:=h
  have:=le_lastF (b :: r) (tF a) a5 0 (by simp)
  have h2:=a5.1
  have:tF b ≤ lastF (b :: r):=this
  show tF a ≤ lastF (b :: r)
  omega
 | a :: b :: r,lo,h,n + 1,hn=>by
  obtain ⟨a1,a2,a3,a4,a5⟩:=h
  exact le_lastF (b :: r) (tF a) a5 n (by simpa using hn)
theorem tier_in {l:List tTier.T} {lo:Int} (hlo:-1 ≤ lo) (hi:incT lo l) {n:Nat} (h:n < l.length):0 ≤ tF (l.getD n (0,0))∧tF (l.getD n (0,0)) ≤ lastF l∧nA (tR (l.getD n (0,0))) ≤ rateM 0 l:=by
 have hm:l.getD n (0,0) ∈ l:=tget_mem h
 have h1:=incT_mem l lo hi _ hm
 have h2:=(rateM_ge l 0).2 _ hm
 refine ⟨by omega,le_lastF l lo hi n h,?_⟩
 unfold farZ at h2
 unfold nA
 split at h2 <;> omega
theorem ts_turn {s A:Int} (hs:1 ≤ s) {a:LZ} (ha:spanZ s a ≤ A) (hA:0 ≤ A) (hL:A ≤ BND) {ts:List tTier.T} (hr:risB ts = true) (q:Int) :
  (∀ t ∈ tsAt a ts (cntT (valZ s a q) ts),spanZ s t ≤ LIM)∧(tsAt a ts (cntT (valZ s a q) ts)).length ≤ 16∧∀ x,(∀ t ∈ tsAt a ts (cntT (valZ s a q) ts),abvZ s t x = abvZ s t q)→cntT (valZ s a x) ts = cntT (valZ s a q) ts:=by
 obtain ⟨l1,l2,l3⟩:=risB_inc hr
 have hcl:=cntT_le (valZ s a q) ts
 obtain ⟨c1,c2⟩:=cntT_sp ts (valZ s a q)
 have hBND:BND = 1329227995784915872903807060280344576:=rfl
 have hLIM:LIM = 85070591730234615865843651857942052864:=rfl
 have hlf:=lastF_bd ts (-1) (by omega) l3
 generalize hn:cntT (valZ s a q) ts = n at *
 have hsp:∀ i,i < ts.length→spanZ s (lessL a (tF (ts.getD i (0,0)))) ≤ LIM:=fun i hi=>by
  have h1:=span_less hs a (tF (ts.getD i (0,0)))
  obtain ⟨t1,t2,_⟩:=tier_in (by omega) l3 hi
  rw [nA_of t1] at h1
  omega
 unfold tsAt
 refine ⟨fun t ht=>?_,by split <;> split <;> simp,fun x hx=>?_⟩
 ·rcases List.mem_append.1 ht with ht | ht
  ·split at ht
   ·simp at ht
   ·rw [List.mem_singleton.1 ht]; exact hsp _ (by omega)
  ·split at ht
   ·rw [List.mem_singleton.1 ht]; exact hsp _ (by omega)
   ·simp at ht
 ·refine cntT_iff ts (-1) l3 _ n hcl (fun h0=>?_) (fun h0=>?_)
  ·have:=hx (lessL a (tF (ts.getD (n - 1) (0,0)))) (by rw [if_neg (by omega)]; simp)
   rw [abv_less,abv_less] at this
   exact (decide_eq_decide.1 this).2 (c1 h0)
  ·have:=hx (lessL a (tF (ts.getD n (0,0)))) (by rw [if_pos h0]; simp)
   rw [abv_less,abv_less] at this
   exact fun h=>c2 h0 ((decide_eq_decide.1 this).1 h)
theorem got_grad {s A u:Int} (hs:1 ≤ s) (hu:1 ≤ u) {a:LZ} (ha:spanZ s a ≤ A) (hA:0 ≤ A) (hL:A ≤ BND) {ts:List tTier.T} (hr:risB ts = true) (q:Int) :
  Got s (scaleM u A ts) (fun x=>u * grad (valZ s a x) ts) q (gradL u a ts (cntT (valZ s a q) ts),tsAt a ts (cntT (valZ s a q) ts)):=by
 obtain ⟨l1,l2,l3⟩:=risB_inc hr
 obtain ⟨t1,t2,t3⟩:=ts_turn hs ha hA hL hr q
 have hcl:=cntT_le (valZ s a q) ts
 have hlf:=lastF_bd ts (-1) (by omega) l3
 have hr0:=(rateM_ge ts 0).1
 have hm0:=Int.mul_nonneg hr0 (show 0 ≤ A + lastF ts by omega)
 have hw0:=(waysS_bd ts (-1) (by omega) l3).1
 refine ⟨?_,t1,t2,fun x hx=>?_⟩
 ·unfold gradL scaleM
  have hz:=Int.mul_nonneg (show 0 ≤ u by omega) (show 0 ≤ rateM 0 ts * (A + lastF ts) + waysS ts by omega)
  split
  ·rw [span_z0]; exact hz
  ·generalize hn:cntT (valZ s a q) ts = n at *
   obtain ⟨i1,i2,i3⟩:=tier_in (by omega) l3 (show n - 1 < ts.length by omega)
   have hw:=wayT_bd ts (-1) (n - 1) (by omega) l3
   rw [span_scale,nA_of (show 0 ≤ u by omega),Int.mul_comm]
   refine Int.mul_le_mul_of_nonneg_left ?_ (by omega)
   have h1:=span_add hs (scaleL (lessL a (tF (ts.getD (n - 1) (0,0)))) (tR (ts.getD (n - 1) (0,0)))) (constL (wayT ts (n - 1)))
   rw [span_scale,span_const] at h1
   have h2:=span_less hs a (tF (ts.getD (n - 1) (0,0)))
   rw [nA_of i1] at h2
   have h3:nA (wayT ts (n - 1)) ≤ waysS ts:=by unfold nA; omega
   have h4:=Int.mul_le_mul (show spanZ s (lessL a (tF (ts.getD (n - 1) (0,0)))) ≤ A + lastF ts by omega) i3 (nA_nn _) (by omega)
   rw [Int.mul_comm (A + lastF ts)] at h4
   omega
 ·have e:=t3 x hx
  show valZ s (gradL u a ts (cntT (valZ s a q) ts)) x = u * grad (valZ s a x) ts
  unfold gradL grad topT'
  rw [e]
  split
  ·rw [val_z0,Int.mul_zero]
  ·rw [val_scale,val_add,val_scale,val_const,val_less,Int.mul_comm,Int.add_comm,Int.mul_comm (tR _)]
theorem got_vol {s A u:Int} (hs:1 ≤ s) (hu:1 ≤ u) {a:LZ} (ha:spanZ s a ≤ A) (hA:0 ≤ A) (hL:A ≤ BND) {ts:List tTier.T} (hr:risB ts = true) (q:Int) :
  Got s (scaleM u A ts) (fun x=>u * vol (valZ s a x) ts) q (volL u a ts (cntT (valZ s a q) ts),tsAt a ts (cntT (valZ s a q) ts)):=by
 obtain ⟨l1,l2,l3⟩:=risB_inc hr
 obtain ⟨t1,t2,t3⟩:=ts_turn hs ha hA hL hr q
 have hcl:=cntT_le (valZ s a q) ts
 have hlf:=lastF_bd ts (-1) (by omega) l3
 have hr0:=(rateM_ge ts 0).1
 have hm0:=Int.mul_nonneg hr0 (show 0 ≤ A + lastF ts by omega)
 have hw0:=(waysS_bd ts (-1) (by omega) l3).1
 refine ⟨?_,t1,t2,fun x hx=>?_⟩
 ·unfold volL scaleM
  have hz:=Int.mul_nonneg (show 0 ≤ u by omega) (show 0 ≤ rateM 0 ts * (A + lastF ts) + waysS ts by omega)
  split
  ·rw [span_z0]; exact hz
  ·generalize hn:cntT (valZ s a q) ts = n at *
   obtain ⟨i1,i2,i3⟩:=tier_in (by omega) l3 (show n - 1 < ts.length by omega)
   rw [span_scale,span_scale,nA_of (show 0 ≤ u by omega),Int.mul_comm]
   refine Int.mul_le_mul_of_nonneg_left ?_ (by omega)
   have h4:=Int.mul_le_mul (show spanZ s a ≤ A + lastF ts by omega) i3 (nA_nn _) (by omega)
   rw [Int.mul_comm (A + lastF ts)] at h4
   omega
 ·have e:=t3 x hx
  show valZ s (volL u a ts (cntT (valZ s a q) ts)) x = u * vol (valZ s a x) ts
  unfold volL vol topT'
  rw [e]
  split
  ·rw [val_z0,Int.mul_zero]
  ·rw [val_scale,val_scale,Int.mul_comm]
theorem n_neg (F:Nat) {m:tNormal_maker.T} (hs:1 ≤ m.2.2) {a:LZ} (ha:spanZ m.2.2 a ≤ LIM) (q:Int):normal_maker_neg.sh F m [wL a] q = some ((wL (subL z0 a),[],()),()):=by
 have h1:=span_sub hs z0 a
 rw [span_z0] at h1
 have:normal_sub.sh F ((0,0),(0,0),0,0) (wL a) = _:=lsub_eq F (x:=z0) hs (by rw [span_z0]; decide) ha (by omega)
 unfold normal_maker_neg.sh
 show oB (normal_sub.sh F ((0,0),(0,0),0,0) (wL a)) _ = _
 rw [this,oB_some]
theorem n_add (F:Nat) {m:tNormal_maker.T} (hs:1 ≤ m.2.2) {a b:LZ} (ha:spanZ m.2.2 a ≤ LIM) (hb:spanZ m.2.2 b ≤ LIM) (hl:spanZ m.2.2 (addL a b) ≤ LIM) (q:Int):normal_maker_add.sh F m [wL a,wL b] q = some ((wL (addL a b),[],()),()):=by
 unfold normal_maker_add.sh
 show oB (normal_add.sh F (wL a) (wL b)) _ = _
 rw [ladd_eq F hs ha hb hl,oB_some]
theorem n_sub (F:Nat) {m:tNormal_maker.T} (hs:1 ≤ m.2.2) {a b:LZ} (ha:spanZ m.2.2 a ≤ LIM) (hb:spanZ m.2.2 b ≤ LIM) (hl:spanZ m.2.2 (subL a b) ≤ LIM) (q:Int):normal_maker_sub.sh F m [wL a,wL b] q = some ((wL (subL a b),[],()),()):=by
 unfold normal_maker_sub.sh
 show oB (normal_sub.sh F (wL a) (wL b)) _ = _
 rw [lsub_eq F hs ha hb hl,oB_some]
theorem n_mul (F:Nat) {m:tNormal_maker.T} (hs:1 ≤ m.2.2) {a b:LZ} (ha:spanZ m.2.2 a ≤ LIM) (hb:spanZ m.2.2 b ≤ LIM) (hl:spanZ m.2.2 (if a = constL a.1 then scaleL b a.1 else scaleL a b.1) ≤ LIM) (q:Int) :
  normal_maker_mul.sh F m [wL a,wL b] q = some ((wL (if a = constL a.1 then scaleL b a.1 else scaleL a b.1),[],()),()):=by
 obtain ⟨a1,_⟩:=span_parts hs a
 obtain ⟨b1,_⟩:=span_parts hs b
 unfold normal_maker_mul.sh
 rw [show idx 0 ([wL a,wL b]:List tLine.T).length = true from rfl,show idx 1 ([wL a,wL b]:List tLine.T).length = true from rfl,show get tLine [wL a,wL b] 0 = wL a from rfl,show get tLine [wL a,wL b] 1 = wL b from rfl]
 simp only [cond_true]
 rw [show (wL a).1 = mk a.1 from rfl,nconst_eq,oB_some,show (wL b).1 = mk b.1 from rfl]
 show (bif lineB (wL a) (wL (constL a.1)) then (oB (normal_by.sh F (wL b) (mk a.1)) fun c_2=>some ((c_2.1.1,[],()),())) else oB (normal_by.sh F (wL a) (mk b.1)) fun c_3=>some ((c_3.1.1,[],()),())) = _
 rw [lineB_w]
 by_cases h:a = constL a.1
 ·rw [decide_eq_true h,if_pos h]
  rw [if_pos h] at hl
  simp only [cond_true]
  rw [lby_eq F hs hb (inR_nA (nA_le a1 ha)) hl,oB_some]
 ·rw [decide_eq_false h,if_neg h]
  rw [if_neg h] at hl
  simp only [cond_false]
  rw [lby_eq F hs ha (inR_nA (nA_le b1 hb)) hl,oB_some]
theorem n_least (F:Nat) {m:tNormal_maker.T} {a b:LZ} {q:Int} (hq:fitB m.2.2 q = true) (ha:spanZ m.2.2 a ≤ LIM) (hb:spanZ m.2.2 b ≤ LIM) (hl:spanZ m.2.2 (subL a b) ≤ LIM) :
  normal_maker_least.sh F m [wL a,wL b] q = some ((wL (bif abvZ m.2.2 (subL a b) q then b else a),[wL (subL a b)],()),()):=by
 unfold normal_maker_least.sh
 show oB (normal_sub.sh F (wL a) (wL b)) _ = _
 rw [lsub_eq F (fitB_iff.1 hq).1 ha hb hl,oB_some,nabove_eq F hq hl,oB_some]
 cases abvZ m.2.2 (subL a b) q <;> rfl
theorem n_most (F:Nat) {m:tNormal_maker.T} {a b:LZ} {q:Int} (hq:fitB m.2.2 q = true) (ha:spanZ m.2.2 a ≤ LIM) (hb:spanZ m.2.2 b ≤ LIM) (hl:spanZ m.2.2 (subL b a) ≤ LIM) :
  normal_maker_most.sh F m [wL a,wL b] q = some ((wL (bif abvZ m.2.2 (subL b a) q then b else a),[wL (subL b a)],()),()):=by
 unfold normal_maker_most.sh
 show oB (normal_sub.sh F (wL b) (wL a)) _ = _
 rw [lsub_eq F (fitB_iff.1 hq).1 hb ha hl,oB_some,nabove_eq F hq hl,oB_some]
 cases abvZ m.2.2 (subL b a) q <;> rfl
abbrev mN (m:tNormal_maker.T):Int:=nN m.1
theorem n_less (F:Nat) {m:tNormal_maker.T} (hs:1 ≤ m.2.2) (hN:0 ≤ mN m) (hN2:mN m ≤ 1000000000000) {a:LZ} (ha:spanZ m.2.2 a + 1000000000001 ≤ LIM) {o:Int} (ho:0 ≤ o) (ho2:o ≤ 1) :
  normal_maker_less.sh F m (wL a) o = some ((wL (lessL a (mN m - o)),()),())∧spanZ m.2.2 (lessL a (mN m - o)) ≤ LIM:=by
 have h1:=span_less hs a (mN m - o)
 have h2:nA (mN m - o) ≤ 1000000000001:=by unfold nA; omega
 have hL:LIM = 85070591730234615865843651857942052864:=rfl
 refine ⟨?_,by omega⟩
 unfold normal_maker_less.sh
 rw [show m.1.2.1 = mN m from rfl,wrap_i64 (n:=mN m - o) (by omega) (by omega),of_eq F (by omega) (by omega),oB_some,nconst_eq,oB_some,lsub_eq F hs (by omega) (by rw [span_const]; omega) (by have:subL a (constL (mN m - o)) = lessL a (mN m - o):=rfl; rw [this]; omega),oB_some]
 rfl
theorem n_over (F:Nat) {m:tNormal_maker.T} {q:Int} (hq:fitB m.2.2 q = true) (hN:0 ≤ mN m) (hN2:mN m ≤ 1000000000000) {a:LZ} (ha:spanZ m.2.2 a + 1000000000001 ≤ LIM) :
  normal_maker_over.sh F m [wL a] q = some ((wL (bif abvZ m.2.2 (lessL a (mN m)) q then lessL a (mN m) else z0),[wL (lessL a (mN m))],()),()):=by
 obtain ⟨e,h⟩:=n_less F (fitB_iff.1 hq).1 hN hN2 ha (o:=0) (by omega) (by omega)
 rw [Int.sub_zero] at e h
 unfold normal_maker_over.sh
 show oB (normal_maker_less.sh F m (wL a) 0) _ = _
 rw [e,oB_some,nabove_eq F hq h,oB_some]
 cases abvZ m.2.2 (lessL a (mN m)) q <;> rfl
theorem n_upto (F:Nat) {m:tNormal_maker.T} {q:Int} (hq:fitB m.2.2 q = true) (hN:0 ≤ mN m) (hN2:mN m ≤ 1000000000000) {a:LZ} (ha:spanZ m.2.2 a + 1000000000001 ≤ LIM) :
  normal_maker_upto.sh F m [wL a] q = some ((wL (bif abvZ m.2.2 (lessL a (mN m)) q then constL (mN m) else a),[wL (lessL a (mN m))],()),()):=by
 obtain ⟨e,h⟩:=n_less F (fitB_iff.1 hq).1 hN hN2 ha (o:=0) (by omega) (by omega)
 rw [Int.sub_zero] at e h
 unfold normal_maker_upto.sh
 show oB (normal_maker_less.sh F m (wL a) 0) _ = _
 rw [e,oB_some,nabove_eq F hq h,oB_some]
 cases abvZ m.2.2 (lessL a (mN m)) q with
 | false=>rfl
 | true =>
  simp only [cond_true]
  rw [of_eq F (v:=mN m) (by omega) (by omega),oB_some,nconst_eq,oB_some]
theorem n_offc (F:Nat) (hF:70 < F) {m:tNormal_maker.T} (hN:0 ≤ mN m) (hN2:mN m ≤ 10000) {v:Int} (hv:nA v * 10000 ≤ LIM):normal_maker_off_c1.sh F (mk v) m = some ((mk (offP (mN m) v),()),()):=by
 have h1:nA (v * (10000 - mN m)) ≤ LIM:=by
  rw [nA_mul,nA_of (show 0 ≤ 10000 - mN m by omega)]
  have:=Int.mul_le_mul_of_nonneg_left (show 10000 - mN m ≤ 10000 by omega) (nA_nn v)
  omega
 have h0:=nA_nn v
 have i1:=inR_nA h1
 unfold normal_maker_off_c1.sh
 rw [show m.1.2.1 = mN m from rfl,wrap_i64 (n:=10000 - mN m) (by omega) (by omega),of_eq F (by omega) (by omega),oB_some,wmul_eq F (wf_mk (inR_nA (by omega))) (wf_mk (inR_i64 (by omega) (by omega))),oB_some,val_mk,val_mk,(res_in i1).1,
  of_eq F (v:=10000) (by omega) (by omega),oB_some,div_eq F hF i1 (by decide) (by decide) (tq_bd2 (by decide) h1) (by omega) (by omega),oB_some]
 rfl
theorem n_off (F:Nat) (hF:70 < F) {m:tNormal_maker.T} (hs:1 ≤ m.2.2) (hN:0 ≤ mN m) (hN2:mN m ≤ 10000) {a:LZ} (ha:spanZ m.2.2 a * 10000 ≤ LIM) (q:Int):normal_maker_off.sh F m [wL a] q = some ((wL (offL (mN m) a),[],()),()):=by
 obtain ⟨a1,a2,a3,_⟩:=span_parts hs a
 unfold normal_maker_off.sh
 have e:∀ v,nA v ≤ spanZ m.2.2 a→normal_maker_off.d15 F (cl_normal_maker_off_c1 + 1) (mk v,m,()) = some ((mk (offP (mN m) v),()),())∧normal_maker_off.d21 F (cl_normal_maker_off_c1 + 1) (mk v,m,()) = some ((mk (offP (mN m) v),()),())∧normal_maker_off.d27 F (cl_normal_maker_off_c1 + 1) (mk v,m,()) = some ((mk (offP (mN m) v),()),()):=fun v hv=>by
  have:=n_offc F hF (m:=m) hN hN2 (v:=v) (by omega)
  exact ⟨this,this,this⟩
 show oB (normal_maker_off.d15 F (cl_normal_maker_off_c1 + 1) (mk a.1,m,())) _ = _
 rw [(e _ a1).1,oB_some]
 show oB (normal_maker_off.d21 F (cl_normal_maker_off_c1 + 1) (mk a.2.1,m,())) _ = _
 rw [(e _ a2).2.1,oB_some]
 show oB (normal_maker_off.d27 F (cl_normal_maker_off_c1 + 1) (mk a.2.2,m,())) _ = _
 rw [(e _ a3).2.2,oB_some]
 rfl
theorem n_test (F:Nat) {m:tNormal_maker.T} {q:Int} (hq:fitB m.2.2 q = true) (hN:0 ≤ mN m) (hN2:mN m ≤ 1000000000000) (hO:1 ≤ nO m.1) (hO2:nO m.1 ≤ 6) {a:LZ} (b c:LZ) (ha:spanZ m.2.2 a + 1000000000001 ≤ LIM) :
  normal_maker_test.sh F m [wL a,wL b,wL c] q = some ((wL (bif holdB (nO m.1) (valZ m.2.2 a q) (mN m) then b else c),[wL (lessL a (mN m)),wL (lessL a (mN m - 1))],()),()):=by
 obtain ⟨e,h⟩:=n_less F (fitB_iff.1 hq).1 hN hN2 ha (o:=0) (by omega) (by omega)
 obtain ⟨e1,h1⟩:=n_less F (fitB_iff.1 hq).1 hN hN2 ha (o:=1) (by omega) (by omega)
 rw [Int.sub_zero] at e h
 unfold normal_maker_test.sh
 show oB (normal_maker_less.sh F m (wL a) 0) _ = _
 rw [e,oB_some]
 show oB (normal_maker_less.sh F m (wL a) 1) _ = _
 rw [e1,oB_some,nabove_eq F hq h,oB_some,nabove_eq F hq h1,oB_some,abv_less,abv_less]
 have ho:nO m.1 = 1 ∨ nO m.1 = 2 ∨ nO m.1 = 3 ∨ nO m.1 = 4 ∨ nO m.1 = 5 ∨ nO m.1 = 6:=by omega
 unfold holdB
 rw [show m.1.2.2.1 = nO m.1 from rfl]
 generalize valZ m.2.2 a q = v
 generalize mN m = N at *
 rcases Int.lt_trichotomy v N with hv | hv | hv
 ·rw [decide_eq_false (show ¬ N < v by omega),decide_eq_false (show ¬ N - 1 < v by omega),decide_eq_true (show v < N from hv),decide_eq_true (show v ≤ N by omega),decide_eq_false (show ¬ v ≥ N by omega),decide_eq_false (show ¬ v = N by omega)]
  rcases ho with h | h | h | h | h | h <;> rw [h] <;> rfl
 ·rw [decide_eq_false (show ¬ N < v by omega),decide_eq_true (show N - 1 < v by omega),decide_eq_false (show ¬ v < N by omega),decide_eq_true (show v ≤ N by omega),decide_eq_true (show v ≥ N by omega),decide_eq_true (show v = N by omega)]
  rcases ho with h | h | h | h | h | h <;> rw [h] <;> rfl
 ·rw [decide_eq_true (show N < v by omega),decide_eq_true (show N - 1 < v by omega),decide_eq_false (show ¬ v < N by omega),decide_eq_false (show ¬ v ≤ N by omega),decide_eq_true (show v ≥ N by omega),decide_eq_false (show ¬ v = N by omega)]
  rcases ho with h | h | h | h | h | h <;> rw [h] <;> rfl
abbrev mT (m:tNormal_maker.T):List tTier.T:=nT m.1
theorem n_from (F:Nat) {m:tNormal_maker.T} (hs:1 ≤ m.2.2) {ts:List tTier.T} (hts:mT m = ts) (hr:risB ts = true) {a:LZ} (ha:spanZ m.2.2 a + 1000000000001 ≤ LIM) {i:Nat} (hi:i < ts.length) :
  normal_maker_tier_c1.sh F (i:Int) (wL a) m = some ((wL (lessL a (tF (ts.getD i (0,0)))),()),())∧spanZ m.2.2 (lessL a (tF (ts.getD i (0,0)))) ≤ LIM:=by
 obtain ⟨l1,l2,l3⟩:=risB_inc hr
 obtain ⟨t1,t2,_⟩:=tier_in (by omega) l3 hi
 have hlf:=lastF_bd ts (-1) (by omega) l3
 have h1:=span_less hs a (tF (ts.getD i (0,0)))
 rw [nA_of t1] at h1
 have hL:LIM = 85070591730234615865843651857942052864:=rfl
 refine ⟨?_,by omega⟩
 unfold normal_maker_tier_c1.sh
 have e:m.1.2.2.2.2.1 = ts:=hts
 rw [e,rg_idx hi,Int.toNat_natCast]
 simp only [cond_true]
 rw [show (get tTier ts i).1 = tF (ts.getD i (0,0)) from rfl,of_eq F (by omega) (by omega),oB_some,nconst_eq,oB_some,lsub_eq F hs (by omega) (by rw [span_const,nA_of t1]; omega) (by have:subL a (constL (tF (ts.getD i (0,0)))) = lessL a (tF (ts.getD i (0,0))):=rfl; rw [this]; omega),oB_some]
 rfl
theorem drop_getD {ts xs:List tTier.T} {x:tTier.T} {i:Nat} (h:ts.drop i = x :: xs):ts.getD i (0,0) = x:=by
 have:=congrArg (·[0]?) h
 rw [List.getD_eq_getElem?_getD]
 simp at this
 rw [this]; rfl
theorem n_tier_l3 (F:Nat) {R:Type} (k:Int→tNormal_maker.T→(Nat×tLine.T×tNormal_maker.T)→Int→Bool→Option R) {m:tNormal_maker.T} {q:Int} (hq:fitB m.2.2 q = true) {ts:List tTier.T} (hts:mT m = ts) (hr:risB ts = true) {a:LZ} (ha:spanZ m.2.2 a + 1000000000001 ≤ LIM):∀ (xs:List tTier.T) (i fu:Nat),ts.drop i = xs→xs.length < fu →
  normal_maker_tier.l3 F k fu q m (cl_normal_maker_tier_c1,wL a,m) (i:Int) = k q m (cl_normal_maker_tier_c1,wL a,m) ((i + cntT (valZ m.2.2 a q) xs:Nat):Int) false
 | xs,i,0,h,hf=>by omega
 | [],i,fu + 1,h,hf=>by
  have:=rg_end h
  simp only [normal_maker_tier.l3,normal_maker_tier.l3.body]
  rw [show m.1.2.2.2.2.1 = ts from hts,decide_eq_false (show ¬ (i:Int) < (ts.length:Int) by omega)]
  rfl
 | x :: xs,i,fu + 1,h,hf=>by
  obtain ⟨l1,l2,l3⟩:=risB_inc hr
  have hi:=rg_len h
  obtain ⟨e,hl⟩:=n_from F (fitB_iff.1 hq).1 hts hr ha hi
  have ih:=n_tier_l3 F k hq hts hr ha xs (i + 1) fu (rg_next h) (by simp at hf; omega)
  simp only [normal_maker_tier.l3,normal_maker_tier.l3.body]
  rw [show m.1.2.2.2.2.1 = ts from hts,decide_eq_true (show (i:Int) < (ts.length:Int) by omega)]
  simp only [cond_true]
  have e':normal_maker_tier.d22 F (cl_normal_maker_tier_c1 + 1) ((i:Int),wL a,m,()) = _:=e
  rw [e',oB_some,nabove_eq F hq hl,oB_some,abv_less,drop_getD h]
  simp only [cntT]
  by_cases hx:tF x < valZ m.2.2 a q
  ·rw [decide_eq_true hx,if_pos hx,wrap_i64 (n:=(i:Int) + 1) (by omega) (by omega)]
   simp only [cond_true]
   rw [show (i:Int) + 1 = ((i + 1:Nat):Int) by omega,ih]
   exact congrArg (fun z=>k q m (cl_normal_maker_tier_c1,wL a,m) z false) (by omega)
  ·rw [decide_eq_false hx,if_neg hx]
   rfl
theorem n_tier (F:Nat) (hF:20 < F) {m:tNormal_maker.T} {q:Int} (hq:fitB m.2.2 q = true) {ts:List tTier.T} (hts:mT m = ts) (hr:risB ts = true) {a:LZ} (ha:spanZ m.2.2 a + 1000000000001 ≤ LIM) :
  normal_maker_tier.sh F m (wL a) q = some (((cntT (valZ m.2.2 a q) ts:Int),(tsAt a ts (cntT (valZ m.2.2 a q) ts)).map wL,()),()):=by
 obtain ⟨l1,l2,l3⟩:=risB_inc hr
 have hcl:=cntT_le (valZ m.2.2 a q) ts
 have hs:=(fitB_iff.1 hq).1
 have hj8:∀ (n:Nat) (turn:List tLine.T),n ≤ ts.length→turn.length ≤ 1→normal_maker_tier.j8 F (fun r66 r76=>some ((r66,r76,()),())) m (cl_normal_maker_tier_c1,wL a,m) (n:Int) turn =
   (some (((n:Int),turn ++ (if n < ts.length then [lessL a (tF (ts.getD n (0,0)))] else []).map wL,()),()):Option normal_maker_tier.sg.R):=fun n turn hn ht=>by
  unfold normal_maker_tier.j8
  rw [show m.1.2.2.2.2.1 = ts from hts]
  by_cases h:n < ts.length
  ·obtain ⟨e,hl⟩:=n_from F hs hts hr ha h
   have e':normal_maker_tier.d46 F (cl_normal_maker_tier_c1 + 1) ((n:Int),wL a,m,()) = _:=e
   rw [decide_eq_true (show (n:Int) < (ts.length:Int) by omega),if_pos h]
   simp only [cond_true]
   rw [e',oB_some,show Nat.ble (turn.length + [wL (lessL a (tF (ts.getD n (0,0))))].length) maxN = true from ble_of (by simp; omega)]
   rfl
  ·rw [decide_eq_false (show ¬ (n:Int) < (ts.length:Int) by omega),if_neg h]
   simp only [cond_false,List.map_nil,List.append_nil]
   rfl
 unfold normal_maker_tier.sh
 refine Eq.trans (n_tier_l3 F _ hq hts hr ha ts 0 F rfl (by omega)) ?_
 rw [Nat.zero_add]
 generalize cntT (valZ m.2.2 a q) ts = n at *
 unfold tsAt
 by_cases h0:n = 0
 ·subst h0
  rw [decide_eq_false (show ¬ ((0:Nat):Int) > 0 by omega),if_pos rfl]
  simp only [cond_false,List.nil_append]
  rw [hj8 0 [] (by omega) (by simp)]
  rfl
 ·obtain ⟨e,hl⟩:=n_from F hs hts hr ha (show n - 1 < ts.length by omega)
  have e':normal_maker_tier.d34 F (cl_normal_maker_tier_c1 + 1) (((n - 1:Nat):Int),wL a,m,()) = _:=e
  rw [decide_eq_true (show (n:Int) > 0 by omega),if_neg h0,wrap_i64 (n:=(n:Int) - 1) (by omega) (by omega),show (n:Int) - 1 = ((n - 1:Nat):Int) by omega]
  simp only [cond_true]
  rw [e',oB_some,show Nat.ble (0 + [wL (lessL a (tF (ts.getD (n - 1) (0,0))))].length) maxN = true from ble_of (by simp)]
  simp only [cond_true]
  rw [hj8 n _ hcl (by simp)]
  simp
theorem n_ways (F:Nat) {R:Type} (kk:List tLine.T→Int→List tLine.T→List tTier.T→Int→Int→Bool→tNormal_maker.T→tLine.T→tWide.T→Option R) (L:List tTier.T) (hL:L.length ≤ 16) (k:List tLine.T) (nn:Int) (turn:List tLine.T) (m:tNormal_maker.T) (r6:tLine.T) (K:Nat) :
  ∀ (n i fu:Nat) (xs:List tTier.T) (s lo:Int),L.drop i = xs→n < xs.length→n < fu→K = i + n→-1 ≤ lo→incT lo xs →
  -20000000000000000000000000 ≤ s - n * 1000000000000000000000000→s + n * 1000000000000000000000000 ≤ 20000000000000000000000000 →
  normal_maker_graduated.l7 F kk fu k nn turn L (K:Int) (i:Int) m r6 (mk s) = kk k nn turn L (K:Int) (K:Int) false m r6 (mk (s + wayT xs n))
 | n,i,0,xs,s,lo,h,hn,hf,hK,hlo,hi,b1,b2=>by omega
 | 0,i,fu + 1,xs,s,lo,h,hn,hf,hK,hlo,hi,b1,b2=>by
  have hKi:K = i:=by omega
  subst hKi
  simp only [normal_maker_graduated.l7,normal_maker_graduated.l7.body]
  rw [decide_eq_false (show ¬ (K:Int) < (K:Int) by omega)]
  have:wayT xs 0 = 0:=by cases xs with
   | nil=>rfl
   | cons a r=>cases r <;> rfl
  rw [this,Int.add_zero]
  rfl
 | n + 1,i,fu + 1,[],s,lo,h,hn,hf,hK,hlo,hi,b1,b2=>by simp at hn
 | n + 1,i,fu + 1,[a],s,lo,h,hn,hf,hK,hlo,hi,b1,b2=>by simp at hn
 | n + 1,i,fu + 1,a :: b :: r,s,lo,h,hn,hf,hK,hlo,hi,b1,b2=>by
  obtain ⟨a1,a2,a3,a4,a5⟩:=hi
  have ⟨c1,c2,c3,c4,c5⟩:=a5
  have h0:=rg_len h
  have h1:=rg_len (rg_next h)
  have hg:get tTier L ((i:Int)).toNat = a:=by rw [Int.toNat_natCast]; exact rg_get h
  have hg1:get tTier L (((i + 1:Nat):Int)).toNat = b:=by rw [Int.toNat_natCast]; exact rg_get (rg_next h)
  push_cast at b1 b2
  have hp:=abs_mul_bd (show -1000000000000 ≤ tR a by omega) (show tR a ≤ 1000000000000 by omega) (show -1000000000000 ≤ tF b - tF a by omega) (show tF b - tF a ≤ 1000000000000 by omega)
  have IH:=n_ways F kk L hL k nn turn m r6 K n (i + 1) fu (b :: r) (s + tR a * (tF b - tF a)) (tF a) (rg_next h) (by simp at hn ⊢; omega) (by omega) (by omega) (by omega) a5 (by omega) (by omega)
  have i1:inR (tR a * (tF b - tF a)) = true:=by rw [inR_iff]; omega
  have i2:inR s = true:=by rw [inR_iff]; omega
  have i3:inR (s + tR a * (tF b - tF a)) = true:=by rw [inR_iff]; omega
  simp only [normal_maker_graduated.l7,normal_maker_graduated.l7.body]
  rw [decide_eq_true (show (i:Int) < (K:Int) by omega),rg_idx h0,hg,wrap_i64 (n:=(i:Int) + 1) (by omega) (by omega),show (i:Int) + 1 = ((i + 1:Nat):Int) by omega,rg_idx h1,hg1]
  simp only [cond_true]
  rw [of_eq F (v:=tR a) (by omega) (by omega),oB_some,wrap_i64 (n:=tF b - tF a) (by omega) (by omega),of_eq F (v:=tF b - tF a) (by omega) (by omega),oB_some]
  rw [wmul_eq F (wf_mk (inR_i64 (by omega) (by omega))) (wf_mk (inR_i64 (by omega) (by omega))),oB_some,val_mk,val_mk,(res_in i1).1,add_eq F (wf_mk i2) (wf_mk i1),oB_some,val_mk,val_mk,(res_in i3).1]
  rw [IH,Int.add_assoc]
  rfl
theorem n_volume (F:Nat) (hF:20 < F) {m:tNormal_maker.T} {u:Int} (hm:m.2.1 = mk u) (hu:inR u = true) {q:Int} (hq:fitB m.2.2 q = true) {ts:List tTier.T} (hts:mT m = ts) (hr:risB ts = true) {a:LZ} (ha:spanZ m.2.2 a + 1000000000001 ≤ LIM)
  (h1:∀ n,n < ts.length→spanZ m.2.2 (scaleL a (tR (ts.getD n (0,0)))) ≤ LIM) (h2:∀ n,n < ts.length→spanZ m.2.2 (scaleL (scaleL a (tR (ts.getD n (0,0)))) u) ≤ LIM) :
  normal_maker_volume.sh F m [wL a] q = some ((wL (volL u a ts (cntT (valZ m.2.2 a q) ts)),(tsAt a ts (cntT (valZ m.2.2 a q) ts)).map wL,()),()):=by
 obtain ⟨l1,l2,l3⟩:=risB_inc hr
 have hcl:=cntT_le (valZ m.2.2 a q) ts
 have hs:=(fitB_iff.1 hq).1
 unfold normal_maker_volume.sh
 show oB (normal_maker_tier.sh F m (wL a) q) _ = _
 rw [n_tier F hF hq hts hr ha,oB_some]
 generalize cntT (valZ m.2.2 a q) ts = n at *
 unfold volL
 by_cases h0:n = 0
 ·subst h0; rfl
 ·have hn:n - 1 < ts.length:=by omega
  rw [if_neg h0,show (((n:Int)) == 0) = false by simp; omega]
  simp only [cond_false]
  obtain ⟨t1,t2,t3⟩:=incT_in ts (-1) l3 (n - 1) hn
  rw [wrap_i64 (n:=(n:Int) - 1) (by omega) (by omega),show (n:Int) - 1 = ((n - 1:Nat):Int) by omega,show m.1.2.2.2.2.1 = ts from hts,rg_idx hn,Int.toNat_natCast,show (get tTier ts (n - 1)).2 = tR (ts.getD (n - 1) (0,0)) from rfl]
  rw [show idx 0 ([wL a]:List tLine.T).length = true from rfl,show get tLine [wL a] 0 = wL a from rfl]
  simp only [cond_true]
  rw [of_eq F (by omega) (by omega),oB_some,lby_eq F hs (by omega) (inR_i64 (by omega) (by omega)) (h1 _ hn),oB_some,hm,lby_eq F hs (h1 _ hn) hu (h2 _ hn),oB_some]
where
 incT_in:∀ (l:List tTier.T) (lo:Int),incT lo l→∀ n,n < l.length→tF (l.getD n (0,0)) ≤ 1000000000000∧-1000000000000 ≤ tR (l.getD n (0,0))∧tR (l.getD n (0,0)) ≤ 1000000000000
 | [],lo,h,n,hn=>by simp at hn
 | a :: r,lo,h,0,hn=>by
  obtain ⟨a1,a2,a3,a4,a5⟩:=h
  exact ⟨a2,a3,a4⟩
 | a :: r,lo,h,n + 1,hn=>by
  obtain ⟨a1,a2,a3,a4,a5⟩:=h
  exact incT_in r (tF a) a5 n (by simpa using hn)
theorem n_graduated (F:Nat) (hF:20 < F) {m:tNormal_maker.T} {u:Int} (hm:m.2.1 = mk u) (hu:inR u = true) {q:Int} (hq:fitB m.2.2 q = true) {ts:List tTier.T} (hts:mT m = ts) (hr:risB ts = true) {a:LZ} (ha:spanZ m.2.2 a + 1000000000001 ≤ LIM)
  (h1:∀ n,n < ts.length→spanZ m.2.2 (scaleL (lessL a (tF (ts.getD n (0,0)))) (tR (ts.getD n (0,0)))) ≤ LIM)
  (h2:∀ n,n < ts.length→spanZ m.2.2 (addL (scaleL (lessL a (tF (ts.getD n (0,0)))) (tR (ts.getD n (0,0)))) (constL (wayT ts n))) ≤ LIM)
  (h3:∀ n,n < ts.length→spanZ m.2.2 (scaleL (addL (scaleL (lessL a (tF (ts.getD n (0,0)))) (tR (ts.getD n (0,0)))) (constL (wayT ts n))) u) ≤ LIM) :
  normal_maker_graduated.sh F m [wL a] q = some ((wL (gradL u a ts (cntT (valZ m.2.2 a q) ts)),(tsAt a ts (cntT (valZ m.2.2 a q) ts)).map wL,()),()):=by
 obtain ⟨l1,l2,l3⟩:=risB_inc hr
 have hcl:=cntT_le (valZ m.2.2 a q) ts
 have hs:=(fitB_iff.1 hq).1
 have hL:LIM = 85070591730234615865843651857942052864:=rfl
 unfold normal_maker_graduated.sh
 show oB (normal_maker_tier.sh F m (wL a) q) _ = _
 rw [n_tier F hF hq hts hr ha,oB_some]
 generalize cntT (valZ m.2.2 a q) ts = n at *
 unfold gradL
 by_cases h0:n = 0
 ·subst h0; rfl
 ·have hn:n - 1 < ts.length:=by omega
  rw [if_neg h0,show (((n:Int)) == 0) = false by simp; omega]
  simp only [cond_false]
  obtain ⟨t1,t2,t3⟩:=n_volume.incT_in ts (-1) l3 (n - 1) hn
  obtain ⟨i1,i2,i3⟩:=tier_in (by omega) l3 hn
  have hw:=wayT_bd ts (-1) (n - 1) (by omega) l3
  have hw2:=(waysS_bd ts (-1) (by omega) l3).2
  have hw3:waysS ts ≤ 16 * 1000000000000000000000000:=by
   have:(ts.length:Int) * 1000000000000000000000000 ≤ 16 * 1000000000000000000000000:=Int.mul_le_mul_of_nonneg_right (by omega) (by omega)
   omega
  have hls:=span_less hs a (tF (ts.getD (n - 1) (0,0)))
  rw [nA_of i1] at hls
  rw [wrap_i64 (n:=(n:Int) - 1) (by omega) (by omega),show (n:Int) - 1 = ((n - 1:Nat):Int) by omega,show m.1.2.2.2.2.1 = ts from hts]
  have hlp:=fun kk=>n_ways F (R:=normal_maker_graduated.sg.R) kk ts l2 [wL a] (n:Int) ((tsAt a ts n).map wL) m ((0,0),(0,0),0,0) (n - 1) (n - 1) 0 F ts 0 (-1) rfl hn (by omega) (by omega) (by omega) l3 (by omega) (by omega)
  rw [show ((0:Nat):Int) = 0 from rfl,zero_mk] at hlp
  rw [hlp]
  rw [wrap_i64 (n:=(n:Int) - 1) (by omega) (by omega),show (n:Int) - 1 = ((n - 1:Nat):Int) by omega,rg_idx hn,Int.toNat_natCast,show get tTier ts (n - 1) = ts.getD (n - 1) (0,0) from rfl,show idx 0 ([wL a]:List tLine.T).length = true from rfl,show get tLine [wL a] 0 = wL a from rfl]
  simp only [cond_true]
  have hw':nA (wayT ts (n - 1)) ≤ LIM:=by unfold nA; omega
  rw [of_eq F (v:=(ts.getD (n - 1) (0,0)).1) (show _ ≤ tF (ts.getD (n - 1) (0,0)) by omega) (show tF (ts.getD (n - 1) (0,0)) < _ by omega),oB_some,nconst_eq,oB_some,
   lsub_eq F hs (by omega) (by rw [span_const,nA_of i1]; show tF (ts.getD (n - 1) (0,0)) ≤ _; omega) (show spanZ m.2.2 (lessL a (tF (ts.getD (n - 1) (0,0)))) ≤ LIM by omega),oB_some,
   of_eq F (v:=(ts.getD (n - 1) (0,0)).2) (show -9223372036854775808 ≤ tR (ts.getD (n - 1) (0,0)) by omega) (show tR (ts.getD (n - 1) (0,0)) < _ by omega),oB_some]
  rw [show subL a (constL (ts.getD (n - 1) (0,0)).1) = lessL a (tF (ts.getD (n - 1) (0,0))) from rfl,lby_eq F hs (show spanZ m.2.2 (lessL a (tF (ts.getD (n - 1) (0,0)))) ≤ LIM by omega) (inR_i64 (show _ ≤ tR (ts.getD (n - 1) (0,0)) by omega) (show tR (ts.getD (n - 1) (0,0)) < _ by omega)) (h1 _ hn),oB_some]
  rw [Int.zero_add,nconst_eq,oB_some]
  rw [ladd_eq F hs (h1 _ hn) (by rw [span_const]; exact hw') (h2 _ hn),oB_some,hm,lby_eq F hs (h2 _ hn) hu (h3 _ hn),oB_some]
def fnOf (n:tNode.T):Nat :=
 bif nK n == 5 then fn_normal_maker_neg else bif nK n == 6 then fn_normal_maker_add else bif nK n == 7 then fn_normal_maker_sub else bif nK n == 8 then fn_normal_maker_mul
 else bif nK n == 9 then fn_normal_maker_least else bif nK n == 10 then fn_normal_maker_most else bif nK n == 11 then fn_normal_maker_over else bif nK n == 12 then fn_normal_maker_upto
 else bif nK n == 13 then fn_normal_maker_graduated else bif nK n == 14 then fn_normal_maker_volume else bif nK n == 15 then fn_normal_maker_off else fn_normal_maker_test
theorem choices_eq (F:Nat) {n:tNode.T} (hg:goodK n = true) (hk:kidsK n = true) (h5:5 ≤ nK n) (u:tWide.T) (s:Int):normal_maker_choices.sh F (n,u,s) = some (((fnOf n,(n,u,s)),(ar n:Int),()),()):=by
 have h9:∀ k:Int,(nK n = k)→(k = 9 ∨ k = 10)→(ar n:Int) = nC n:=by
  intro k h hkk
  rw [kids_of h] at hk
  have hk:(decide (nC n ≥ 2) && decide (nC n ≤ 16)) = true:=by rcases hkk with rfl | rfl <;> exact hk
  simp at hk
  have:ar n = (nC n).toNat:=by rw [ar_of h]; rcases hkk with rfl | rfl <;> rfl
  omega
 have e:∀ k:Int,nK n = k→normal_maker_choices.sh F (n,u,s) = normal_maker_choices.sh F ((k,n.2),u,s):=fun k h=>by
  rw [← h]
 unfold fnOf
 rcases kinds16 hg with h | h | h | h | h | h | h | h | h | h | h | h | h | h | h | h
 ·omega
 ·omega
 ·omega
 ·omega
 ·rw [ar_of h,e _ h,h]; rw [show n = (5,n.2) by rw [← h]]; rfl
 ·rw [ar_of h,e _ h,h]; rw [show n = (6,n.2) by rw [← h]]; rfl
 ·rw [ar_of h,e _ h,h]; rw [show n = (7,n.2) by rw [← h]]; rfl
 ·rw [ar_of h,e _ h,h]; rw [show n = (8,n.2) by rw [← h]]; rfl
 ·rw [h9 9 h (.inl rfl),e _ h,h]; rw [show n = (9,n.2) by rw [← h]]; rfl
 ·rw [h9 10 h (.inr rfl),e _ h,h]; rw [show n = (10,n.2) by rw [← h]]; rfl
 ·rw [ar_of h,e _ h,h]; rw [show n = (11,n.2) by rw [← h]]; rfl
 ·rw [ar_of h,e _ h,h]; rw [show n = (12,n.2) by rw [← h]]; rfl
 ·rw [ar_of h,e _ h,h]; rw [show n = (13,n.2) by rw [← h]]; rfl
 ·rw [ar_of h,e _ h,h]; rw [show n = (14,n.2) by rw [← h]]; rfl
 ·rw [ar_of h,e _ h,h]; rw [show n = (15,n.2) by rw [← h]]; rfl
 ·rw [ar_of h,e _ h,h]; rw [show n = (16,n.2) by rw [← h]]; rfl
def Made (F:Nat) (n:tNode.T) (u s:Int) (k:List LZ) (q:Int) (g:LZ×List LZ):Prop :=
 normal_maker_made.d99 F (fnOf n) ((n,mk u,s),k.map wL,q,()) = some ((wL g.1,g.2.map wL,()),())
theorem bnd_lim {A:Int} (h:A ≤ BND):A + 1000000000001 ≤ LIM:=by
 have hBND:BND = 1329227995784915872903807060280344576:=rfl
 have hLIM:LIM = 85070591730234615865843651857942052864:=rfl
 omega
theorem scaleM_in {s A u:Int} (hs:1 ≤ s) (hu:1 ≤ u) {a:LZ} (ha:spanZ s a ≤ A) (hA:0 ≤ A) {ts:List tTier.T} (hr:risB ts = true) (hb:scaleM u A ts ≤ BND) :
  (∀ n,n < ts.length→spanZ s (scaleL a (tR (ts.getD n (0,0)))) ≤ LIM∧spanZ s (scaleL (scaleL a (tR (ts.getD n (0,0)))) u) ≤ LIM) ∧
  (∀ n,n < ts.length→spanZ s (scaleL (lessL a (tF (ts.getD n (0,0)))) (tR (ts.getD n (0,0)))) ≤ LIM∧spanZ s (addL (scaleL (lessL a (tF (ts.getD n (0,0)))) (tR (ts.getD n (0,0)))) (constL (wayT ts n))) ≤ LIM ∧
   spanZ s (scaleL (addL (scaleL (lessL a (tF (ts.getD n (0,0)))) (tR (ts.getD n (0,0)))) (constL (wayT ts n))) u) ≤ LIM):=by
 obtain ⟨l1,l2,l3⟩:=risB_inc hr
 have hlf:=lastF_bd ts (-1) (by omega) l3
 have hr0:=(rateM_ge ts 0).1
 have hm0:=Int.mul_nonneg hr0 (show 0 ≤ A + lastF ts by omega)
 have hw0:=(waysS_bd ts (-1) (by omega) l3).1
 have hBND:BND = 1329227995784915872903807060280344576:=rfl
 have hLIM:LIM = 85070591730234615865843651857942052864:=rfl
 unfold scaleM at hb
 have hT:=mul_ge hu (show 0 ≤ rateM 0 ts * (A + lastF ts) + waysS ts by omega)
 refine ⟨fun n hn=>?_,fun n hn=>?_⟩
 ·obtain ⟨i1,i2,i3⟩:=tier_in (by omega) l3 hn
  have h4:=Int.mul_le_mul (show spanZ s a ≤ A + lastF ts by omega) i3 (nA_nn _) (by omega)
  rw [Int.mul_comm (A + lastF ts)] at h4
  rw [span_scale,span_scale,nA_of (show 0 ≤ u by omega)]
  have h5:=Int.mul_le_mul_of_nonneg_right (show spanZ s a * nA (tR (ts.getD n (0,0))) ≤ rateM 0 ts * (A + lastF ts) + waysS ts by omega) (show 0 ≤ u by omega)
  rw [Int.mul_comm _ u] at h5
  have h6:spanZ s (scaleL a (tR (ts.getD n (0,0)))) * u = spanZ s a * nA (tR (ts.getD n (0,0))) * u:=by rw [span_scale]
  rw [span_scale]
  rw [Int.mul_comm u] at h5 hb
  rw [Int.mul_comm u] at hT
  omega
 ·obtain ⟨i1,i2,i3⟩:=tier_in (by omega) l3 hn
  have hw:=wayT_bd ts (-1) n (by omega) l3
  have h2:=span_less hs a (tF (ts.getD n (0,0)))
  rw [nA_of i1] at h2
  have h3:nA (wayT ts n) ≤ waysS ts:=by unfold nA; omega
  have h4:=Int.mul_le_mul (show spanZ s (lessL a (tF (ts.getD n (0,0)))) ≤ A + lastF ts by omega) i3 (nA_nn _) (by omega)
  rw [Int.mul_comm (A + lastF ts)] at h4
  have h1:=span_add hs (scaleL (lessL a (tF (ts.getD n (0,0)))) (tR (ts.getD n (0,0)))) (constL (wayT ts n))
  rw [span_const] at h1
  have e0:=span_scale s (lessL a (tF (ts.getD n (0,0)))) (tR (ts.getD n (0,0)))
  have e1:=span_scale s (addL (scaleL (lessL a (tF (ts.getD n (0,0)))) (tR (ts.getD n (0,0)))) (constL (wayT ts n))) u
  rw [nA_of (show 0 ≤ u by omega)] at e1
  have h5:=Int.mul_le_mul_of_nonneg_right (show spanZ s (addL (scaleL (lessL a (tF (ts.getD n (0,0)))) (tR (ts.getD n (0,0)))) (constL (wayT ts n))) ≤ rateM 0 ts * (A + lastF ts) + waysS ts by omega) (show 0 ≤ u by omega)
  rw [Int.mul_comm u] at hb hT
  omega
theorem ch1 {u s:Int} (hu:1 ≤ u) (hu2:inR u = true) {dims pile:Nat} (hd:dims ≤ 4) {n:tNode.T} (hn:nodeE dims n pile = 0) (hk:nK n = 5 ∨ nK n = 11 ∨ nK n = 12 ∨ nK n = 13 ∨ nK n = 14 ∨ nK n = 15)
  {a:LZ} {A:Int} (ha:spanZ s a ≤ A) (hA:0 ≤ A) (hb:A ≤ BND) {D:List tDim.T} (hfar:farN n (magN u D n [A]) ≤ BND) (hoff:nK n = 15→∃ z,a = scaleL z 10000) {q:Int} (hq:fitB s q = true) :
  Got s (magN u D n [A]) (fun x=>evN u D [x] n [valZ s a x]) q (chZ n u s [a] q)∧∀ F,300 < F→Made F n u s [a] q (chZ n u s [a] q):=by
 obtain ⟨g1,g2,g3,g4,g5,g6,g7,g8⟩:=nodeE_ok hn
 have hN2:=most_le hd g3 g1
 have hs:=(fitB_iff.1 hq).1
 have hlim:=bnd_lim hb
 have hBND:BND = 1329227995784915872903807060280344576:=rfl
 have hLIM:LIM = 85070591730234615865843651857942052864:=rfl
 have hm:mN (n,mk u,s) = nN n:=rfl
 rcases hk with h | h | h | h | h | h
 ·have e:chZ n u s [a] q = (subL z0 a,[]):=by unfold chZ; rw [h]; rfl
  have em:magN u D n [A] = A:=by unfold magN; rw [h]; simp [sumL]
  have ev:∀ x,evN u D [x] n [valZ s a x] = 0 - valZ s a x:=fun x=>by unfold evN; rw [h]; rfl
  have ef:fnOf n = fn_normal_maker_neg:=by unfold fnOf; rw [h]; rfl
  rw [e,em]
  simp only [ev]
  refine ⟨got_neg hs ha q,fun F hF=>?_⟩
  unfold Made
  rw [ef]
  exact n_neg F (m:=(n,mk u,s)) hs (by show spanZ s a ≤ _; omega) q
 ·have e:chZ n u s [a] q = ((bif abvZ s (lessL a (nN n)) q then lessL a (nN n) else z0),[lessL a (nN n)]):=by unfold chZ; rw [h]; rfl
  have em:magN u D n [A] = A + nN n:=by unfold magN; rw [h]; simp [sumL]
  have ev:∀ x,evN u D [x] n [valZ s a x] = maxL [0,valZ s a x - nN n]:=fun x=>by unfold evN; rw [h]; rfl
  have ef:fnOf n = fn_normal_maker_over:=by unfold fnOf; rw [h]; rfl
  rw [e,em]
  simp only [ev]
  refine ⟨got_over hs ha g2 hA (by omega) q,fun F hF=>?_⟩
  unfold Made
  rw [ef]
  exact n_over F (m:=(n,mk u,s)) hq g2 hN2 (by show spanZ s a + _ ≤ _; omega)
 ·have e:chZ n u s [a] q = ((bif abvZ s (lessL a (nN n)) q then constL (nN n) else a),[lessL a (nN n)]):=by unfold chZ; rw [h]; rfl
  have em:magN u D n [A] = A + nN n:=by unfold magN; rw [h]; simp [sumL]
  have ev:∀ x,evN u D [x] n [valZ s a x] = minL [nN n,valZ s a x]:=fun x=>by unfold evN; rw [h]; rfl
  have ef:fnOf n = fn_normal_maker_upto:=by unfold fnOf; rw [h]; rfl
  rw [e,em]
  simp only [ev]
  refine ⟨got_upto hs ha g2 hA (by omega) q,fun F hF=>?_⟩
  unfold Made
  rw [ef]
  exact n_upto F (m:=(n,mk u,s)) hq g2 hN2 (by show spanZ s a + _ ≤ _; omega)
 ·have hr:=g8 (by unfold tierB asks; rw [h]; rfl)
  have e:chZ n u s [a] q = (gradL u a (nT n) (cntT (valZ s a q) (nT n)),tsAt a (nT n) (cntT (valZ s a q) (nT n))):=by unfold chZ; rw [h]; rfl
  have em:magN u D n [A] = scaleM u A (nT n):=by unfold magN; rw [h]; rfl
  have ev:∀ x,evN u D [x] n [valZ s a x] = u * grad (valZ s a x) (nT n):=fun x=>by unfold evN; rw [h]; rfl
  have ef:fnOf n = fn_normal_maker_graduated:=by unfold fnOf; rw [h]; rfl
  have hf:scaleM u A (nT n) ≤ BND:=by rw [em] at hfar; unfold farN at hfar; rw [h] at hfar; exact hfar
  have hin:=(scaleM_in hs hu ha hA hr hf).2
  rw [e,em]
  simp only [ev]
  refine ⟨got_grad hs hu ha hA hb hr q,fun F hF=>?_⟩
  unfold Made
  rw [ef]
  exact n_graduated F (by omega) (m:=(n,mk u,s)) rfl hu2 hq rfl hr (by show spanZ s a + _ ≤ _; omega) (fun n hn=>(hin n hn).1) (fun n hn=>(hin n hn).2.1) (fun n hn=>(hin n hn).2.2)
 ·have hr:=g8 (by unfold tierB asks; rw [h]; rfl)
  have e:chZ n u s [a] q = (volL u a (nT n) (cntT (valZ s a q) (nT n)),tsAt a (nT n) (cntT (valZ s a q) (nT n))):=by unfold chZ; rw [h]; rfl
  have em:magN u D n [A] = scaleM u A (nT n):=by unfold magN; rw [h]; rfl
  have ev:∀ x,evN u D [x] n [valZ s a x] = u * vol (valZ s a x) (nT n):=fun x=>by unfold evN; rw [h]; rfl
  have ef:fnOf n = fn_normal_maker_volume:=by unfold fnOf; rw [h]; rfl
  have hf:scaleM u A (nT n) ≤ BND:=by rw [em] at hfar; unfold farN at hfar; rw [h] at hfar; exact hfar
  have hin:=(scaleM_in hs hu ha hA hr hf).1
  rw [e,em]
  simp only [ev]
  refine ⟨got_vol hs hu ha hA hb hr q,fun F hF=>?_⟩
  unfold Made
  rw [ef]
  exact n_volume F (by omega) (m:=(n,mk u,s)) rfl hu2 hq rfl hr (by show spanZ s a + _ ≤ _; omega) (fun n hn=>(hin n hn).1) (fun n hn=>(hin n hn).2)
 ·have e:chZ n u s [a] q = (offL (nN n) a,[]):=by unfold chZ; rw [h]; rfl
  have em:magN u D n [A] = A:=by unfold magN; rw [h]; rfl
  have ev:∀ x,evN u D [x] n [valZ s a x] = divM 2 (valZ s a x * (10000 - nN n)) 10000:=fun x=>by unfold evN; rw [h]; rfl
  have ef:fnOf n = fn_normal_maker_off:=by unfold fnOf; rw [h]; rfl
  have hf:A * 10000 ≤ BND:=by rw [em] at hfar; unfold farN at hfar; rw [h] at hfar; exact hfar
  rw [most_of h] at g3
  have g3:nN n ≤ 10000:=g3
  rw [e,em]
  simp only [ev]
  refine ⟨got_off hs ha g2 g3 (hoff h) q,fun F hF=>?_⟩
  unfold Made
  rw [ef]
  exact n_off F (by omega) (m:=(n,mk u,s)) hs g2 g3 (by show spanZ s a * _ ≤ _; omega) q
theorem ch2 {u s:Int} {dims pile:Nat} (hd:dims ≤ 4) {n:tNode.T} (hn:nodeE dims n pile = 0) (hk:nK n = 6 ∨ nK n = 7 ∨ nK n = 8)
  {a b:LZ} {A B:Int} (ha:spanZ s a ≤ A) (hb:spanZ s b ≤ B) (hA:A ≤ BND) (hB:B ≤ BND) {D:List tDim.T} (hfar:farN n (magN u D n [A,B]) ≤ BND) (hmul:nK n = 8→a = constL a.1 ∨ b = constL b.1) {q:Int} (hq:fitB s q = true) :
  Got s (magN u D n [A,B]) (fun x=>evN u D [x] n [valZ s a x,valZ s b x]) q (chZ n u s [a,b] q)∧∀ F,300 < F→Made F n u s [a,b] q (chZ n u s [a,b] q):=by
 have hs:=(fitB_iff.1 hq).1
 have hBND:BND = 1329227995784915872903807060280344576:=rfl
 have hLIM:LIM = 85070591730234615865843651857942052864:=rfl
 rcases hk with h | h | h
 ·have e:chZ n u s [a,b] q = (addL a b,[]):=by unfold chZ; rw [h]; rfl
  have em:magN u D n [A,B] = A + B:=by unfold magN; rw [h]; simp [sumL]
  have ev:∀ x,evN u D [x] n [valZ s a x,valZ s b x] = valZ s a x + valZ s b x:=fun x=>by unfold evN; rw [h]; rfl
  have ef:fnOf n = fn_normal_maker_add:=by unfold fnOf; rw [h]; rfl
  rw [e,em]
  simp only [ev]
  have hg:=got_add hs ha hb q
  refine ⟨hg,fun F hF=>?_⟩
  unfold Made
  rw [ef]
  exact n_add F (m:=(n,mk u,s)) hs (by show spanZ s a ≤ _; omega) (by show spanZ s b ≤ _; omega) (by have:=hg.1; show spanZ s (addL a b) ≤ _; simp only at this; omega) q
 ·have e:chZ n u s [a,b] q = (subL a b,[]):=by unfold chZ; rw [h]; rfl
  have em:magN u D n [A,B] = A + B:=by unfold magN; rw [h]; simp [sumL]
  have ev:∀ x,evN u D [x] n [valZ s a x,valZ s b x] = valZ s a x - valZ s b x:=fun x=>by unfold evN; rw [h]; rfl
  have ef:fnOf n = fn_normal_maker_sub:=by unfold fnOf; rw [h]; rfl
  rw [e,em]
  simp only [ev]
  have hg:=got_sub hs ha hb q
  refine ⟨hg,fun F hF=>?_⟩
  unfold Made
  rw [ef]
  exact n_sub F (m:=(n,mk u,s)) hs (by show spanZ s a ≤ _; omega) (by show spanZ s b ≤ _; omega) (by have:=hg.1; show spanZ s (subL a b) ≤ _; simp only at this; omega) q
 ·have e:chZ n u s [a,b] q = ((if a = constL a.1 then scaleL b a.1 else scaleL a b.1),[]):=by unfold chZ; rw [h]; rfl
  have em:magN u D n [A,B] = A * B:=by unfold magN; rw [h]; rfl
  have ev:∀ x,evN u D [x] n [valZ s a x,valZ s b x] = valZ s a x * valZ s b x:=fun x=>by unfold evN; rw [h]; rfl
  have ef:fnOf n = fn_normal_maker_mul:=by unfold fnOf; rw [h]; rfl
  have hf:A * B ≤ BND:=by rw [em] at hfar; unfold farN at hfar; rw [h] at hfar; exact hfar
  rw [e,em]
  simp only [ev]
  have hg:=got_mul hs ha hb (hmul h) q
  refine ⟨hg,fun F hF=>?_⟩
  unfold Made
  rw [ef]
  exact n_mul F (m:=(n,mk u,s)) hs (by show spanZ s a ≤ _; omega) (by show spanZ s b ≤ _; omega) (by have:=hg.1; show spanZ s (if a = constL a.1 then scaleL b a.1 else scaleL a b.1) ≤ _; simp only at this; omega) q
def bestZ (n:tNode.T) (x y:Int):Int:=bif nK n == 9 then (if y < x then y else x) else if y > x then y else x
theorem ch2m {u s:Int} {n:tNode.T} (hk:nK n = 9 ∨ nK n = 10) {a b:LZ} {A B:Int} (ha:spanZ s a ≤ A) (hb:spanZ s b ≤ B) (hA:0 ≤ A) (hB:0 ≤ B) (hL:A + B ≤ BND) {q:Int} (hq:fitB s q = true) :
  Got s (A + B) (fun x=>bestZ n (valZ s a x) (valZ s b x)) q (chZ n u s [a,b] q)∧((chZ n u s [a,b] q).1 = a ∨ (chZ n u s [a,b] q).1 = b)∧∀ F,300 < F→Made F n u s [a,b] q (chZ n u s [a,b] q):=by
 have hs:=(fitB_iff.1 hq).1
 have hBND:BND = 1329227995784915872903807060280344576:=rfl
 have hLIM:LIM = 85070591730234615865843651857942052864:=rfl
 have h1:=span_sub hs a b
 have h2:=span_sub hs b a
 rcases hk with h | h
 ·have e:chZ n u s [a,b] q = ((bif abvZ s (subL a b) q then b else a),[subL a b]):=by unfold chZ; rw [h]; rfl
  have ev:∀ x y,bestZ n x y = if y < x then y else x:=fun x y=>by unfold bestZ; rw [h]; rfl
  have ef:fnOf n = fn_normal_maker_least:=by unfold fnOf; rw [h]; rfl
  rw [e]
  simp only [ev]
  refine ⟨got_min hs ha hb hA hB (by omega) q,by cases abvZ s (subL a b) q <;> simp,fun F hF=>?_⟩
  unfold Made
  rw [ef]
  exact n_least F (m:=(n,mk u,s)) hq (by show spanZ s a ≤ _; omega) (by show spanZ s b ≤ _; omega) (by show spanZ s (subL a b) ≤ _; omega)
 ·have e:chZ n u s [a,b] q = ((bif abvZ s (subL b a) q then b else a),[subL b a]):=by unfold chZ; rw [h]; rfl
  have ev:∀ x y,bestZ n x y = if y > x then y else x:=fun x y=>by unfold bestZ; rw [h]; rfl
  have ef:fnOf n = fn_normal_maker_most:=by unfold fnOf; rw [h]; rfl
  rw [e]
  simp only [ev]
  refine ⟨got_max hs ha hb hA hB (by omega) q,by cases abvZ s (subL b a) q <;> simp,fun F hF=>?_⟩
  unfold Made
  rw [ef]
  exact n_most F (m:=(n,mk u,s)) hq (by show spanZ s a ≤ _; omega) (by show spanZ s b ≤ _; omega) (by show spanZ s (subL b a) ≤ _; omega)
theorem ch3 {u s:Int} {dims pile:Nat} (hd:dims ≤ 4) {n:tNode.T} (hn:nodeE dims n pile = 0) (h:nK n = 16) {a b c:LZ} {A B C:Int} (ha:spanZ s a ≤ A) (hb:spanZ s b ≤ B) (hc:spanZ s c ≤ C) (hA:0 ≤ A) (hB:0 ≤ B) (hC:0 ≤ C) (hL:A ≤ BND) {D:List tDim.T} {q:Int} (hq:fitB s q = true) :
  Got s (magN u D n [A,B,C]) (fun x=>evN u D [x] n [valZ s a x,valZ s b x,valZ s c x]) q (chZ n u s [a,b,c] q)∧((chZ n u s [a,b,c] q).1 = b ∨ (chZ n u s [a,b,c] q).1 = c)∧∀ F,300 < F→Made F n u s [a,b,c] q (chZ n u s [a,b,c] q):=by
 obtain ⟨g1,g2,g3,g4,g5,g6,g7,g8⟩:=nodeE_ok hn
 have hN2:=most_le hd g3 g1
 have hs:=(fitB_iff.1 hq).1
 have hlim:=bnd_lim hL
 have e:chZ n u s [a,b,c] q = ((bif holdB (nO n) (valZ s a q) (nN n) then b else c),[lessL a (nN n),lessL a (nN n - 1)]):=by unfold chZ; rw [h]; rfl
 have em:magN u D n [A,B,C] = A + (B + C) + nN n:=by unfold magN; rw [h]; simp [sumL]
 have ev:∀ x,evN u D [x] n [valZ s a x,valZ s b x,valZ s c x] = bif holdB (nO n) (valZ s a x) (nN n) then valZ s b x else valZ s c x:=fun x=>by unfold evN; rw [h]; rfl
 have ef:fnOf n = fn_normal_maker_test:=by unfold fnOf; rw [h]; rfl
 have ho:1 ≤ nO n∧nO n ≤ 6:=by
  unfold opB asks at g5
  rw [h] at g5
  have g5:(decide (nO n ≥ 1) && decide (nO n ≤ 6)) = true:=g5
  simp at g5
  omega
 rw [e,em]
 simp only [ev]
 refine ⟨got_test hs ha hb hc g2 hA hB hC (by omega) (nO n) q,by cases holdB (nO n) (valZ s a q) (nN n) <;> simp,fun F hF=>?_⟩
 unfold Made
 rw [ef]
 exact n_test F (m:=(n,mk u,s)) hq g2 hN2 ho.1 ho.2 b c (by show spanZ s a + _ ≤ _; omega)
def QT (S:Int) (t:Tree) (l:LZ):Prop:=(noQ t = true→l = constL l.1)∧(ty t = 1→∃ z,l = scaleL z (10000 ^ (S - deep t).toNat))
theorem noQ_kid {n:tNode.T} {ks:List Tree} (h:noQ (.nd n ks) = true):isQ n = false∧∀ k ∈ ks,noQ k = true:=by
 unfold noQ at h ⊢
 rw [flat_nd,List.all_append,Bool.and_eq_true] at h
 refine ⟨by simpa using h.2,fun k hk=>?_⟩
 refine List.all_eq_true.2 fun x hx=>List.all_eq_true.1 h.1 x ?_
 unfold flats
 exact List.mem_flatten.2 ⟨k.flat,List.mem_map_of_mem hk,hx⟩
theorem QT.div {S:Int} {k:Tree} {l:LZ} (h:QT S k l) (ht:ty k = 1) {e:Int} (h1:deep k ≤ e) (h2:e ≤ S):∃ z,l = scaleL z (10000 ^ (S - e).toNat):=by
 obtain ⟨z,hz⟩:=h.2 ht
 have h0:=(deep_bd k).1
 refine ⟨scaleL z (10000 ^ (e - deep k).toNat),?_⟩
 rw [hz,scale_scale,← Int.pow_add,show (e - deep k).toNat + (S - e).toNat = (S - deep k).toNat by omega]
theorem QT.up {S:Int} {n:tNode.T} {ks:List Tree} {k:Tree} {l:LZ} (h:QT S k l) (hk:k ∈ ks) (hS:deep (.nd n ks) ≤ S) (ht:ty (.nd n ks) = 1→ty k = 1):QT S (.nd n ks) l:=by
 have h1:=(deep_kid hk).2
 have h2:=deep_top n ks
 exact ⟨fun hq=>h.1 ((noQ_kid hq).2 k hk),fun h1'=>h.div (ht h1') (by omega) hS⟩
theorem scale_comm (z:LZ) (a b:Int):scaleL (scaleL z a) b = scaleL (scaleL z b) a:=by rw [scale_scale,scale_scale,Int.mul_comm]
theorem scale_z0 (a:Int):scaleL z0 a = z0:=by simp [scaleL]
theorem less_const (v N:Int):lessL (constL v) N = constL (v - N):=by simp [lessL,subL,constL]
theorem scale_const (v k:Int):scaleL (constL v) k = constL (v * k):=by simp [scaleL,constL]
theorem add_const (v w:Int):addL (constL v) (constL w) = constL (v + w):=by simp [addL,constL]
theorem sub_const (v w:Int):subL (constL v) (constL w) = constL (v - w):=by simp [subL,constL]
theorem add_scale (x y:LZ) (P:Int):addL (scaleL x P) (scaleL y P) = scaleL (addL x y) P:=by simp only [addL,scaleL,Int.add_mul]
theorem sub_scale (x y:LZ) (P:Int):subL (scaleL x P) (scaleL y P) = scaleL (subL x y) P:=by simp only [subL,scaleL,Int.sub_mul]
theorem off_const (N v:Int):offL N (constL v) = constL (offP N v):=by
 have:=offP_scale N 0
 simp only [Int.zero_mul] at this
 simp [offL,constL,this]
theorem is_const {l:LZ} {v:Int} (h:l = constL v):l = constL l.1:=by rw [h]; rfl
theorem ty15 {n:tNode.T} {k:Tree} (h:nK n = 15) (hty:ty (.nd n [k]) ≠ -1):ty k = 1:=by
 have hx:ty (.nd n [k]) = (bif ty k == 1 then (1:Int) else -1):=by rw [ty_nd]; unfold tyN; rw [h]; rfl
 cases hta:(ty k == 1) with
 | true=>simpa using hta
 | false=>rw [hx,hta] at hty; exact absurd rfl hty
theorem off_ten {S:Int} {n:tNode.T} {k:Tree} {a:LZ} (h:nK n = 15) (hty:ty (.nd n [k]) ≠ -1) (hS:deep (.nd n [k]) ≤ S) (ha:QT S k a) :
  ty k = 1∧∃ z,a = scaleL z (10000 ^ (S - deep (.nd n [k])).toNat * 10000):=by
 have h1:=ty15 h hty
 have hdn:=deep_nd n [k]
 rw [h] at hdn
 have hdn:deep (.nd n [k]) = deep k + 1:=by rw [hdn]; rfl
 obtain ⟨z,hz⟩:=ha.div h1 (e:=deep (.nd n [k]) - 1) (by omega) (by omega)
 refine ⟨h1,z,?_⟩
 rw [hz,show (S - (deep (.nd n [k]) - 1)).toNat = (S - deep (.nd n [k])).toNat + 1 by omega,Int.pow_succ]
theorem q1 {S u:Int} (hS0:0 ≤ S) (hu:u = 10000 ^ S.toNat) {n:tNode.T} (hk:nK n = 5 ∨ nK n = 11 ∨ nK n = 12 ∨ nK n = 13 ∨ nK n = 14 ∨ nK n = 15) {k:Tree} (hS:deep (.nd n [k]) ≤ S) (hty:ty (.nd n [k]) ≠ -1) {a:LZ} (ha:QT S k a) (s q:Int):QT S (.nd n [k]) (chZ n u s [a] q).1:=by
 have hd0:=(deep_bd (.nd n [k])).1
 have hup:u = 10000 ^ (deep (.nd n [k])).toNat * 10000 ^ (S - deep (.nd n [k])).toNat:=by
  rw [hu,← Int.pow_add]; congr 1; omega
 have hc:noQ (.nd n [k]) = true→a = constL a.1:=fun h=>ha.1 ((noQ_kid h).2 k (by simp))
 have hno:∀ x:Int,(nK n = 11 ∨ nK n = 12)→¬ ty (.nd n [k]) = 1:=fun x h h1=>by
  have:ty (.nd n [k]) = bif cntB (ty k) then ty k else -1:=by rw [ty_nd]; unfold tyN; rcases h with h | h <;> rw [h] <;> rfl
  rw [this] at h1
  cases hcc:cntB (ty k) with
  | false=>rw [hcc] at h1; exact absurd (show (-1:Int) = 1 from h1) (by decide)
  | true=>rw [hcc] at h1; unfold cntB at hcc; have:=of_decide_eq_true hcc; simp only [cond_true] at h1; omega
 rcases hk with h | h | h | h | h | h
 ·have e:chZ n u s [a] q = (subL z0 a,[]):=by unfold chZ; rw [h]; rfl
  rw [e]
  refine ⟨fun hq=>?_,fun h1=>?_⟩
  ·rw [hc hq]; exact is_const (v:=0 - a.1) (sub_const 0 a.1)
  ·have h1k:ty k = 1:=by
    have ho:oneL ([k].map ty) = 1:=by rw [← h1,ty_nd]; unfold tyN; rw [h]; rfl
    exact oneL_one ho (ty k) (by simp)
   obtain ⟨z,hz⟩:=(ha.up (n:=n) (ks:=[k]) (by simp) hS (fun _=>h1k)).2 h1
   refine ⟨subL z0 z,?_⟩
   show subL z0 a = _
   rw [hz]
   conv=>lhs; rw [← scale_z0 (10000 ^ (S - deep (.nd n [k])).toNat)]
   exact sub_scale _ _ _
 ·have e:chZ n u s [a] q = ((bif abvZ s (lessL a (nN n)) q then lessL a (nN n) else z0),[lessL a (nN n)]):=by unfold chZ; rw [h]; rfl
  rw [e]
  refine ⟨fun hq=>?_,fun h1=>absurd h1 (hno 0 (.inl h))⟩
  rw [hc hq,less_const]
  cases abvZ s (constL (a.1 - nN n)) q <;> rfl
 ·have e:chZ n u s [a] q = ((bif abvZ s (lessL a (nN n)) q then constL (nN n) else a),[lessL a (nN n)]):=by unfold chZ; rw [h]; rfl
  rw [e]
  refine ⟨fun hq=>?_,fun h1=>absurd h1 (hno 0 (.inr h))⟩
  rw [hc hq,less_const]
  cases abvZ s (constL (a.1 - nN n)) q <;> rfl
 ·have e:chZ n u s [a] q = (gradL u a (nT n) (cntT (valZ s a q) (nT n)),tsAt a (nT n) (cntT (valZ s a q) (nT n))):=by unfold chZ; rw [h]; rfl
  rw [e]
  show (_→gradL u a (nT n) (cntT (valZ s a q) (nT n)) = constL (gradL u a (nT n) (cntT (valZ s a q) (nT n))).1)∧(_→∃ z,gradL u a (nT n) (cntT (valZ s a q) (nT n)) = _)
  generalize cntT (valZ s a q) (nT n) = i
  unfold gradL
  refine ⟨fun hq=>?_,fun h1=>?_⟩
  ·rw [hc hq]
   split
   ·rfl
   ·rw [less_const,scale_const,add_const,scale_const]; rfl
  ·split
   ·exact ⟨z0,(scale_z0 _).symm⟩
   ·rw [hup,← scale_scale]; exact ⟨_,rfl⟩
 ·have e:chZ n u s [a] q = (volL u a (nT n) (cntT (valZ s a q) (nT n)),tsAt a (nT n) (cntT (valZ s a q) (nT n))):=by unfold chZ; rw [h]; rfl
  rw [e]
  show (_→volL u a (nT n) (cntT (valZ s a q) (nT n)) = constL (volL u a (nT n) (cntT (valZ s a q) (nT n))).1)∧(_→∃ z,volL u a (nT n) (cntT (valZ s a q) (nT n)) = _)
  generalize cntT (valZ s a q) (nT n) = i
  unfold volL
  refine ⟨fun hq=>?_,fun h1=>?_⟩
  ·rw [hc hq]
   split
   ·rfl
   ·rw [scale_const,scale_const]; rfl
  ·split
   ·exact ⟨z0,(scale_z0 _).symm⟩
   ·rw [hup,← scale_scale]; exact ⟨_,rfl⟩
 ·have e:chZ n u s [a] q = (offL (nN n) a,[]):=by unfold chZ; rw [h]; rfl
  rw [e]
  refine ⟨fun hq=>?_,fun h1=>?_⟩
  ·rw [hc hq,off_const]; rfl
  ·obtain ⟨_,z,hz⟩:=off_ten h hty hS ha
   refine ⟨scaleL z (10000 - nN n),?_⟩
   show offL (nN n) a = _
   rw [hz,← scale_scale,offL_scale,scale_comm]
theorem q2 {S u:Int} {n:tNode.T} (hk:nK n = 6 ∨ nK n = 7 ∨ nK n = 8) {k k':Tree} (hS:deep (.nd n [k,k']) ≤ S) {a b:LZ} (ha:QT S k a) (hb:QT S k' b) (s q:Int):QT S (.nd n [k,k']) (chZ n u s [a,b] q).1:=by
 have hc:noQ (.nd n [k,k']) = true→a = constL a.1∧b = constL b.1:=fun h=>⟨ha.1 ((noQ_kid h).2 k (by simp)),hb.1 ((noQ_kid h).2 k' (by simp))⟩
 have hda:=fun h1:ty k = 1=>ha.div h1 (e:=deep (.nd n [k,k'])) (by have:=(deep_kid (ks:=[k,k']) (k:=k) (by simp)).2; have:=deep_top n [k,k']; omega) hS
 have hdb:=fun h1:ty k' = 1=>hb.div h1 (e:=deep (.nd n [k,k'])) (by have:=(deep_kid (ks:=[k,k']) (k:=k') (by simp)).2; have:=deep_top n [k,k']; omega) hS
 rcases hk with h | h | h
 ·have e:chZ n u s [a,b] q = (addL a b,[]):=by unfold chZ; rw [h]; rfl
  rw [e]
  refine ⟨fun hq=>?_,fun h1=>?_⟩
  ·obtain ⟨c1,c2⟩:=hc hq
   rw [c1,c2,add_const]; rfl
  ·have ho:oneL ([k,k'].map ty) = 1:=by rw [← h1,ty_nd]; unfold tyN; rw [h]; rfl
   obtain ⟨x,hx⟩:=hda (oneL_one ho (ty k) (by simp))
   obtain ⟨y,hy⟩:=hdb (oneL_one ho (ty k') (by simp))
   exact ⟨addL x y,by show addL a b = _; rw [hx,hy,add_scale]⟩
 ·have e:chZ n u s [a,b] q = (subL a b,[]):=by unfold chZ; rw [h]; rfl
  rw [e]
  refine ⟨fun hq=>?_,fun h1=>?_⟩
  ·obtain ⟨c1,c2⟩:=hc hq
   rw [c1,c2,sub_const]; rfl
  ·have ho:oneL ([k,k'].map ty) = 1:=by rw [← h1,ty_nd]; unfold tyN; rw [h]; rfl
   obtain ⟨x,hx⟩:=hda (oneL_one ho (ty k) (by simp))
   obtain ⟨y,hy⟩:=hdb (oneL_one ho (ty k') (by simp))
   exact ⟨subL x y,by show subL a b = _; rw [hx,hy,sub_scale]⟩
 ·have e:chZ n u s [a,b] q = ((if a = constL a.1 then scaleL b a.1 else scaleL a b.1),[]):=by unfold chZ; rw [h]; rfl
  rw [e]
  have hdv:∀ (x:LZ) (P y1:Int) (y z:LZ),(x = scaleL z P ∨ (y = scaleL z P∧y1 = y.1))→∃ w,scaleL x y1 = scaleL w P:=fun x P y1 y z hxy=>by
   rcases hxy with rfl | ⟨rfl,rfl⟩
   ·exact ⟨scaleL z y1,scale_comm _ _ _⟩
   ·exact ⟨scaleL x z.1,by rw [scale_scale]; rfl⟩
  refine ⟨fun hq=>?_,fun h1=>?_⟩
  ·obtain ⟨c1,c2⟩:=hc hq
   show (if a = constL a.1 then scaleL b a.1 else scaleL a b.1) = constL (if a = constL a.1 then scaleL b a.1 else scaleL a b.1).1
   rw [if_pos c1,c2,scale_const]; rfl
  ·have ho:prodT (ty k) (ty k') = 1:=by rw [← h1,ty_nd]; unfold tyN; rw [h]; rfl
   show ∃ z,(if a = constL a.1 then scaleL b a.1 else scaleL a b.1) = _
   rcases prodT_one ho with h2 | h2
   ·obtain ⟨x,hx⟩:=hda h2
    split
    ·exact hdv b _ a.1 a x (.inr ⟨hx,rfl⟩)
    ·exact hdv a _ b.1 b x (.inl hx)
   ·obtain ⟨x,hx⟩:=hdb h2
    split
    ·exact hdv b _ a.1 a x (.inl hx)
    ·exact hdv a _ b.1 b x (.inr ⟨hx,rfl⟩)
theorem mul_const {S:Int} {n:tNode.T} {k k':Tree} (h:nK n = 8) (hty:tyE (.nd n [k,k']) = 0) {a b:LZ} (ha:QT S k a) (hb:QT S k' b):a = constL a.1 ∨ b = constL b.1:=by
 unfold tyE at hty
 cases h1:(ty (.nd n [k,k']) == -1) with
 | true=>rw [h1] at hty; exact absurd (show (80:Int) = 0 from hty) (by decide)
 | false =>
  rw [h1] at hty
  have e:linE (Tree.nd n [k,k']).root ((Tree.nd n [k,k']).kids.map noQ) = (!noQ k && !noQ k'):=by
   unfold linE
   rw [show (Tree.nd n [k,k']).root = n from rfl,h]
   rfl
  rw [e] at hty
  cases hk:noQ k with
  | true=>exact .inl (ha.1 hk)
  | false =>
   cases hk':noQ k' with
   | true=>exact .inr (hb.1 hk')
   | false=>rw [hk,hk'] at hty; exact absurd (show (81:Int) = 0 from hty) (by decide)
theorem tyE_ne {t:Tree} (h:tyE t = 0):ty t ≠ -1:=fun h1=>by
 unfold tyE at h
 rw [h1] at h
 exact absurd (show (80:Int) = 0 from h) (by decide)
theorem PG.at {s M:Int} {V:Int→Int} {Q:LZ→Prop} {ps:List PZ} (h:PG s M V Q ps) (q:Int):spanZ s (lineAt ps q) ≤ M∧Q (lineAt ps q):=by
 obtain ⟨p,hp,e⟩:=lineAt_mem ps q h.ne
 rw [e]
 exact ⟨h.sp p hp,h.pr p hp⟩
theorem flips {s q:Int} {t:LZ} (hq:fitB s q = true) (h:spanZ s t ≤ LIM):∃ f,isFlip s t q f:=by
 obtain ⟨f,_,hf⟩:=flip_eq 71 (by decide) h hq
 exact ⟨f,hf⟩
theorem fit_of {s q:Int} (hs:1 ≤ s) (hs2:s ≤ 1000000000000) (h0:0 ≤ q) (h1:q ≤ 1099511627776):fitB s q = true:=fitB_iff.2 ⟨hs,hs2,h0,h1⟩
theorem mk1 {s u M A:Int} (hs:1 ≤ s) (hs2:s ≤ 1000000000000) {n:tNode.T} {V V0:Int→Int} {W:Int→Int→Int} {Q Q0:LZ→Prop} {p0:List PZ} (g0:PG s A V0 Q0 p0)
  (h:∀ a q,spanZ s a ≤ A→Q0 a→fitB s q = true→Q (chZ n u s [a] q).1∧Got s M (fun x=>W x (valZ s a x)) q (chZ n u s [a] q)∧∀ F,300 < F→Made F n u s [a] q (chZ n u s [a] q))
  (hV:∀ x,0 ≤ x→x ≤ 1099511627776→V x = W x (V0 x)):Step s M V Q (chZ n u s) [p0]∧∀ F,300 < F→Calls F (fnOf n,(n,mk u,s)) (chZ n u s) s [p0]:=by
 refine ⟨fun q q0 q1=>?_,fun F hF q q0 q1=>?_⟩
 ·have hq:=fit_of hs hs2 q0 q1
  obtain ⟨h1,⟨h2,h3,h4,h5⟩,h6⟩:=h _ q (g0.at q).1 (g0.at q).2 hq
  refine ⟨h2,h1,fun t ht=>flips hq (h3 t ht),fun x x0 x1 e ht=>?_⟩
  have e0:lineAt p0 x = lineAt p0 q:=by simpa using e
  refine (h5 x ht).trans ?_
  rw [hV x (by omega) x1,← g0.vl x (by omega) x1,e0]
 ·have hq:=fit_of hs hs2 q0 q1
  obtain ⟨h1,⟨h2,h3,h4,h5⟩,h6⟩:=h _ q (g0.at q).1 (g0.at q).2 hq
  exact ⟨h6 F hF,h3,h4⟩
theorem mk2 {s u M A B:Int} (hs:1 ≤ s) (hs2:s ≤ 1000000000000) {n:tNode.T} {V V0 V1:Int→Int} {W:Int→Int→Int→Int} {Q Q0 Q1:LZ→Prop} {p0 p1:List PZ} (g0:PG s A V0 Q0 p0) (g1:PG s B V1 Q1 p1)
  (h:∀ a b q,spanZ s a ≤ A→spanZ s b ≤ B→Q0 a→Q1 b→fitB s q = true→Q (chZ n u s [a,b] q).1∧Got s M (fun x=>W x (valZ s a x) (valZ s b x)) q (chZ n u s [a,b] q)∧∀ F,300 < F→Made F n u s [a,b] q (chZ n u s [a,b] q))
  (hV:∀ x,0 ≤ x→x ≤ 1099511627776→V x = W x (V0 x) (V1 x)):Step s M V Q (chZ n u s) [p0,p1]∧∀ F,300 < F→Calls F (fnOf n,(n,mk u,s)) (chZ n u s) s [p0,p1]:=by
 refine ⟨fun q q0 q1=>?_,fun F hF q q0 q1=>?_⟩
 ·have hq:=fit_of hs hs2 q0 q1
  obtain ⟨h1,⟨h2,h3,h4,h5⟩,h6⟩:=h _ _ q (g0.at q).1 (g1.at q).1 (g0.at q).2 (g1.at q).2 hq
  refine ⟨h2,h1,fun t ht=>flips hq (h3 t ht),fun x x0 x1 e ht=>?_⟩
  have e:lineAt p0 x = lineAt p0 q∧lineAt p1 x = lineAt p1 q:=by simpa using e
  refine (h5 x ht).trans ?_
  rw [hV x (by omega) x1,← g0.vl x (by omega) x1,← g1.vl x (by omega) x1,e.1,e.2]
 ·have hq:=fit_of hs hs2 q0 q1
  obtain ⟨h1,⟨h2,h3,h4,h5⟩,h6⟩:=h _ _ q (g0.at q).1 (g1.at q).1 (g0.at q).2 (g1.at q).2 hq
  exact ⟨h6 F hF,h3,h4⟩
theorem mk3 {s u M A B C:Int} (hs:1 ≤ s) (hs2:s ≤ 1000000000000) {n:tNode.T} {V V0 V1 V2:Int→Int} {W:Int→Int→Int→Int→Int} {Q Q0 Q1 Q2:LZ→Prop} {p0 p1 p2:List PZ} (g0:PG s A V0 Q0 p0) (g1:PG s B V1 Q1 p1) (g2:PG s C V2 Q2 p2)
  (h:∀ a b c q,spanZ s a ≤ A→spanZ s b ≤ B→spanZ s c ≤ C→Q0 a→Q1 b→Q2 c→fitB s q = true→Q (chZ n u s [a,b,c] q).1∧Got s M (fun x=>W x (valZ s a x) (valZ s b x) (valZ s c x)) q (chZ n u s [a,b,c] q)∧∀ F,300 < F→Made F n u s [a,b,c] q (chZ n u s [a,b,c] q))
  (hV:∀ x,0 ≤ x→x ≤ 1099511627776→V x = W x (V0 x) (V1 x) (V2 x)):Step s M V Q (chZ n u s) [p0,p1,p2]∧∀ F,300 < F→Calls F (fnOf n,(n,mk u,s)) (chZ n u s) s [p0,p1,p2]:=by
 refine ⟨fun q q0 q1=>?_,fun F hF q q0 q1=>?_⟩
 ·have hq:=fit_of hs hs2 q0 q1
  obtain ⟨h1,⟨h2,h3,h4,h5⟩,h6⟩:=h _ _ _ q (g0.at q).1 (g1.at q).1 (g2.at q).1 (g0.at q).2 (g1.at q).2 (g2.at q).2 hq
  refine ⟨h2,h1,fun t ht=>flips hq (h3 t ht),fun x x0 x1 e ht=>?_⟩
  have e:lineAt p0 x = lineAt p0 q∧lineAt p1 x = lineAt p1 q∧lineAt p2 x = lineAt p2 q:=by simpa using e
  refine (h5 x ht).trans ?_
  rw [hV x (by omega) x1,← g0.vl x (by omega) x1,← g1.vl x (by omega) x1,← g2.vl x (by omega) x1,e.1,e.2.1,e.2.2]
 ·have hq:=fit_of hs hs2 q0 q1
  obtain ⟨h1,⟨h2,h3,h4,h5⟩,h6⟩:=h _ _ _ q (g0.at q).1 (g1.at q).1 (g2.at q).1 (g0.at q).2 (g1.at q).2 (g2.at q).2 hq
  exact ⟨h6 F hF,h3,h4⟩
def leafZ (u:Int) (n:tNode.T):LZ:=bif nK n == 1 then constL (nN n) else bif nK n == 2 then constL (nN n * u) else bif nK n == 3 then (0,1,0) else (0,0,1)
noncomputable def foldZ (n:tNode.T) (u s:Int):List PZ→List (List PZ)→Option (List PZ)
 | acc,[]=>some acc
 | acc,k :: r=>match mdZ (chZ n u s) s [acc,k] 4096 0 [] with | none=>none | some a=>foldZ n u s a r
noncomputable def allZ (n:tNode.T) (u s:Int) (kids:List (List PZ)):Option (List PZ) :=
 bif nK n == 9 || nK n == 10 then foldZ n u s (kids.getD 0 []) (kids.drop 1) else mdZ (chZ n u s) s kids 4096 0 []
noncomputable def pcN (u s:Int) (n:tNode.T) (ks:List (Option (List PZ))):Option (List PZ) :=
 bif decide (nK n ≤ 4) then some [(0,leafZ u n)] else allZ n u s (ks.map fun k=>k.getD [])
noncomputable def pc (u s:Int):Tree→Option (List PZ):=Tree.fold (pcN u s)
theorem pc_nd (u s:Int) (n:tNode.T) (ks:List Tree):pc u s (.nd n ks) = pcN u s n (ks.map (pc u s)):=Tree.fold_nd _ n ks
noncomputable abbrev pcs (u s:Int) (t:Tree):List PZ:=(pc u s t).getD []
noncomputable def pcE (u s:Int) (t:Tree):Int:=bif (pc u s t).isNone then 120 else 0
structure PT (u S:Int) (d:tDim.T) (t:Tree):Prop where
 pg:PG (dS d) (mag u [d] t) (fun x=>ev u [d] [x] t) (QT S t) (pcs u (dS d) t)
 m0:0 ≤ mag u [d] t
 mb:mag u [d] t ≤ BND
theorem all_two (F:Nat) (hF:4200 < F) {u s:Int} (hs:1 ≤ s) (hs2:s ≤ 1000000000000) {n:tNode.T} (hk:nK n = 9 ∨ nK n = 10) {Q:LZ→Prop} {A B:Int} {VA VB:Int→Int} {p0 p1:List PZ} (g0:PG s A VA Q p0) (g1:PG s B VB Q p1) (hA:0 ≤ A) (hB:0 ≤ B) (hL:A + B ≤ BND) :
  normal_maker_made.sh F (n,mk u,s) (fnOf n,(n,mk u,s)) [p0.map wP,p1.map wP] = some (mdR (mdZ (chZ n u s) s [p0,p1] 4096 0 [])) ∧
  ∀ ps,mdZ (chZ n u s) s [p0,p1] 4096 0 [] = some ps→PG s (A + B) (fun x=>bestZ n (VA x) (VB x)) Q ps:=by
 obtain ⟨st,ca⟩:=mk2 (u:=u) (M:=A + B) (n:=n) (V:=fun x=>bestZ n (VA x) (VB x)) (W:=fun _=>bestZ n) (Q:=Q) hs hs2 g0 g1 (fun a b q ha hb qa qb hq=>by
  obtain ⟨h1,h2,h3⟩:=ch2m (u:=u) hk ha hb hA hB hL hq
  exact ⟨by rcases h2 with h2 | h2 <;> rw [h2] <;> assumption,h1,h3⟩) (fun x _ _=>rfl)
 refine ⟨?_,fun ps h=>made_PG st h⟩
 exact made_eq F hF (fnOf n,(n,mk u,s)) (KS:=[p0,p1]) (by simp [g0.len,g1.len]) (by simp) (by simp [g0.ne,g1.ne]) (n,mk u,s) hs hs2 (ca F (by omega)) (fun q q0 q1=>(nextZ_bd st q0 q1).1)
theorem fold_pc (F:Nat) (hF:4200 < F) {u s:Int} (hs:1 ≤ s) (hs2:s ≤ 1000000000000) {n:tNode.T} (hk:nK n = 9 ∨ nK n = 10) {Q:LZ→Prop} (of:Nat×tNormal_maker.T) (hof:of = (fnOf n,(n,mk u,s)))
  {R:Type} (k0:List tPiece.T→Bool→Option R) (k1:List tPiece.T→Option R) (L:List (List tPiece.T)) (N:Int):∀ (r:List (List PZ×Int×(Int→Int))) (i:Int) (acc:List PZ) (A:Int) (VA:Int→Int),PG s A VA Q acc→0 ≤ A→A + (r.map fun x=>x.2.1).sum ≤ BND→(∀ x ∈ r,0 ≤ x.2.1∧PG s x.2.1 x.2.2 Q x.1) →
  (normal_maker_all.l5.rg F k0 (fun _ made _ _ _ _ _=>k1 made) L N (r.map fun x=>x.1.map wP) i of (acc.map wP) (n,mk u,s) = match foldZ n u s acc (r.map fun x=>x.1) with | some ps=>k1 (ps.map wP) | none=>k0 [] false) ∧
  ∀ ps,foldZ n u s acc (r.map fun x=>x.1) = some ps→PG s (A + (r.map fun x=>x.2.1).sum) (fun x=>r.foldl (fun v y=>bestZ n v (y.2.2 x)) (VA x)) Q ps
 | [],i,acc,A,VA,g,hA,hL,hr=>by
  refine ⟨rfl,fun ps h=>?_⟩
  have h:acc = ps:=by simpa [foldZ] using h
  subst h
  simpa using g
 | y :: r,i,acc,A,VA,g,hA,hL,hr=>by
  obtain ⟨y0,gy⟩:=hr y (by simp)
  have hsum:0 ≤ (r.map fun x=>x.2.1).sum:=by
   have:∀ (l:List (List PZ×Int×(Int→Int))),(∀ x ∈ l,0 ≤ x.2.1)→0 ≤ (l.map fun x=>x.2.1).sum:=by
    intro l
    induction l with
    | nil=>intro _; simp
    | cons z l ih=>intro h; have:=ih (fun x hx=>h x (List.mem_cons_of_mem _ hx)); have:=h z (by simp); simp only [List.map_cons,List.sum_cons]; omega
   exact this r (fun x hx=>(hr x (List.mem_cons_of_mem _ hx)).1)
  simp only [List.map_cons,List.sum_cons] at hL ⊢
  obtain ⟨e1,e2⟩:=all_two F hF hs hs2 hk (u:=u) g gy hA y0 (by omega)
  subst hof
  rw [normal_maker_all.l5.rg,e1,oB_some]
  simp only [foldZ]
  cases hm:mdZ (chZ n u s) s [acc,y.1] 4096 0 [] with
  | none=>exact ⟨rfl,fun ps h=>by cases h⟩
  | some a =>
   obtain ⟨f1,f2⟩:=fold_pc F hF hs hs2 hk (u:=u) (fnOf n,(n,mk u,s)) rfl k0 k1 L N r (i + 1) a (A + y.2.1) (fun x=>bestZ n (VA x) (y.2.2 x)) (e2 a hm) (by omega) (by omega) (fun x hx=>hr x (List.mem_cons_of_mem _ hx))
   refine ⟨f1,fun ps h=>?_⟩
   have:=f2 ps h
   rw [Int.add_assoc] at this
   exact this
theorem kind_in {n:tNode.T} (hg:goodK n = true) (hk:kidsK n = true):(ar n = 0∧(nK n = 1 ∨ nK n = 2 ∨ nK n = 3 ∨ nK n = 4)) ∨ (ar n = 1∧(nK n = 5 ∨ nK n = 11 ∨ nK n = 12 ∨ nK n = 13 ∨ nK n = 14 ∨ nK n = 15)) ∨
  (ar n = 2∧(nK n = 6 ∨ nK n = 7 ∨ nK n = 8)) ∨ ((2 ≤ ar n∧ar n ≤ 16)∧(nK n = 9 ∨ nK n = 10)) ∨ (ar n = 3∧nK n = 16):=by
 have h9:(nK n = 9 ∨ nK n = 10)→2 ≤ ar n∧ar n ≤ 16:=fun h=>by
  rcases h with h | h <;> rw [kids_of h] at hk <;> rw [ar_of h]
  ·have hk:(decide (nC n ≥ 2) && decide (nC n ≤ 16)) = true:=hk
   show 2 ≤ (nC n).toNat∧(nC n).toNat ≤ 16
   simp at hk; omega
  ·have hk:(decide (nC n ≥ 2) && decide (nC n ≤ 16)) = true:=hk
   show 2 ≤ (nC n).toNat∧(nC n).toNat ≤ 16
   simp at hk; omega
 rcases kinds16 hg with h | h | h | h | h | h | h | h | h | h | h | h | h | h | h | h
 ·exact .inl ⟨by rw [ar_of h]; rfl,by omega⟩
 ·exact .inl ⟨by rw [ar_of h]; rfl,by omega⟩
 ·exact .inl ⟨by rw [ar_of h]; rfl,by omega⟩
 ·exact .inl ⟨by rw [ar_of h]; rfl,by omega⟩
 ·exact .inr (.inl ⟨by rw [ar_of h]; rfl,by omega⟩)
 ·exact .inr (.inr (.inl ⟨by rw [ar_of h]; rfl,by omega⟩))
 ·exact .inr (.inr (.inl ⟨by rw [ar_of h]; rfl,by omega⟩))
 ·exact .inr (.inr (.inl ⟨by rw [ar_of h]; rfl,by omega⟩))
 ·exact .inr (.inr (.inr (.inl ⟨h9 (.inl h),.inl h⟩)))
 ·exact .inr (.inr (.inr (.inl ⟨h9 (.inr h),.inr h⟩)))
 ·exact .inr (.inl ⟨by rw [ar_of h]; rfl,by omega⟩)
 ·exact .inr (.inl ⟨by rw [ar_of h]; rfl,by omega⟩)
 ·exact .inr (.inl ⟨by rw [ar_of h]; rfl,by omega⟩)
 ·exact .inr (.inl ⟨by rw [ar_of h]; rfl,by omega⟩)
 ·exact .inr (.inl ⟨by rw [ar_of h]; rfl,by omega⟩)
 ·exact .inr (.inr (.inr (.inr ⟨by rw [ar_of h]; rfl,h⟩)))
theorem leaf_pc (F:Nat) {u S:Int} (hS0:0 ≤ S) (hu:u = 10000 ^ S.toNat) (hu1:1 ≤ u) (hu2:u ≤ 1000000000000000000000000) {d:tDim.T} (hs:1 ≤ dS d) (hs2:dS d ≤ 1000000000000) {n:tNode.T} {pile:Nat} (hn:nodeE 1 n pile = 0) (hk:nK n = 1 ∨ nK n = 2 ∨ nK n = 3 ∨ nK n = 4) :
  normal_maker_leaf.sh F (n,mk u,dS d) = some (([wP (0,leafZ u n)],()),())∧PG (dS d) (mag u [d] (.nd n [])) (fun x=>ev u [d] [x] (.nd n [])) (QT S (.nd n [])) [(0,leafZ u n)]:=by
 obtain ⟨g1,g2,g3,g4,g5,g6,g7,g8⟩:=nodeE_ok hn
 have hN2:=most_le (show 1 ≤ 4 by omega) g3 g1
 have i1:mk 1 = (0,1):=rfl
 have mkPG:∀ M (V:Int→Int) (Q:LZ→Prop),spanZ (dS d) (leafZ u n) ≤ M→Q (leafZ u n)→(∀ x,0 ≤ x→x ≤ 1099511627776→valZ (dS d) (leafZ u n) x = V x)→PG (dS d) M V Q [(0,leafZ u n)]:=fun M V Q h1 h2 h3 =>
  ⟨by simp,by simp,by simp,⟨trivial,trivial⟩,by simpa using h1,by simpa using h2,h3⟩
 have ha:mag u [d] (.nd n []) = magN u [d] n []:=by rw [mag_nd]; rfl
 have hv:∀ x,ev u [d] [x] (.nd n []) = evN u [d] [x] n []:=fun x=>by rw [ev_nd]; rfl
 have ht:ty (.nd n []) = tyN n []:=by rw [ty_nd]; rfl
 have hq:noQ (.nd n []) = !isQ n:=by
  unfold noQ; rw [flat_nd]; simp [flats]
 rw [ha]
 simp only [hv]
 rcases hk with h | h | h | h
 ·have e:leafZ u n = constL (nN n):=by unfold leafZ; rw [h]; rfl
  rw [e] at mkPG ⊢
  refine ⟨?_,mkPG _ _ _ ?_ ⟨fun _=>rfl,fun h1=>?_⟩ fun x _ _=>?_⟩
  ·unfold normal_maker_leaf.sh
   rw [show (n,mk u,dS d).1.1 = 1 from h]
   simp only [beq_self_eq_true,cond_true]
   rw [of_eq F (v:=n.2.1) (show _ ≤ nN n by omega) (show nN n < _ by omega),oB_some]
   rfl
  ·rw [span_const,nA_of g2,show magN u [d] n [] = nN n by unfold magN; rw [h]; rfl]; omega
  ·rw [ht,show tyN n [] = 0 by unfold tyN; rw [h]; rfl] at h1; omega
  ·rw [val_const]; unfold evN; rw [h]; rfl
 ·have e:leafZ u n = constL (nN n * u):=by unfold leafZ; rw [h]; rfl
  have hb:=mul_bd g2 hN2 (show 0 ≤ u by omega) hu2
  have iu:inR u = true:=by rw [inR_iff]; omega
  have iN:inR (nN n) = true:=by rw [inR_iff]; omega
  have im:inR (nN n * u) = true:=by rw [inR_iff]; omega
  rw [e] at mkPG ⊢
  refine ⟨?_,mkPG _ _ _ ?_ ⟨fun _=>rfl,fun h1=>?_⟩ fun x _ _=>?_⟩
  ·unfold normal_maker_leaf.sh
   rw [show (n,mk u,dS d).1.1 = 2 from h]
   simp only [Int.reduceBEq,cond_false,beq_self_eq_true,cond_true]
   rw [of_eq F (v:=n.2.1) (show _ ≤ nN n by omega) (show nN n < _ by omega),oB_some,wmul_eq F (wf_mk iN) (wf_mk iu),oB_some,val_mk,val_mk,(res_in im).1]
   rfl
  ·rw [span_const,nA_of hb.1,show magN u [d] n [] = nN n * u by unfold magN; rw [h]; rfl]; omega
  ·have hd:deep (.nd n []) = 0:=by rw [deep_nd,h]; rfl
   rw [hd,Int.sub_zero,← hu]
   exact ⟨constL (nN n),(scale_const _ _).symm⟩
  ·rw [val_const]; unfold evN; rw [h]; rfl
 ·have e:leafZ u n = (0,1,0):=by unfold leafZ; rw [h]; rfl
  rw [most_of h] at g3
  have g3:nN n ≤ 0:=g3
  rw [e] at mkPG ⊢
  refine ⟨?_,mkPG _ _ _ ?_ ⟨fun h1=>?_,fun h1=>?_⟩ fun x _ _=>?_⟩
  ·unfold normal_maker_leaf.sh
   rw [show (n,mk u,dS d).1.1 = 3 from h]
   simp only [Int.reduceBEq,cond_false,beq_self_eq_true,cond_true]
   rw [of_eq F (v:=1) (by omega) (by omega),oB_some]
   rfl
  ·rw [show magN u [d] n [] = 1099511627776 by unfold magN; rw [h]; rfl]
   simp only [spanZ,show nA 0 = 0 from rfl,show nA 1 = 1 from rfl,Int.zero_mul,Int.one_mul]
   omega
  ·rw [hq] at h1; unfold isQ at h1; rw [h] at h1; cases h1
  ·rw [ht,show tyN n [] = 2 + 2 * nN n by unfold tyN; rw [h]; rfl] at h1; omega
  ·have:nN n = 0:=by omega
   simp only [valZ]
   unfold evN; rw [h,this]
   show 0 + 1 * x + 0 * _ = x
   omega
 ·have e:leafZ u n = (0,0,1):=by unfold leafZ; rw [h]; rfl
  rw [most_of h] at g3
  have g3:nN n ≤ 0:=g3
  have h0:nN n = 0:=by omega
  rw [e] at mkPG ⊢
  refine ⟨?_,mkPG _ _ _ ?_ ⟨fun h1=>?_,fun h1=>?_⟩ fun x _ _=>?_⟩
  ·unfold normal_maker_leaf.sh
   rw [show (n,mk u,dS d).1.1 = 4 from h]
   simp only [Int.reduceBEq,cond_false,beq_self_eq_true,cond_true]
   rw [of_eq F (v:=1) (by omega) (by omega),oB_some]
   rfl
  ·rw [show magN u [d] n [] = ceilD 1099511627776 (dS d) by unfold magN; rw [h,h0]; rfl]
   simp only [spanZ,show nA 0 = 0 from rfl,show nA 1 = 1 from rfl,Int.zero_mul,Int.one_mul]
   show 0 + 0 + ceilD 1099511627776 (dS d) ≤ _
   omega
  ·rw [hq] at h1; unfold isQ at h1; rw [h] at h1; cases h1
  ·rw [ht,show tyN n [] = 3 + 2 * nN n by unfold tyN; rw [h]; rfl] at h1; omega
  ·simp only [valZ]
   unfold evN; rw [h,h0]
   show 0 + 0 * x + 1 * ceilD x (dS d) = ceilD x (dS d)
   omega
theorem minF_best {n:tNode.T} (h:nK n = 9):∀ (l:List Int) (m:Int),minF m l = l.foldl (bestZ n) m:=by
 have:bestZ n = fun m x=>if x < m then x else m:=by funext m x; unfold bestZ; rw [h]; rfl
 intro l m
 rw [this]; rfl
theorem maxF_best {n:tNode.T} (h:nK n = 10):∀ (l:List Int) (m:Int),maxF m l = l.foldl (bestZ n) m:=by
 have:bestZ n = fun m x=>if x > m then x else m:=by funext m x; unfold bestZ; rw [h]; rfl
 intro l m
 rw [this]; rfl
theorem node_pc (F:Nat) (hF:4200 < F) {u S:Int} (hS0:0 ≤ S) (hu:u = 10000 ^ S.toNat) (hu1:1 ≤ u) (hu2:u ≤ 1000000000000000000000000) {d:tDim.T} (hs:1 ≤ dS d) (hs2:dS d ≤ 1000000000000) {n:tNode.T} {pile:Nat} (hn:nodeE 1 n pile = 0) {ks:List Tree} (hl:ks.length = ar n) (ha:1 ≤ ar n)
  (hty:tyE (.nd n ks) = 0) (hm:farN n (mag u [d] (.nd n ks)) ≤ BND) (hS:deep (.nd n ks) ≤ S) (hk:∀ k ∈ ks,PT u S d k) :
  normal_maker_all.sh F (n,mk u,dS d) (fnOf n,(n,mk u,dS d)) (ks.map fun k=>(pcs u (dS d) k).map wP) = some (mdR (pc u (dS d) (.nd n ks))) ∧
  ∀ ps,pc u (dS d) (.nd n ks) = some ps→PG (dS d) (mag u [d] (.nd n ks)) (fun x=>ev u [d] [x] (.nd n ks)) (QT S (.nd n ks)) ps:=by
 obtain ⟨g1,g2,g3,g4,g5,g6,g7,g8⟩:=nodeE_ok hn
 have iu:inR u = true:=by rw [inR_iff]; omega
 have hmag:=mag_nd u [d] n ks
 have hev:∀ x,ev u [d] [x] (.nd n ks) = evN u [d] [x] n (ks.map (ev u [d] [x])):=fun x=>ev_nd _ _ _ _ _
 have htn:=tyE_ne hty
 rcases kind_in g1 g4 with ⟨h,_⟩ | ⟨h,hkd⟩ | ⟨h,hkd⟩ | ⟨h,hkd⟩ | ⟨h,hkd⟩
 ·omega
 ·obtain ⟨k,rfl⟩:=List.length_eq_one_iff.1 (hl.trans h)
  have pk:=hk k (by simp)
  have hf:farN n (magN u [d] n [mag u [d] k]) ≤ BND:=by rw [hmag] at hm; exact hm
  have hpc:pc u (dS d) (.nd n [k]) = mdZ (chZ n u (dS d)) (dS d) [pcs u (dS d) k] 4096 0 []:=by
   rw [pc_nd]; unfold pcN allZ
   rw [decide_eq_false (show ¬ nK n ≤ 4 by omega),show (nK n == 9 || nK n == 10) = false by rcases hkd with h | h | h | h | h | h <;> rw [h] <;> rfl]
   rfl
  obtain ⟨st,ca⟩:=mk1 (u:=u) (M:=magN u [d] n [mag u [d] k]) (n:=n) (V:=fun x=>ev u [d] [x] (.nd n [k])) (W:=fun x v=>evN u [d] [x] n [v]) (Q:=QT S (.nd n [k])) hs hs2 pk.pg (fun a q ha' qa hq=>by
   obtain ⟨h1,h2⟩:=ch1 hu1 iu (show 1 ≤ 4 by omega) hn hkd ha' pk.m0 pk.mb hf (fun h15=>by
    obtain ⟨_,z,hz⟩:=off_ten h15 htn hS qa
    exact ⟨scaleL z (10000 ^ (S - deep (.nd n [k])).toNat),by rw [scale_scale]; exact hz⟩) hq
   exact ⟨q1 hS0 hu hkd hS htn qa _ _,h1,h2⟩) (fun x _ _=>hev x)
  rw [hpc,hmag]
  refine ⟨?_,fun ps hps=>made_PG st hps⟩
  unfold normal_maker_all.sh
  have e9:((n,mk u,dS d).1.1 != 9) = true:=by show (nK n != 9) = true; rcases hkd with h | h | h | h | h | h <;> rw [h] <;> rfl
  have e10:((n,mk u,dS d).1.1 != 10) = true:=by show (nK n != 10) = true; rcases hkd with h | h | h | h | h | h <;> rw [h] <;> rfl
  rw [e9,e10]
  simp only [cond_true]
  have hmd:=made_eq F hF (fnOf n,(n,mk u,dS d)) (KS:=[pcs u (dS d) k]) (by simp [pk.pg.len]) (by simp) (by simp [pk.pg.ne]) (n,mk u,dS d) hs hs2 (ca F (by omega)) (fun q q0 q1=>(nextZ_bd st q0 q1).1)
  have hmd':normal_maker_made.sh F (n,mk u,dS d) (fnOf n,(n,mk u,dS d)) ([k].map fun k=>(pcs u (dS d) k).map wP) = _:=hmd
  rw [hmd',oB_some]
 ·obtain ⟨k,k',rfl⟩:=len2 (hl.trans h)
  have pk:=hk k (by simp)
  have pk':=hk k' (by simp)
  have hf:farN n (magN u [d] n [mag u [d] k,mag u [d] k']) ≤ BND:=by rw [hmag] at hm; exact hm
  have hpc:pc u (dS d) (.nd n [k,k']) = mdZ (chZ n u (dS d)) (dS d) [pcs u (dS d) k,pcs u (dS d) k'] 4096 0 []:=by
   rw [pc_nd]; unfold pcN allZ
   rw [decide_eq_false (show ¬ nK n ≤ 4 by omega),show (nK n == 9 || nK n == 10) = false by rcases hkd with h | h | h <;> rw [h] <;> rfl]
   rfl
  obtain ⟨st,ca⟩:=mk2 (u:=u) (M:=magN u [d] n [mag u [d] k,mag u [d] k']) (n:=n) (V:=fun x=>ev u [d] [x] (.nd n [k,k'])) (W:=fun x v w=>evN u [d] [x] n [v,w]) (Q:=QT S (.nd n [k,k'])) hs hs2 pk.pg pk'.pg (fun a b q ha' hb' qa qb hq=>by
   obtain ⟨h1,h2⟩:=ch2 (u:=u) (show 1 ≤ 4 by omega) hn hkd ha' hb' pk.mb pk'.mb hf (fun h8=>mul_const h8 hty qa qb) hq
   exact ⟨q2 hkd hS qa qb _ _,h1,h2⟩) (fun x _ _=>hev x)
  rw [hpc,hmag]
  refine ⟨?_,fun ps hps=>made_PG st hps⟩
  unfold normal_maker_all.sh
  have e9:((n,mk u,dS d).1.1 != 9) = true:=by show (nK n != 9) = true; rcases hkd with h | h | h <;> rw [h] <;> rfl
  have e10:((n,mk u,dS d).1.1 != 10) = true:=by show (nK n != 10) = true; rcases hkd with h | h | h <;> rw [h] <;> rfl
  rw [e9,e10]
  simp only [cond_true]
  have hmd:=made_eq F hF (fnOf n,(n,mk u,dS d)) (KS:=[pcs u (dS d) k,pcs u (dS d) k']) (by simp [pk.pg.len,pk'.pg.len]) (by simp) (by simp [pk.pg.ne,pk'.pg.ne]) (n,mk u,dS d) hs hs2 (ca F (by omega)) (fun q q0 q1=>(nextZ_bd st q0 q1).1)
  have hmd':normal_maker_made.sh F (n,mk u,dS d) (fnOf n,(n,mk u,dS d)) ([k,k'].map fun k=>(pcs u (dS d) k).map wP) = _:=hmd
  rw [hmd',oB_some]
 ·obtain ⟨k,r,rfl⟩:∃ k r,ks = k :: r:=by
   cases ks with
   | nil=>simp at hl; omega
   | cons k r=>exact ⟨k,r,rfl⟩
  have pk:=hk k (by simp)
  have em:magN u [d] n ((k :: r).map (mag u [d])) = mag u [d] k + (r.map (mag u [d])).sum:=by
   unfold magN; rcases hkd with h | h <;> rw [h] <;> simp [sumL]
  have hf:mag u [d] k + (r.map (mag u [d])).sum ≤ BND:=by
   rw [hmag,em] at hm; unfold farN at hm; rcases hkd with h | h <;> rw [h] at hm <;> exact hm
  have hpc:pc u (dS d) (.nd n (k :: r)) = foldZ n u (dS d) (pcs u (dS d) k) (r.map (pcs u (dS d))):=by
   rw [pc_nd]; unfold pcN allZ
   rw [decide_eq_false (show ¬ nK n ≤ 4 by omega),show (nK n == 9 || nK n == 10) = true by rcases hkd with h | h <;> rw [h] <;> rfl]
   simp only [cond_true,cond_false,List.map_map,List.map_cons,List.drop_succ_cons,List.drop_zero]
   rfl
  have hup:∀ k' ∈ k :: r,∀ l,QT S k' l→QT S (.nd n (k :: r)) l:=fun k' hk' l hq=>hq.up hk' hS (fun h1=>by
   have ho:oneL ((k :: r).map ty) = 1:=by rw [← h1,ty_nd]; unfold tyN; rcases hkd with h | h <;> rw [h] <;> rfl
   exact oneL_one ho (ty k') (List.mem_map_of_mem hk'))
  have hweak:∀ k' ∈ k :: r,PG (dS d) (mag u [d] k') (fun x=>ev u [d] [x] k') (QT S (.nd n (k :: r))) (pcs u (dS d) k'):=fun k' hk'=>by
   obtain ⟨a1,a2,a3,a4,a5,a6,a7⟩:=(hk k' hk').pg
   exact ⟨a1,a2,a3,a4,a5,fun p hp=>hup k' hk' _ (a6 p hp),a7⟩
  have er:∀ {β:Type} (f:List PZ×Int×(Int→Int)→β),(r.map fun k'=>((pcs u (dS d) k',mag u [d] k',fun x=>ev u [d] [x] k'):List PZ×Int×(Int→Int))).map f = r.map fun k'=>f (pcs u (dS d) k',mag u [d] k',fun x=>ev u [d] [x] k'):=fun f=>by rw [List.map_map]; rfl
  obtain ⟨f1,f2⟩:=fold_pc F hF hs hs2 hkd (u:=u) (Q:=QT S (.nd n (k :: r))) (fnOf n,(n,mk u,dS d)) rfl (fun r65 r75=>(some ((r65,r75,()),()):Option normal_maker_all.sg.R)) (fun made=>some ((made,true,()),())) (r.map fun k=>(pcs u (dS d) k).map wP) (r.length:Int)
   (r.map fun k'=>(pcs u (dS d) k',mag u [d] k',fun x=>ev u [d] [x] k')) 0 (pcs u (dS d) k) (mag u [d] k) (fun x=>ev u [d] [x] k) (hweak k (by simp)) pk.m0 (by rw [er]; exact hf) (by
    intro x hx
    obtain ⟨k',hk',rfl⟩:=List.mem_map.1 hx
    exact ⟨(hk k' (by simp [hk'])).m0,hweak k' (by simp [hk'])⟩)
  rw [er,er] at f1
  rw [er,er] at f2
  rw [hpc,hmag,em]
  refine ⟨?_,fun ps hps=>?_⟩
  ·unfold normal_maker_all.sh
   have hj:∀ (k0 k1:List tPiece.T→Bool→Option normal_maker_all.sg.R),normal_maker_all.j3 F k0 k1 (fnOf n,(n,mk u,dS d)) ((k :: r).map fun k=>(pcs u (dS d) k).map wP) (n,mk u,dS d) =
     normal_maker_all.l5.rg F k0 (fun _ made _ _ _ _ _=>k1 made true) (r.map fun k=>(pcs u (dS d) k).map wP) (r.length:Int) (r.map fun k=>(pcs u (dS d) k).map wP) 0 (fnOf n,(n,mk u,dS d)) ((pcs u (dS d) k).map wP) (n,mk u,dS d):=fun k0 k1=>by
    have hbl:=bounds_lo (n:=((k :: r).map fun k=>(pcs u (dS d) k).map wP).length) (i:=1) (by simp)
    rw [show ((1:Nat):Int) = 1 from rfl] at hbl
    unfold normal_maker_all.j3
    rw [idx0 (by simp),hbl]
    simp only [cond_true]
    rw [List.take_length,List.map_cons,List.drop_succ_cons,List.drop_zero]
    have hrl:r.length ≤ 16:=by simp at hl; omega
    refine (normal_maker_all.l5.rg_eq F k0 (fun _ made _ _ _ _ _=>k1 made true) (r.map fun k=>(pcs u (dS d) k).map wP) _ rfl (by simp; omega) (r.map fun k=>(pcs u (dS d) k).map wP) 0 F _ _ _ rfl (by simp; omega)).trans ?_
    rw [List.length_map]
    rfl
   rcases hkd with h | h
   ·rw [show ((n,mk u,dS d).1.1 != 9) = false by show (nK n != 9) = false; rw [h]; rfl]
    simp only [cond_false]
    rw [hj]
    refine f1.trans ?_
    unfold mdR
    cases foldZ n u (dS d) (pcs u (dS d) k) (r.map (pcs u (dS d))) <;> rfl
   ·rw [show ((n,mk u,dS d).1.1 != 9) = true by show (nK n != 9) = true; rw [h]; rfl,show ((n,mk u,dS d).1.1 != 10) = false by show (nK n != 10) = false; rw [h]; rfl]
    simp only [cond_false,cond_true]
    rw [hj]
    refine f1.trans ?_
    unfold mdR
    cases foldZ n u (dS d) (pcs u (dS d) k) (r.map (pcs u (dS d))) <;> rfl
  ·have hg:=f2 ps hps
   have hV:(fun x=>(r.map fun k'=>((pcs u (dS d) k',mag u [d] k',fun x=>ev u [d] [x] k'):List PZ×Int×(Int→Int))).foldl (fun v y=>bestZ n v (y.2.2 x)) (ev u [d] [x] k)) = fun x=>ev u [d] [x] (.nd n (k :: r)):=by
    funext x
    rw [List.foldl_map,hev,List.map_cons]
    have e1:r.foldl (fun v k'=>bestZ n v (ev u [d] [x] k')) (ev u [d] [x] k) = (r.map (ev u [d] [x])).foldl (bestZ n) (ev u [d] [x] k):=by rw [List.foldl_map]
    refine e1.trans ?_
    unfold evN
    rcases hkd with h | h
    ·rw [h]; exact (minF_best h _ _).symm
    ·rw [h]; exact (maxF_best h _ _).symm
   rw [hV] at hg
   exact hg
 ·obtain ⟨k,k',k2,rfl⟩:=len3 (hl.trans h)
  have pk:=hk k (by simp)
  have pk':=hk k' (by simp)
  have pk2:=hk k2 (by simp)
  have hpc:pc u (dS d) (.nd n [k,k',k2]) = mdZ (chZ n u (dS d)) (dS d) [pcs u (dS d) k,pcs u (dS d) k',pcs u (dS d) k2] 4096 0 []:=by
   rw [pc_nd]; unfold pcN allZ
   rw [decide_eq_false (show ¬ nK n ≤ 4 by omega),show (nK n == 9 || nK n == 10) = false by rw [hkd]; rfl]
   rfl
  have hone:ty (.nd n [k,k',k2]) = 1→ty k' = 1∧ty k2 = 1:=fun h1=>by
   have hx0:ty (.nd n [k,k',k2]) = (bif cntB (ty k) then oneL [ty k',ty k2] else -1):=by rw [ty_nd]; unfold tyN; rw [hkd]; rfl
   rw [hx0] at h1
   cases hc:cntB (ty k) with
   | false=>rw [hc] at h1; exact absurd (show (-1:Int) = 1 from h1) (by decide)
   | true =>
    rw [hc] at h1
    have h1:oneL [ty k',ty k2] = 1:=h1
    exact ⟨oneL_one h1 _ (by simp),oneL_one h1 _ (by simp)⟩
  obtain ⟨st,ca⟩:=mk3 (u:=u) (M:=magN u [d] n [mag u [d] k,mag u [d] k',mag u [d] k2]) (n:=n) (V:=fun x=>ev u [d] [x] (.nd n [k,k',k2])) (W:=fun x v w z=>evN u [d] [x] n [v,w,z]) (Q:=QT S (.nd n [k,k',k2])) hs hs2 pk.pg pk'.pg pk2.pg (fun a b c q ha' hb' hc' qa qb qc hq=>by
   obtain ⟨h1,h2,h3⟩:=ch3 (u:=u) (show 1 ≤ 4 by omega) hn hkd ha' hb' hc' pk.m0 pk'.m0 pk2.m0 pk.mb (D:=[d]) hq
   refine ⟨?_,h1,h3⟩
   rcases h2 with h2 | h2 <;> rw [h2]
   ·exact qb.up (by simp) hS (fun h=>(hone h).1)
   ·exact qc.up (by simp) hS (fun h=>(hone h).2)) (fun x _ _=>hev x)
  rw [hpc,hmag]
  refine ⟨?_,fun ps hps=>made_PG st hps⟩
  unfold normal_maker_all.sh
  have e9:((n,mk u,dS d).1.1 != 9) = true:=by show (nK n != 9) = true; rw [hkd]; rfl
  have e10:((n,mk u,dS d).1.1 != 10) = true:=by show (nK n != 10) = true; rw [hkd]; rfl
  rw [e9,e10]
  simp only [cond_true]
  have hmd:=made_eq F hF (fnOf n,(n,mk u,dS d)) (KS:=[pcs u (dS d) k,pcs u (dS d) k',pcs u (dS d) k2]) (by simp [pk.pg.len,pk'.pg.len,pk2.pg.len]) (by simp) (by simp [pk.pg.ne,pk'.pg.ne,pk2.pg.ne]) (n,mk u,dS d) hs hs2 (ca F (by omega)) (fun q q0 q1=>(nextZ_bd st q0 q1).1)
  have hmd':normal_maker_made.sh F (n,mk u,dS d) (fnOf n,(n,mk u,dS d)) ([k,k',k2].map fun k=>(pcs u (dS d) k).map wP) = _:=hmd
  rw [hmd',oB_some]
def PS (u S:Int) (d:tDim.T) (t:Tree):Prop:=PT u S d t∧∃ ps,pc u (dS d) t = some ps
theorem step_ps {u S:Int} (hS0:0 ≤ S) (hu:u = 10000 ^ S.toNat) (hu1:1 ≤ u) (hu2:u ≤ 1000000000000000000000000) {d:tDim.T} (hs:1 ≤ dS d) (hs2:dS d ≤ 1000000000000) {st:List Tree} {n:tNode.T} (hn:nodeE 1 n st.length = 0)
  (hI:∀ t ∈ st,PS u S d t) (hty:tyE (topT st n) = 0) (hE:magE u [d] (topT st n) = 0) (hS:deep (topT st n) ≤ S) :
  (pcE u (dS d) (topT st n) = 0→PS u S d (topT st n))∧(ar n = 0→nK n ≤ 4∧pc u (dS d) (topT st n) = some [(0,leafZ u n)]∧∀ F,normal_maker_leaf.sh F (n,mk u,dS d) = some (([wP (0,leafZ u n)],()),())) ∧
  (1 ≤ ar n→5 ≤ nK n∧∀ F,4200 < F→normal_maker_all.sh F (n,mk u,dS d) (fnOf n,(n,mk u,dS d)) ((st.drop (st.length - ar n)).map fun k=>(pcs u (dS d) k).map wP) = some (mdR (pc u (dS d) (topT st n)))):=by
 obtain ⟨g1,g2,g3,g4,g5,g6,g7,g8⟩:=nodeE_ok hn
 have hfar:farN n (mag u [d] (topT st n)) ≤ BND:=by
  unfold magE at hE
  rw [show (topT st n).root = n from rfl] at hE
  cases hx:decide (farN n (mag u [d] (topT st n)) > BND) with
  | true=>rw [hx] at hE; exact absurd (show (90:Int) = 0 from hE) (by decide)
  | false=>have:=of_decide_eq_false hx; omega
 have hkp:∀ k ∈ st.drop (st.length - ar n),PS u S d k:=fun k hk=>hI k (List.mem_of_mem_drop hk)
 have hpm:∀ ps,PG (dS d) (mag u [d] (topT st n)) (fun x=>ev u [d] [x] (topT st n)) (QT S (topT st n)) ps→0 ≤ mag u [d] (topT st n)∧mag u [d] (topT st n) ≤ BND:=fun ps g=>by
  have h1:=(g.at 0).1
  have h2:=span_nn hs (lineAt ps 0)
  exact ⟨by omega,farN_ge (by omega) hfar⟩
 by_cases ha:ar n = 0
 ·have e0:topT st n = .nd n []:=by unfold topT; rw [ha,Nat.sub_zero,List.drop_of_length_le (Nat.le_refl _)]
  have hk4:nK n = 1 ∨ nK n = 2 ∨ nK n = 3 ∨ nK n = 4:=by
   rcases kind_in g1 g4 with ⟨_,h⟩ | ⟨h,_⟩ | ⟨h,_⟩ | ⟨h,_⟩ | ⟨h,_⟩
   ·exact h
   ·omega
   ·omega
   ·omega
   ·omega
  have hp:pc u (dS d) (topT st n) = some [(0,leafZ u n)]:=by
   rw [e0,pc_nd]; unfold pcN; rw [decide_eq_true (show nK n ≤ 4 by omega)]; rfl
  obtain ⟨_,l2⟩:=leaf_pc 0 hS0 hu hu1 hu2 hs hs2 hn hk4
  rw [← e0] at l2
  have hm:=hpm _ l2
  refine ⟨fun _=>⟨⟨by unfold pcs; rw [hp]; exact l2,hm.1,hm.2⟩,_,hp⟩,fun _=>⟨by omega,hp,fun F=>(leaf_pc F hS0 hu hu1 hu2 hs hs2 hn hk4).1⟩,fun h=>by omega⟩
 ·have hnp:=fun F hF=>node_pc F hF hS0 hu hu1 hu2 hs hs2 hn (ks:=st.drop (st.length - ar n)) (by simp; omega) (by omega) hty hfar hS (fun k hk=>(hkp k hk).1)
  refine ⟨fun hE0=>?_,fun h=>by omega,fun _=>⟨?_,fun F hF=>(hnp F hF).1⟩⟩
  ·cases hp:pc u (dS d) (topT st n) with
   | none=>unfold pcE at hE0; rw [hp] at hE0; exact absurd (show (120:Int) = 0 from hE0) (by decide)
   | some ps =>
    have l2:=(hnp 4201 (by omega)).2 ps hp
    have hm:=hpm _ l2
    exact ⟨⟨by unfold pcs; rw [hp]; exact l2,hm.1,hm.2⟩,_,hp⟩
  ·rcases kind_in g1 g4 with ⟨h,_⟩ | ⟨_,h⟩ | ⟨_,h⟩ | ⟨_,h⟩ | ⟨_,h⟩ <;> omega
theorem table_rg (F:Nat) (hF:4200 < F) {u S:Int} (hS0:0 ≤ S) (hu:u = 10000 ^ S.toNat) (hu1:1 ≤ u) (hu2:u ≤ 1000000000000000000000000) {d:tDim.T} (hs:1 ≤ dS d) (hs2:dS d ≤ 1000000000000) {R:Type}
  (k0:Int→Int→tTable.T→Option R) (k1:Int→tPlan.T→tTable.T→List (List tPiece.T)→Option R) (L:List tNode.T) (N scale:Int) (p:tPlan.T) (hp:p.2.1 = [d]):∀ (xs:List tNode.T) (st:List Tree) (i:Nat),okS 1 st xs→(flats st).length + xs.length ≤ 2048→(∀ t ∈ st,PS u S d t)→(∀ t ∈ news st xs,tyE t = 0∧magE u [d] t = 0∧deep t ≤ S) →
  (normal_Table.l9.rg F k0 (fun scale _ _ _ _ p r2 _ pile=>k1 scale p r2 pile) L N xs (i:Int) scale p (0,0,[]) (mk u) (st.map fun t=>(pcs u (dS d) t).map wP) =
   match firstE (pcE u (dS d)) (news st xs) i with | some x=>k0 (x.1:Int) 120 (0,0,[]) | none=>k1 scale p (0,0,[]) ((endT st xs).map fun t=>(pcs u (dS d) t).map wP)) ∧
  (firstE (pcE u (dS d)) (news st xs) i = none→∀ t ∈ endT st xs,PS u S d t)
 | [],st,i,h,h2,h3,h4=>⟨rfl,fun _=>h3⟩
 | n :: xs,st,i,h,h2,h3,h4=>by
  obtain ⟨g1,g2,g3,g4,g5,g6,g7,g8⟩:=nodeE_ok h.1
  have hst:=len_flats st
  have hfs:=congrArg List.length (flats_step st n)
  simp only [List.length_cons,List.length_append,List.length_nil] at h2 hfs
  simp only [news,endT,firstE] at h4 ⊢
  obtain ⟨t1,t2,t3⟩:=h4 (topT st n) (by simp)
  obtain ⟨s1,s2,s3⟩:=step_ps hS0 hu hu1 hu2 hs hs2 h.1 h3 t1 t2 t3
  have hl:(st.map fun t=>(pcs u (dS d) t).map wP).length = st.length:=by simp
  have ew:=wrap_sub g7 (by omega)
  have hb1:=bounds_lo (show st.length - ar n ≤ st.length by omega)
  have hb2:=bounds_hi (show st.length - ar n ≤ st.length by omega)
  have htk:(st.map fun t=>(pcs u (dS d) t).map wP).take st.length = st.map fun t=>(pcs u (dS d) t).map wP:=List.take_of_length_le (by omega)
  have hbl2:∀ y,Nat.ble (st.length - ar n + ([y]:List (List tPiece.T)).length) maxN = true:=fun y=>ble_of (by simp; omega)
  have hstep:(stepT st n).map (fun t=>(pcs u (dS d) t).map wP) = (st.map fun t=>(pcs u (dS d) t).map wP).take (st.length - ar n) ++ [(pcs u (dS d) (topT st n)).map wP]:=by
   unfold stepT; simp [List.map_take]
  have hdm:(st.map fun t=>(pcs u (dS d) t).map wP).drop (st.length - ar n) = (st.drop (st.length - ar n)).map fun t=>(pcs u (dS d) t).map wP:=by rw [← List.map_drop]
  have hd0:(get tDim p.2.1 0).2 = dS d:=by rw [hp]; rfl
  have hi0:idx 0 p.2.1.length = true:=by rw [hp]; rfl
  have rest:pcE u (dS d) (topT st n) = 0→_:=fun hE0=>table_rg F hF hS0 hu hu1 hu2 hs hs2 k0 k1 L N scale p hp xs (stepT st n) (i + 1) h.2 (by omega) (by
   intro t ht
   rcases List.mem_append.1 ht with ht | ht
   ·exact h3 t (List.mem_of_mem_take ht)
   ·rw [List.mem_singleton.1 ht]; exact s1 hE0) (fun t ht=>h4 t (by simp [ht]))
  simp only [normal_Table.l9.rg]
  rw [hi0,hd0]
  simp only [cond_true]
  by_cases ha:ar n = 0
  ·obtain ⟨k4,l1,l2⟩:=s2 ha
   have hE0:pcE u (dS d) (topT st n) = 0:=by unfold pcE; rw [l1]; rfl
   have IH:=rest hE0
   rw [hE0]
   rw [hstep,ha,Nat.sub_zero,htk] at IH
   have hpl:pcs u (dS d) (topT st n) = [(0,leafZ u n)]:=by unfold pcs; rw [l1]; rfl
   rw [hpl] at IH
   rw [decide_eq_true (show n.1 ≤ 4 from k4)]
   simp only [cond_true,bne_self_eq_false,cond_false]
   rw [l2 F,oB_some]
   have hbl1:Nat.ble ((st.map fun t=>(pcs u (dS d) t).map wP).length + ([[wP (0,leafZ u n)]]:List (List tPiece.T)).length) maxN = true:=ble_of (by simp; omega)
   rw [hbl1]
   simp only [cond_true]
   rw [show ((i + 1:Nat):Int) = (i:Int) + 1 by omega] at IH
   exact IH
  ·obtain ⟨k5,m1⟩:=s3 (by omega)
   rw [decide_eq_false (show ¬ n.1 ≤ 4 by show ¬ nK n ≤ 4; omega)]
   simp only [cond_false]
   rw [choices_eq F g1 g4 k5 (mk u) (dS d),oB_some]
   simp only [hl,ew,hb1,hb2,htk,cond_true,hdm]
   rw [m1 F hF,oB_some]
   cases hpc:pc u (dS d) (topT st n) with
   | none =>
    have hE0:pcE u (dS d) (topT st n) = 120:=by unfold pcE; rw [hpc]; rfl
    rw [hE0]
    exact ⟨rfl,fun h=>by cases h⟩
   | some ps =>
    have hE0:pcE u (dS d) (topT st n) = 0:=by unfold pcE; rw [hpc]; rfl
    have IH:=rest hE0
    have hpl:pcs u (dS d) (topT st n) = ps:=by unfold pcs; rw [hpc]; rfl
    rw [hstep,hpl] at IH
    rw [hE0]
    simp only [mdR,Bool.not_true,cond_false,hbl2,cond_true,bne_self_eq_false]
    rw [show ((i + 1:Nat):Int) = (i:Int) + 1 by omega] at IH
    exact IH
noncomputable def tabR (d:tDim.T) (t:Tree):tTable.T×Int×Int :=
 match firstE (pcE (unitV t) (dS d)) t.subs 0 with | some x=>((0,0,[]),(x.1:Int),120) | none=>((dS d,deep t,(pcs (unitV t) (dS d) t).map wP),0,0)
noncomputable def tableR (D:List tDim.T) (t:Tree):tTable.T×Int×Int :=
 bif (unitR D t).2.2 != 0 then ((0,0,[]),(unitR D t).2.1,(unitR D t).2.2) else bif (D.length:Int) != 1 then ((0,0,[]),-1,100) else tabR (D.getD 0 (ByteArray.empty,0)) t
theorem subs_good {p:tPlan.T} {t:Tree} (h:Good p t) (hu:(unitR p.2.1 t).2.2 = 0):∀ s ∈ t.subs,tyE s = 0∧magE (unitV t) p.2.1 s = 0∧deep s ≤ deep t:=by
 obtain ⟨u1,u2,u3,u4,u5⟩:=unit_ok h hu
 exact fun s hs=>⟨firstE_mem u2 s hs,firstE_mem u4 s hs,deep_subs t s hs⟩
theorem Table_gen (F:Nat) (hF:4200 < F) {p:tPlan.T} {t:Tree} (h:Good p t) (hU:bound_Unit.sh F p = some (((unitR p.2.1 t).1,(unitR p.2.1 t).2.1,(unitR p.2.1 t).2.2,()),())) :
  normal_Table.sh F p = some (((tableR p.2.1 t).1,(tableR p.2.1 t).2.1,(tableR p.2.1 t).2.2,()),()) ∧
  ((tableR p.2.1 t).2.2 = 0→∃ d,p.2.1 = [d]∧1 ≤ dS d∧dS d ≤ 1000000000000∧PS (unitV t) (deep t) d t):=by
 unfold normal_Table.sh tableR
 rw [hU,oB_some]
 cases hu:((unitR p.2.1 t).2.2 != 0) with
 | true =>
  simp only [cond_true,hu]
  exact ⟨trivial,fun h=>by rw [h] at hu; cases hu⟩
 | false =>
  have hu':(unitR p.2.1 t).2.2 = 0:=by simpa using hu
  obtain ⟨u1,u2,u3,u4,u5⟩:=unit_ok h hu'
  simp only [cond_false,hu]
  cases hD:((p.2.1.length:Int) != 1) with
  | true=>exact ⟨rfl,fun h=>absurd (show (100:Int) = 0 from h) (by decide)⟩
  | false =>
   have hD':p.2.1.length = 1:=by
    have:(p.2.1.length:Int) = 1:=by simpa using hD
    omega
   obtain ⟨d,hd⟩:=List.length_eq_one_iff.1 hD'
   have hh:=headE_dims h.head
   have hds:=dE_sizes _ _ hh.2.2.1 d (by rw [hd]; simp)
   have hub:=unitV_bd u1
   have hdp:=(deep_bd t).1
   have hl:=h.len
   have hok:=h.ok
   rw [hD'] at hok
   simp only [cond_false]
   rw [Scale_eq F (by omega) h,oB_some,u5]
   have hg:=subs_good h hu'
   rw [← h.subs,hd] at hg
   obtain ⟨r1,r2⟩:=table_rg F hF hdp (show unitV t = 10000 ^ (deep t).toNat from rfl) hub.1 hub.2 hds.1 hds.2 (fun r36 r46 r26=>(some ((r26,r36,r46,()),()):Option normal_Table.sg.R)) (fun scale7 p7 r27 pile7=>normal_Table.j21 F (fun r38 r48 r28=>some ((r28,r38,r48,()),())) scale7 pile7 p7 r27) p.2.2.2 (p.2.2.2.length:Int) (deep t) p hd p.2.2.2 [] 0 hok (by simp [flats]; omega) (by simp) hg
   have e0:p.2.1.getD 0 (ByteArray.empty,0) = d:=by rw [hd]; rfl
   have hrg:=normal_Table.l9.rg_eq F (fun r36 r46 r26=>(some ((r26,r36,r46,()),()):Option normal_Table.sg.R)) (fun scale7 t417 t427 t437 t447 p7 r27 unit7 pile7=>normal_Table.j21 F (fun r38 r48 r28=>some ((r28,r38,r48,()),())) scale7 pile7 p7 r27) p.2.2.2 _ rfl (by omega) p.2.2.2 0 F (deep t) p (0,0,[]) (mk (unitV t)) [] (by simp) (by omega)
   rw [e0]
   unfold tabR
   rw [h.subs] at r1 r2
   rw [h.eq] at r1 r2
   have r1:=hrg.trans r1
   refine ⟨r1.trans ?_,fun hz=>⟨d,hd,hds.1,hds.2,?_⟩⟩
   ·cases hf:firstE (pcE (unitV t) (dS d)) t.subs 0 with
    | some x=>rfl
    | none =>
     simp only
     unfold normal_Table.j21
     rw [hd]
     rfl
   ·cases hf:firstE (pcE (unitV t) (dS d)) t.subs 0 with
    | some x=>rw [hf] at hz; exact absurd (show (120:Int) = 0 from hz) (by decide)
    | none=>exact r2 hf t (by simp)
theorem Table_eq {p:tPlan.T} {t:Tree} (h:Good p t):normal_Table.sh FU p = some (((tableR p.2.1 t).1,(tableR p.2.1 t).2.1,(tableR p.2.1 t).2.2,()),()):=(Table_gen FU (by decide) h (Unit_eq h)).1
theorem Table_ps {p:tPlan.T} {t:Tree} (h:Good p t) (hz:(tableR p.2.1 t).2.2 = 0):∃ d,p.2.1 = [d]∧1 ≤ dS d∧dS d ≤ 1000000000000∧PS (unitV t) (deep t) d t:=(Table_gen FU (by decide) h (Unit_eq h)).2 hz
theorem Table_bad {p:tPlan.T} (h:(checkS p).2 ≠ 0):normal_Table.sh FU p = some (((0,0,[]),(checkS p).1,(checkS p).2,()),()):=by
 unfold normal_Table.sh
 rw [Unit_bad h,oB_some]
 rw [show ((checkS p).2 != 0) = true by simpa using h]
 rfl
theorem tabR_err {d:tDim.T} {t:Tree} (h:(tabR d t).2.2 ≠ 0):(tabR d t).1 = (0,0,[])∧(tabR d t).2.2 = 120∧0 ≤ (tabR d t).2.1∧(tabR d t).2.1 < (t.subs.length:Int):=by
 have hlt:∀ (l:List Tree) (i:Nat) (x:Nat×Int),firstE (pcE (unitV t) (dS d)) l i = some x→x.1 < i + l.length:=by
  intro l
  induction l with
  | nil=>intro i x hx; cases hx
  | cons a r ih =>
   intro i x hx
   simp only [firstE] at hx
   cases he:(pcE (unitV t) (dS d) a != 0) with
   | true=>rw [he] at hx; simp only [cond_true,Option.some.injEq] at hx; rw [← hx]; simp
   | false =>
    rw [he] at hx
    have:=ih (i + 1) x hx
    simp only [List.length_cons]; omega
 unfold tabR at h ⊢
 cases hf:firstE (pcE (unitV t) (dS d)) t.subs 0 with
 | none=>rw [hf] at h; exact absurd rfl h
 | some x =>
  have:=hlt _ _ x hf
  exact ⟨rfl,rfl,Int.natCast_nonneg _,by show (x.1:Int) < _; omega⟩
theorem chain_head:∀ (dn:List PZ) (a p:PZ) (r:List PZ),chainZ (a :: (dn ++ p :: r))→a.1 < p.1
 | [],a,p,r,h=>h.1.1
 | b :: dn,a,p,r,h=>by
  have h1:a.1 < b.1:=h.1.1
  have:=chain_head dn b p r h.2
  omega
theorem at_tail:∀ (dn:List PZ) (p:PZ) (r:List PZ),chainZ (dn ++ p :: r)→∀ x,p.1 ≤ x→lineAt (dn ++ p :: r) x = lineAt (p :: r) x∧∀ n,nextAt (dn ++ p :: r) x n = nextAt (p :: r) x n
 | [],p,r,h,x,hx=>⟨rfl,fun n=>rfl⟩
 | [a],p,r,h,x,hx=>by
  show lineAt (a :: p :: r) x = _∧∀ n,nextAt (a :: p :: r) x n = _
  rw [lineAt_two,decide_eq_true hx]
  refine ⟨rfl,fun n=>?_⟩
  rw [nextAt_two,decide_eq_true hx]; rfl
 | a :: b :: dn,p,r,h,x,hx=>by
  have ih:=at_tail (b :: dn) p r h.2 x hx
  have hb:=chain_head dn b p r h.2
  show lineAt (a :: b :: (dn ++ p :: r)) x = _∧∀ n,nextAt (a :: b :: (dn ++ p :: r)) x n = _
  rw [lineAt_two,decide_eq_true (show b.1 ≤ x by omega)]
  refine ⟨ih.1,fun n=>?_⟩
  rw [nextAt_two,decide_eq_true (show b.1 ≤ x by omega)]
  exact ih.2 n
theorem chain_tail:∀ (dn:List PZ) (l:List PZ),chainZ (dn ++ l)→chainZ l
 | [],l,h=>h
 | a :: dn,l,h=>chain_tail dn l h.2
theorem chain_mid:∀ (dn:List PZ) (a p:PZ) (r:List PZ),chainZ (dn ++ [a] ++ p :: r)→a.2 ≠ p.2
 | dn,a,p,r,h=>by
  rw [List.append_assoc] at h
  have:=chain_tail dn _ h
  exact this.1.2.2
theorem mdZ_end (c:List LZ→Int→LZ×List LZ) (s:Int) (KS:List (List PZ)) (fu:Nat) {q:Int} (h:¬ q ≤ 1099511627776) (out:List PZ):mdZ c s KS fu q out = some out:=by
 cases fu <;> simp only [mdZ,decide_eq_false h,cond_false]
theorem md_map {c:List LZ→Int→LZ×List LZ} {s:Int} {ps:List PZ} {rest:List (List PZ)} (g:LZ→LZ) (hg:∀ a b,g a = g b→a = b) (hc:∀ q,c ((ps :: rest).map fun ps=>lineAt ps q) q = (g (lineAt ps q),[])) (hr:∀ q n,nextK rest q n = n) (hch:chainZ ps) (hlen:ps.length ≤ 256) (hq:∀ p ∈ ps,p.1 ≤ 1099511627776) :
  ∀ (r:List PZ) (p:PZ) (dn:List PZ) (fu:Nat),ps = dn ++ p :: r→r.length < fu→mdZ c s (ps :: rest) fu p.1 (dn.map fun p=>(p.1,g p.2)) = some (ps.map fun p=>(p.1,g p.2))
 | r,p,dn,0,h,hf=>by omega
 | r,p,dn,fu + 1,h,hf=>by
  have hpq:=hq p (by rw [h]; simp)
  have hl:=congrArg List.length h
  simp only [List.length_append,List.length_cons] at hl
  obtain ⟨t1,t2⟩:=at_tail dn p r (by rw [← h]; exact hch) p.1 (Int.le_refl _)
  rw [← h] at t1 t2
  have hnow:=fun n=>next_now (q:=p.1) (n:=n) (p:=p) (r:=r) (fun y r2 e=>by
   have:=chain_tail dn _ (by rw [← h]; exact hch)
   rw [e] at this
   exact this.1.1)
  have hline:lineAt ps p.1 = p.2:=by rw [t1]; exact (hnow 0).1
  have hput:putZ (dn.map fun p=>(p.1,g p.2)) p.1 (g p.2) = (dn ++ [p]).map fun p=>(p.1,g p.2):=by
   have hne:¬ lastL (dn.map fun p=>(p.1,g p.2)) = some (g p.2):=by
    unfold lastL
    rw [List.getLast?_map]
    cases hd:dn.getLast? with
    | none=>simp
    | some a =>
     obtain ⟨d0,hd0⟩:=List.getLast?_eq_some_iff.1 hd
     have:=chain_mid d0 a p r (by rw [← hd0,← h]; exact hch)
     simp only [Option.map_some,Option.some.injEq]
     exact fun e=>this (hg _ _ e)
   unfold putZ
   rw [if_neg hne,List.map_append]
   rfl
  have hnx:nextZ c s (ps :: rest) p.1 = nxOf r 1099511627777:=by
   unfold nextZ
   rw [hc]
   show nextK rest p.1 (nextAt ps p.1 1099511627777) = _
   rw [hr,t2,(hnow _).2]
  have hcq:(c ((ps :: rest).map fun ps=>lineAt ps p.1) p.1).1 = g p.2:=by rw [hc,hline]
  simp only [mdZ]
  rw [decide_eq_true hpq,cond_true,hcq,hput,if_neg (by simp; omega),hnx]
  cases r with
  | nil =>
   have e:ps = dn ++ [p]:=h
   rw [show nxOf ([]:List PZ) 1099511627777 = 1099511627777 from rfl,mdZ_end c s _ fu (by omega),← e]
  | cons y r =>
   have hy:=hq y (by rw [h]; simp)
   rw [show nxOf (y :: r) 1099511627777 = y.1 from if_pos (show y.1 < 1099511627777 by omega)]
   exact md_map g hg hc hr hch hlen hq r y (dn ++ [p]) fu (by rw [h]; simp) (by simp at hf; omega)
theorem chain_le':∀ (ps:List PZ),chainZ ps→(∀ p,ps.head? = some p→p.1 ≤ 1099511627776)→∀ p ∈ ps,p.1 ≤ 1099511627776
 | [],h,h1,p,hp=>by simp at hp
 | [a],h,h1,p,hp=>by rw [List.mem_singleton.1 hp]; exact h1 a rfl
 | a :: b :: r,h,h1,p,hp=>by
  rcases List.mem_cons.1 hp with rfl | hp
  ·exact h1 _ rfl
  ·exact chain_le' (b :: r) h.2 (fun x hx=>by
    have hx:b = x:=by simpa using hx
    rw [← hx]; exact h.1.2.1) p hp
theorem map_made {s M:Int} {V:Int→Int} {Q:LZ→Prop} {c:List LZ→Int→LZ×List LZ} {ps:List PZ} {rest:List (List PZ)} (h:PG s M V Q ps) (g:LZ→LZ) (hg:∀ a b,g a = g b→a = b) (hc:∀ q,c ((ps :: rest).map fun ps=>lineAt ps q) q = (g (lineAt ps q),[])) (hr:∀ q n,nextK rest q n = n) :
  mdZ c s (ps :: rest) 4096 0 [] = some (ps.map fun p=>(p.1,g p.2)):=by
 cases hps:ps with
 | nil=>exact absurd hps h.ne
 | cons p r =>
  have h0:=h.hd p (by rw [hps]; rfl)
  have hl:=h.len
  rw [hps] at hl
  simp only [List.length_cons] at hl
  have:=md_map (s:=s) g hg hc hr h.ch h.len (chain_le' ps h.ch (fun x hx=>by have:=h.hd x hx; omega)) r p [] 4096 (by rw [hps]; rfl) (by omega)
  rw [h0,hps] at this
  exact this
abbrev feeN (x:Int):tNode.T:=(2,x,0,0,[],0)
abbrev negN:tNode.T:=(5,0,0,0,[],0)
abbrev feeT (t:Tree) (x:Int):Tree:=.nd addN [t,.nd (feeN x) []]
abbrev negT (t:Tree):Tree:=.nd negN [t]
theorem nodeE_fee {x:Int} (h1:0 ≤ x) (h2:x ≤ 1000000000000) (dims pile:Nat):nodeE dims (feeN x) pile = 0:=by
 have e1:decide (nN (feeN x) < 0) = false:=decide_eq_false (show ¬ x < 0 by omega)
 have e2:decide (nN (feeN x) > mostN (feeN x) dims) = false:=decide_eq_false (show ¬ x > 1000000000000 by omega)
 have e3:decide ((pile:Int) < (ar (feeN x):Int)) = false:=decide_eq_false (show ¬ (pile:Int) < (0:Int) by omega)
 unfold nodeE
 rw [e1,e2,e3]
 rfl
theorem nodeE_add (dims pile:Nat):nodeE dims addN pile = bif decide ((pile:Int) < 2) then 50 else 0:=rfl
theorem nodeE_neg (dims pile:Nat):nodeE dims negN pile = bif decide ((pile:Int) < 1) then 50 else 0:=rfl
theorem fee_good {p:tPlan.T} {t:Tree} (h:Good p t) (hl:p.2.2.2.length + 3 ≤ 1024) {x:Int} (h1:0 ≤ x) (h2:x ≤ 1000000000000):Good (p.1,p.2.1,p.2.2.1,p.2.2.2 ++ [feeN x,addN]) (feeT t x):=by
 refine ⟨h.head,by simp; omega,?_,?_⟩
 ·show okS p.2.1.length [] (p.2.2.2 ++ [feeN x,addN])
  rw [okS_app,h.eq]
  exact ⟨h.ok,nodeE_fee h1 h2 _ _,rfl,trivial⟩
 ·show endT [] (p.2.2.2 ++ [feeN x,addN]) = _
  rw [endT_app,h.eq]; rfl
theorem neg_good {p:tPlan.T} {t:Tree} (h:Good p t) (hl:p.2.2.2.length + 3 ≤ 1024):Good (p.1,p.2.1,p.2.2.1,p.2.2.2 ++ [negN]) (negT t):=by
 refine ⟨h.head,by simp; omega,?_,?_⟩
 ·show okS p.2.1.length [] (p.2.2.2 ++ [negN])
  rw [okS_app,h.eq]
  exact ⟨h.ok,rfl,trivial⟩
 ·show endT [] (p.2.2.2 ++ [negN]) = _
  rw [endT_app,h.eq]; rfl
theorem chkE_app (dims:Nat):∀ (a b:List tNode.T) (pile i:Nat),chkE dims (a ++ b) pile i = match chkE dims a pile i with | some x=>some x | none=>chkE dims b (chkP a pile) (i + a.length)
 | [],b,pile,i=>by simp [chkE,chkP]
 | n :: a,b,pile,i=>by
  simp only [List.cons_append,chkE,chkP]
  cases nodeE dims n pile != 0 with
  | true=>rfl
  | false =>
   simp only [cond_false]
   rw [chkE_app dims a b,List.length_cons,show i + 1 + a.length = i + (a.length + 1) by omega]
theorem chkP_app:∀ (a b:List tNode.T) (pile:Nat),chkP (a ++ b) pile = chkP b (chkP a pile)
 | [],b,pile=>rfl
 | n :: a,b,pile=>by simp only [List.cons_append,chkP,chkP_app a b]
theorem bad_app {p:tPlan.T} (hl:p.2.2.2.length + 3 ≤ 1024) (h:(checkS p).2 ≠ 0) (xs:List tNode.T) (hx:xs.length ≤ 3) (h50:∀ P:Nat,P ≠ 1→(∃ j,chkE p.2.1.length xs P (0 + p.2.2.2.length) = some (j,50)) ∨ (chkE p.2.1.length xs P (0 + p.2.2.2.length) = none∧chkP xs P ≠ 1)) :
  (checkS (p.1,p.2.1,p.2.2.1,p.2.2.2 ++ xs)).2 = (checkS p).2:=by
 unfold checkS at h ⊢
 simp only
 cases h1:(headE p.1 p.2.1 p.2.2.1 != 0) with
 | true=>rfl
 | false =>
  rw [h1] at h
  rw [decide_eq_false (show ¬ (p.2.2.2.length:Int) > 1024 by omega)] at h ⊢
  rw [decide_eq_false (show ¬ ((p.2.2.2 ++ xs).length:Int) > 1024 by simp; omega)]
  simp only [cond_false] at h ⊢
  rw [chkE_app,chkP_app]
  cases hc:chkE p.2.1.length p.2.2.2 0 0 with
  | some x=>rfl
  | none =>
   rw [hc] at h
   simp only at h ⊢
   by_cases hp:chkP p.2.2.2 0 = 1
   ·rw [hp] at h; exact absurd rfl h
   ·have e1:(((chkP p.2.2.2 0:Nat):Int) != 1) = true:=by simp; omega
    rw [e1]
    rcases h50 _ hp with ⟨j,hj⟩ | ⟨hj,hp'⟩
    ·rw [hj]; rfl
    ·have e2:(((chkP xs (chkP p.2.2.2 0):Nat):Int) != 1) = true:=by simp; omega
     rw [hj,e2]; rfl
theorem fee_bad {p:tPlan.T} (hl:p.2.2.2.length + 3 ≤ 1024) (h:(checkS p).2 ≠ 0) {x:Int} (h1:0 ≤ x) (h2:x ≤ 1000000000000):(checkS (p.1,p.2.1,p.2.2.1,p.2.2.2 ++ [feeN x,addN])).2 = (checkS p).2:=by
 refine bad_app hl h _ (by simp) fun P hP=>?_
 simp only [chkE,nodeE_fee h1 h2,bne_self_eq_false,cond_false]
 rw [nodeE_add]
 rw [show ar (feeN x) = 0 from rfl]
 by_cases h0:P = 0
 ·subst h0
  exact .inl ⟨_,rfl⟩
 ·rw [decide_eq_false (show ¬ ((P - 0 + 1:Nat):Int) < 2 by omega)]
  refine .inr ⟨rfl,?_⟩
  show P - 0 + 1 - 2 + 1 ≠ 1
  omega
theorem neg_bad {p:tPlan.T} (hl:p.2.2.2.length + 3 ≤ 1024) (h:(checkS p).2 ≠ 0):(checkS (p.1,p.2.1,p.2.2.1,p.2.2.2 ++ [negN])).2 = (checkS p).2:=by
 refine bad_app hl h _ (by simp) fun P hP=>?_
 simp only [chkE]
 rw [nodeE_neg]
 by_cases h0:P = 0
 ·subst h0
  exact .inl ⟨_,rfl⟩
 ·rw [decide_eq_false (show ¬ (P:Int) < 1 by omega)]
  refine .inr ⟨rfl,?_⟩
  show P - 1 + 1 ≠ 1
  omega
theorem subs_fee (t:Tree) (x:Int):(feeT t x).subs = t.subs ++ [.nd (feeN x) [],feeT t x]:=by
 rw [subs_nd]
 simp only [subss,List.map_cons,List.map_nil,List.flatten_cons,List.flatten_nil,List.append_nil,subs_nd,List.append_assoc]
 rfl
theorem subs_neg (t:Tree):(negT t).subs = t.subs ++ [negT t]:=by
 rw [subs_nd]; simp [subss]
theorem deep_fee (t:Tree) (x:Int):deep (feeT t x) = deep t:=by
 have h0:=(deep_bd t).1
 rw [deep_nd]
 show (maxF (deep t) [0]) + 0 = deep t
 simp only [maxF,List.foldl_cons,List.foldl_nil]
 split <;> omega
theorem deep_neg (t:Tree):deep (negT t) = deep t:=by
 rw [deep_nd]
 show (maxF (deep t) []) + 0 = deep t
 simp [maxF]
theorem mag_neg (u:Int) (D:List tDim.T) (t:Tree):mag u D (negT t) = mag u D t:=by
 rw [mag_nd]
 show sumL [mag u D t] = _
 simp [sumL]
theorem ty_fee (t:Tree) (x:Int):ty (feeT t x) = bif ty t == 1 then 1 else -1:=by
 rw [ty_nd]
 show oneL [ty t,1] = _
 unfold oneL
 by_cases h:ty t = 1
 ·rw [h]; rfl
 ·have h1:(1 == ty t) = false:=by simpa using fun e=>h e.symm
  have h2:(ty t == 1) = false:=by simpa using h
  simp only [List.all_cons,List.all_nil,h1,h2,Bool.and_true,cond_false]
theorem ty_neg (t:Tree):ty (negT t) = ty t:=by
 rw [ty_nd]; rfl
def tE (t:Tree):Int:=match firstE tyE t.subs 0 with | some x=>x.2 | none=>bif ty t != 1 then 80 else 0
theorem typesE_of (t:Tree):(typesR t).2.2 = tE t:=by
 unfold typesR tE
 cases firstE tyE t.subs 0 with
 | some x=>rfl
 | none=>cases (ty t != 1) <;> rfl
theorem measE_of (u:Int) (D:List tDim.T) (t:Tree):decide ((measR u D t).2 ≥ 0) = (firstE (magE u D) t.subs 0).isSome:=by
 unfold measR
 cases firstE (magE u D) t.subs 0 with
 | some x=>exact decide_eq_true (show (x.1:Int) ≥ 0 by omega)
 | none=>rfl
theorem unitE_of (D:List tDim.T) (t:Tree):(unitR D t).2.2 = bif tE t != 0 then tE t else bif decide (deep t > 6) then 90 else bif (firstE (magE (unitV t) D) t.subs 0).isSome then 90 else 0:=by
 unfold unitR
 rw [typesE_of,measE_of]
 cases h:(tE t != 0) with
 | true=>rw [cond_true,cond_true]; first | done | exact typesE_of t
 | false =>
  simp only [cond_false]
  cases decide (deep t > 6) with
  | true=>rfl
  | false=>cases (firstE (magE (unitV t) D) t.subs 0).isSome <;> rfl
theorem tE_fee (t:Tree) (x:Int):tE (feeT t x) = tE t:=by
 have hm:tyE (.nd (feeN x) []) = 0:=rfl
 unfold tE
 rw [subs_fee,firstE_app]
 cases firstE tyE t.subs 0 with
 | some y=>rfl
 | none =>
  simp only [firstE,hm,bne_self_eq_false,cond_false]
  by_cases h:ty t = 1
  ·have h1:ty (feeT t x) = 1:=by rw [ty_fee,h]; rfl
   have h2:tyE (feeT t x) = 0:=by unfold tyE; rw [h1]; rfl
   rw [h2,h1,h]; rfl
  ·have h1:ty (feeT t x) = -1:=by rw [ty_fee,show (ty t == 1) = false by simpa using h]; rfl
   have h2:tyE (feeT t x) = 80:=by unfold tyE; rw [h1]; rfl
   rw [h2,show (ty t != 1) = true by simpa using h]
   rfl
theorem tE_neg (t:Tree):tE (negT t) = tE t:=by
 unfold tE
 rw [subs_neg,firstE_app]
 cases hf:firstE tyE t.subs 0 with
 | some y=>rfl
 | none =>
  have h0:=firstE_mem hf t (subs_self t)
  have h2:tyE (negT t) = 0:=by
   have:=tyE_ne h0
   unfold tyE
   rw [ty_neg,show (ty t == -1) = false by simpa using this]
   rfl
  simp only [firstE,h2,bne_self_eq_false,cond_false]
  rw [ty_neg]
theorem unitV_fee (t:Tree) (x:Int):unitV (feeT t x) = unitV t:=by unfold unitV; rw [deep_fee]
theorem unitV_neg (t:Tree):unitV (negT t) = unitV t:=by unfold unitV; rw [deep_neg]
theorem unit_fee (D:List tDim.T) (t:Tree) (x:Int):((unitR D t).2.2 ≠ 0→(unitR D (feeT t x)).2.2 = (unitR D t).2.2)∧((unitR D t).2.2 = 0→(unitR D (feeT t x)).2.2 = 0 ∨ (unitR D (feeT t x)).2.2 = 90):=by
 rw [unitE_of,unitE_of,tE_fee,deep_fee,unitV_fee,subs_fee,firstE_app]
 cases ht:(tE t != 0) with
 | true =>
  simp only [cond_true]
  exact ⟨fun _=>trivial,fun h=>by rw [h] at ht; cases ht⟩
 | false =>
  simp only [cond_false]
  cases decide (deep t > 6) with
  | true=>exact ⟨fun _=>rfl,fun h=>absurd (show (90:Int) = 0 from h) (by decide)⟩
  | false =>
   simp only [cond_false]
   cases firstE (magE (unitV t) D) t.subs 0 with
   | some y=>exact ⟨fun _=>rfl,fun h=>absurd (show (90:Int) = 0 from h) (by decide)⟩
   | none =>
    refine ⟨fun h=>absurd rfl h,fun _=>?_⟩
    cases (firstE (magE (unitV t) D) [.nd (feeN x) [],feeT t x] (0 + t.subs.length)).isSome
    ·exact .inl rfl
    ·exact .inr rfl
theorem unit_neg {p:tPlan.T} {t:Tree} (hg:Good p t):(unitR p.2.1 (negT t)).2.2 = (unitR p.2.1 t).2.2:=by
 rw [unitE_of,unitE_of,tE_neg,deep_neg,unitV_neg,subs_neg,firstE_app]
 cases ht:(tE t != 0) with
 | true=>rfl
 | false =>
  simp only [cond_false]
  cases hd:decide (deep t > 6) with
  | true=>rfl
  | false =>
   have hd:=of_decide_eq_false hd
   simp only [cond_false]
   cases hf:firstE (magE (unitV t) p.2.1) t.subs 0 with
   | some y=>rfl
   | none =>
    have hub:=unitV_bd (t:=t) (by omega)
    have hh:=headE_dims hg.head
    have hS:=meas_bd hub.1 hub.2 hh.2.2.1 hh.2.1 p.2.2.2 [] hg.ok (by simp) (by rw [hg.subs]; exact hf) t (by rw [hg.eq]; simp)
    have h0:magE (unitV t) p.2.1 (negT t) = 0:=by
     have e:farN negN (mag (unitV t) p.2.1 (negT t)) = mag (unitV t) p.2.1 t:=by rw [mag_neg]; rfl
     unfold magE
     rw [show (negT t).root = negN from rfl,e,decide_eq_false (show ¬ mag (unitV t) p.2.1 t > BND by omega)]
     rfl
    simp only [firstE,h0]
    rfl
theorem sub0_inj (a b:LZ) (h:subL z0 a = subL z0 b):a = b:=by
 obtain ⟨a1,a2,a3⟩:=a
 obtain ⟨b1,b2,b3⟩:=b
 simp only [subL,Prod.mk.injEq] at h ⊢
 omega
theorem addc_inj (v:Int) (a b:LZ) (h:addL a (constL v) = addL b (constL v)):a = b:=by
 obtain ⟨a1,a2,a3⟩:=a
 obtain ⟨b1,b2,b3⟩:=b
 simp only [addL,constL,Prod.mk.injEq] at h ⊢
 omega
theorem pc_neg {u S:Int} {d:tDim.T} {t:Tree} (h:PS u S d t):pc u (dS d) (negT t) = some ((pcs u (dS d) t).map fun p=>(p.1,subL z0 p.2)):=by
 have e:pc u (dS d) (negT t) = mdZ (chZ negN u (dS d)) (dS d) [pcs u (dS d) t] 4096 0 []:=by
  rw [pc_nd]; rfl
 rw [e]
 exact map_made h.1.pg (rest:=[]) (subL z0) sub0_inj (fun q=>rfl) (fun q n=>rfl)
theorem pc_fee {u S:Int} {d:tDim.T} {t:Tree} (h:PS u S d t) (x:Int):pc u (dS d) (.nd (feeN x) []) = some [(0,constL (x * u))]∧pc u (dS d) (feeT t x) = some ((pcs u (dS d) t).map fun p=>(p.1,addL p.2 (constL (x * u)))):=by
 have e0:pc u (dS d) (.nd (feeN x) []) = some [(0,constL (x * u))]:=by rw [pc_nd]; rfl
 have e:pc u (dS d) (feeT t x) = mdZ (chZ addN u (dS d)) (dS d) [pcs u (dS d) t,pcs u (dS d) (.nd (feeN x) [])] 4096 0 []:=by
  rw [pc_nd]; rfl
 refine ⟨e0,?_⟩
 rw [e,show pcs u (dS d) (.nd (feeN x) []) = [(0,constL (x * u))] from by unfold pcs; rw [e0]; rfl]
 exact map_made h.1.pg (rest:=[[(0,constL (x * u))]]) (fun a=>addL a (constL (x * u))) (addc_inj _) (fun q=>rfl) (fun q n=>rfl)
theorem pcs_some {u s:Int} {t:Tree} {l:List PZ} (h:pc u s t = some l):pcs u s t = l:=by unfold pcs; rw [h]; rfl
theorem tableR_D {D:List tDim.T} {t:Tree} (hu:(unitR D t).2.2 = 0) (h1:(D.length:Int) = 1):tableR D t = tabR (D.getD 0 (ByteArray.empty,0)) t:=by
 unfold tableR; rw [hu,h1]; rfl
theorem tableR_err {D:List tDim.T} {t:Tree} (hu:(unitR D t).2.2 ≠ 0):tableR D t = ((0,0,[]),(unitR D t).2.1,(unitR D t).2.2):=by
 unfold tableR; rw [show ((unitR D t).2.2 != 0) = true by simpa using hu]; rfl
theorem tableR_dims {D:List tDim.T} {t:Tree} (hu:(unitR D t).2.2 = 0) (h1:(D.length:Int) ≠ 1):tableR D t = ((0,0,[]),-1,100):=by
 unfold tableR; rw [hu,show ((D.length:Int) != 1) = true by simpa using h1]; rfl
structure Three (D:List tDim.T) (t:Tree) (x:Int):Prop where
 neg:(tableR D (negT t)).2.2 = (tableR D t).2.2
 fee:(tableR D (feeT t x)).2.2 = (tableR D t).2.2 ∨ ((tableR D (feeT t x)).2.2 = 90∧((tableR D t).2.2 = 0 ∨ (tableR D t).2.2 = 100 ∨ (tableR D t).2.2 = 120))
 ok:(tableR D t).2.2 = 0→∃ d,D = [d]∧PS (unitV t) (deep t) d t∧1 ≤ unitV t∧unitV t ≤ 1000000000000000000000000∧1 ≤ dS d∧(tableR D t).1 = (dS d,deep t,(pcs (unitV t) (dS d) t).map wP) ∧
  (tableR D (negT t)).1 = (dS d,deep t,((pcs (unitV t) (dS d) t).map fun p=>(p.1,subL z0 p.2)).map wP) ∧
  ((tableR D (feeT t x)).2.2 = 0→(tableR D (feeT t x)).1 = (dS d,deep t,((pcs (unitV t) (dS d) t).map fun p=>(p.1,addL p.2 (constL (x * unitV t)))).map wP))
theorem three {p:tPlan.T} {t:Tree} (hg:Good p t) (x:Int):Three p.2.1 t x:=by
 obtain ⟨f1,f2⟩:=unit_fee p.2.1 t x
 have n1:=unit_neg hg
 by_cases hu:(unitR p.2.1 t).2.2 = 0
 ·have hun:(unitR p.2.1 (negT t)).2.2 = 0:=by rw [n1,hu]
  by_cases hD:(p.2.1.length:Int) = 1
  ·obtain ⟨d,hd⟩:=List.length_eq_one_iff.1 (show p.2.1.length = 1 by omega)
   have e0:p.2.1.getD 0 (ByteArray.empty,0) = d:=by rw [hd]; rfl
   have et:=tableR_D hu hD
   have en:=tableR_D hun hD
   have ef:=fun h=>tableR_D (t:=feeT t x) h hD
   rw [e0] at et en ef
   have hfe:(unitR p.2.1 (feeT t x)).2.2 = 90→(tableR p.2.1 (feeT t x)).2.2 = 90:=fun h=>by
    rw [tableR_err (by rw [h]; decide)]; exact h
   cases hf:firstE (pcE (unitV t) (dS d)) t.subs 0 with
   | some y =>
    have et1:(tabR d t).2.2 = 120:=by unfold tabR; rw [hf]
    have en1:(tabR d (negT t)).2.2 = 120:=by unfold tabR; rw [unitV_neg,subs_neg,firstE_app,hf]
    have ef1:(tabR d (feeT t x)).2.2 = 120:=by unfold tabR; rw [unitV_fee,subs_fee,firstE_app,hf]
    refine ⟨by rw [en,et,en1,et1],?_,fun h=>by rw [et,et1] at h; exact absurd h (by decide)⟩
    rcases f2 hu with h | h
    ·left; rw [ef h,et,et1,ef1]
    ·right; exact ⟨hfe h,by rw [et,et1]; exact .inr (.inr rfl)⟩
   | none =>
    have et1:tabR d t = ((dS d,deep t,(pcs (unitV t) (dS d) t).map wP),0,0):=by unfold tabR; rw [hf]
    have ht0:(tableR p.2.1 t).2.2 = 0:=by rw [et,et1]
    obtain ⟨d',hd',hs,hs2,hps⟩:=Table_ps hg ht0
    have hdd:d' = d:=by rw [hd] at hd'; simpa using hd'.symm
    subst hdd
    obtain ⟨u1,u2,u3,u4,u5⟩:=unit_ok hg hu
    have hub:=unitV_bd u1
    have pn:=pc_neg hps
    obtain ⟨pm,pf⟩:=pc_fee hps x
    have zn:pcE (unitV t) (dS d') (negT t) = 0:=by unfold pcE; rw [pn]; rfl
    have zm:pcE (unitV t) (dS d') (.nd (feeN x) []) = 0:=by unfold pcE; rw [pm]; rfl
    have zf:pcE (unitV t) (dS d') (feeT t x) = 0:=by unfold pcE; rw [pf]; rfl
    have en1:tabR d' (negT t) = ((dS d',deep t,((pcs (unitV t) (dS d') t).map fun p=>(p.1,subL z0 p.2)).map wP),0,0):=by
     have hx:firstE (pcE (unitV t) (dS d')) (negT t).subs 0 = none:=by
      rw [subs_neg,firstE_app,hf]; simp only [firstE,zn]; rfl
     unfold tabR
     rw [unitV_neg,hx,deep_neg,pcs_some pn]
    have ef1:tabR d' (feeT t x) = ((dS d',deep t,((pcs (unitV t) (dS d') t).map fun p=>(p.1,addL p.2 (constL (x * unitV t)))).map wP),0,0):=by
     have hx:firstE (pcE (unitV t) (dS d')) (feeT t x).subs 0 = none:=by
      rw [subs_fee,firstE_app,hf]; simp only [firstE,zm,zf]; rfl
     unfold tabR
     rw [unitV_fee,hx,deep_fee,pcs_some pf]
    refine ⟨by rw [en,et,en1,et1],?_,fun _=>⟨d',hd,hps,hub.1,hub.2,hs,by rw [et,et1],by rw [en,en1],fun h=>?_⟩⟩
    ·rcases f2 hu with h | h
     ·left; rw [ef h,et,et1,ef1]
     ·right; exact ⟨hfe h,.inl ht0⟩
    ·rcases f2 hu with h' | h'
     ·rw [ef h',ef1]
     ·rw [hfe h'] at h; exact absurd h (by decide)
  ·have et:=tableR_dims hu hD
   have en:=tableR_dims hun hD
   refine ⟨by rw [en,et],?_,fun h=>by rw [et] at h; exact absurd (show (100:Int) = 0 from h) (by decide)⟩
   rcases f2 hu with h | h
   ·left; rw [tableR_dims h hD,et]
   ·right
    exact ⟨by rw [tableR_err (by rw [h]; decide)]; exact h,by rw [et]; exact .inr (.inl rfl)⟩
 ·have et:=tableR_err hu
  have en:=tableR_err (D:=p.2.1) (t:=negT t) (by rw [n1]; exact hu)
  have ef:=tableR_err (D:=p.2.1) (t:=feeT t x) (by rw [f1 hu]; exact hu)
  exact ⟨by rw [en,et]; exact n1,.inl (by rw [ef,et]; exact f1 hu),fun h=>by rw [et] at h; exact absurd h hu⟩
theorem same12_l4 (F:Nat) {R:Type} (k0:Bool→Option R) (kT:Option R) (a:tTable.T) (hn:a.2.2.length ≤ 256):∀ (n i fu:Nat),i + n = a.2.2.length→n < fu→octroiref12_Same.l4 F k0 (fun _ _ _ _=>kT) fu (i:Int) a a = kT
 | n,i,0,h,hf=>by omega
 | 0,i,fu + 1,h,hf=>by
  simp only [octroiref12_Same.l4,octroiref12_Same.l4.body]
  rw [decide_eq_false (show ¬ (i:Int) < (a.2.2.length:Int) by omega)]
  rfl
 | n + 1,i,fu + 1,h,hf=>by
  simp only [octroiref12_Same.l4,octroiref12_Same.l4.body]
  rw [decide_eq_true (show (i:Int) < (a.2.2.length:Int) by omega),rg_idx (show i < a.2.2.length by omega),wrap_i64 (n:=(i:Int) + 1) (by omega) (by omega),show (i:Int) + 1 = ((i + 1:Nat):Int) by omega]
  simp only [cond_true,beq_self_eq_true,Bool.and_self,Bool.not_true,cond_false]
  exact same12_l4 F k0 kT a hn n (i + 1) fu (by omega) (by omega)
theorem same12 (F:Nat) (hF:256 < F) (a:tTable.T) (hn:a.2.2.length ≤ 256):octroiref12_Same.sh F a a = some ((true,()),()):=by
 unfold octroiref12_Same.sh
 simp only [bne_self_eq_false,cond_false]
 exact same12_l4 F (fun r41=>some ((r41,()),())) (some ((true,()),())) a hn _ 0 F (Nat.zero_add _) (by omega)
theorem get_map (ps:List PZ) (g:PZ→PZ) {i:Nat} (hi:i < ps.length):get tPiece ((ps.map g).map wP) i = wP (g ps[i]):=by
 unfold get
 rw [List.getD_eq_getElem?_getD,List.map_map,List.getElem?_map,List.getElem?_eq_getElem hi]
 rfl
theorem get_map' (ps:List PZ) {i:Nat} (hi:i < ps.length):get tPiece (ps.map wP) i = wP ps[i]:=by
 have:=get_map ps id hi
 rwa [List.map_id] at this
theorem add_opp (F:Nat) {a:Int} (h:nA a ≤ LIM):wide_Add.sh F (mk a) (mk (0 - a)) = some ((mk 0,0,()),()):=by
 have i1:=inR_nA h
 have i2:inR (0 - a) = true:=inR_nA (by unfold nA at *; omega)
 rw [add_eq F (wf_mk i1) (wf_mk i2),val_mk,val_mk,show a + (0 - a) = 0 by omega]
 rfl
theorem grows_l22 (F:Nat) {R:Type} (k0:Bool→Option R) (k1:Int→Int→Int→Bool→tTable.T→tTable.T→tTable.T→Option R) (fee g:Int) (u t v:tTable.T) {ps:List PZ} {s:Int} (hs:1 ≤ s) (hp:∀ p ∈ ps,spanZ s p.2 ≤ LIM) (ht:t.2.2 = ps.map wP) (hv:v.2.2 = (ps.map fun p=>(p.1,subL z0 p.2)).map wP) (hl:ps.length ≤ 256):∀ (n i fu:Nat),i + n = ps.length→n < fu →
  octroilaw12_NormalGrows.l22 F k0 k1 fu fee g (i:Int) t u v = k1 fee g (ps.length:Int) false t u v
 | n,i,0,h,hf=>by omega
 | 0,i,fu + 1,h,hf=>by
  have:i = ps.length:=by omega
  subst this
  simp only [octroilaw12_NormalGrows.l22,octroilaw12_NormalGrows.l22.body]
  rw [ht,decide_eq_false (show ¬ (ps.length:Int) < ((ps.map wP).length:Int) by simp)]
  rfl
 | n + 1,i,fu + 1,h,hf=>by
  have hi:i < ps.length:=by omega
  obtain ⟨s1,s2,s3,_⟩:=span_parts hs ps[i].2
  have hsp:=hp ps[i] (List.getElem_mem hi)
  simp only [octroilaw12_NormalGrows.l22,octroilaw12_NormalGrows.l22.body]
  rw [ht,hv,decide_eq_true (show (i:Int) < ((ps.map wP).length:Int) by simp; omega),rg_idx (show i < (ps.map wP).length by simpa using hi),rg_idx (show i < ((ps.map fun p=>(p.1,subL z0 p.2)).map wP).length by simpa using hi),Int.toNat_natCast,get_map' ps hi,get_map ps _ hi,
   wrap_i64 (n:=(i:Int) + 1) (by omega) (by omega),show (i:Int) + 1 = ((i + 1:Nat):Int) by omega]
  simp only [cond_true]
  have IH:=grows_l22 F k0 k1 fee g u t v hs hp ht hv hl n (i + 1) fu (by omega) (by omega)
  show (oB (wide_Add.sh F (mk ps[i].2.1) (mk (0 - ps[i].2.1))) fun c_7=>oB (wide_Add.sh F (mk ps[i].2.2.1) (mk (0 - ps[i].2.2.1))) fun c_8=>oB (wide_Add.sh F (mk ps[i].2.2.2) (mk (0 - ps[i].2.2.2))) fun c_9=>_) = _
  rw [add_opp F (nA_le s1 hsp),oB_some,add_opp F (nA_le s2 hsp),oB_some,add_opp F (nA_le s3 hsp),oB_some]
  simp only [bne_self_eq_false,cond_false,zero_mk,beq_self_eq_true,Bool.and_self,Bool.not_true]
  show (bif (ps[i].1 != ps[i].1) then k0 false else _) = _
  rw [bne_self_eq_false]
  exact IH
theorem sub_fee (F:Nat) {a f:Int} (h1:nA a ≤ BND) (h2:nA f ≤ BND):wide_Sub.sh F (mk (a + f)) (mk a) = some ((mk f,0,()),()):=by
 have hBND:BND = 1329227995784915872903807060280344576:=rfl
 have hLIM:LIM = 85070591730234615865843651857942052864:=rfl
 have h3:=nA_add a f
 have i1:inR a = true:=inR_nA (by omega)
 have i2:inR f = true:=inR_nA (by omega)
 have i3:inR (a + f) = true:=inR_nA (by omega)
 rw [sub_eq F (wf_mk i3) (wf_mk i1),val_mk,val_mk,show a + f - a = f by omega,(res_in i2).1]
 unfold errW
 rw [i2]; rfl
theorem grows_l35 (F:Nat) {R:Type} (k0:Bool→Option R) (k1:Int→Int→Int→Bool→tTable.T→tTable.T→tWide.T→Option R) (fee f:Int) (t u:tTable.T) {ps:List PZ} {s:Int} (hs:1 ≤ s) (hp:∀ p ∈ ps,spanZ s p.2 ≤ BND) (hf2:nA f ≤ BND) (ht:t.2.2 = ps.map wP) (hu:u.2.2 = (ps.map fun p=>(p.1,addL p.2 (constL f))).map wP) (hl:ps.length ≤ 256):∀ (n i fu:Nat),i + n = ps.length→n < fu →
  octroilaw12_NormalGrows.l35 F k0 k1 fu fee 0 (i:Int) t u (mk f) = k1 fee 0 (ps.length:Int) false t u (mk f)
 | n,i,0,h,hf=>by omega
 | 0,i,fu + 1,h,hf=>by
  have:i = ps.length:=by omega
  subst this
  simp only [octroilaw12_NormalGrows.l35,octroilaw12_NormalGrows.l35.body]
  rw [ht,decide_eq_false (show ¬ (ps.length:Int) < ((ps.map wP).length:Int) by simp)]
  rfl
 | n + 1,i,fu + 1,h,hf=>by
  have hi:i < ps.length:=by omega
  obtain ⟨s1,s2,s3,_⟩:=span_parts hs ps[i].2
  have hsp:=hp ps[i] (List.getElem_mem hi)
  simp only [octroilaw12_NormalGrows.l35,octroilaw12_NormalGrows.l35.body]
  rw [ht,hu,decide_eq_true (show (i:Int) < ((ps.map wP).length:Int) by simp; omega),rg_idx (show i < (ps.map wP).length by simpa using hi),rg_idx (show i < ((ps.map fun p=>(p.1,addL p.2 (constL f))).map wP).length by simpa using hi),Int.toNat_natCast,get_map' ps hi,get_map ps _ hi,
   wrap_i64 (n:=(i:Int) + 1) (by omega) (by omega),show (i:Int) + 1 = ((i + 1:Nat):Int) by omega]
  simp only [cond_true]
  have IH:=grows_l35 F k0 k1 fee f t u hs hp hf2 ht hu hl n (i + 1) fu (by omega) (by omega)
  have e2:(wP (ps[i].1,addL ps[i].2 (constL f))).2.2.1 = mk ps[i].2.2.1:=by show mk (ps[i].2.2.1 + 0) = _; rw [Int.add_zero]
  have e3:(wP (ps[i].1,addL ps[i].2 (constL f))).2.2.2 = mk ps[i].2.2.2:=by show mk (ps[i].2.2.2 + 0) = _; rw [Int.add_zero]
  rw [e2,e3,show (wP (ps[i].1,addL ps[i].2 (constL f))).2.1 = mk (ps[i].2.1 + f) from rfl,show (wP ps[i]).2.1 = mk ps[i].2.1 from rfl,show (wP ps[i]).2.2.1 = mk ps[i].2.2.1 from rfl,show (wP ps[i]).2.2.2 = mk ps[i].2.2.2 from rfl,sub_fee F (Int.le_trans s1 hsp) hf2,oB_some]
  simp only [bne_self_eq_false,cond_false,beq_self_eq_true,Bool.and_self,Bool.not_true]
  show (bif (ps[i].1 != ps[i].1) then k0 false else _) = _
  rw [bne_self_eq_false]
  exact IH
theorem grows_j21 (F:Nat) (hF:300 < F) {R:Type} (kT:Option R) (k0 k1' k2' k3' k4':Bool→Option R) (hk1:k1' true = kT) (hk4:k4' true = kT) {ps:List PZ} {s sc:Int} (hs:1 ≤ s) (hp:∀ p ∈ ps,spanZ s p.2 ≤ BND) (hl:ps.length ≤ 256) (hne:0 < ps.length) {x u:Int} (hx:0 ≤ x) (hu:1 ≤ u) (hnf:nA (x * u) ≤ BND)
  (U:tTable.T) (e:Int) (hU:e = 0→U = (s,sc,(ps.map fun p=>(p.1,addL p.2 (constL (x * u)))).map wP)) :
  octroilaw12_NormalGrows.j21 F k0 k1' k2' k3' k4' x e (s,sc,ps.map wP) U (s,sc,(ps.map fun p=>(p.1,subL z0 p.2)).map wP) = kT:=by
 have hBND:BND = 1329227995784915872903807060280344576:=rfl
 have hLIM:LIM = 85070591730234615865843651857942052864:=rfl
 have hp':∀ p ∈ ps,spanZ s p.2 ≤ LIM:=fun p h=>by have:=hp p h; omega
 have hf0:=Int.mul_nonneg hx (show 0 ≤ u by omega)
 unfold octroilaw12_NormalGrows.j21
 have e22:=fun k1=>grows_l22 F (R:=R) (fun r410=>k0 r410) k1 x e U (s,sc,ps.map wP) (s,sc,(ps.map fun p=>(p.1,subL z0 p.2)).map wP) hs hp' rfl rfl hl _ 0 F (Nat.zero_add _) (by omega)
 rw [show ((0:Nat):Int) = 0 from rfl] at e22
 rw [e22]
 by_cases hz:e = 0
 ·rw [hU hz,hz]
  generalize hf:x * u = f at *
  have hlu:((((ps.map fun p=>(p.1,addL p.2 (constL f))).map wP).length:Int) != (((ps.map wP).length:Nat):Int)) = false:=by simp
  have hg0:=get_map ps (fun p=>(p.1,addL p.2 (constL f))) hne
  have hg1:=get_map' ps hne
  have s1:=(span_parts hs ps[0].2).1
  have hs0:=hp _ (List.getElem_mem hne)
  have i0:idx 0 ((ps.map fun p=>(p.1,addL p.2 (constL f))).map wP).length = true:=rg_idx (i:=0) (by simpa using hne)
  have i1:idx 0 (ps.map wP).length = true:=rg_idx (i:=0) (by simpa using hne)
  simp only [bne_self_eq_false,cond_false]
  rw [hlu,i0,i1]
  simp only [cond_false,cond_true]
  rw [hg0,hg1,show (wP (ps[0].1,addL ps[0].2 (constL f))).2.1 = mk (ps[0].2.1 + f) from rfl,show (wP ps[0]).2.1 = mk ps[0].2.1 from rfl,sub_fee F (Int.le_trans s1 hs0) hnf,oB_some]
  have e35:=fun k1=>grows_l35 F (R:=R) (fun r414=>k3' r414) k1 x f (s,sc,ps.map wP) (s,sc,(ps.map fun p=>(p.1,addL p.2 (constL f))).map wP) hs hp hnf rfl rfl hl _ 0 F (Nat.zero_add _) (by omega)
  rw [show ((0:Nat):Int) = 0 from rfl] at e35
  rw [e35]
  obtain ⟨k,ek,q1,q2,_⟩:=sign_pos F (v:=f)
  have hpos:decide (f > 0) = decide (x > 0):=by
   refine decide_eq_decide.2 ⟨fun hh=>?_,fun hh=>?_⟩
   ·rcases Int.lt_or_le 0 x with hx' | hx'
    ·exact hx'
    ·have:x = 0:=by omega
     rw [this,Int.zero_mul] at hf; omega
   ·have:=Int.mul_le_mul (show 1 ≤ x by omega) hu (by omega) (by omega)
    omega
  rw [ek,oB_some,oB_some,q1,q2,decide_eq_true (show f ≥ 0 from hf0),hpos,beq_self_eq_true]
  exact hk4
 ·rw [show (e != 0) = true by simpa using hz]
  exact hk1
theorem grows_gen (F:Nat) (hF:300 < F) (hA:octroilaw12_awake.sh F = some ((true,()),())) (hG:∀ (p:tPlan.T) (t:Tree),Good p t→normal_Table.sh F p = some (((tableR p.2.1 t).1,(tableR p.2.1 t).2.1,(tableR p.2.1 t).2.2,()),()))
  (hB:∀ p:tPlan.T,(checkS p).2 ≠ 0→normal_Table.sh F p = some (((0,0,[]),(checkS p).1,(checkS p).2,()),())) (p:tPlan.T) (x:Int) (hlen:p.2.2.2.length < 4611686018427387904):octroilaw12_NormalGrows.sh F p x = some ((true,()),()):=by
 have hBND:BND = 1329227995784915872903807060280344576:=rfl
 have hLIM:LIM = 85070591730234615865843651857942052864:=rfl
 unfold octroilaw12_NormalGrows.sh
 rw [hA,oB_some]
 simp only [Bool.not_true,cond_false]
 by_cases h1:x < 0
 ·rw [decide_eq_true h1]; rfl
 by_cases h2:x > 1000000000000
 ·rw [decide_eq_false h1,decide_eq_true h2]; rfl
 rw [decide_eq_false h1,decide_eq_false h2]
 simp only [cond_false]
 cases h3:decide (IntKind.i64.wrap ((p.2.2.2.length:Int) + 3) > 1024) with
 | true=>rfl
 | false =>
  have hn0:p.2.2.2.length + 3 ≤ 1024:=by
   have h3:=of_decide_eq_false h3
   rcases Nat.lt_or_ge p.2.2.2.length 4611686018427387904 with hl | hl
   ·rw [wrap_i64 (n:=(p.2.2.2.length:Int) + 3) (by omega) (by omega)] at h3; omega
   ·exact absurd hlen (by omega)
  have hb1:Nat.ble (0 + p.2.2.2.length) maxN = true:=ble_of (by omega)
  have hb2:Nat.ble (p.2.2.2.length + ([(2,x,0,0,[],0),(6,0,0,0,[],0)]:List tNode.T).length) maxN = true:=ble_of (by simp only [List.length_cons,List.length_nil]; omega)
  have hb3:Nat.ble (p.2.2.2.length + ([(5,0,0,0,[],0)]:List tNode.T).length) maxN = true:=ble_of (by simp only [List.length_cons,List.length_nil]; omega)
  simp only [cond_false]
  by_cases h:(checkS p).2 = 0
  ·obtain ⟨t,ht⟩:=check_ok h
   obtain ⟨tn,tf,tk⟩:=three ht x
   have gf:=fee_good ht hn0 (x:=x) (by omega) (by omega)
   have gn:=neg_good ht hn0
   have hTl:(tableR p.2.1 t).1.2.2.length ≤ 256:=by
    by_cases he:(tableR p.2.1 t).2.2 = 0
    ·obtain ⟨d,hd,hps,k1,k2,k3,k4,k5,k6⟩:=tk he
     rw [k4]; simpa using hps.1.pg.len
    ·have:(tableR p.2.1 t).1 = (0,0,[]):=by
      unfold tableR at he ⊢
      cases hu:((unitR p.2.1 t).2.2 != 0) with
      | true=>rfl
      | false =>
       rw [hu] at he
       cases hD:((p.2.1.length:Int) != 1) with
       | true=>rfl
       | false =>
        rw [hD] at he
        exact (tabR_err he).1
     rw [this]; simp
   rw [hG _ _ ht,oB_some,oB_some]
   simp only [bne_self_eq_false,cond_false]
   rw [same12 F (by omega) _ hTl,oB_some,hb1,hb2,hb3]
   simp only [Bool.not_true,cond_false,cond_true]
   have ef:=hG _ _ gf
   have en:=hG _ _ gn
   simp only at ef en
   rw [ef,oB_some,en,oB_some]
   simp only [tn,beq_self_eq_true]
   cases he:((tableR p.2.1 t).2.2 != 0) with
   | true =>
    simp only [cond_true]
    rcases tf with tf | ⟨tf,tf2⟩
    ·rw [tf,beq_self_eq_true]; rfl
    ·rw [tf]
     rcases tf2 with e | e | e <;> rw [e] at he ⊢
     ·cases he
     ·rfl
     ·rfl
   | false =>
    have he':(tableR p.2.1 t).2.2 = 0:=by simpa using he
    obtain ⟨d,hd,hps,k1,k2,k3,k4,k5,k6⟩:=tk he'
    have g:=hps.1.pg
    have hmb:=hps.1.mb
    have hsp:∀ q ∈ pcs (unitV t) (dS d) t,spanZ (dS d) q.2 ≤ BND:=fun q hq=>by have:=g.sp q hq; omega
    have hsp':∀ q ∈ pcs (unitV t) (dS d) t,spanZ (dS d) q.2 ≤ LIM:=fun q hq=>by have:=hsp q hq; omega
    have hne:0 < (pcs (unitV t) (dS d) t).length:=List.length_pos_iff.2 g.ne
    have hbx:=mul_bd (show 0 ≤ x by omega) (show x ≤ 1000000000000 by omega) (show 0 ≤ unitV t by omega) k2
    have hnf:nA (x * unitV t) ≤ BND:=by rw [nA_of hbx.1]; omega
    simp only [cond_false]
    rw [k4,k5]
    have hlv:(((((dS d,deep t,((pcs (unitV t) (dS d) t).map fun p=>(p.1,subL z0 p.2)).map wP):tTable.T).2.2.length:Nat):Int) != ((((dS d,deep t,(pcs (unitV t) (dS d) t).map wP):tTable.T).2.2.length:Nat):Int)) = false:=by simp
    rw [hlv]
    simp only [cond_false]
    have hj:=fun U e hU=>grows_j21 F (by omega) (R:=octroilaw12_NormalGrows.sg.R) (some ((true,()),())) (fun r=>some ((r,()),())) (fun r=>some ((r,()),())) (fun r=>some ((r,()),())) (fun r=>some ((r,()),())) (fun r=>some ((r,()),())) rfl rfl k3 hsp g.len hne (sc:=deep t) (x:=x) (u:=unitV t) (by omega) k1 hnf U e hU
    cases hfe:((tableR p.2.1 (feeT t x)).2.2 != 0) with
    | true =>
     have:(tableR p.2.1 (feeT t x)).2.2 = 90:=by
      rcases tf with tf | tf
      ·rw [tf,he'] at hfe; cases hfe
      ·exact tf.1
     rw [this]
     exact hj _ 90 (fun h=>absurd h (by decide))
    | false =>
     have hz:(tableR p.2.1 (feeT t x)).2.2 = 0:=by simpa using hfe
     rw [hz]
     exact hj _ 0 (fun _=>k6 hz)
  ·have bf:=fee_bad hn0 h (x:=x) (by omega) (by omega)
   have bn:=neg_bad hn0 h
   have ef:=hB ((p.1,p.2.1,p.2.2.1,p.2.2.2 ++ [feeN x,addN])) (by rw [bf]; exact h)
   have en:=hB ((p.1,p.2.1,p.2.2.1,p.2.2.2 ++ [negN])) (by rw [bn]; exact h)
   rw [bf] at ef
   rw [bn] at en
   rw [hB _ h,oB_some,oB_some]
   simp only [bne_self_eq_false,cond_false]
   rw [same12 F (by omega) _ (by simp),oB_some,hb1,hb2,hb3]
   simp only [Bool.not_true,cond_false,cond_true]
   rw [ef,oB_some,en,oB_some,show ((checkS p).2 != 0) = true by simpa using h]
   simp only [cond_true,beq_self_eq_true]
theorem grows_law (p:tPlan.T) (x:Int) (hlen:p.2.2.2.length < 4611686018427387904):octroilaw12_NormalGrows.sh FU p x = some ((true,()),()):=grows_gen FU (by decide) awake_eq (fun p t h=>Table_eq h) (fun p h=>Table_bad h) p x hlen
theorem sum_ge (f:tNode.T→Nat) (l:List tNode.T) (h:∀ x ∈ l,1 ≤ f x):l.length ≤ (l.map f).sum:=by
 induction l with
 | nil=>simp
 | cons a r ih =>
  have:=ih (fun x hx=>h x (List.mem_cons_of_mem _ hx))
  have:=h a (by simp)
  rw [List.map_cons,List.sum_cons,List.length_cons]; omega
theorem grows_upto (x:TA octroilaw12_NormalGrows.sg.args) (hw:wfA octroilaw12_NormalGrows.sg.args x) (hb:bulkA octroilaw12_NormalGrows.sg.args x ≤ 1048576):octroilaw12_NormalGrows.sp FU x = some ((true,()),()):=by
 refine grows_law x.1 x.2.1 ?_
 have h1:=sum_ge (bulkT tNode) x.1.2.2.2 (fun n _=>by show 1 ≤ bulkT (.int .i64) n.1 + _; show 1 ≤ 1 + _; omega)
 have h2:bulkT (.sl tNode) x.1.2.2.2 ≤ bulkA octroilaw12_NormalGrows.sg.args x:=by
  show _ ≤ (bulkT .str x.1.1 + (bulkT (.sl tDim) x.1.2.1 + (bulkT (.int .i64) x.1.2.2.1 + bulkT (.sl tNode) x.1.2.2.2))) + (1 + 0)
  omega
 have h3:bulkT (.sl tNode) x.1.2.2.2 = (x.1.2.2.2.map (bulkT tNode)).sum + 1:=rfl
 omega
end Go.VS
