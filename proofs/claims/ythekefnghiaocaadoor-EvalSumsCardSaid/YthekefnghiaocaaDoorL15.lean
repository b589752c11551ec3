import Derived.Test.YthekefnghiaocaaDoorL14
set_option linter.unusedVariables false
set_option linter.unusedSimpArgs false
set_option linter.unusedSectionVars false
set_option linter.unusedVariables false
set_option linter.unusedSimpArgs false
set_option maxRecDepth 100000
namespace Go.VS
open Go
structure Guess (y1 y0 u un q qh rh:Int):Prop where
 y1a:2147483648 ≤ y1
 y1b:y1 < 4294967296
 y0a:0 ≤ y0
 y0b:y0 < 4294967296
 una:0 ≤ un
 unb:un < 4294967296
 ua:0 ≤ u
 ub:u < y1 * 4294967296 + y0
 q0:0 ≤ q
 qle:q * (y1 * 4294967296 + y0) ≤ u * 4294967296 + un
 qlt:u * 4294967296 + un < (q + 1) * (y1 * 4294967296 + y0)
 rh0:0 ≤ rh
 rhb:rh < 4294967296
 eq:qh * y1 + rh = u
 le:q ≤ qh
 hi:qh ≤ 4294967297
theorem Guess.qh_y {y1 y0 u un q qh rh:Int} (g:Guess y1 y0 u un q qh rh):qh * (y1 * 4294967296 + y0) = (u - rh) * 4294967296 + qh * y0:=by
 rw [Int.mul_add,← Int.mul_assoc,← g.eq]
 congr 2
 omega
theorem Guess.qsm {y1 y0 u un q qh rh:Int} (g:Guess y1 y0 u un q qh rh):q < 4294967296:=by
 have h:=g.qle
 have h1:=g.ub
 have hy:0 < y1 * 4294967296 + y0:=by have:=g.y1a; have:=g.y0a; omega
 rcases Int.lt_or_le q 4294967296 with h' | h'
 ·exact h'
 ·have:=Int.mul_le_mul_of_nonneg_right h' (Int.le_of_lt hy)
  have:=g.unb
  omega
theorem Guess.good {y1 y0 u un q qh rh:Int} (g:Guess y1 y0 u un q qh rh) (h:qh * y0 ≤ 4294967296 * rh + un):qh = q:=by
 have h1:=g.qh_y
 have h2:=g.qlt
 have hy:0 < y1 * 4294967296 + y0:=by have:=g.y1a; have:=g.y0a; omega
 have h3:qh * (y1 * 4294967296 + y0) < (q + 1) * (y1 * 4294967296 + y0):=by omega
 have:=Int.lt_of_mul_lt_mul_right h3 (Int.le_of_lt hy)
 have:=g.le
 omega
theorem Guess.big {y1 y0 u un q qh rh:Int} (g:Guess y1 y0 u un q qh rh) (h:4294967296 ≤ qh ∨ 4294967296 * rh + un < qh * y0):q + 1 ≤ qh:=by
 rcases h with h | h
 ·have:=g.qsm; omega
 ·have h1:=g.qh_y
  have h2:=g.qle
  have hy:0 < y1 * 4294967296 + y0:=by have:=g.y1a; have:=g.y0a; omega
  have h3:q * (y1 * 4294967296 + y0) < qh * (y1 * 4294967296 + y0):=by omega
  have:=Int.lt_of_mul_lt_mul_right h3 (Int.le_of_lt hy)
  omega
theorem Guess.next {y1 y0 u un q qh rh:Int} (g:Guess y1 y0 u un q qh rh) (h:q + 1 ≤ qh):(rh + y1 < 4294967296→Guess y1 y0 u un q (qh - 1) (rh + y1))∧(4294967296 ≤ rh + y1→qh - 1 = q):=by
 have e:(qh - 1) * y1 + (rh + y1) = u:=by rw [Int.sub_mul,Int.one_mul]; have:=g.eq; omega
 constructor
 ·intro hr
  exact {g with rh0:=by have:=g.rh0; have:=g.y1a; omega,rhb:=hr,eq:=e,le:=by omega,hi:=by have:=g.hi; omega}
 ·intro hr
  have hy0:=g.y0a
  have hm:(qh - 1) * y0 ≤ 4294967296 * y0:=Int.mul_le_mul_of_nonneg_right (by have:=g.hi; omega) hy0
  have hy:0 < y1 * 4294967296 + y0:=by have:=g.y1a; omega
  have h1:(qh - 1) * (y1 * 4294967296 + y0) = (u - (rh + y1)) * 4294967296 + (qh - 1) * y0:=by
   rw [Int.mul_add,← Int.mul_assoc,← e]
   congr 2
   omega
  have h2:=g.qlt
  have:=g.y0b
  have:=g.una
  have h3:(qh - 1) * (y1 * 4294967296 + y0) < (q + 1) * (y1 * 4294967296 + y0):=by omega
  have:=Int.lt_of_mul_lt_mul_right h3 (Int.le_of_lt hy)
  omega
theorem knuth17 (F:Nat) {R:Type} (k:Int→Int→Int→Int→Int→Int→Int→Int→Option R) (y s u0:Int) {y1 y0 u un q:Int}:∀ (m fu:Nat) (qh rh:Int),m < fu→4294967296 ≤ rh + m * 2147483648→Guess y1 y0 u un q qh rh →
  math_bits_Div64.l17 F (fun y s a b c d e q _ _=>k y s a b c d e q) (fun y s a b c d e q _ _=>k y s a b c d e q) fu y s y1 y0 u un u0 qh rh = k y s y1 y0 u un u0 q
 | 0,fu,qh,rh,hf,hm,g=>by have:=g.rhb; omega
 | m + 1,fu,qh,rh,hf,hm,g=>by
  obtain ⟨fu,rfl⟩:∃ j,fu = j + 1:=⟨fu - 1,by omega⟩
  have r0:=g.rh0
  have rb:=g.rhb
  have q0:=g.q0
  have ql:=g.le
  have qhi:=g.hi
  have a1:=g.y1a
  have a2:=g.y1b
  have b1:=g.y0a
  have b2:=g.y0b
  have un1:=g.una
  have un2:=g.unb
  have step:q + 1 ≤ qh→(bif decide ((IntKind.u64.wrap (rh + y1)) ≥ 4294967296) then k y s y1 y0 u un u0 (IntKind.u64.wrap (qh - 1)) else math_bits_Div64.l17 F (fun y s a b c d e q _ _=>k y s a b c d e q) (fun y s a b c d e q _ _=>k y s a b c d e q) fu y s y1 y0 u un u0 (IntKind.u64.wrap (qh - 1)) (IntKind.u64.wrap (rh + y1))) = k y s y1 y0 u un u0 q:=by
   intro h
   have hn:=g.next h
   rw [wrap_u64 (n:=rh + y1) (by omega) (by omega),wrap_u64 (n:=qh - 1) (by omega) (by omega)]
   by_cases hr:rh + y1 ≥ 4294967296
   ·rw [decide_eq_true hr,hn.2 hr]; rfl
   ·rw [decide_eq_false hr]
    exact knuth17 F k y s u0 m fu (qh - 1) (rh + y1) (by omega) (by push_cast at hm; omega) (hn.1 (by omega))
  simp only [math_bits_Div64.l17,math_bits_Div64.l17.body]
  by_cases hq:qh ≥ 4294967296
  ·rw [decide_eq_true hq]
   exact step (g.big (.inl hq))
  ·rw [decide_eq_false hq]
   have hz:=mul_bd (show 0 ≤ qh by omega) (show qh ≤ 4294967295 by omega) b1 (show y0 ≤ 4294967295 by omega)
   simp only [cond_false]
   rw [wrap_u64 (n:=qh * y0) (by omega) (by omega),wrap_u64 (n:=4294967296 * rh) (by omega) (by omega),wrap_u64 (n:=4294967296 * rh + un) (by omega) (by omega)]
   by_cases hc:qh * y0 > 4294967296 * rh + un
   ·rw [decide_eq_true hc]
    exact step (g.big (.inr hc))
   ·rw [decide_eq_false hc,g.good (by omega)]
    rfl
theorem knuth24 (F:Nat) {R:Type} (k:Int→Int→Int→Int→Int→Int→Int→Int→Option R) (y s Q1:Int) {y1 y0 u un q:Int}:∀ (m fu:Nat) (qh rh:Int),m < fu→4294967296 ≤ rh + m * 2147483648→Guess y1 y0 u un q qh rh →
  math_bits_Div64.l24 F (fun y s a b c d _ e q _=>k y s a b c d e q) (fun y s a b c d _ e q _=>k y s a b c d e q) fu y s y1 y0 un Q1 rh u qh = k y s y1 y0 un Q1 u q
 | 0,fu,qh,rh,hf,hm,g=>by have:=g.rhb; omega
 | m + 1,fu,qh,rh,hf,hm,g=>by
  obtain ⟨fu,rfl⟩:∃ j,fu = j + 1:=⟨fu - 1,by omega⟩
  have r0:=g.rh0
  have rb:=g.rhb
  have q0:=g.q0
  have ql:=g.le
  have qhi:=g.hi
  have a1:=g.y1a
  have a2:=g.y1b
  have b1:=g.y0a
  have b2:=g.y0b
  have un1:=g.una
  have un2:=g.unb
  have step:q + 1 ≤ qh→(bif decide ((IntKind.u64.wrap (rh + y1)) ≥ 4294967296) then k y s y1 y0 un Q1 u (IntKind.u64.wrap (qh - 1)) else math_bits_Div64.l24 F (fun y s a b c d _ e q _=>k y s a b c d e q) (fun y s a b c d _ e q _=>k y s a b c d e q) fu y s y1 y0 un Q1 (IntKind.u64.wrap (rh + y1)) u (IntKind.u64.wrap (qh - 1))) = k y s y1 y0 un Q1 u q:=by
   intro h
   have hn:=g.next h
   rw [wrap_u64 (n:=rh + y1) (by omega) (by omega),wrap_u64 (n:=qh - 1) (by omega) (by omega)]
   by_cases hr:rh + y1 ≥ 4294967296
   ·rw [decide_eq_true hr,hn.2 hr]; rfl
   ·rw [decide_eq_false hr]
    exact knuth24 F k y s Q1 m fu (qh - 1) (rh + y1) (by omega) (by push_cast at hm; omega) (hn.1 (by omega))
  simp only [math_bits_Div64.l24,math_bits_Div64.l24.body]
  by_cases hq:qh ≥ 4294967296
  ·rw [decide_eq_true hq]
   exact step (g.big (.inl hq))
  ·rw [decide_eq_false hq]
   have hz:=mul_bd (show 0 ≤ qh by omega) (show qh ≤ 4294967295 by omega) b1 (show y0 ≤ 4294967295 by omega)
   simp only [cond_false]
   rw [wrap_u64 (n:=qh * y0) (by omega) (by omega),wrap_u64 (n:=4294967296 * rh) (by omega) (by omega),wrap_u64 (n:=4294967296 * rh + un) (by omega) (by omega)]
   by_cases hc:qh * y0 > 4294967296 * rh + un
   ·rw [decide_eq_true hc]
    exact step (g.big (.inr hc))
   ·rw [decide_eq_false hc,g.good (by omega)]
    rfl
theorem Guess.first {y1 y0 u un:Int} (y1a:2147483648 ≤ y1) (y1b:y1 < 4294967296) (y0a:0 ≤ y0) (y0b:y0 < 4294967296) (una:0 ≤ un) (unb:un < 4294967296) (ua:0 ≤ u) (ub:u < y1 * 4294967296 + y0) :
  Guess y1 y0 u un ((u * 4294967296 + un) / (y1 * 4294967296 + y0)) (u / y1) (u % y1):=by
 have hy:0 < y1 * 4294967296 + y0:=by omega
 have e:=Int.emod_add_mul_ediv u y1
 have e2:u / y1 * y1 + u % y1 = u:=by rw [Int.mul_comm]; omega
 have r1:=Int.emod_nonneg u (show y1 ≠ 0 by omega)
 have r2:=Int.emod_lt_of_pos u (show 0 < y1 by omega)
 have hq0:0 ≤ u / y1:=Int.ediv_nonneg ua (by omega)
 have hqy:0 ≤ u / y1 * y0:=Int.mul_nonneg hq0 y0a
 refine ⟨y1a,y1b,y0a,y0b,una,unb,ua,ub,Int.ediv_nonneg (by omega) (by omega),Int.ediv_mul_le _ (by omega),Int.lt_ediv_add_one_mul_self _ hy,r1,by omega,e2,?_,?_⟩
 ·have h1:(u * 4294967296 + un) / (y1 * 4294967296 + y0) < u / y1 + 1:=by
   refine Int.ediv_lt_of_lt_mul hy ?_
   rw [Int.add_mul,Int.one_mul,Int.mul_add,← Int.mul_assoc]
   have:(u - u % y1) * 4294967296 = u / y1 * y1 * 4294967296:=by congr 1; omega
   omega
  omega
 ·have h1:u / y1 < 4294967298:=by
   refine Int.ediv_lt_of_lt_mul (by omega) ?_
   omega
  omega
end Go.VS
