import Derived.Test.YtepflleaeogafaaGreatDoorL14
set_option linter.unusedVariables false
set_option linter.unusedSimpArgs false
set_option linter.unusedSectionVars false
set_option linter.unusedVariables false
set_option linter.unusedSimpArgs false
set_option maxRecDepth 100000
namespace Go.VS
open Go
structure Guess (y1 y0 u un q qh rh:Int):Prop where
 y1a:2147483648 ≤ y1
 y1b:y1 < 4294967296
 y0a:0 ≤ y0
 y0b:y0 < 4294967296
 una:0 ≤ un
 unb:un < 4294967296
 ua:0 ≤ u
 ub:u < y1 * 4294967296 + y0
 q0:0 ≤ q
 qle:q * (y1 * 4294967296 + y0) ≤ u * 4294967296 + un
 qlt:u * 4294967296 + un < (q + 1) * (y1 * 4294967296 + y0)
 rh0:0 ≤ rh
 rhb:rh < 4294967296
 eq:qh * y1 + rh = u
 le:q ≤ qh
 hi:qh ≤ 4294967297
theorem Guess.qh_y {y1 y0 u un q qh rh:Int} (g:Guess y1 y0 u un q qh rh):qh * (y1 * 4294967296 + y0) = (u - rh) * 4294967296 + qh * y0:=by
 rw [Int.mul_add,← Int.mul_assoc,← g.eq]
 congr 2
 omega
theorem Guess.good {y1 y0 u un q qh rh:Int} (g:Guess y1 y0 u un q qh rh) (h:qh * y0 ≤ 4294967296 * rh + un):qh = q:=by
 have h1:=g.qh_y
 have h2:=g.qlt
 have hy:0 < y1 * 4294967296 + y0:=by have:=g.y1a; have:=g.y0a; omega
 have h3:qh * (y1 * 4294967296 + y0) < (q + 1) * (y1 * 4294967296 + y0):=by omega
 have:=Int.lt_of_mul_lt_mul_right h3 (Int.le_of_lt hy)
 have:=g.le
 omega
theorem Guess.next {y1 y0 u un q qh rh:Int} (g:Guess y1 y0 u un q qh rh) (h:q + 1 ≤ qh):(rh + y1 < 4294967296→Guess y1 y0 u un q (qh - 1) (rh + y1))∧(4294967296 ≤ rh + y1→qh - 1 = q):=by
 have e:(qh - 1) * y1 + (rh + y1) = u:=by rw [Int.sub_mul,Int.one_mul]; have:=g.eq; omega
 constructor
 ·intro hr
  exact {g with rh0:=by have:=g.rh0; have:=g.y1a; omega,rhb:=hr,eq:=e,le:=by omega,hi:=by have:=g.hi; omega}
 ·intro hr
  have hy0:=g.y0a
  have hm:(qh - 1) * y0 ≤ 4294967296 * y0:=Int.mul_le_mul_of_nonneg_right (by have:=g.hi; omega) hy0
  have hy:0 < y1 * 4294967296 + y0:=by have:=g.y1a; omega
  have h1:(qh - 1) * (y1 * 4294967296 + y0) = (u - (rh + y1)) * 4294967296 + (qh - 1) * y0:=by
   rw [Int.mul_add,← Int.mul_assoc,← e]
   congr 2
   omega
  have h2:=g.qlt
  have:=g.y0b
  have:=g.una
  have h3:(qh - 1) * (y1 * 4294967296 + y0) < (q + 1) * (y1 * 4294967296 + y0):=by omega
  have:=Int.lt_of_mul_lt_mul_right h3 (Int.le_of_lt hy)
  omega
theorem Guess.first {y1 y0 u un:Int} (y1a:2147483648 ≤ y1) (y1b:y1 < 4294967296) (y0a:0 ≤ y0) (y0b:y0 < 4294967296) (una:0 ≤ un) (unb:un < 4294967296) (ua:0 ≤ u) (ub:u < y1 * 4294967296 + y0) :
  Guess y1 y0 u un ((u * 4294967296 + un) / (y1 * 4294967296 + y0)) (u / y1) (u % y1):=by
 have hy:0 < y1 * 4294967296 + y0:=by omega
 have e:=Int.emod_add_mul_ediv u y1
 have e2:u / y1 * y1 + u % y1 = u:=by rw [Int.mul_comm]; omega
 have r1:=Int.emod_nonneg u (show y1 ≠ 0 by omega)
 have r2:=Int.emod_lt_of_pos u (show 0 < y1 by omega)
 have hq0:0 ≤ u / y1:=Int.ediv_nonneg ua (by omega)
 have hqy:0 ≤ u / y1 * y0:=Int.mul_nonneg hq0 y0a
 refine ⟨y1a,y1b,y0a,y0b,una,unb,ua,ub,Int.ediv_nonneg (by omega) (by omega),Int.ediv_mul_le _ (by omega),Int.lt_ediv_add_one_mul_self _ hy,r1,by omega,e2,?_,?_⟩
 ·have h1:(u * 4294967296 + un) / (y1 * 4294967296 + y0) < u / y1 + 1:=by
   refine Int.ediv_lt_of_lt_mul hy ?_
   rw [Int.add_mul,Int.one_mul,Int.mul_add,← Int.mul_assoc]
   have:(u - u % y1) * 4294967296 = u / y1 * y1 * 4294967296:=by congr 1; omega
   omega
  omega
 ·have h1:u / y1 < 4294967298:=by
   refine Int.ediv_lt_of_lt_mul (by omega) ?_
   omega
  omega
end Go.VS
