import Derived.Test.YthekefnghiaocaaDoorL2
set_option linter.unusedVariables false
set_option linter.unusedSimpArgs false
set_option linter.unusedSectionVars false
set_option linter.unusedVariables false
set_option linter.unusedSimpArgs false
set_option maxRecDepth 100000
namespace Go.VS
open Go
def FU:Nat:=4194304
def sumV (l:List (Int×Int)):Int:=(l.map val).sum
theorem shr63 {x:Int} (h1:-9223372036854775808 ≤ x) (h2:x < 9223372036854775808):x.fdiv (2 ^ (min (63:Int).toNat IntKind.i64.bits)) = if x < 0 then -1 else 0:=by
 have e:(2 ^ (min (63:Int).toNat IntKind.i64.bits):Int) = 9223372036854775808:=by decide
 rw [e,Int.fdiv_eq_ediv_of_nonneg _ (by omega)]
 split <;> omega
theorem pair2 {a b c d:Int} (h1:a = c) (h2:b = d):(a,b) = (c,d):=by rw [h1,h2]
theorem sum_rg (F:Nat) {R:Type} (k:Int→Int→Int→Option R) (l:List (Int×Int)) (N:Int) (xs:List (Int×Int)):∀ (i lo hi top:Int) (r:Int×Int),(∀ x ∈ xs,wfW x)→0 ≤ lo→lo < 18446744073709551616→0 ≤ hi→hi < 18446744073709551616 →
  -4611686018427387904 + xs.length ≤ top→top ≤ 4611686018427387904 - xs.length →
  ∃ lo' hi' top',wide_Sum.l4.rg F (fun lo hi top _ _ _ _ _=>k lo hi top) l N xs i lo hi top r = k lo' hi' top'∧0 ≤ lo'∧lo' < 18446744073709551616∧0 ≤ hi'∧hi' < 18446744073709551616 ∧
   -4611686018427387904 ≤ top'∧top' ≤ 4611686018427387904∧top' * 340282366920938463463374607431768211456 + hi' * 18446744073709551616 + lo' = top * 340282366920938463463374607431768211456 + hi * 18446744073709551616 + lo + sumV xs:=by
 induction xs with
 | nil =>
  intro i lo hi top r _ h1 h2 h3 h4 h5 h6
  exact ⟨lo,hi,top,by simp only [wide_Sum.l4.rg],h1,h2,h3,h4,by simp at h5; omega,by simp at h6; omega,by simp [sumV]⟩
 | cons x xs ih =>
  intro i lo hi top r hw h1 h2 h3 h4 h5 h6
  obtain ⟨x1,x2⟩:=x
  obtain ⟨g1,g2,g3,g4⟩:=hw (x1,x2) (by simp)
  simp only at g1 g2 g3 g4
  simp only [wide_Sum.l4.rg,wrap_u64_mod]
  rw [add64_eq F h1 g3 (by omega) (by omega)]
  simp only [oB_some]
  rw [add64_eq F h3 (by omega) (by omega) (by omega)]
  simp only [oB_some]
  rw [shr63 g1 g2]
  obtain ⟨s,hs⟩:∃ s:Int,s = (if x1 < 0 then -1 else 0)∧(x1 < 0∧s = -1 ∨ 0 ≤ x1∧s = 0):=⟨_,rfl,by split <;> omega⟩
  rw [← hs.1]
  simp only [List.length_cons] at h5 h6
  rw [wrap_i64 (n:=(hi + x1 % 18446744073709551616 + (lo + x2 + 0) / 18446744073709551616) / 18446744073709551616) (by omega) (by omega)]
  rw [wrap_i64 (n:=s + _) (by omega) (by omega),wrap_i64 (n:=top + _) (by omega) (by omega)]
  obtain ⟨lo',hi',top',e1,e2,e3,e4,e5,e6,e7,e8⟩:=ih (i + 1) ((lo + x2 + 0) % 18446744073709551616) ((hi + x1 % 18446744073709551616 + (lo + x2 + 0) / 18446744073709551616) % 18446744073709551616)
   (top + (s + (hi + x1 % 18446744073709551616 + (lo + x2 + 0) / 18446744073709551616) / 18446744073709551616)) r (fun y hy=>hw y (by simp [hy])) (by omega) (by omega) (by omega) (by omega) (by omega) (by omega)
  refine ⟨lo',hi',top',e1,e2,e3,e4,e5,e6,e7,?_⟩
  rw [e8]
  simp only [sumV,List.map_cons,List.sum_cons,val]
  omega
theorem wsum_eq (F:Nat) {l:List (Int×Int)} (hw:∀ x ∈ l,wfW x) (hl:l.length < F) (hL:l.length < 4611686018427387904):wide_Sum.sh F l = some ((resW (sumV l),errW (sumV l),()),()):=by
 unfold wide_Sum.sh
 rw [show (0:Int) = ((0:Nat):Int) from rfl,wide_Sum.l4.rg_eq F _ l _ rfl (by omega) l 0 F _ _ _ _ (by simp) hl]
 obtain ⟨lo,hi,top,e1,e2,e3,e4,e5,e6,e7,e8⟩:=sum_rg F (fun lo hi top=>bif (top != ((IntKind.i64.wrap hi).fdiv (2 ^ (min (63:Int).toNat IntKind.i64.bits)))) then (some (((0,0),10,()),()):Option wide_Sum.sg.R) else some (((IntKind.i64.wrap hi,lo),0,()),()))
  l (l.length:Int) l 0 0 0 0 (0,0) hw (by omega) (by omega) (by omega) (by omega) (by omega) (by omega)
 refine e1.trans ?_
 obtain ⟨k,f1,f2,f3⟩:=wrap_ex hi
 rw [shr63 f2 f3]
 simp only [Int.zero_mul,Int.zero_add] at e8
 rw [← e8]
 generalize IntKind.i64.wrap hi = r at *
 by_cases hr:r < 0
 ·rw [if_pos hr]
  by_cases ht:top = -1
  ·have hb:(top != -1) = false:=by rw [ht]; rfl
   have hin:inR (top * 340282366920938463463374607431768211456 + hi * 18446744073709551616 + lo) = true:=by rw [inR_iff]; omega
   simp only [hb,cond_false,resW,errW,hin,cond_true,mk]
   rw [pair2 (a:=r) (b:=lo) (c:=(top * 340282366920938463463374607431768211456 + hi * 18446744073709551616 + lo) / 18446744073709551616) (d:=(top * 340282366920938463463374607431768211456 + hi * 18446744073709551616 + lo) % 18446744073709551616) (by omega) (by omega)]
  ·have hb:(top != -1) = true:=bne_iff_ne.2 ht
   have hin:inR (top * 340282366920938463463374607431768211456 + hi * 18446744073709551616 + lo) = false:=by rw [inR_no]; omega
   simp only [hb,cond_true,resW,errW,hin,cond_false]
 ·rw [if_neg hr]
  by_cases ht:top = 0
  ·have hb:(top != 0) = false:=by rw [ht]; rfl
   have hin:inR (top * 340282366920938463463374607431768211456 + hi * 18446744073709551616 + lo) = true:=by rw [inR_iff]; omega
   simp only [hb,cond_false,resW,errW,hin,cond_true,mk]
   rw [pair2 (a:=r) (b:=lo) (c:=(top * 340282366920938463463374607431768211456 + hi * 18446744073709551616 + lo) / 18446744073709551616) (d:=(top * 340282366920938463463374607431768211456 + hi * 18446744073709551616 + lo) % 18446744073709551616) (by omega) (by omega)]
  ·have hb:(top != 0) = true:=bne_iff_ne.2 ht
   have hin:inR (top * 340282366920938463463374607431768211456 + hi * 18446744073709551616 + lo) = false:=by rw [inR_no]; omega
   simp only [hb,cond_true,resW,errW,hin,cond_false]
theorem power_0:times_Power.sh FU 0 = some ((mk (10000 ^ (0:Int).toNat),0,()),()):=by kernel_rfl
theorem power_1:times_Power.sh FU 1 = some ((mk (10000 ^ (1:Int).toNat),0,()),()):=by kernel_rfl
theorem power_2:times_Power.sh FU 2 = some ((mk (10000 ^ (2:Int).toNat),0,()),()):=by kernel_rfl
theorem power_3:times_Power.sh FU 3 = some ((mk (10000 ^ (3:Int).toNat),0,()),()):=by kernel_rfl
theorem power_4:times_Power.sh FU 4 = some ((mk (10000 ^ (4:Int).toNat),0,()),()):=by kernel_rfl
theorem power_5:times_Power.sh FU 5 = some ((mk (10000 ^ (5:Int).toNat),0,()),()):=by kernel_rfl
theorem power_6:times_Power.sh FU 6 = some ((mk (10000 ^ (6:Int).toNat),0,()),()):=by kernel_rfl
theorem power_7:times_Power.sh FU 7 = some ((mk (10000 ^ (7:Int).toNat),0,()),()):=by kernel_rfl
theorem power_8:times_Power.sh FU 8 = some ((mk (10000 ^ (8:Int).toNat),0,()),()):=by kernel_rfl
theorem power_9:times_Power.sh FU 9 = some ((mk (10000 ^ (9:Int).toNat),0,()),()):=by kernel_rfl
theorem power_eq {k:Int} (h1:0 ≤ k) (h2:k ≤ 9):times_Power.sh FU k = some ((mk (10000 ^ k.toNat),0,()),()):=by
 have:k = 0 ∨ k = 1 ∨ k = 2 ∨ k = 3 ∨ k = 4 ∨ k = 5 ∨ k = 6 ∨ k = 7 ∨ k = 8 ∨ k = 9:=by omega
 rcases this with rfl | rfl | rfl | rfl | rfl | rfl | rfl | rfl | rfl | rfl
 ·exact power_0
 ·exact power_1
 ·exact power_2
 ·exact power_3
 ·exact power_4
 ·exact power_5
 ·exact power_6
 ·exact power_7
 ·exact power_8
 ·exact power_9
def ceilD (a b:Int):Int:=a / b + if a % b = 0 then 0 else 1
theorem div_ceil (F:Nat) {s:Int} (h1:1 ≤ s) (h2:s ≤ 1000000000000):times_Div.sh F (mk 1099511627776) (mk s) 1 = some ((mk (ceilD 1099511627776 s),0,()),()):=by
 have hq1:0 ≤ 1099511627776 / s:=Int.ediv_nonneg (by omega) (by omega)
 have hq2:1099511627776 / s ≤ 1099511627776:=Int.ediv_le_self _ (by omega)
 have hr1:0 ≤ 1099511627776 % s:=Int.emod_nonneg _ (by omega)
 have hr2:1099511627776 % s < s:=Int.emod_lt_of_pos _ (by omega)
 have ms:mk s = (0,s):=by simp only [mk]; ext <;> simp only <;> omega
 have ma:mk 1099511627776 = (0,1099511627776):=by rfl
 have mks:∀ {v:Int},0 ≤ v→v < 18446744073709551616→mk v = (0,v):=fun h h'=>by simp only [mk]; ext <;> simp only <;> omega
 have hQ:times_QuoRem.sh F (mk 1099511627776) (mk s) = some ((mk (1099511627776 / s),mk (1099511627776 % s),0,()),()):=by
  unfold times_QuoRem.sh
  have hb:(((mk s).1 == 0) && (((mk s).2 == 0) && true)) = false:=by
   rw [ms]; simp; omega
  rw [hb]
  simp only [cond_false]
  rw [abs_eq F (wf_mk (by rw [inR_iff]; omega)),abs_eq F (wf_mk (by rw [inR_iff]; omega))]
  simp only [oB_some,val_mk]
  have n1:((1099511627776:Int).natAbs:Int) = 1099511627776:=rfl
  have n2:(s.natAbs:Int) = s:=by omega
  rw [n1,n2]
  have d1:(1099511627776:Int) / 18446744073709551616 = 0:=by decide
  have d2:(1099511627776:Int) % 18446744073709551616 = 1099511627776:=by decide
  have d3:s / 18446744073709551616 = 0:=by omega
  have d4:s % 18446744073709551616 = s:=by omega
  rw [d1,d2,d3,d4]
  have hsne:(s != 0) = true:=bne_iff_ne.2 (by omega)
  have hs0:(s == 0) = false:=by rw [beq_eq_false_iff_ne]; omega
  have hq:times_quoRem.sh F 0 1099511627776 0 s = some ((0,1099511627776 / s,0,1099511627776 % s,()),()):=by
   unfold times_quoRem.sh math_bits_Div64.sh
   have e0:(0:Int).tmod s = 0:=by simp
   have e1:(0:Int).tdiv s = 0:=by simp
   have e2:(1099511627776:Int).tdiv s = 1099511627776 / s:=Int.tdiv_eq_ediv_of_nonneg (by omega)
   have e3:(1099511627776:Int).tmod s = 1099511627776 % s:=Int.tmod_eq_emod_of_nonneg (by omega)
   have e4:decide (s ≤ 0) = false:=by simp; omega
   simp only [beq_self_eq_true,cond_true,hsne,e0,e1,hs0,cond_false,e4,oB_some,e2,e3]
   rw [wrap_u64 (by omega) (by omega),wrap_u64 (n:=1099511627776 / s) (by omega) (by omega)]
  rw [hq]
  simp only [oB_some]
  have hng:(!(decide ((mk 1099511627776).1 < 0) == decide ((mk s).1 < 0))) = false:=by rw [ma,ms]; rfl
  rw [hng,join_eq F (v:=1099511627776 / s) (by omega) (by omega) (by omega) (by omega) (by simp)]
  simp only [oB_some]
  have i1:inR (1099511627776 / s) = true:=by rw [inR_iff]; omega
  have i2:inR (1099511627776 % s) = true:=by rw [inR_iff]; omega
  have hz:decide ((mk 1099511627776).1 < 0) = false:=by rw [ma]; rfl
  simp only [errW,resW,i1,cond_true,bne_self_eq_false,cond_false]
  rw [hz,join_eq F (v:=1099511627776 % s) (by omega) (by omega) (by omega) (by omega) (by simp)]
  simp only [oB_some,errW,resW,i2,cond_true]
 unfold times_Div.sh
 rw [hQ]
 have c1:decide ((1:Int) < 0) = false:=by decide
 have c2:decide ((1:Int) > 4) = false:=by decide
 simp only [c1,c2,cond_false,oB_some,bne_self_eq_false]
 by_cases hz:1099511627776 % s = 0
 ·have e:(((mk (1099511627776 % s)).1 == 0) && (((mk (1099511627776 % s)).2 == 0) && true)) = true:=by rw [hz]; rfl
  rw [e]
  simp only [cond_true,ceilD,hz,if_true,Int.add_zero]
 ·have e:(((mk (1099511627776 % s)).1 == 0) && (((mk (1099511627776 % s)).2 == 0) && true)) = false:=by
   rw [mks hr1 (by omega)]; simp; exact hz
  rw [e]
  simp only [cond_false]
  have ha:times_away.sh F (mk (1099511627776 / s)) (mk (1099511627776 % s)) (mk s) 1 = some ((true,()),()):=by
   unfold times_away.sh
   rw [mks hr1 (by omega),ms]
   rfl
  rw [ha]
  simp only [oB_some,Bool.not_true,cond_false]
  have hng:(!(decide ((mk 1099511627776).1 < 0) == decide ((mk s).1 < 0))) = false:=by rw [ma,ms]; rfl
  rw [hng]
  simp only [cond_false]
  rw [of_eq F (by omega) (by omega)]
  simp only [oB_some]
  rw [add_eq F (wf_mk (by rw [inR_iff]; omega)) (wf_mk (by rw [inR_iff]; omega))]
  simp only [oB_some,val_mk]
  have i1:inR (1099511627776 / s + 1) = true:=by rw [inR_iff]; omega
  simp only [errW,resW,i1,cond_true,ceilD,hz,if_false]
end Go.VS
