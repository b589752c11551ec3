import Derived.Test.YtepflleaeogafaaGreatDoorR1
set_option linter.unusedVariables false
set_option linter.unusedSimpArgs false
set_option linter.unusedSectionVars false
set_option linter.unusedVariables false
set_option linter.unusedSimpArgs false
set_option maxRecDepth 100000
namespace Go.VS
open Go
def wfW (w:Int×Int):Prop:=-9223372036854775808 ≤ w.1∧w.1 < 9223372036854775808∧0 ≤ w.2∧w.2 < 18446744073709551616
def val (w:Int×Int):Int:=w.1 * 18446744073709551616 + w.2
def mk (v:Int):Int×Int:=(v / 18446744073709551616,v % 18446744073709551616)
def inR (v:Int):Bool:=decide (-170141183460469231731687303715884105728 ≤ v) && decide (v < 170141183460469231731687303715884105728)
def resW (v:Int):Int×Int:=bif inR v then mk v else (0,0)
def errW (v:Int):Int:=bif inR v then 0 else 10
theorem inR_iff {v:Int}:inR v = true ↔ -170141183460469231731687303715884105728 ≤ v∧v < 170141183460469231731687303715884105728:=by simp [inR]
theorem inR_no {v:Int}:inR v = false ↔ (v < -170141183460469231731687303715884105728 ∨ 170141183460469231731687303715884105728 ≤ v):=by
 cases h:inR v with
 | true=>simp; have:=inR_iff.1 h; omega
 | false =>
  simp
  rcases Int.lt_or_le v (-170141183460469231731687303715884105728) with h' | h'
  ·exact .inl h'
  ·rcases Int.lt_or_le v 170141183460469231731687303715884105728 with h'' | h''
   ·rw [inR_iff.2 ⟨h',h''⟩] at h; cases h
   ·exact .inr h''
theorem mk_val {w:Int×Int} (h:wfW w):mk (val w) = w:=by
 obtain ⟨a,b⟩:=w
 obtain ⟨h1,h2,h3,h4⟩:=h
 simp only [mk,val] at *
 ext <;> simp only <;> omega
theorem val_mk {v:Int}:val (mk v) = v:=by simp only [val,mk]; omega
theorem wf_mk {v:Int} (h:inR v = true):wfW (mk v):=by
 have:=inR_iff.1 h
 simp only [wfW,mk]
 omega
theorem inR_val {w:Int×Int} (h:wfW w):inR (val w) = true:=by
 rw [inR_iff]
 obtain ⟨h1,h2,h3,h4⟩:=h
 simp only [val]
 omega
theorem wf_resW (v:Int):wfW (resW v):=by
 unfold resW
 cases h:inR v with
 | true=>exact wf_mk h
 | false=>simp [wfW]
theorem wrap_ex (n:Int):∃ k,IntKind.i64.wrap n = n + 18446744073709551616 * k∧-9223372036854775808 ≤ IntKind.i64.wrap n∧IntKind.i64.wrap n < 9223372036854775808:=by
 rw [wrap_i64_mod]
 split
 ·exact ⟨-(n / 18446744073709551616) - 1,by omega,by omega,by omega⟩
 ·exact ⟨-(n / 18446744073709551616),by omega,by omega,by omega⟩
theorem of_eq (F:Nat) {v:Int} (h1:-9223372036854775808 ≤ v) (h2:v < 9223372036854775808):wide_Of.sh F v = some ((mk v,()),()):=by
 unfold wide_Of.sh
 have e:(2 ^ (min (63:Int).toNat IntKind.i64.bits):Int) = 9223372036854775808:=by decide
 have e2:v.fdiv 9223372036854775808 = v / 18446744073709551616:=by rw [Int.fdiv_eq_ediv_of_nonneg _ (by omega)]; omega
 rw [e,e2,wrap_u64_mod]
 rfl
theorem inR_i64 {v:Int} (h1:-9223372036854775808 ≤ v) (h2:v < 9223372036854775808):inR v = true:=by rw [inR_iff]; omega
theorem add64_eq (F:Nat) {x y c:Int} (h1:0 ≤ x) (h2:0 ≤ y) (h3:0 ≤ c) (h4:c ≤ 1):math_bits_Add64.sh F x y c = some (((x + y + c) % 18446744073709551616,(x + y + c) / 18446744073709551616,()),()):=by
 simp [math_bits_Add64.sh,h1,h2,h3,h4]
theorem sub64_eq (F:Nat) {x y c:Int} (h1:0 ≤ x) (h2:0 ≤ y) (h2':y < 18446744073709551616) (h3:0 ≤ c) (h4:c ≤ 1):math_bits_Sub64.sh F x y c = some (((x - y - c) % 18446744073709551616,(if x < y + c then 1 else 0),()),()):=by
 simp [math_bits_Sub64.sh,h1,h2,h2',h3,h4]
theorem add_eq (F:Nat) {a b:Int×Int} (ha:wfW a) (hb:wfW b):wide_Add.sh F a b = some ((resW (val a + val b),errW (val a + val b),()),()):=by
 obtain ⟨a1,a2⟩:=a
 obtain ⟨b1,b2⟩:=b
 obtain ⟨h1,h2,h3,h4⟩:=ha
 obtain ⟨g1,g2,g3,g4⟩:=hb
 simp only at *
 unfold wide_Add.sh
 simp only [wrap_u64_mod]
 rw [add64_eq F (by omega) (by omega) (by omega) (by omega)]
 simp only [oB_some]
 rw [add64_eq F (by omega) (by omega) (by omega) (by omega)]
 simp only [oB_some,resW,errW,val,mk]
 obtain ⟨k,e1,e2,e3⟩:=wrap_ex ((a1 % 18446744073709551616 + b1 % 18446744073709551616 + (a2 + b2 + 0) / 18446744073709551616) % 18446744073709551616)
 generalize IntKind.i64.wrap ((a1 % 18446744073709551616 + b1 % 18446744073709551616 + (a2 + b2 + 0) / 18446744073709551616) % 18446744073709551616) = r at *
 cases hr:inR (a1 * 18446744073709551616 + a2 + (b1 * 18446744073709551616 + b2)) with
 | true =>
  rw [inR_iff] at hr
  have q1:r = (a1 * 18446744073709551616 + a2 + (b1 * 18446744073709551616 + b2)) / 18446744073709551616:=by omega
  have q2:(a2 + b2 + 0) % 18446744073709551616 = (a1 * 18446744073709551616 + a2 + (b1 * 18446744073709551616 + b2)) % 18446744073709551616:=by omega
  have hs:(decide (a1 < 0) == decide (b1 < 0) && !(decide (r < 0) == decide (a1 < 0))) = false:=by
   by_cases x1:a1 < 0 <;> by_cases x2:b1 < 0 <;> by_cases x3:r < 0 <;> simp [x1,x2,x3] <;> omega
  simp only [cond_true]
  rw [← q1,← q2]
  cases hx:(decide (a1 < 0) == decide (b1 < 0)) with
  | true =>
   rw [hx] at hs
   simp only [Bool.true_and] at hs
   simp only [hs,cond_true,cond_false]
  | false=>rfl
 | false =>
  rw [inR_no] at hr
  have hs:(decide (a1 < 0) == decide (b1 < 0)) = true∧(!(decide (r < 0) == decide (a1 < 0))) = true:=by
   by_cases x1:a1 < 0 <;> by_cases x2:b1 < 0 <;> by_cases x3:r < 0 <;> simp [x1,x2,x3] <;> omega
  simp only [hs.1,hs.2,cond_true,cond_false]
theorem sub_eq (F:Nat) {a b:Int×Int} (ha:wfW a) (hb:wfW b):wide_Sub.sh F a b = some ((resW (val a - val b),errW (val a - val b),()),()):=by
 obtain ⟨a1,a2⟩:=a
 obtain ⟨b1,b2⟩:=b
 obtain ⟨h1,h2,h3,h4⟩:=ha
 obtain ⟨g1,g2,g3,g4⟩:=hb
 simp only at *
 unfold wide_Sub.sh
 simp only [wrap_u64_mod]
 rw [sub64_eq F (by omega) (by omega) (by omega) (by omega) (by omega)]
 simp only [oB_some]
 have hbo:(a2 < b2∧(if a2 < b2 + 0 then (1:Int) else 0) = 1) ∨ (b2 ≤ a2∧(if a2 < b2 + 0 then (1:Int) else 0) = 0):=by split <;> omega
 generalize (if a2 < b2 + 0 then (1:Int) else 0) = bo at *
 rw [sub64_eq F (by omega) (by omega) (by omega) (by omega) (by omega)]
 simp only [oB_some,resW,errW,val,mk]
 obtain ⟨k,e1,e2,e3⟩:=wrap_ex ((a1 % 18446744073709551616 - b1 % 18446744073709551616 - bo) % 18446744073709551616)
 generalize IntKind.i64.wrap ((a1 % 18446744073709551616 - b1 % 18446744073709551616 - bo) % 18446744073709551616) = r at *
 cases hr:inR (a1 * 18446744073709551616 + a2 - (b1 * 18446744073709551616 + b2)) with
 | true =>
  rw [inR_iff] at hr
  have q1:r = (a1 * 18446744073709551616 + a2 - (b1 * 18446744073709551616 + b2)) / 18446744073709551616:=by omega
  have q2:(a2 - b2 - 0) % 18446744073709551616 = (a1 * 18446744073709551616 + a2 - (b1 * 18446744073709551616 + b2)) % 18446744073709551616:=by omega
  have hs:(!(decide (a1 < 0) == decide (b1 < 0)) && !(decide (r < 0) == decide (a1 < 0))) = false:=by
   by_cases x1:a1 < 0 <;> by_cases x2:b1 < 0 <;> by_cases x3:r < 0 <;> simp [x1,x2,x3] <;> omega
  simp only [cond_true]
  rw [← q1,← q2]
  cases hx:(!(decide (a1 < 0) == decide (b1 < 0))) with
  | true =>
   rw [hx] at hs
   simp only [Bool.true_and] at hs
   simp only [hs,cond_true,cond_false]
  | false=>rfl
 | false =>
  rw [inR_no] at hr
  have hs:(!(decide (a1 < 0) == decide (b1 < 0))) = true∧(!(decide (r < 0) == decide (a1 < 0))) = true:=by
   by_cases x1:a1 < 0 <;> by_cases x2:b1 < 0 <;> by_cases x3:r < 0 <;> simp [x1,x2,x3] <;> omega
  simp only [hs.1,hs.2,cond_true,cond_false]
theorem wf_zero:wfW (0,0):=by simp [wfW]
theorem neg_eq (F:Nat) {a:Int×Int} (ha:wfW a):wide_Neg.sh F a = some ((resW (-val a),errW (-val a),()),()):=by
 unfold wide_Neg.sh
 rw [sub_eq F wf_zero ha]
 have:val (0,0) - val a = -val a:=by simp [val]
 rw [this]
 rfl
theorem some2 {a b a' b':Int} (h1:a = a') (h2:b = b'):(some ((a,b,()),()):Option ((Int×Int×Unit)×Unit)) = some ((a',b',()),()):=by rw [h1,h2]
theorem abs_eq (F:Nat) {a:Int×Int} (ha:wfW a):wide_Abs.sh F a = some ((((val a).natAbs:Int) / 18446744073709551616,((val a).natAbs:Int) % 18446744073709551616,()),()):=by
 obtain ⟨a1,a2⟩:=a
 obtain ⟨h1,h2,h3,h4⟩:=ha
 simp only at *
 unfold wide_Abs.sh
 simp only [wrap_u64_mod]
 by_cases x:a1 ≥ 0
 ·have e:((val (a1,a2)).natAbs:Int) = a1 * 18446744073709551616 + a2:=by simp only [val]; omega
  rw [e]
  simp only [x,decide_true,cond_true]
  exact some2 (by omega) (by omega)
 ·have e:((val (a1,a2)).natAbs:Int) = -(a1 * 18446744073709551616 + a2):=by simp only [val]; omega
  rw [e]
  simp only [x,decide_false,cond_false]
  rw [sub64_eq F (by omega) (by omega) (by omega) (by omega) (by omega)]
  simp only [oB_some]
  have hbo:(0 < a2∧(if 0 < a2 + 0 then (1:Int) else 0) = 1) ∨ (a2 = 0∧(if 0 < a2 + 0 then (1:Int) else 0) = 0):=by split <;> omega
  generalize (if 0 < a2 + 0 then (1:Int) else 0) = bo at *
  rw [sub64_eq F (by omega) (by omega) (by omega) (by omega) (by omega)]
  simp only [oB_some]
  exact some2 (by omega) (by omega)
theorem join_eq (F:Nat) {b:Bool} {hi lo:Int} (h1:0 ≤ hi) (h2:hi < 18446744073709551616) (h3:0 ≤ lo) (h4:lo < 18446744073709551616) {v:Int} (hv:v = bif b then -(hi * 18446744073709551616 + lo) else hi * 18446744073709551616 + lo) :
  wide_Join.sh F b hi lo = some ((resW v,errW v,()),()):=by
 unfold wide_Join.sh
 have e:(2 ^ (min (63:Int).toNat IntKind.u64.bits):Int) = 9223372036854775808:=by decide
 rw [e,Int.fdiv_eq_ediv_of_nonneg _ (by omega)]
 by_cases x:hi < 9223372036854775808
 ·have e1:(hi / 9223372036854775808 == 0) = true:=by rw [beq_iff_eq]; omega
  rw [e1,wrap_i64 (by omega) (by omega)]
  have hw:wfW (hi,lo):=⟨by simp only; omega,x,h3,h4⟩
  cases b with
  | true =>
   simp only [cond_true] at hv ⊢
   rw [neg_eq F hw]
   simp only [oB_some]
   have:v = -val (hi,lo):=by rw [hv]; rfl
   rw [this]
  | false =>
   simp only [cond_true,cond_false] at hv ⊢
   have:v = val (hi,lo):=by rw [hv]; rfl
   rw [this]
   simp only [resW,errW,inR_val hw,cond_true,mk_val hw]
 ·have e1:(hi / 9223372036854775808 == 0) = false:=by rw [beq_eq_false_iff_ne]; omega
  rw [e1]
  cases b with
  | true =>
   simp only [cond_true,cond_false] at hv ⊢
   by_cases y:hi = 9223372036854775808
   ·subst y
    by_cases z:lo = 0
    ·subst z
     subst hv
     rfl
    ·have e2:(lo == 0) = false:=by rw [beq_eq_false_iff_ne]; exact z
     have hr:inR v = false:=by rw [inR_no]; omega
     simp only [resW,errW,hr,cond_false,e2,beq_self_eq_true,cond_true]
   ·have e2:(hi == 9223372036854775808) = false:=by rw [beq_eq_false_iff_ne]; exact y
    have hr:inR v = false:=by rw [inR_no]; omega
    simp only [resW,errW,hr,cond_false,e2]
  | false =>
   simp only [cond_false] at hv ⊢
   have hr:inR v = false:=by rw [inR_no]; omega
   simp only [resW,errW,hr,cond_false]
end Go.VS
