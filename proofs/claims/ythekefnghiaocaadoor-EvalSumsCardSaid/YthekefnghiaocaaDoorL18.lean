import Derived.Test.YthekefnghiaocaaDoorL17
set_option linter.unusedVariables false
set_option linter.unusedSimpArgs false
set_option linter.unusedSectionVars false
set_option linter.unusedVariables false
set_option linter.unusedSimpArgs false
set_option maxRecDepth 100000
namespace Go.VS
open Go
def dsg (a b:Int):Bool:=!(decide (a < 0) == decide (b < 0))
def aQ (a b:Int):Int:=(a.natAbs:Int) / (b.natAbs:Int)
def aR (a b:Int):Int:=(a.natAbs:Int) % (b.natAbs:Int)
def tq (a b:Int):Int:=bif dsg a b then -aQ a b else aQ a b
def tr (a b:Int):Int:=bif decide (a < 0) then -aR a b else aR a b
theorem aQR {a b:Int} (hb:b ≠ 0):0 ≤ aQ a b∧0 ≤ aR a b∧aR a b < b.natAbs∧(b.natAbs:Int) * aQ a b + aR a b = a.natAbs∧aQ a b ≤ a.natAbs:=by
 unfold aQ aR
 exact ⟨Int.ediv_nonneg (by omega) (by omega),Int.emod_nonneg _ (by omega),Int.emod_lt_of_pos _ (by omega),Int.mul_ediv_add_emod _ _,Int.ediv_le_self _ (by omega)⟩
theorem mk_zero {v:Int}:(((mk v).1 == 0) && (((mk v).2 == 0) && true)) = decide (v = 0):=by
 by_cases h:v = 0
 ·subst h; rfl
 ·rw [decide_eq_false h]
  simp only [mk,Bool.and_true,Bool.and_eq_false_iff,beq_eq_false_iff_ne]
  omega
theorem val_zero {b:Int×Int} (hb:wfW b):((b.1 == 0) && ((b.2 == 0) && true)) = decide (val b = 0):=by
 rw [← mk_val hb,mk_zero,val_mk]
theorem quorem_eq (F:Nat) (hF:70 < F) {a b:Int×Int} (ha:wfW a) (hb:wfW b) (h0:val b ≠ 0) :
  times_QuoRem.sh F a b = some ((bif inR (tq (val a) (val b)) then mk (tq (val a) (val b)) else (0,0),bif inR (tq (val a) (val b)) then mk (tr (val a) (val b)) else (0,0),errW (tq (val a) (val b)),()),()):=by
 have ba:=abs_bd ha
 have bb:=abs_bd hb
 have hq:=aQR (a:=val a) h0
 have hneg:(!(decide (a.1 < 0) == decide (b.1 < 0))) = dsg (val a) (val b):=by rw [val_neg ha,val_neg hb]; rfl
 unfold times_QuoRem.sh
 rw [val_zero hb,decide_eq_false h0]
 simp only [cond_false]
 rw [abs_eq F ha,abs_eq F hb]
 simp only [oB_some]
 have e1:((val a).natAbs:Int) / 18446744073709551616 * 18446744073709551616 + ((val a).natAbs:Int) % 18446744073709551616 = (val a).natAbs:=by omega
 have e2:((val b).natAbs:Int) / 18446744073709551616 * 18446744073709551616 + ((val b).natAbs:Int) % 18446744073709551616 = (val b).natAbs:=by omega
 have hl:=lquoRem_eq F hF (ah:=((val a).natAbs:Int) / 18446744073709551616) (al:=((val a).natAbs:Int) % 18446744073709551616) (bh:=((val b).natAbs:Int) / 18446744073709551616) (bl:=((val b).natAbs:Int) % 18446744073709551616)
  (by omega) (by omega) (by omega) (by omega) (by omega) (by omega) (by omega) (by omega) (by omega) (by omega)
 rw [e1,e2] at hl
 rw [hl,hneg]
 simp only [oB_some]
 rw [show ((val a).natAbs:Int) / ((val b).natAbs:Int) = aQ (val a) (val b) from rfl,show ((val a).natAbs:Int) % ((val b).natAbs:Int) = aR (val a) (val b) from rfl]
 rw [join_eq F (v:=tq (val a) (val b)) (by omega) (by omega) (by omega) (by omega) (by
  unfold tq
  rw [show aQ (val a) (val b) / 18446744073709551616 * 18446744073709551616 + aQ (val a) (val b) % 18446744073709551616 = aQ (val a) (val b) by omega])]
 simp only [oB_some]
 cases hi:inR (tq (val a) (val b)) with
 | false=>simp only [resW,errW,hi,cond_false]; rfl
 | true =>
  simp only [resW,errW,hi,cond_true,bne_self_eq_false,cond_false]
  rw [val_neg ha]
  rw [join_eq F (v:=tr (val a) (val b)) (by omega) (by omega) (by omega) (by omega) (by
   unfold tr
   rw [show aR (val a) (val b) / 18446744073709551616 * 18446744073709551616 + aR (val a) (val b) % 18446744073709551616 = aR (val a) (val b) by omega])]
  have hi2:inR (tr (val a) (val b)) = true:=by
   rw [inR_iff]; unfold tr
   cases decide (val a < 0) <;> simp only [cond_true,cond_false] <;> omega
  simp only [oB_some,resW,errW,hi2,cond_true]
theorem aw1 {x y bo:Int} (h1:0 ≤ x) (h2:x < y) (h3:y ≤ 170141183460469231731687303715884105728)
  (hbo:(y % 18446744073709551616 < x % 18446744073709551616∧bo = 1) ∨ (x % 18446744073709551616 ≤ y % 18446744073709551616∧bo = 0)) :
  (y / 18446744073709551616 - x / 18446744073709551616 - bo) % 18446744073709551616 = (y - x) / 18446744073709551616:=by omega
theorem aw2 {x y:Int}:(y % 18446744073709551616 - x % 18446744073709551616 - 0) % 18446744073709551616 = (y - x) % 18446744073709551616:=by omega
theorem aw3 {x y:Int} (h1:0 ≤ x) (h2:x < y) (h:x / 18446744073709551616 > (y - x) / 18446744073709551616):y < 2 * x:=by omega
theorem aw4 {x y:Int} (h1:0 ≤ x) (h2:x < y) (h:x / 18446744073709551616 = (y - x) / 18446744073709551616) (h':x % 18446744073709551616 > (y - x) % 18446744073709551616):y < 2 * x:=by omega
theorem aw5 {x y:Int} (h1:0 ≤ x) (h2:x < y) (h:x / 18446744073709551616 = (y - x) / 18446744073709551616) (h':¬ x % 18446744073709551616 > (y - x) % 18446744073709551616):¬ y < 2 * x:=by omega
theorem aw6 {x y:Int} (h:x / 18446744073709551616 = (y - x) / 18446744073709551616) (h':x % 18446744073709551616 = (y - x) % 18446744073709551616):2 * x = y:=by omega
theorem aw7 {x y:Int} (h:¬ x % 18446744073709551616 = (y - x) % 18446744073709551616):¬ 2 * x = y:=by omega
theorem aw8 {x y:Int} (h:¬ x / 18446744073709551616 > (y - x) / 18446744073709551616) (h':¬ x / 18446744073709551616 = (y - x) / 18446744073709551616):¬ y < 2 * x:=by omega
theorem aw9 {x y:Int} (h':¬ x / 18446744073709551616 = (y - x) / 18446744073709551616):¬ 2 * x = y:=by omega
def awB (m q r b:Int):Bool :=
 bif m == 0 then dsg r b else bif m == 1 then !dsg r b else bif m == 2 then false else
  decide ((b.natAbs:Int) < 2 * r.natAbs) || (decide (2 * (r.natAbs:Int) = b.natAbs) && (m == 3 || decide (q % 2 = 1)))
theorem away_eq (F:Nat) {q r b:Int×Int} (hq:wfW q) (hr:wfW r) (hb:wfW b) (m:Int) (hlt:((val r).natAbs:Int) < (val b).natAbs) :
  times_away.sh F q r b m = some ((awB m (val q) (val r) (val b),()),()):=by
 have br:=abs_bd hr
 have bb:=abs_bd hb
 have hq2:IntKind.u64.wrap ((BitVec.ofInt IntKind.u64.bits q.2 &&& BitVec.ofInt IntKind.u64.bits 1).toNat:Int) = val q % 2:=by
  rw [mask1 hq.2.2.1 hq.2.2.2]
  simp only [val]
  omega
 unfold times_away.sh awB
 rw [hq2]
 rw [val_neg hr,val_neg hb]
 rw [show (!(decide (val r < 0) == decide (val b < 0))) = dsg (val r) (val b) from rfl]
 cases h0:(m == 0) with
 | true=>simp only [cond_true,cond_false,Bool.true_or,Bool.false_or,Bool.and_true,Bool.true_and]
 | false =>
 cases h1:(m == 1) with
 | true=>simp only [cond_true,cond_false,Bool.true_or,Bool.false_or,Bool.and_true,Bool.true_and]
 | false =>
 cases h2:(m == 2) with
 | true=>simp only [cond_true,cond_false,Bool.true_or,Bool.false_or,Bool.and_true,Bool.true_and]
 | false =>
 simp only [cond_false]
 have A:=abs_eq F hr
 have B:=abs_eq F hb
 generalize ((val r).natAbs:Int) = x at *
 generalize ((val b).natAbs:Int) = y at *
 rw [A,oB_some,B,oB_some]
 have s1:=sub64_eq F (x:=y % 18446744073709551616) (y:=x % 18446744073709551616) (c:=0) (by omega) (by omega) (by omega) (by omega) (by omega)
 have hbo:(y % 18446744073709551616 < x % 18446744073709551616∧(if y % 18446744073709551616 < x % 18446744073709551616 + 0 then (1:Int) else 0) = 1) ∨ (x % 18446744073709551616 ≤ y % 18446744073709551616∧(if y % 18446744073709551616 < x % 18446744073709551616 + 0 then (1:Int) else 0) = 0):=by split <;> omega
 rw [s1]
 generalize (if y % 18446744073709551616 < x % 18446744073709551616 + 0 then (1:Int) else 0) = bo at *
 have s2:=sub64_eq F (x:=y / 18446744073709551616) (y:=x / 18446744073709551616) (c:=bo) (by omega) (by omega) (by omega) (by omega) (by omega)
 rw [oB_some,s2,oB_some]
 rw [aw1 br.1 hlt bb.2 hbo,aw2]
 clear s1 s2 hbo hq2
 by_cases g1:x / 18446744073709551616 > (y - x) / 18446744073709551616
 ·rw [decide_eq_true g1,decide_eq_true (aw3 br.1 hlt g1)]; simp only [cond_true,cond_false,Bool.true_or,Bool.or_true,Bool.false_or,Bool.or_false,Bool.and_true,Bool.true_and,Bool.false_and,decide_true,beq_self_eq_true]
 ·rw [decide_eq_false g1]
  by_cases g2:x / 18446744073709551616 = (y - x) / 18446744073709551616
  ·rw [show (x / 18446744073709551616 == (y - x) / 18446744073709551616) = true by rw [beq_iff_eq]; exact g2]
   simp only [cond_true,cond_false]
   by_cases g3:x % 18446744073709551616 > (y - x) % 18446744073709551616
   ·rw [decide_eq_true g3,decide_eq_true (aw4 br.1 hlt g2 g3)]; simp only [cond_true,cond_false,Bool.true_or,Bool.or_true,Bool.false_or,Bool.or_false,Bool.and_true,Bool.true_and,Bool.false_and,decide_true,beq_self_eq_true]
   ·rw [decide_eq_false g3,decide_eq_false (aw5 br.1 hlt g2 g3)]
    by_cases g4:x % 18446744073709551616 = (y - x) % 18446744073709551616
    ·rw [show (x % 18446744073709551616 == (y - x) % 18446744073709551616) = true by rw [beq_iff_eq]; exact g4,decide_eq_true (aw6 g2 g4)]
     cases (m == 3) with
     | true=>simp only [cond_true,cond_false,Bool.true_or,Bool.false_or,Bool.and_true,Bool.true_and]
     | false =>
      simp only [cond_true,cond_false,Bool.false_or,Bool.true_and]
      by_cases g5:val q % 2 = 1
      ·rw [g5]; simp only [cond_true,cond_false,Bool.true_or,Bool.or_true,Bool.false_or,Bool.or_false,Bool.and_true,Bool.true_and,Bool.false_and,decide_true,beq_self_eq_true]
      ·rw [decide_eq_false g5,show (val q % 2 == 1) = false by rw [beq_eq_false_iff_ne]; exact g5]
    ·rw [show (x % 18446744073709551616 == (y - x) % 18446744073709551616) = false by rw [beq_eq_false_iff_ne]; exact g4,decide_eq_false (aw7 g4)]; simp only [cond_true,cond_false,Bool.true_or,Bool.or_true,Bool.false_or,Bool.or_false,Bool.and_true,Bool.true_and,Bool.false_and,decide_true,beq_self_eq_true]
  ·rw [show (x / 18446744073709551616 == (y - x) / 18446744073709551616) = false by rw [beq_eq_false_iff_ne]; exact g2,decide_eq_false (aw8 g1 g2),decide_eq_false (aw9 g2)]; simp only [cond_true,cond_false,Bool.true_or,Bool.or_true,Bool.false_or,Bool.or_false,Bool.and_true,Bool.true_and,Bool.false_and,decide_true,beq_self_eq_true]
def divM (m a b:Int):Int :=
 bif decide (tr a b = 0) then tq a b else bif !awB m (tq a b) (tr a b) b then tq a b else bif dsg a b then tq a b - 1 else tq a b + 1
theorem tr_abs (a b:Int) (hb:b ≠ 0):((tr a b).natAbs:Int) = aR a b:=by
 have:=aQR (a:=a) hb
 unfold tr
 cases decide (a < 0) <;> simp only [cond_true,cond_false] <;> omega
theorem div_eq (F:Nat) (hF:70 < F) {a b m:Int} (ha:inR a = true) (hb:inR b = true) (h0:b ≠ 0) (hq:inR (tq a b) = true) (m0:0 ≤ m) (m4:m ≤ 4):times_Div.sh F (mk a) (mk b) m = some ((mk (divM m a b),0,()),()):=by
 have qr:=aQR (a:=a) h0
 have ha':=inR_iff.1 ha
 have hb':=inR_iff.1 hb
 have hr:inR (tr a b) = true:=by
  rw [inR_iff]; unfold tr
  cases decide (a < 0) <;> simp only [cond_true,cond_false] <;> omega
 unfold times_Div.sh divM
 rw [decide_eq_false (show ¬ m < 0 by omega),decide_eq_false (show ¬ m > 4 by omega),quorem_eq F hF (wf_mk ha) (wf_mk hb) (by rw [val_mk]; exact h0)]
 simp only [val_mk,hq,cond_true,cond_false,oB_some,errW,bne_self_eq_false]
 rw [mk_zero]
 by_cases hz:tr a b = 0
 ·rw [decide_eq_true hz]; rfl
 ·rw [decide_eq_false hz]
  simp only [cond_false]
  rw [away_eq F (wf_mk hq) (wf_mk hr) (wf_mk hb) m (by rw [val_mk,val_mk,tr_abs a b h0]; omega)]
  simp only [oB_some,val_mk]
  cases awB m (tq a b) (tr a b) b with
  | false=>rfl
  | true =>
   have hr0:aR a b ≠ 0:=fun h=>hz (by unfold tr; rw [h]; cases decide (a < 0) <;> rfl)
   have hb2:(2:Int) ≤ b.natAbs:=by omega
   have hq2:2 * aQ a b ≤ a.natAbs:=by
    have:=Int.mul_le_mul_of_nonneg_right hb2 qr.1
    omega
   have hw:(!(decide ((mk a).1 < 0) == decide ((mk b).1 < 0))) = dsg a b:=by rw [val_neg (wf_mk ha),val_neg (wf_mk hb),val_mk,val_mk]; rfl
   rw [hw,of_eq F (by omega) (by omega)]
   simp only [oB_some,Bool.not_true,cond_false]
   cases hd:dsg a b with
   | true =>
    have i:inR (tq a b - 1) = true:=by rw [inR_iff]; unfold tq; rw [hd]; simp only [cond_true]; omega
    rw [sub_eq F (wf_mk hq) (wf_mk (by rw [inR_iff]; omega))]
    simp only [cond_true,oB_some,val_mk,resW,errW,i]
   | false =>
    have i:inR (tq a b + 1) = true:=by rw [inR_iff]; unfold tq; rw [hd]; simp only [cond_false]; omega
    rw [add_eq F (wf_mk hq) (wf_mk (by rw [inR_iff]; omega))]
    simp only [cond_false,cond_true,oB_some,val_mk,resW,errW,i]
end Go.VS
