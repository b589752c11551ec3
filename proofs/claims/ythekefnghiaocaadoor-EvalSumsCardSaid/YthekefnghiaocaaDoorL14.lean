import Derived.Test.YthekefnghiaocaaDoorL3
set_option linter.unusedVariables false
set_option linter.unusedSimpArgs false
set_option linter.unusedSectionVars false
set_option linter.unusedVariables false
set_option linter.unusedSimpArgs false
set_option maxRecDepth 100000
namespace Go.VS
open Go
def lenOK (x:Int) (L:Nat):Prop:=1 ≤ L∧(2:Int) ^ (L - 1) ≤ x∧x < 2 ^ L
theorem lenOK_up {x:Int} {L:Nat} (m:Nat) (h:lenOK (x / 2 ^ m) L):lenOK x (L + m):=by
 obtain ⟨h1,h2,h3⟩:=h
 have hp:(0:Int) < 2 ^ m:=Int.pow_pos (by decide)
 refine ⟨by omega,?_,?_⟩
 ·rw [show L + m - 1 = (L - 1) + m by omega,Int.pow_add]
  have:=Int.mul_le_of_le_ediv hp h2
  exact this
 ·rw [Int.pow_add]
  exact Int.lt_mul_of_ediv_lt hp h3
theorem len_tab:∃ tab:ByteArray,(∀ (R:Type) (F:Nat) (k:Int→Option R) (x n:Int),math_bits_Len64.j7 F k x n = bif decide (x ≥ 256) then bif idx (IntKind.u8.wrap (x.fdiv (2 ^ (min (8:Int).toNat IntKind.u64.bits)))) tab.size then k (IntKind.i64.wrap ((IntKind.i64.wrap (n + 8)) + (IntKind.i64.wrap (bt tab (IntKind.u8.wrap (x.fdiv (2 ^ (min (8:Int).toNat IntKind.u64.bits)))))))) else none
  else bif idx (IntKind.u8.wrap x) tab.size then k (IntKind.i64.wrap (n + (IntKind.i64.wrap (bt tab (IntKind.u8.wrap x))))) else none)∧tab.size = 256 ∧
  (List.range 256).all (fun v=>Nat.beq v 0 || (decide (1 ≤ (bt tab (v:Int)).toNat) && (decide (bt tab (v:Int) ≤ 8) && (decide ((2:Int) ^ ((bt tab (v:Int)).toNat - 1) ≤ (v:Int)) && decide ((v:Int) < 2 ^ (bt tab (v:Int)).toNat))))) = true :=
 ⟨_,fun _ _ _ _ _=>rfl,rfl,by kernel_rfl⟩
theorem idx_of' {n:Int} {len:Nat} (h1:0 ≤ n) (h2:n < (len:Int)):idx n len = true:=by
 unfold idx; rw [decide_eq_true h1,decide_eq_true h2]; rfl
theorem wrap_u8 {n:Int} (h1:0 ≤ n) (h2:n < 256):IntKind.u8.wrap n = n:=by
 show (if (false && decide (n % 256 ≥ 128)) = true then n % 256 - 256 else n % 256) = _
 simp; omega
theorem len_j7 {R:Type} (F:Nat) (k:Int→Option R) {x n:Int} (h1:1 ≤ x) (h2:x < 65536) (n1:0 ≤ n) (n2:n ≤ 1000):∃ L:Nat,math_bits_Len64.j7 F k x n = k (n + (L:Int))∧L ≤ 16∧lenOK x L:=by
 obtain ⟨tab,t1,t2,t3⟩:=len_tab
 have small:∀ v:Int,1 ≤ v→v < 256→∃ L:Nat,bt tab v = (L:Int)∧L ≤ 8∧lenOK v L:=by
  intro v v1 v2
  have:=List.all_eq_true.1 t3 v.toNat (by simp; omega)
  rw [show ((v.toNat:Nat):Int) = v by omega] at this
  have hb:Nat.beq v.toNat 0 = false:=by
   cases hv:v.toNat with
   | zero=>omega
   | succ m=>rfl
  rw [hb] at this
  simp only [Bool.false_or,Bool.and_eq_true,decide_eq_true_eq] at this
  obtain ⟨a,b,c,d⟩:=this
  exact ⟨(bt tab v).toNat,by omega,by omega,a,c,d⟩
 rw [t1,t2]
 have e8:(2 ^ (min (8:Int).toNat IntKind.u64.bits):Int) = 256:=by decide
 rw [e8,Int.fdiv_eq_ediv_of_nonneg _ (by omega)]
 by_cases h:x ≥ 256
 ·obtain ⟨L,q1,q2,q3⟩:=small (x / 256) (by omega) (by omega)
  have q4:=lenOK_up 8 (x:=x) (L:=L) q3
  rw [decide_eq_true h,wrap_u8 (n:=x / 256) (by omega) (by omega),idx_of' (n:=x / 256) (by omega) (by omega),q1]
  simp only [cond_true]
  rw [wrap_i64 (n:=n + 8) (by omega) (by omega),wrap_i64 (n:=(L:Int)) (by omega) (by omega),wrap_i64 (by omega) (by omega)]
  exact ⟨L + 8,by congr 1; omega,by omega,q4⟩
 ·obtain ⟨L,q1,q2,q3⟩:=small x (by omega) (by omega)
  rw [decide_eq_false h,wrap_u8 (n:=x) (by omega) (by omega),idx_of' (n:=x) (by omega) (by omega),q1]
  simp only [cond_true,cond_false]
  rw [wrap_i64 (n:=(L:Int)) (by omega) (by omega),wrap_i64 (by omega) (by omega)]
  exact ⟨L,rfl,by omega,q3⟩
theorem len_j4 {R:Type} (F:Nat) (k:Int→Option R) {x n:Int} (h1:1 ≤ x) (h2:x < 4294967296) (n1:0 ≤ n) (n2:n ≤ 100):∃ L:Nat,math_bits_Len64.j4 F k x n = k (n + (L:Int))∧L ≤ 32∧lenOK x L:=by
 unfold math_bits_Len64.j4
 have e:(2 ^ (min (16:Int).toNat IntKind.u64.bits):Int) = 65536:=by decide
 rw [e,Int.fdiv_eq_ediv_of_nonneg _ (by omega)]
 by_cases h:x ≥ 65536
 ·rw [decide_eq_true h,wrap_i64 (n:=n + 16) (by omega) (by omega)]
  obtain ⟨L,q1,q2,q3⟩:=len_j7 F (fun n1=>k n1) (x:=x / 65536) (n:=n + 16) (by omega) (by omega) (by omega) (by omega)
  exact ⟨L + 16,by simp only [cond_true]; rw [q1]; congr 1; omega,by omega,lenOK_up 16 q3⟩
 ·rw [decide_eq_false h]
  obtain ⟨L,q1,q2,q3⟩:=len_j7 F (fun n1=>k n1) (x:=x) (n:=n) (by omega) (by omega) (by omega) (by omega)
  exact ⟨L,by simp only [cond_false]; rw [q1],by omega,q3⟩
theorem len64_eq (F:Nat) {x:Int} (h1:1 ≤ x) (h2:x < 18446744073709551616):∃ L:Nat,math_bits_Len64.sh F x = some (((L:Int),()),())∧L ≤ 64∧lenOK x L:=by
 unfold math_bits_Len64.sh
 have e:(2 ^ (min (32:Int).toNat IntKind.u64.bits):Int) = 4294967296:=by decide
 rw [e,Int.fdiv_eq_ediv_of_nonneg _ (by omega)]
 by_cases h:x ≥ 4294967296
 ·rw [decide_eq_true h]
  obtain ⟨L,q1,q2,q3⟩:=len_j4 F (fun n3=>(some ((n3,()),()):Option math_bits_Len64.sg.R)) (x:=x / 4294967296) (n:=32) (by omega) (by omega) (by omega) (by omega)
  exact ⟨L + 32,by simp only [cond_true]; rw [q1,show (32:Int) + (L:Int) = ((L + 32:Nat):Int) by omega],by omega,lenOK_up 32 q3⟩
 ·rw [decide_eq_false h]
  obtain ⟨L,q1,q2,q3⟩:=len_j4 F (fun n3=>(some ((n3,()),()):Option math_bits_Len64.sg.R)) (x:=x) (n:=0) (by omega) (by omega) (by omega) (by omega)
  exact ⟨L,by simp only [cond_false]; rw [q1,Int.zero_add],by omega,q3⟩
theorem lz_eq (F:Nat) {y:Int} (h1:1 ≤ y) (h2:y < 18446744073709551616):∃ s:Nat,math_bits_LeadingZeros64.sh F y = some (((s:Int),()),())∧s ≤ 63∧9223372036854775808 ≤ y * 2 ^ s∧y * 2 ^ s < 18446744073709551616:=by
 obtain ⟨L,q1,q2,q3,q4,q5⟩:=len64_eq F h1 h2
 unfold math_bits_LeadingZeros64.sh
 rw [q1]
 simp only [oB_some]
 rw [wrap_i64 (n:=64 - (L:Int)) (by omega) (by omega)]
 have hp:(0:Int) ≤ 2 ^ (64 - L):=Int.le_of_lt (Int.pow_pos (by decide))
 have hp':(0:Int) < 2 ^ (64 - L):=Int.pow_pos (by decide)
 refine ⟨64 - L,by rw [show (64:Int) - (L:Int) = ((64 - L:Nat):Int) by omega],by omega,?_,?_⟩
 ·have:=Int.mul_le_mul_of_nonneg_right q4 hp
  rw [← Int.pow_add,show L - 1 + (64 - L) = 63 by omega] at this
  exact this
 ·have:=Int.mul_lt_mul_of_pos_right q5 hp'
  rw [← Int.pow_add,show L + (64 - L) = 64 by omega] at this
  exact this
end Go.VS
