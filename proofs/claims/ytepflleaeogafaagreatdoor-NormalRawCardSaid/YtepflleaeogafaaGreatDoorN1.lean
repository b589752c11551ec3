import Derived.Test.YtepflleaeogafaaGreatDoorL22
set_option linter.unusedVariables false
set_option linter.unusedSimpArgs false
set_option linter.unusedSectionVars false
set_option linter.unusedVariables false
set_option linter.unusedSimpArgs false
set_option maxRecDepth 100000
namespace Go.VS
open Go
def wfL (l:tLine.T):Prop:=wfW l.1∧wfW l.2.1∧wfW l.2.2
def lA (l:tLine.T):Int:=val l.1
def lB (l:tLine.T):Int:=val l.2.1
def lC (l:tLine.T):Int:=val l.2.2
def fitB (s q:Int):Bool:=decide (s ≥ 1) && (decide (s ≤ 1000000000000) && (decide (q ≥ 0) && decide (q ≤ 1099511627776)))
theorem fit_eq (F:Nat) (s q:Int):line_fit.sh F s q = some ((fitB s q,()),()):=by
 unfold line_fit.sh fitB
 cases decide (s ≥ 1) <;> cases decide (s ≤ 1000000000000) <;> cases decide (q ≥ 0) <;> rfl
theorem fitB_iff {s q:Int}:fitB s q = true ↔ 1 ≤ s∧s ≤ 1000000000000∧0 ≤ q∧q ≤ 1099511627776:=by
 simp [fitB]
theorem blk_bd {q s:Int} (h:fitB s q = true):0 ≤ ceilD q s∧ceilD q s ≤ 1099511627777:=by
 obtain ⟨h1,h2,h3,h4⟩:=fitB_iff.1 h
 have a1:0 ≤ q / s:=Int.ediv_nonneg h3 (by omega)
 have a2:q / s ≤ q:=Int.ediv_le_self _ h3
 unfold ceilD
 split <;> omega
theorem lblocks_eq (F:Nat) {s q:Int} (h:fitB s q = true):line_blocks.sh F q s = some ((ceilD q s,()),()):=by
 obtain ⟨h1,h2,h3,h4⟩:=fitB_iff.1 h
 have a1:0 ≤ q / s:=Int.ediv_nonneg h3 (by omega)
 have a2:q / s ≤ q:=Int.ediv_le_self _ h3
 have a3:0 ≤ q % s:=Int.emod_nonneg _ (by omega)
 have a4:q % s < s:=Int.emod_lt_of_pos _ (by omega)
 unfold line_blocks.sh ceilD
 rw [show (s != 0) = true from bne_iff_ne.2 (by omega),Int.tdiv_eq_ediv_of_nonneg h3,Int.tmod_eq_emod_of_nonneg h3,wrap_i64 (n:=q / s) (by omega) (by omega)]
 simp only [cond_true]
 by_cases hz:q % s = 0
 ·rw [hz,if_pos rfl,if_neg (by omega),wrap_i64 (by omega) (by omega)]
 ·have:(if 1 < q % s then (1:Int) else q % s) = 1:=by split <;> omega
  rw [this,if_neg hz,wrap_i64 (by omega) (by omega)]
def valueR (a b c s q:Int):Int×Int :=
 bif !fitB s q then (0,1)
 else bif !inR (b * q) then (0,10)
 else bif !inR (c * ceilD q s) then (0,10)
 else bif !inR (a + b * q) then (0,10)
 else bif !inR (a + b * q + c * ceilD q s) then (0,10)
 else (a + b * q + c * ceilD q s,0)
theorem lvalue_eq (F:Nat) {l:tLine.T} (hl:wfL l) (s q:Int):line_Value.sh F l s q = some ((mk (valueR (lA l) (lB l) (lC l) s q).1,(valueR (lA l) (lB l) (lC l) s q).2,()),()):=by
 unfold line_Value.sh valueR
 rw [fit_eq,oB_some]
 cases hf:fitB s q with
 | false=>rfl
 | true =>
  obtain ⟨h1,h2,h3,h4⟩:=fitB_iff.1 hf
  obtain ⟨b1,b2⟩:=blk_bd hf
  have iq:inR q = true:=inR_i64 (by omega) (by omega)
  have ib:inR (ceilD q s) = true:=inR_i64 (by omega) (by omega)
  simp only [Bool.not_true,cond_false]
  rw [of_eq F (v:=q) (by omega) (by omega),oB_some,wmul_eq F hl.2.1 (wf_mk iq),oB_some,val_mk,show val l.2.1 = lB l from rfl]
  cases hB:inR (lB l * q) with
  | false =>
   have:errW (lB l * q) = 10:=by unfold errW; rw [hB]; rfl
   simp only [this]
   rfl
  | true =>
   have e1:errW (lB l * q) = 0:=by unfold errW; rw [hB]; rfl
   have e2:resW (lB l * q) = mk (lB l * q):=by unfold resW; rw [hB]; rfl
   simp only [e1,bne_self_eq_false,Bool.not_true,cond_false]
   rw [lblocks_eq F hf,oB_some,of_eq F (v:=ceilD q s) (by omega) (by omega),oB_some,wmul_eq F hl.2.2 (wf_mk ib),oB_some,val_mk,show val l.2.2 = lC l from rfl]
   cases hC:inR (lC l * ceilD q s) with
   | false =>
    have:errW (lC l * ceilD q s) = 10:=by unfold errW; rw [hC]; rfl
    simp only [this]
    rfl
   | true =>
    have e3:errW (lC l * ceilD q s) = 0:=by unfold errW; rw [hC]; rfl
    have e4:resW (lC l * ceilD q s) = mk (lC l * ceilD q s):=by unfold resW; rw [hC]; rfl
    simp only [e3,bne_self_eq_false,Bool.not_true,cond_false]
    rw [e2,e4,add_eq F hl.1 (wf_mk hB),oB_some,val_mk,show val l.1 = lA l from rfl]
    cases hA:inR (lA l + lB l * q) with
    | false =>
     have:errW (lA l + lB l * q) = 10:=by unfold errW; rw [hA]; rfl
     simp only [this]
     rfl
    | true =>
     have e5:errW (lA l + lB l * q) = 0:=by unfold errW; rw [hA]; rfl
     have e6:resW (lA l + lB l * q) = mk (lA l + lB l * q):=by unfold resW; rw [hA]; rfl
     simp only [e5,bne_self_eq_false,Bool.not_true,cond_false]
     rw [e6,add_eq F (wf_mk hA) (wf_mk hC),oB_some,val_mk,val_mk]
     unfold resW errW
     cases hD:inR (lA l + lB l * q + lC l * ceilD q s) <;> rfl
end Go.VS
