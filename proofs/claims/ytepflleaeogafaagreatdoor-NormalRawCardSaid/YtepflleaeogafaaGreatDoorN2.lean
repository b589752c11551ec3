import Derived.Test.YtepflleaeogafaaGreatDoorN1
import Derived.Test.YtepflleaeogafaaGreatDoorM12
set_option linter.unusedVariables false
set_option linter.unusedSimpArgs false
set_option linter.unusedSectionVars false
set_option linter.unusedVariables false
set_option linter.unusedSimpArgs false
set_option maxRecDepth 100000
namespace Go.VS
open Go
theorem rblocks_eq (F:Nat) {x s:Int} (h0:0 ≤ x) (h:x ≤ 1099511627776) (h1:1 ≤ s):octroiref09_Blocks.sh F x s = some ((ceilD x s,()),()):=by
 have hq1:0 ≤ x / s:=Int.ediv_nonneg h0 (by omega)
 have hq2:x / s ≤ x:=Int.ediv_le_self _ h0
 unfold octroiref09_Blocks.sh ceilD
 rw [show (s != 0) = true from bne_iff_ne.2 (by omega),Int.tdiv_eq_ediv_of_nonneg h0,Int.tmod_eq_emod_of_nonneg h0,wrap_i64 (n:=x / s) (by omega) (by omega),wrap_i64 (n:=x / s + 1) (by omega) (by omega)]
 simp only [cond_true]
 by_cases hz:x % s = 0
 ·rw [hz,if_pos rfl,Int.add_zero]; rfl
 ·rw [show (x % s != 0) = true from bne_iff_ne.2 hz,if_neg hz]; rfl
theorem fits_eq (F:Nat) (s q:Int):octroiref11_fits.sh F s q = some ((fitB s q,()),()):=by
 unfold octroiref11_fits.sh fitB
 cases decide (s ≥ 1) <;> cases decide (s ≤ 1000000000000) <;> cases decide (q ≥ 0) <;> rfl
theorem rvalue_eq (F:Nat) (hF:20 < F) {l:tLine.T} (hl:wfL l) (s q:Int):octroiref11_Value.sh F l s q = some ((mk (valueR (lA l) (lB l) (lC l) s q).1,(valueR (lA l) (lB l) (lC l) s q).2,()),()):=by
 unfold octroiref11_Value.sh valueR
 rw [fits_eq,oB_some]
 cases hf:fitB s q with
 | false=>rfl
 | true =>
  obtain ⟨h1,h2,h3,h4⟩:=fitB_iff.1 hf
  obtain ⟨b1,b2⟩:=blk_bd hf
  have iq:inR q = true:=inR_i64 (by omega) (by omega)
  have ib:inR (ceilD q s) = true:=inR_i64 (by omega) (by omega)
  simp only [Bool.not_true,cond_false]
  rw [rof_eq F (v:=q) (by omega) (by omega),oB_some,rmul_eq F hF hl.2.1 (wf_mk iq),oB_some,val_mk,show val l.2.1 = lB l from rfl]
  rw [rblocks_eq F h3 h4 h1,oB_some,rof_eq F (v:=ceilD q s) (by omega) (by omega),oB_some,rmul_eq F hF hl.2.2 (wf_mk ib),oB_some,val_mk,show val l.2.2 = lC l from rfl]
  cases hB:inR (lB l * q) with
  | false =>
   have:errW (lB l * q) = 10:=by unfold errW; rw [hB]; rfl
   simp only [this]
   rfl
  | true =>
   have e1:errW (lB l * q) = 0:=by unfold errW; rw [hB]; rfl
   have e2:resW (lB l * q) = mk (lB l * q):=by unfold resW; rw [hB]; rfl
   simp only [e1,bne_self_eq_false,Bool.not_true,cond_false]
   cases hC:inR (lC l * ceilD q s) with
   | false =>
    have:errW (lC l * ceilD q s) = 10:=by unfold errW; rw [hC]; rfl
    simp only [this]
    rfl
   | true =>
    have e3:errW (lC l * ceilD q s) = 0:=by unfold errW; rw [hC]; rfl
    have e4:resW (lC l * ceilD q s) = mk (lC l * ceilD q s):=by unfold resW; rw [hC]; rfl
    simp only [e3,bne_self_eq_false,Bool.not_true,cond_false]
    rw [e2,e4,radd_eq F hF hl.1 (wf_mk hB),oB_some,val_mk,show val l.1 = lA l from rfl]
    cases hA:inR (lA l + lB l * q) with
    | false =>
     have:errW (lA l + lB l * q) = 10:=by unfold errW; rw [hA]; rfl
     simp only [this]
     rfl
    | true =>
     have e5:errW (lA l + lB l * q) = 0:=by unfold errW; rw [hA]; rfl
     have e6:resW (lA l + lB l * q) = mk (lA l + lB l * q):=by unfold resW; rw [hA]; rfl
     simp only [e5,bne_self_eq_false,Bool.not_true,cond_false]
     rw [e6,radd_eq F hF (wf_mk hA) (wf_mk hC),oB_some,val_mk,val_mk]
     unfold resW errW
     cases hD:inR (lA l + lB l * q + lC l * ceilD q s) <;> rfl
end Go.VS
