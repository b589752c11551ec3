import Derived.Test.YtepflleaeogafaaGreatDoorM8
set_option linter.unusedVariables false
set_option linter.unusedSimpArgs false
set_option linter.unusedSectionVars false
set_option linter.unusedVariables false
set_option linter.unusedSimpArgs false
set_option maxRecDepth 100000
namespace Go.VS
open Go
def NR (r:tBound_meter.T) (v:Int):Prop:=0 ≤ v∧wfW r.1∧((r.2 = true∧170141183460469231731687303715884105728 ≤ v) ∨ (r = (mk v,false)∧v < 170141183460469231731687303715884105728))
theorem NR.of {v:Int} (h:0 ≤ v):NR (resW v,errW v != 0) v:=by
 refine ⟨h,wf_resW v,?_⟩
 rcases inR_pos h with ⟨i,b⟩ | ⟨i,b⟩
 ·rw [(res_in i).1,(res_in i).2]; exact .inr ⟨rfl,b⟩
 ·exact .inl ⟨res_out i,b⟩
end Go.VS
