import Derived.Test.YtepflleaeogafaaGreatDoorL20
set_option linter.unusedVariables false
set_option linter.unusedSimpArgs false
set_option linter.unusedSectionVars false
set_option linter.unusedVariables false
set_option linter.unusedSimpArgs false
set_option maxRecDepth 100000
namespace Go.VS
open Go
def okQ (D:List tDim.T) (q:List Int):Prop:=q.length = D.length∧∀ x ∈ q,0 ≤ x∧x ≤ 1099511627776
theorem okQ.at {D:List tDim.T} {q:List Int} (h:okQ D q) {i:Nat} (hi:i < D.length):0 ≤ q.getD i 0∧q.getD i 0 ≤ 1099511627776:=getD_bd h.2 (by rw [h.1]; exact hi)
end Go.VS
