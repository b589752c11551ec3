import Derived.Test.YtiliboioeieeoaaGreatDoorQO12
set_option linter.unusedVariables false
set_option linter.unusedSimpArgs false
set_option linter.unusedSectionVars false
set_option linter.unusedVariables false
set_option linter.unusedSimpArgs false
set_option maxRecDepth 100000
namespace Go.VS
open Go
theorem Fold_in (F:Nat) (hF:F=FU) {p:zL.T} {t:Tree} (h:Good p t):xk.sh F p=some ((bif (wi p.2.1 t).2.2 != 0 then ((⟨#[]⟩:ByteArray),[],0,[]) else (p.1,p.2.1,p.2.2.1,(Z8 p.2.1 t).flat),(wi p.2.1 t).2.2,()),()):=by subst hF; exact Fold_eq h
theorem zdX (F:Nat) (hF:F=FU) {p:zL.T} (h:(vd p).2≠0):xk.sh F p=some (((⟨#[]⟩,[],0,[]),(vd p).2,()),()):=by subst hF; exact zdZ h
end Go.VS
