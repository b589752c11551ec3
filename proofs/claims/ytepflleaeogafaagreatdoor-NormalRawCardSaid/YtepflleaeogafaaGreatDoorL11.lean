import Derived.Test.YtepflleaeogafaaGreatDoorL10
set_option linter.unusedVariables false
set_option linter.unusedSimpArgs false
set_option linter.unusedSectionVars false
set_option linter.unusedVariables false
set_option linter.unusedSimpArgs false
set_option maxRecDepth 100000
namespace Go.VS
open Go
theorem awake_eq:octroilaw12_awake.sh FU = some ((true,()),()):=by kernel_rfl
end Go.VS
