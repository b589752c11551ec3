import Derived.Test.YtepflleaeogafaaGreatDoorL21
set_option linter.unusedVariables false
set_option linter.unusedSimpArgs false
set_option linter.unusedSectionVars false
set_option linter.unusedVariables false
set_option linter.unusedSimpArgs false
set_option maxRecDepth 100000
namespace Go.VS
open Go
structure Inv (u:Int) (D:List tDim.T) (q:List Int) (t:Tree):Prop where
 lo:-mag u D t ≤ ev u D q t
 hi:ev u D q t ≤ mag u D t
 bd:mag u D t ≤ BND
end Go.VS
