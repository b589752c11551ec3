import Derived.Test.YtepflleaeogafaaGreatDoorL2
set_option linter.unusedVariables false
set_option linter.unusedSimpArgs false
set_option linter.unusedSectionVars false
set_option linter.unusedVariables false
set_option linter.unusedSimpArgs false
set_option maxRecDepth 100000
namespace Go.VS
open Go
def FU:Nat:=4194304
theorem pair2 {a b c d:Int} (h1:a = c) (h2:b = d):(a,b) = (c,d):=by rw [h1,h2]
def ceilD (a b:Int):Int:=a / b + if a % b = 0 then 0 else 1
end Go.VS
