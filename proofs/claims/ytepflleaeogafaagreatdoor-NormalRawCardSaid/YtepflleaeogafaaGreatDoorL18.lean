import Derived.Test.YtepflleaeogafaaGreatDoorL17
set_option linter.unusedVariables false
set_option linter.unusedSimpArgs false
set_option linter.unusedSectionVars false
set_option linter.unusedVariables false
set_option linter.unusedSimpArgs false
set_option maxRecDepth 100000
namespace Go.VS
open Go
def dsg (a b:Int):Bool:=!(decide (a < 0) == decide (b < 0))
def aQ (a b:Int):Int:=(a.natAbs:Int) / (b.natAbs:Int)
def aR (a b:Int):Int:=(a.natAbs:Int) % (b.natAbs:Int)
def tq (a b:Int):Int:=bif dsg a b then -aQ a b else aQ a b
def tr (a b:Int):Int:=bif decide (a < 0) then -aR a b else aR a b
def awB (m q r b:Int):Bool :=
 bif m == 0 then dsg r b else bif m == 1 then !dsg r b else bif m == 2 then false else
  decide ((b.natAbs:Int) < 2 * r.natAbs) || (decide (2 * (r.natAbs:Int) = b.natAbs) && (m == 3 || decide (q % 2 = 1)))
def divM (m a b:Int):Int :=
 bif decide (tr a b = 0) then tq a b else bif !awB m (tq a b) (tr a b) b then tq a b else bif dsg a b then tq a b - 1 else tq a b + 1
end Go.VS
