import Derived.Test.YtepflleaeogafaaGreatDoorL11
import Derived.Test.YtepflleaeogafaaGreatDoorL18
set_option linter.unusedVariables false
set_option linter.unusedSimpArgs false
set_option linter.unusedSectionVars false
set_option linter.unusedVariables false
set_option linter.unusedSimpArgs false
set_option maxRecDepth 100000
namespace Go.VS
open Go
def minF (m:Int) (l:List Int):Int:=l.foldl (fun m x=>if x < m then x else m) m
def minL:List Int→Int
 | []=>0
 | a :: r=>minF a r
def cntT (x:Int):List tTier.T→Nat
 | []=>0
 | a :: r=>if tF a < x then cntT x r + 1 else 0
def wayT:List tTier.T→Nat→Int
 | a :: b :: r,k + 1=>tR a * (tF b - tF a) + wayT (b :: r) k
 | _,_=>0
def topT' (x:Int) (l:List tTier.T):tTier.T:=l.getD (cntT x l - 1) (0,0)
def grad (x:Int) (l:List tTier.T):Int:=if cntT x l = 0 then 0 else wayT l (cntT x l - 1) + tR (topT' x l) * (x - tF (topT' x l))
def vol (x:Int) (l:List tTier.T):Int:=if cntT x l = 0 then 0 else x * tR (topT' x l)
end Go.VS
