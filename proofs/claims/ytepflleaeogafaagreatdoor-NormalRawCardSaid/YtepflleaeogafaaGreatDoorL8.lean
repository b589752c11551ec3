import Derived.Test.YtepflleaeogafaaGreatDoorL7
set_option linter.unusedVariables false
set_option linter.unusedSimpArgs false
set_option linter.unusedSectionVars false
set_option linter.unusedVariables false
set_option linter.unusedSimpArgs false
set_option maxRecDepth 100000
namespace Go.VS
open Go
def cntB (t:Int):Bool:=decide (t ≥ 2)
def oneL:List Int→Int
 | []=>-1
 | a :: r=>bif r.all (fun x=>x == a) then a else -1
def prodT (a b:Int):Int :=
 bif a == 0 then b else bif b == 0 then a else bif cntB a && b == 1 then 1 else bif cntB b && a == 1 then 1 else -1
def tyN (n:tNode.T) (ks:List Int):Int :=
 bif nK n == 1 then 0 else bif nK n == 2 then 1 else bif nK n == 3 then 2 + 2 * nN n else bif nK n == 4 then 3 + 2 * nN n
 else bif nK n == 8 then prodT (ks.getD 0 0) (ks.getD 1 0)
 else bif nK n == 11 || nK n == 12 then (bif cntB (ks.getD 0 0) then ks.getD 0 0 else -1)
 else bif nK n == 13 || nK n == 14 then (bif cntB (ks.getD 0 0) then 1 else -1)
 else bif nK n == 15 then (bif ks.getD 0 0 == 1 then 1 else -1)
 else bif nK n == 16 then (bif cntB (ks.getD 0 0) then oneL (ks.drop 1) else -1)
 else oneL ks
def ty:Tree→Int:=Tree.fold tyN
end Go.VS
