import Derived.Test.YtepflleaeogafaaGreatDoorL4
set_option linter.unusedVariables false
set_option linter.unusedSimpArgs false
set_option linter.unusedSectionVars false
set_option linter.unusedVariables false
set_option linter.unusedSimpArgs false
set_option maxRecDepth 100000
namespace Go.VS
open Go
def sameN (a b:ByteArray):Bool:=a.toList == b.toList
abbrev dS (d:tDim.T):Int:=d.2
def dE (pre:List tDim.T):List tDim.T→Int
 | []=>0
 | d :: r=>bif !nameB d.1.data.toList then 61 else bif pre.any (fun e=>sameN e.1 d.1) then 61 else bif decide (dS d < 1) then 50 else bif decide (dS d > 1000000000000) then 50 else dE (pre ++ [d]) r
def headE (name:ByteArray) (dims:List tDim.T) (mode:Int):Int :=
 bif !nameB name.data.toList then 61 else bif decide ((dims.length:Int) < 1) then 100 else bif decide ((dims.length:Int) > 4) then 100 else bif dE [] dims != 0 then dE [] dims else bif decide (mode < 0) then 50 else bif decide (mode > 4) then 50 else 0
abbrev nK (n:tNode.T):Int:=n.1
abbrev nN (n:tNode.T):Int:=n.2.1
abbrev nO (n:tNode.T):Int:=n.2.2.1
abbrev nC (n:tNode.T):Int:=n.2.2.2.1
abbrev nT (n:tNode.T):List tTier.T:=n.2.2.2.2.1
abbrev asks (n:tNode.T):Int×Int×Bool×Bool:=get tTree_asks kindsL (nK n).toNat
abbrev aK (n:tNode.T):Int:=(asks n).1
def ar (n:tNode.T):Nat:=bif decide (aK n ≥ 0) then (aK n).toNat else (nC n).toNat
def goodK (n:tNode.T):Bool:=decide (1 ≤ nK n) && decide (nK n ≤ 16)
def kidsK (n:tNode.T):Bool:=bif decide (aK n < 0) then decide (nC n ≥ 2) && decide (nC n ≤ 16) else nC n == 0
abbrev tF (x:tTier.T):Int:=x.1
abbrev tR (x:tTier.T):Int:=x.2
def okTier (l:List tTier.T) (i:Nat) (x:tTier.T):Bool:=(decide (i = 0) || !decide (tF x ≤ tF (l.getD (i - 1) (0,0)))) && (!decide (tF x > 1000000000000) && (!decide (tR x < -1000000000000) && !decide (tR x > 1000000000000)))
def okTiers (l:List tTier.T):List tTier.T→Nat→Bool
 | [],_=>true
 | x :: r,i=>okTier l i x && okTiers l r (i + 1)
def risB (l:List tTier.T):Bool:=decide (1 ≤ l.length) && (decide (l.length ≤ 16) && (decide (tF (l.getD 0 (0,0)) = 0) && okTiers l l 0))
end Go.VS
