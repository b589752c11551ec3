import Derived.Test.YtepflleaeogafaaGreatDoorL6
set_option linter.unusedVariables false
set_option linter.unusedSimpArgs false
set_option linter.unusedSectionVars false
set_option linter.unusedVariables false
set_option linter.unusedSimpArgs false
set_option maxRecDepth 100000
namespace Go.VS
open Go
def maxF (m:Int) (l:List Int):Int:=l.foldl (fun m x=>if x > m then x else m) m
def maxL:List Int→Int
 | []=>0
 | a :: r=>maxF a r
def deep:Tree→Int:=Tree.fold (fun n ks=>maxL ks + bif nK n == 15 then 1 else 0)
structure Good (p:tPlan.T) (t:Tree):Prop where
 head:headE p.1 p.2.1 p.2.2.1 = 0
 len:p.2.2.2.length ≤ 1024
 ok:okS p.2.1.length [] p.2.2.2
 eq:endT [] p.2.2.2 = [t]
theorem Good.flat {p:tPlan.T} {t:Tree} (h:Good p t):t.flat = p.2.2.2:=by
 have:=flats_end p.2.2.2 []
 rw [h.eq,flats_one] at this
 simpa [flats] using this
theorem Good.subs {p:tPlan.T} {t:Tree} (h:Good p t):news [] p.2.2.2 = t.subs:=by
 have:=subss_end p.2.2.2 []
 rw [h.eq,subss_one] at this
 simpa [subss] using this.symm
end Go.VS
