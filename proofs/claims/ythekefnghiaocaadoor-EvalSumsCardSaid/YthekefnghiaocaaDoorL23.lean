import Derived.Test.YthekefnghiaocaaDoorL22
set_option linter.unusedVariables false
set_option linter.unusedSimpArgs false
set_option linter.unusedSectionVars false
set_option linter.unusedVariables false
set_option linter.unusedSimpArgs false
set_option maxRecDepth 100000
namespace Go.VS
open Go
def Dv (S u:Int) (D:List tDim.T) (q:List Int) (t:Tree):Prop:=ty t = 1→∃ c,ev u D q t = c * 10000 ^ (S - deep t).toNat
theorem Dv.mul {S u:Int} {D:List tDim.T} {q:List Int} {t:Tree} (h:Dv S u D q t) (ht:ty t = 1) {e:Int} (h1:deep t ≤ e) (h2:e ≤ S):∃ c,ev u D q t = c * 10000 ^ (S - e).toNat:=by
 obtain ⟨c,hc⟩:=h ht
 have h0:=(deep_bd t).1
 refine ⟨c * 10000 ^ (e - deep t).toNat,?_⟩
 rw [hc,Int.mul_assoc,← Int.pow_add,show (e - deep t).toNat + (S - e).toNat = (S - deep t).toNat by omega]
end Go.VS
