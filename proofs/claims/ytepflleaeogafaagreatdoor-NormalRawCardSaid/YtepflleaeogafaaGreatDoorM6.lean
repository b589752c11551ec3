import Derived.Test.YtepflleaeogafaaGreatDoorM5
set_option linter.unusedVariables false
set_option linter.unusedSimpArgs false
set_option linter.unusedSectionVars false
set_option linter.unusedVariables false
set_option linter.unusedSimpArgs false
set_option maxRecDepth 100000
namespace Go.VS
open Go
def TG (t:Tree):Prop:=∀ s ∈ t.subs,goodK s.root = true∧kidsK s.root = true∧ar s.root = s.kids.length
theorem TG.kids {n:tNode.T} {ks:List Tree} (h:TG (.nd n ks)):∀ k ∈ ks,TG k:=fun k hk s hs=>h s (by
 rw [subs_nd]
 refine List.mem_append.2 (.inl ?_)
 unfold subss
 exact List.mem_flatten.2 ⟨k.subs,List.mem_map.2 ⟨k,hk,rfl⟩,hs⟩)
theorem TG.top {n:tNode.T} {ks:List Tree} (h:TG (.nd n ks)):goodK n = true∧kidsK n = true∧ar n = ks.length:=h (.nd n ks) (by rw [subs_nd]; simp)
end Go.VS
