import Derived.Test.YtepflleaeogafaaGreatDoorL19
set_option linter.unusedVariables false
set_option linter.unusedSimpArgs false
set_option linter.unusedSectionVars false
set_option linter.unusedVariables false
set_option linter.unusedSimpArgs false
set_option maxRecDepth 100000
namespace Go.VS
open Go
def holdB (op x n:Int):Bool :=
 bif op == 1 then decide (x < n) else bif op == 2 then decide (x ≤ n) else bif op == 3 then decide (x > n) else bif op == 4 then decide (x ≥ n) else bif op == 5 then decide (x = n) else !decide (x = n)
def evN (u:Int) (D:List tDim.T) (q:List Int) (n:tNode.T) (vs:List Int):Int :=
 bif nK n == 1 then nN n else bif nK n == 2 then nN n * u else bif nK n == 3 then q.getD (nN n).toNat 0
 else bif nK n == 4 then ceilD (q.getD (nN n).toNat 0) (dS (D.getD (nN n).toNat (ByteArray.empty,0)))
 else bif nK n == 5 then 0 - vs.getD 0 0 else bif nK n == 6 then vs.getD 0 0 + vs.getD 1 0 else bif nK n == 7 then vs.getD 0 0 - vs.getD 1 0
 else bif nK n == 8 then vs.getD 0 0 * vs.getD 1 0 else bif nK n == 9 then minL vs else bif nK n == 10 then maxL vs
 else bif nK n == 11 then maxL [0,vs.getD 0 0 - nN n] else bif nK n == 12 then minL [nN n,vs.getD 0 0]
 else bif nK n == 13 then u * grad (vs.getD 0 0) (nT n) else bif nK n == 14 then u * vol (vs.getD 0 0) (nT n)
 else bif nK n == 15 then divM 2 (vs.getD 0 0 * (10000 - nN n)) 10000
 else bif holdB (nO n) (vs.getD 0 0) (nN n) then vs.getD 1 0 else vs.getD 2 0
def ev (u:Int) (D:List tDim.T) (q:List Int):Tree→Int:=Tree.fold (evN u D q)
theorem sumL_ge:∀ (l:List Int),(∀ v ∈ l,0 ≤ v)→∀ v ∈ l,v ≤ sumL l
 | [],h,v,hv=>by simp at hv
 | x :: r,h,v,hv=>by
  have hx:=h x (by simp)
  have h0:0 ≤ sumL r:=by
   have:∀ (l:List Int),(∀ v ∈ l,0 ≤ v)→0 ≤ sumL l:=by
    intro l
    induction l with
    | nil=>intro _; simp [sumL]
    | cons y s ih=>intro hh; have:=ih (fun v hv=>hh v (by simp [hv])); have:=hh y (by simp); simp only [sumL,List.sum_cons] at *; omega
   exact this r (fun v hv=>h v (by simp [hv]))
  have ih:=sumL_ge r (fun v hv=>h v (by simp [hv]))
  simp only [sumL,List.sum_cons] at *
  rcases List.mem_cons.1 hv with rfl | hv
  ·omega
  ·have:=ih v hv; omega
structure Kids (ks:List Tree) (V M:Tree→Int):Prop where
 lo:∀ k ∈ ks,-M k ≤ V k
 hi:∀ k ∈ ks,V k ≤ M k
 bd:∀ k ∈ ks,M k ≤ BND
theorem Kids.nn {ks:List Tree} {V M:Tree→Int} (h:Kids ks V M):∀ k ∈ ks,0 ≤ M k:=fun k hk=>by
 have:=h.lo k hk; have:=h.hi k hk; omega
theorem Kids.sum {ks:List Tree} {V M:Tree→Int} (h:Kids ks V M):∀ k ∈ ks,M k ≤ sumL (ks.map M):=fun k hk =>
 sumL_ge _ (by simp only [List.mem_map]; rintro v ⟨k,hk,rfl⟩; exact h.nn k hk) _ (List.mem_map_of_mem hk)
theorem Kids.inr {ks:List Tree} {V M:Tree→Int} (h:Kids ks V M):∀ v ∈ ks.map V,inR v = true:=by
 simp only [List.mem_map]
 rintro v ⟨k,hk,rfl⟩
 have hBND:BND = 1329227995784915872903807060280344576:=rfl
 have:=h.lo k hk; have:=h.hi k hk; have:=h.bd k hk
 rw [inR_iff]; omega
end Go.VS
