import Derived.Test.YtepflleaeogafaaGreatDoorL8
set_option linter.unusedVariables false
set_option linter.unusedSimpArgs false
set_option linter.unusedSectionVars false
set_option linter.unusedVariables false
set_option linter.unusedSimpArgs false
set_option maxRecDepth 100000
namespace Go.VS
open Go
theorem res_in {v:Int} (h:inR v = true):resW v = mk v∧(errW v != 0) = false:=by
 unfold resW errW
 rw [h]
 exact ⟨rfl,rfl⟩
theorem res_out {v:Int} (h:inR v = false):(errW v != 0) = true:=by
 unfold errW
 rw [h]
 rfl
def farZ (v:Int):Int:=if 0 - v > v then 0 - v else v
def waysS:List tTier.T→Int
 | a :: b :: r=>farZ (tR a) * (tF b - tF a) + waysS (b :: r)
 | _=>0
def rateM (r0:Int) (l:List tTier.T):Int:=l.foldl (fun r t=>if farZ (tR t) > r then farZ (tR t) else r) r0
def lastF:List tTier.T→Int
 | []=>0
 | [a]=>tF a
 | _ :: b :: r=>lastF (b :: r)
def scaleM (u x:Int) (l:List tTier.T):Int:=u * (rateM 0 l * (x + lastF l) + waysS l)
def BND:Int:=1329227995784915872903807060280344576
theorem inR_pos {v:Int} (h:0 ≤ v):(inR v = true∧v < 170141183460469231731687303715884105728) ∨ (inR v = false∧170141183460469231731687303715884105728 ≤ v):=by
 rcases Int.lt_or_le v 170141183460469231731687303715884105728 with h' | h'
 ·exact .inl ⟨by rw [inR_iff]; omega,h'⟩
 ·exact .inr ⟨by rw [inR_no]; omega,h'⟩
def sumL (l:List Int):Int:=l.sum
def magN (u:Int) (D:List tDim.T) (n:tNode.T) (vs:List Int):Int :=
 bif nK n == 1 then nN n else bif nK n == 2 then nN n * u else bif nK n == 3 then 1099511627776
 else bif nK n == 4 then ceilD 1099511627776 (dS (D.getD (nN n).toNat (ByteArray.empty,0)))
 else bif nK n == 8 then vs.getD 0 0 * vs.getD 1 0
 else bif nK n == 13 || nK n == 14 then scaleM u (vs.getD 0 0) (nT n)
 else bif nK n == 15 then vs.getD 0 0
 else bif nK n == 11 || (nK n == 12 || nK n == 16) then sumL vs + nN n
 else sumL vs
def farN (n:tNode.T) (v:Int):Int:=bif nK n == 15 then v * 10000 else v
def mag (u:Int) (D:List tDim.T):Tree→Int:=Tree.fold (magN u D)
theorem getD_bd {b:Int} {l:List Int} (h:∀ v ∈ l,0 ≤ v∧v ≤ b) {i:Nat} (hi:i < l.length):0 ≤ l.getD i 0∧l.getD i 0 ≤ b:=by
 rw [List.getD_eq_getElem?_getD,List.getElem?_eq_getElem hi]
 exact h _ (List.getElem_mem _)
def NodeR (u:Int) (D:List tDim.T) (n:tNode.T) (vs:List Int) (r:Option bound_meter_node.sg.R):Prop :=
 ∃ w o,r = some ((w,()),((mk u,o),()))∧wfW w∧0 ≤ magN u D n vs∧((o = true∧BND < farN n (magN u D n vs)) ∨ (o = false∧w = mk (magN u D n vs)∧farN n (magN u D n vs) < 170141183460469231731687303715884105728))
theorem NodeR.of {u:Int} {D:List tDim.T} {n:tNode.T} {vs:List Int} {v:Int} (hm:magN u D n vs = v) (hf:(nK n == 15) = false) (h0:0 ≤ v) {r:Option bound_meter_node.sg.R} (o:Bool)
  (hr:r = some ((resW v,()),((mk u,o || errW v != 0),()))) (ho:o = false):NodeR u D n vs r:=by
 subst ho
 refine ⟨_,_,hr,wf_resW _,by rw [hm]; exact h0,?_⟩
 have hBND:BND = 1329227995784915872903807060280344576:=rfl
 unfold farN
 rw [hm,hf]
 simp only [cond_false,Bool.false_or]
 rcases inR_pos h0 with ⟨i,b⟩ | ⟨i,b⟩
 ·rw [(res_in i).1,(res_in i).2]; exact .inr ⟨rfl,rfl,b⟩
 ·rw [res_out i]; exact .inl ⟨rfl,by omega⟩
end Go.VS
