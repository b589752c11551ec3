import Derived.Test.YtepflleaeogafaaGreatDoorN3
set_option linter.unusedVariables false
set_option linter.unusedSimpArgs false
set_option linter.unusedSectionVars false
set_option linter.unusedVariables false
set_option linter.unusedSimpArgs false
set_option maxRecDepth 100000
namespace Go.VS
open Go
def okTab (t:tTable.T):Prop:=1 ≤ t.1∧t.1 ≤ 1000000000000∧0 ≤ t.2.1∧t.2.1 ≤ 6∧0 < t.2.2.length∧t.2.2.length ≤ 256∧pF t.2.2 0 = 0∧chainB t.2.2 = true
theorem tableB_iff {t:tTable.T}:tableB t = true ↔ okTab t:=by
 unfold tableB okTab pF
 simp only [Bool.and_eq_true,Bool.not_eq_true',decide_eq_false_iff_not,beq_iff_eq]
 constructor
 ·rintro ⟨h1,h2,h3,h4,h5,h6,h7,h8⟩
  exact ⟨Int.not_lt.1 h1,Int.not_lt.1 h2,Int.not_lt.1 h3,Int.not_lt.1 h4,by omega,by omega,h7,h8⟩
 ·rintro ⟨h1,h2,h3,h4,h5,h6,h7,h8⟩
  exact ⟨Int.not_lt.2 h1,Int.not_lt.2 h2,Int.not_lt.2 h3,Int.not_lt.2 h4,by omega,by omega,h7,h8⟩
theorem pairB_le {a b:tPiece.T} (h:pairB a b = true):b.1 ≤ 1099511627776:=by
 unfold pairB at h
 simp only [Bool.and_eq_true,Bool.not_eq_true',decide_eq_false_iff_not] at h
 exact Int.not_lt.1 h.2.1
theorem chain_le:∀ {l:List tPiece.T},chainB l = true→∀ i,i + 1 < l.length→pF l (i + 1) ≤ 1099511627776
 | [],h,i,hi=>by simp at hi
 | [a],h,i,hi=>by simp at hi
 | a :: b :: r,h,i,hi=>by
  have h':(pairB a b && chainB (b :: r)) = true:=h
  rw [Bool.and_eq_true] at h'
  cases i with
  | zero=>exact pairB_le h'.1
  | succ i=>rw [pF_cons]; exact chain_le h'.2 i (by simpa using hi)
theorem okTab_bd {t:tTable.T} (h:okTab t) (i:Nat) (hi:i < t.2.2.length):0 ≤ pF t.2.2 i∧pF t.2.2 i ≤ 1099511627776:=by
 obtain ⟨_,_,_,_,h5,h6,h7,h8⟩:=h
 cases i with
 | zero=>omega
 | succ i =>
  have:=chain_lt' h8 (i:=0) (j:=i + 1) (by omega) hi
  have:=chain_le h8 i hi
  omega
theorem at_eq (F:Nat) (hF:257 < F) {t:tTable.T} (hw:∀ p ∈ t.2.2,wfL p.2) (h:okTab t) {q:Int} (q1:0 ≤ q) (q2:q ≤ 1099511627776) {k:Nat} (hk:isAt t.2.2 q k) :
  normal_At.sh F t q = line_Value.sh F (get tPiece t.2.2 k).2 t.1 q:=by
 have hb:=okTab_bd h
 have ht:=tableB_iff.2 h
 obtain ⟨_,_,_,_,h5,h6,h7,h8⟩:=h
 unfold normal_At.sh
 rw [check12_eq F (by omega),oB_some,ht,decide_eq_false (show ¬ q < 0 by omega),decide_eq_false (show ¬ q > 1099511627776 by omega)]
 simp only [Bool.not_true,cond_false]
 obtain ⟨j,f,e,a1,a2,a3⟩:=bs_eq F hF h6 hb q1 q2 h8 h7 h5
 rw [e,oB_some]
 have hj:=isAt_inj hk a1
 have hl:∀ r,line_Value.sh F (get tPiece t.2.2 k).2 t.1 q = some r→(oB (line_Value.sh F (get tPiece t.2.2 k).2 t.1 q) fun c_3=>(some ((c_3.1.1,c_3.1.2.1,()),()):Option line_Value.sg.R)) = line_Value.sh F (get tPiece t.2.2 k).2 t.1 q:=by
  intro r hr
  rw [hr]
  rfl
 cases f with
 | true =>
  simp only [cond_true] at hj
  subst hj
  simp only [Bool.not_true,cond_false,normal_At.j6]
  rw [rg_idx hk.1,Int.toNat_natCast]
  simp only [cond_true]
  have hm:get tPiece t.2.2 k ∈ t.2.2:=by
   unfold get
   rw [List.getD_eq_getElem?_getD,List.getElem?_eq_getElem hk.1]
   exact List.getElem_mem _
  exact hl _ (lvalue_eq F (hw _ hm) t.1 q)
 | false =>
  simp only [cond_false] at hj
  have:=a2 rfl
  simp only [Bool.not_false,cond_true,normal_At.j6]
  rw [wrap_i64 (n:=(j:Int) - 1) (by omega) (by omega),show (j:Int) - 1 = ((j - 1:Nat):Int) by omega,← hj,rg_idx hk.1,Int.toNat_natCast]
  simp only [cond_true]
  have hm:get tPiece t.2.2 k ∈ t.2.2:=by
   unfold get
   rw [List.getD_eq_getElem?_getD,List.getElem?_eq_getElem hk.1]
   exact List.getElem_mem _
  exact hl _ (lvalue_eq F (hw _ hm) t.1 q)
theorem at_bad (F:Nat) (hF:257 < F) {t:tTable.T} {q:Int} (h:tableB t = false ∨ q < 0 ∨ q > 1099511627776):normal_At.sh F t q = some ((mk 0,1,()),()):=by
 unfold normal_At.sh
 rw [check12_eq F (by omega),oB_some]
 cases ht:tableB t with
 | false=>rfl
 | true =>
  rw [ht] at h
  simp only [Bool.not_true,cond_false]
  by_cases h1:q < 0
  ·rw [decide_eq_true h1]; rfl
  ·rw [decide_eq_false h1]
   by_cases h2:q > 1099511627776
   ·rw [decide_eq_true h2]; rfl
   ·rcases h with h | h | h
    ·cases h
    ·exact absurd h h1
    ·exact absurd h h2
theorem mem_get {l:List tPiece.T} {k:Nat} (h:k < l.length):get tPiece l k ∈ l:=by
 unfold get
 rw [List.getD_eq_getElem?_getD,List.getElem?_eq_getElem h]
 exact List.getElem_mem _
theorem rat_both {t:tTable.T} (hw:∀ p ∈ t.2.2,wfL p.2) (q:Int):∃ x e,normal_At.sh FU t q = some ((x,e,()),())∧octroiref12_At.sh FU t q = some ((x,e,()),()):=by
 have hFU:FU = 4194304:=rfl
 unfold octroiref12_At.sh
 rw [rcheck12_eq FU (by omega),oB_some]
 by_cases hg:tableB t = false ∨ q < 0 ∨ q > 1099511627776
 ·refine ⟨_,_,at_bad FU (by omega) hg,?_⟩
  cases ht:tableB t with
  | false=>rfl
  | true =>
   rw [ht] at hg
   simp only [Bool.not_true,cond_false]
   by_cases h1:q < 0
   ·rw [decide_eq_true h1]; rfl
   ·rw [decide_eq_false h1]
    by_cases h2:q > 1099511627776
    ·rw [decide_eq_true h2]; rfl
    ·rcases hg with h | h | h
     ·cases h
     ·exact absurd h h1
     ·exact absurd h h2
 ·have ht:tableB t = true:=by
   cases ht:tableB t with
   | true=>rfl
   | false=>exact absurd (.inl ht) hg
  have q1:0 ≤ q:=Int.not_lt.1 fun h=>hg (.inr (.inl h))
  have q2:q ≤ 1099511627776:=Int.not_lt.1 fun h=>hg (.inr (.inr h))
  have hok:=tableB_iff.1 ht
  obtain ⟨_,_,_,_,h5,h6,h7,h8⟩:=tableB_iff.1 ht
  obtain ⟨k,e,hk⟩:=find_eq FU (by omega) h6 h5 h8 (q:=q) (by omega)
  refine ⟨_,_,(at_eq FU (by omega) hw hok q1 q2 hk).trans (lvalue_eq FU (hw _ (mem_get hk.1)) t.1 q),?_⟩
  rw [ht,decide_eq_false (show ¬ q < 0 by omega),decide_eq_false (show ¬ q > 1099511627776 by omega)]
  simp only [Bool.not_true,cond_false]
  rw [e,oB_some,rg_idx hk.1,Int.toNat_natCast]
  simp only [cond_true]
  rw [rvalue_eq FU (by omega) (hw _ (mem_get hk.1)) t.1 q,oB_some]
theorem raw_l6 {R:Type} (k0:Bool→Option R) (k1:Option R) {t:tTable.T} (hw:∀ p ∈ t.2.2,wfL p.2) (L:List Int):∀ (n i fu:Nat),i + n = 256→n < fu→octroilaw12_NormalRaw.l6 FU k0 (fun _ _ _ _=>k1) fu L (i:Int) t = k1
 | n,i,0,hn,hf=>by omega
 | n,i,fu + 1,hn,hf=>by
  simp only [octroilaw12_NormalRaw.l6,octroilaw12_NormalRaw.l6.body]
  by_cases h1:(i:Int) < (L.length:Int)
  ·rw [decide_eq_true h1]
   by_cases h2:(i:Int) < 256
   ·obtain ⟨m,rfl⟩:∃ m,n = m + 1:=⟨n - 1,by omega⟩
    have IH:=raw_l6 k0 k1 hw L m (i + 1) fu (by omega) (by omega)
    rw [decide_eq_true h2,rg_idx (show i < L.length by omega),Int.toNat_natCast]
    obtain ⟨x,e,e1,e2⟩:=rat_both hw (get (.int .i64) L i)
    simp only [cond_true]
    rw [e1,oB_some,e2,oB_some,wrap_i64 (n:=(i:Int) + 1) (by omega) (by omega)]
    simp only [bne_self_eq_false,cond_false,beq_self_eq_true,Bool.and_true,Bool.not_true]
    exact IH
   ·rw [decide_eq_false h2]; rfl
  ·rw [decide_eq_false h1]; rfl
theorem tab_wf {t:tTable.T} (h:wfT tTable t):∀ p ∈ t.2.2,wfL p.2:=by
 obtain ⟨_,_,_,h⟩:=h
 intro p hp
 obtain ⟨_,⟨a1,a2⟩,⟨b1,b2⟩,c1,c2⟩:=h p hp
 have hi:IntKind.i64.min = -9223372036854775808:=rfl
 have hi':IntKind.i64.max = 9223372036854775807:=rfl
 have hu:IntKind.u64.min = 0:=rfl
 have hu':IntKind.u64.max = 18446744073709551615:=rfl
 have hk:∀ w:Int×Int,IntKind.i64.min ≤ w.1∧w.1 ≤ IntKind.i64.max→IntKind.u64.min ≤ w.2∧w.2 ≤ IntKind.u64.max→wfW w:=by
  intro w h1 h2
  unfold wfW
  omega
 exact ⟨hk _ a1 a2,hk _ b1 b2,hk _ c1 c2⟩
theorem raw_law (t:tTable.T) (L:List Int) (h:wfT tTable t):octroilaw12_NormalRaw.sh FU t L = some ((true,()),()):=by
 have hFU:FU = 4194304:=rfl
 unfold octroilaw12_NormalRaw.sh
 rw [awake_eq,oB_some]
 simp only [Bool.not_true,cond_false]
 rw [check12_eq FU (by omega),oB_some,rcheck12_eq FU (by omega),oB_some]
 simp only [beq_self_eq_true,Bool.not_true,cond_false]
 exact raw_l6 (fun r44=>some ((r44,()),())) (some ((true,()),())) (tab_wf h) L 256 0 FU (by omega) (by omega)
end Go.VS
