import Derived.Test.YthekefnghiaocaaDoorL20
set_option linter.unusedVariables false
set_option linter.unusedSimpArgs false
set_option linter.unusedSectionVars false
set_option linter.unusedVariables false
set_option linter.unusedSimpArgs false
set_option maxRecDepth 100000
namespace Go.VS
open Go
def okQ (D:List tDim.T) (q:List Int):Prop:=q.length = D.length∧∀ x ∈ q,0 ≤ x∧x ≤ 1099511627776
theorem okQ.at {D:List tDim.T} {q:List Int} (h:okQ D q) {i:Nat} (hi:i < D.length):0 ≤ q.getD i 0∧q.getD i 0 ≤ 1099511627776:=getD_bd h.2 (by rw [h.1]; exact hi)
theorem ceilQ_bd {x s:Int} (h0:0 ≤ x) (h:x ≤ 1099511627776) (h1:1 ≤ s):0 ≤ ceilD x s∧ceilD x s ≤ ceilD 1099511627776 s:=by
 have hq1:0 ≤ x / s:=Int.ediv_nonneg (by omega) (by omega)
 have e1:=Int.mul_ediv_add_emod x s
 have e2:=Int.mul_ediv_add_emod 1099511627776 s
 have r1:=Int.emod_nonneg x (show s ≠ 0 by omega)
 have r2:=Int.emod_nonneg 1099511627776 (show s ≠ 0 by omega)
 have hm:x / s ≤ 1099511627776 / s:=Int.ediv_le_ediv (by omega) h
 unfold ceilD
 refine ⟨by split <;> omega,?_⟩
 split
 ·split <;> omega
 ·split
  ·rename_i a b
   rcases Int.lt_or_eq_of_le hm with hlt | heq
   ·omega
   ·rw [heq] at e1; omega
  ·omega
theorem eleaf_eq (F:Nat) {u:Int} (hu:1 ≤ u) (hu2:u ≤ 1000000000000000000000000) {p:tPlan.T} (hD:dE [] p.2.1 = 0) (hd4:p.2.1.length ≤ 4) {n:tNode.T} {pile:Nat} (hn:nodeE p.2.1.length n pile = 0) {q:List Int} (hq:okQ p.2.1 q) (ha:ar n = 0) :
  eval_leaf.sh F p n (mk u) q = some ((mk (evN u p.2.1 q n []),()),())∧0 ≤ evN u p.2.1 q n []∧evN u p.2.1 q n [] ≤ magN u p.2.1 n []:=by
 obtain ⟨g1,g2,g3,g4,g5,g6,g7,g8⟩:=nodeE_ok hn
 have hN2:=most_le hd4 g3 g1
 have iu:inR u = true:=by rw [inR_iff]; omega
 have iN:inR (nN n) = true:=by rw [inR_iff]; omega
 have hc9:nK n = 9 ∨ nK n = 10→False:=by
  intro h
  rcases h with h | h <;> rw [kids_of h] at g4 <;> rw [ar_of h] at ha
  ·have g4:(decide (nC n ≥ 2) && decide (nC n ≤ 16)) = true:=g4
   have ha:(nC n).toNat = 0:=ha
   simp at g4; omega
  ·have g4:(decide (nC n ≥ 2) && decide (nC n ≤ 16)) = true:=g4
   have ha:(nC n).toNat = 0:=ha
   simp at g4; omega
 rcases kinds16 g1 with h | h | h | h | h | h | h | h | h | h | h | h | h | h | h | h
 ·have e:evN u p.2.1 q n [] = nN n:=by unfold evN; rw [h]; rfl
  have m:magN u p.2.1 n [] = nN n:=by unfold magN; rw [h]; rfl
  have h':n.1 = 1:=h
  rw [e,m]
  refine ⟨?_,g2,Int.le_refl _⟩
  unfold eval_leaf.sh
  rw [h',of_eq F (v:=nN n) (by omega) (by omega)]
  rfl
 ·have e:evN u p.2.1 q n [] = nN n * u:=by unfold evN; rw [h]; rfl
  have m:magN u p.2.1 n [] = nN n * u:=by unfold magN; rw [h]; rfl
  have h':n.1 = 2:=h
  have hb:=mul_bd g2 hN2 (show 0 ≤ u by omega) hu2
  rw [e,m]
  refine ⟨?_,hb.1,Int.le_refl _⟩
  unfold eval_leaf.sh
  rw [h',of_eq F (v:=nN n) (by omega) (by omega)]
  simp only [Int.reduceBEq,cond_false,cond_true]
  rw [oB_some,emul_eq F iN iu (by rw [inR_iff]; omega),oB_some]
 ·have e:evN u p.2.1 q n [] = q.getD (nN n).toNat 0:=by unfold evN; rw [h]; rfl
  have m:magN u p.2.1 n [] = 1099511627776:=by unfold magN; rw [h]; rfl
  have h':n.1 = 3:=h
  rw [most_of h] at g3
  have g3:nN n ≤ (p.2.1.length:Int) - 1:=g3
  have hb:=hq.at (i:=(nN n).toNat) (by omega)
  rw [e,m]
  refine ⟨?_,hb.1,hb.2⟩
  unfold eval_leaf.sh
  rw [h',show idx n.2.1 q.length = true from idx_of g2 (by rw [hq.1]; show nN n < _; omega),show get (.int .i64) q n.2.1.toNat = q.getD (nN n).toNat 0 from rfl,of_eq F (v:=q.getD (nN n).toNat 0) (by omega) (by omega)]
  rfl
 ·have e:evN u p.2.1 q n [] = ceilD (q.getD (nN n).toNat 0) (dS (p.2.1.getD (nN n).toNat (ByteArray.empty,0))):=by unfold evN; rw [h]; rfl
  have m:magN u p.2.1 n [] = ceilD 1099511627776 (dS (p.2.1.getD (nN n).toNat (ByteArray.empty,0))):=by unfold magN; rw [h]; rfl
  have h':n.1 = 4:=h
  rw [most_of h] at g3
  have g3:nN n ≤ (p.2.1.length:Int) - 1:=g3
  have hb:=hq.at (i:=(nN n).toNat) (by omega)
  have hs:1 ≤ dS (p.2.1.getD (nN n).toNat (ByteArray.empty,0))∧dS (p.2.1.getD (nN n).toNat (ByteArray.empty,0)) ≤ 1000000000000:=by
   have hlt:(nN n).toNat < p.2.1.length:=by omega
   rw [List.getD_eq_getElem?_getD,List.getElem?_eq_getElem hlt]
   exact dE_sizes _ _ hD _ (List.getElem_mem _)
  have hcb:=ceilQ_bd hb.1 hb.2 hs.1
  rw [e,m]
  refine ⟨?_,hcb.1,hcb.2⟩
  unfold eval_leaf.sh
  rw [h',show idx n.2.1 q.length = true from idx_of g2 (by rw [hq.1]; show nN n < _; omega),show idx n.2.1 p.2.1.length = true from idx_of g2 (by show nN n < _; omega),show get (.int .i64) q n.2.1.toNat = q.getD (nN n).toNat 0 from rfl,
   show (get tDim p.2.1 n.2.1.toNat).2 = dS (p.2.1.getD (nN n).toNat (ByteArray.empty,0)) from rfl]
  generalize dS (p.2.1.getD (nN n).toNat (ByteArray.empty,0)) = s at *
  generalize q.getD (nN n).toNat 0 = x at *
  simp only [Int.reduceBEq,cond_false,cond_true]
  rw [show (s != 0) = true from bne_iff_ne.2 (by omega),Int.tdiv_eq_ediv_of_nonneg hb.1,Int.tmod_eq_emod_of_nonneg hb.1]
  have hx1:0 ≤ x / s:=Int.ediv_nonneg hb.1 (by omega)
  have hx2:x / s ≤ x:=Int.ediv_le_self _ hb.1
  have hm0:=Int.emod_nonneg x (show s ≠ 0 by omega)
  have hmin:(if 1 < x % s then 1 else x % s) = if x % s = 0 then 0 else 1:=by split <;> split <;> omega
  rw [hmin,wrap_i64 (n:=x / s) (by omega) (by omega)]
  simp only [cond_true]
  rw [show x / s + (if x % s = 0 then 0 else 1) = ceilD x s from rfl]
  have hcc:ceilD x s ≤ 1099511627777:=Int.le_trans hcb.2 (ceilD_bd hs.1).2
  rw [wrap_i64 (n:=ceilD x s) (by omega) (by omega),of_eq F (v:=ceilD x s) (by omega) (by omega),oB_some]
 ·rw [ar_of h] at ha; exact absurd (show (1:Nat) = 0 from ha) (by decide)
 ·rw [ar_of h] at ha; exact absurd (show (2:Nat) = 0 from ha) (by decide)
 ·rw [ar_of h] at ha; exact absurd (show (2:Nat) = 0 from ha) (by decide)
 ·rw [ar_of h] at ha; exact absurd (show (2:Nat) = 0 from ha) (by decide)
 ·exact absurd (.inl h) hc9
 ·exact absurd (.inr h) hc9
 ·rw [ar_of h] at ha; exact absurd (show (1:Nat) = 0 from ha) (by decide)
 ·rw [ar_of h] at ha; exact absurd (show (1:Nat) = 0 from ha) (by decide)
 ·rw [ar_of h] at ha; exact absurd (show (1:Nat) = 0 from ha) (by decide)
 ·rw [ar_of h] at ha; exact absurd (show (1:Nat) = 0 from ha) (by decide)
 ·rw [ar_of h] at ha; exact absurd (show (1:Nat) = 0 from ha) (by decide)
 ·rw [ar_of h] at ha; exact absurd (show (3:Nat) = 0 from ha) (by decide)
theorem divM2 (a b:Int):divM 2 a b = tq a b:=by
 unfold divM awB
 cases decide (tr a b = 0) <;> rfl
theorem off_bd {v N:Int} (h0:0 ≤ N) (h1:N ≤ 10000) (M:Int) (hl:-M ≤ v) (hh:v ≤ M):(-(M * 10000) ≤ v * (10000 - N)∧v * (10000 - N) ≤ M * 10000)∧-M ≤ tq (v * (10000 - N)) 10000∧tq (v * (10000 - N)) 10000 ≤ M:=by
 have hb:=abs_mul_bd hl hh (show -10000 ≤ 10000 - N by omega) (show 10000 - N ≤ 10000 by omega)
 have h2:(aQ (v * (10000 - N)) 10000) ≤ M:=by
  unfold aQ
  rw [show (((10000:Int).natAbs:Nat):Int) = 10000 from rfl]
  generalize v * (10000 - N) = z at *
  omega
 have h3:=(aQR (a:=v * (10000 - N)) (b:=10000) (by decide)).1
 refine ⟨hb,?_⟩
 unfold tq
 cases dsg (v * (10000 - N)) 10000 <;> simp only [cond_true,cond_false] <;> omega
theorem len2 {α:Type} {l:List α} (h:l.length = 2):∃ a b,l = [a,b]:=by
 match l,h with
 | [a,b],_=>exact ⟨a,b,rfl⟩
theorem len3 {α:Type} {l:List α} (h:l.length = 3):∃ a b c,l = [a,b,c]:=by
 match l,h with
 | [a,b,c],_=>exact ⟨a,b,c,rfl⟩
theorem einner_eq (F:Nat) (hF:128 < F) {u:Int} (hu:1 ≤ u) (hu2:u ≤ 1000000000000000000000000) {D:List tDim.T} (hd4:D.length ≤ 4) {n:tNode.T} {pile:Nat} (hn:nodeE D.length n pile = 0) {q:List Int} {ks:List Tree} {V M:Tree→Int} (hk:Kids ks V M) (hl:ks.length = ar n) (ha:1 ≤ ar n)
  (hfar:farN n (magN u D n (ks.map M)) ≤ BND) :
  eval_inner.sh F n (mk u) (ks.map fun k=>mk (V k)) = some ((mk (evN u D q n (ks.map V)),()),())∧-magN u D n (ks.map M) ≤ evN u D q n (ks.map V)∧evN u D q n (ks.map V) ≤ magN u D n (ks.map M):=by
 obtain ⟨g1,g2,g3,g4,g5,g6,g7,g8⟩:=nodeE_ok hn
 have hBND:BND = 1329227995784915872903807060280344576:=rfl
 have ha16:=ar_le g1 g4
 have hN2:=most_le hd4 g3 g1
 have iu:inR u = true:=by rw [inR_iff]; omega
 have iN:inR (nN n) = true:=by rw [inR_iff]; omega
 have hof:=of_eq F (v:=nN n) (by omega) (by omega)
 have i0:idx 0 (ks.map fun k=>mk (V k)).length = true:=idx0 (by simp; omega)
 have hmm:(ks.map fun k=>mk (V k)) = (ks.map V).map mk:=by rw [List.map_map]; rfl
 have B:∀ k ∈ ks,-M k ≤ V k∧V k ≤ M k∧M k ≤ BND∧inR (V k) = true:=fun k h=>⟨hk.lo k h,hk.hi k h,hk.bd k h,hk.inr _ (List.mem_map_of_mem h)⟩
 rcases kinds16 g1 with h | h | h | h | h | h | h | h | h | h | h | h | h | h | h | h
 ·rw [ar_of h] at ha; exact absurd (show (1:Nat) ≤ 0 from ha) (by decide)
 ·rw [ar_of h] at ha; exact absurd (show (1:Nat) ≤ 0 from ha) (by decide)
 ·rw [ar_of h] at ha; exact absurd (show (1:Nat) ≤ 0 from ha) (by decide)
 ·rw [ar_of h] at ha; exact absurd (show (1:Nat) ≤ 0 from ha) (by decide)
 ·
  have hl1:ks.length = 1:=by rw [hl,ar_of h]; rfl
  obtain ⟨a,rfl⟩:=List.length_eq_one_iff.1 hl1
  have e:evN u D q n ([a].map V) = 0 - V a:=by unfold evN; rw [h]; rfl
  have m:magN u D n ([a].map M) = M a:=by unfold magN; rw [h]; simp [sumL]
  have Ba:=B a (by simp)
  have h':n.1 = 5:=h
  rw [e,m]
  refine ⟨?_,by omega,by omega⟩
  unfold eval_inner.sh
  rw [i0,h',show wide_Of.sh F n.2.1 = some ((mk (nN n),()),()) from hof]
  simp only [Int.reduceBEq,cond_false,cond_true]
  rw [oB_some,show get tWide ([a].map fun k=>mk (V k)) 0 = mk (V a) from rfl,show ((0,0):Int×Int) = mk 0 from rfl,esub_eq F (by rw [inR_iff]; omega) Ba.2.2.2 (by rw [inR_iff]; omega),oB_some]
 ·
  have hl1:ks.length = 2:=by rw [hl,ar_of h]; rfl
  obtain ⟨a,b,rfl⟩:=len2 hl1
  have e:evN u D q n ([a,b].map V) = V a + V b:=by unfold evN; rw [h]; rfl
  have m:magN u D n ([a,b].map M) = M a + M b:=by unfold magN; rw [h]; simp [sumL]
  have hf:farN n (magN u D n ([a,b].map M)) = M a + M b:=by unfold farN; rw [h,m]; rfl
  rw [hf] at hfar
  have Ba:=B a (by simp)
  have Bb:=B b (by simp)
  have h':n.1 = 6:=h
  rw [e,m]
  refine ⟨?_,by omega,by omega⟩
  unfold eval_inner.sh
  rw [i0,h',show wide_Of.sh F n.2.1 = some ((mk (nN n),()),()) from hof,show idx 1 ([a,b].map fun k=>mk (V k)).length = true from rfl]
  simp only [Int.reduceBEq,cond_false,cond_true]
  rw [oB_some,show get tWide ([a,b].map fun k=>mk (V k)) 0 = mk (V a) from rfl,show get tWide ([a,b].map fun k=>mk (V k)) 1 = mk (V b) from rfl,eadd_eq F Ba.2.2.2 Bb.2.2.2 (by rw [inR_iff]; omega),oB_some]
 ·
  have hl1:ks.length = 2:=by rw [hl,ar_of h]; rfl
  obtain ⟨a,b,rfl⟩:=len2 hl1
  have e:evN u D q n ([a,b].map V) = V a - V b:=by unfold evN; rw [h]; rfl
  have m:magN u D n ([a,b].map M) = M a + M b:=by unfold magN; rw [h]; simp [sumL]
  have hf:farN n (magN u D n ([a,b].map M)) = M a + M b:=by unfold farN; rw [h,m]; rfl
  rw [hf] at hfar
  have Ba:=B a (by simp)
  have Bb:=B b (by simp)
  have h':n.1 = 7:=h
  rw [e,m]
  refine ⟨?_,by omega,by omega⟩
  unfold eval_inner.sh
  rw [i0,h',show wide_Of.sh F n.2.1 = some ((mk (nN n),()),()) from hof,show idx 1 ([a,b].map fun k=>mk (V k)).length = true from rfl]
  simp only [Int.reduceBEq,cond_false,cond_true]
  rw [oB_some,show get tWide ([a,b].map fun k=>mk (V k)) 0 = mk (V a) from rfl,show get tWide ([a,b].map fun k=>mk (V k)) 1 = mk (V b) from rfl,esub_eq F Ba.2.2.2 Bb.2.2.2 (by rw [inR_iff]; omega),oB_some]
 ·
  have hl1:ks.length = 2:=by rw [hl,ar_of h]; rfl
  obtain ⟨a,b,rfl⟩:=len2 hl1
  have e:evN u D q n ([a,b].map V) = V a * V b:=by unfold evN; rw [h]; rfl
  have m:magN u D n ([a,b].map M) = M a * M b:=by unfold magN; rw [h]; rfl
  have hf:farN n (magN u D n ([a,b].map M)) = M a * M b:=by unfold farN; rw [h,m]; rfl
  rw [hf] at hfar
  have Ba:=B a (by simp)
  have Bb:=B b (by simp)
  have hb:=abs_mul_bd Ba.1 Ba.2.1 Bb.1 Bb.2.1
  have h':n.1 = 8:=h
  rw [e,m]
  refine ⟨?_,hb.1,hb.2⟩
  unfold eval_inner.sh
  rw [i0,h',show wide_Of.sh F n.2.1 = some ((mk (nN n),()),()) from hof,show idx 1 ([a,b].map fun k=>mk (V k)).length = true from rfl]
  simp only [Int.reduceBEq,cond_false,cond_true]
  rw [oB_some,show get tWide ([a,b].map fun k=>mk (V k)) 0 = mk (V a) from rfl,show get tWide ([a,b].map fun k=>mk (V k)) 1 = mk (V b) from rfl,emul_eq F Ba.2.2.2 Bb.2.2.2 (by rw [inR_iff]; omega),oB_some]
 ·
  have e:evN u D q n (ks.map V) = minL (ks.map V):=by unfold evN; rw [h]; rfl
  have m:magN u D n (ks.map M) = sumL (ks.map M):=by unfold magN; rw [h]; rfl
  have h':n.1 = 9:=h
  obtain ⟨k,hkm,hkv⟩:=List.mem_map.1 (minL_mem (l:=ks.map V) (by simp; omega))
  have Bk:=B k hkm
  have hs:=hk.sum k hkm
  rw [e,m]
  refine ⟨?_,by omega,by omega⟩
  unfold eval_inner.sh
  rw [i0,h',show wide_Of.sh F n.2.1 = some ((mk (nN n),()),()) from hof,hmm]
  simp only [Int.reduceBEq,cond_false,cond_true]
  rw [oB_some,minf_eq F hk.inr (by simp; omega) (by simp; omega) (by simp; omega),oB_some]
 ·
  have e:evN u D q n (ks.map V) = maxL (ks.map V):=by unfold evN; rw [h]; rfl
  have m:magN u D n (ks.map M) = sumL (ks.map M):=by unfold magN; rw [h]; rfl
  have h':n.1 = 10:=h
  obtain ⟨k,hkm,hkv⟩:=List.mem_map.1 (maxL_mem (l:=ks.map V) (by simp; omega))
  have Bk:=B k hkm
  have hs:=hk.sum k hkm
  rw [e,m]
  refine ⟨?_,by omega,by omega⟩
  unfold eval_inner.sh
  rw [i0,h',show wide_Of.sh F n.2.1 = some ((mk (nN n),()),()) from hof,hmm]
  simp only [Int.reduceBEq,cond_false,cond_true]
  rw [oB_some,maxf_eq F hk.inr (by simp; omega) (by simp; omega) (by simp; omega),oB_some]
 ·
  have hl1:ks.length = 1:=by rw [hl,ar_of h]; rfl
  obtain ⟨a,rfl⟩:=List.length_eq_one_iff.1 hl1
  have e:evN u D q n ([a].map V) = maxL [0,V a - nN n]:=by unfold evN; rw [h]; rfl
  have m:magN u D n ([a].map M) = M a + nN n:=by unfold magN; rw [h]; simp [sumL]
  have Ba:=B a (by simp)
  have h':n.1 = 11:=h
  have i1:inR (V a - nN n) = true:=by rw [inR_iff]; omega
  have hmx:maxL [0,V a - nN n] = 0 ∨ maxL [0,V a - nN n] = V a - nN n:=by have:=maxL_mem (l:=[0,V a - nN n]) (by simp); simpa using this
  rw [e,m]
  refine ⟨?_,by omega,by omega⟩
  unfold eval_inner.sh
  rw [i0,h',show wide_Of.sh F n.2.1 = some ((mk (nN n),()),()) from hof]
  simp only [Int.reduceBEq,cond_false,cond_true]
  rw [oB_some,show get tWide ([a].map fun k=>mk (V k)) 0 = mk (V a) from rfl,esub_eq F Ba.2.2.2 iN i1,oB_some]
  have:=maxf_eq F (l:=[0,V a - nN n]) (by intro v hv; simp at hv; rcases hv with rfl | rfl; rw [inR_iff]; omega; exact i1) (by simp) (by simp; omega) (by simp)
  rw [show (([0,V a - nN n]:List Int).map mk) = [(0,0),mk (V a - nN n)] from rfl] at this
  rw [this,oB_some]
 ·
  have hl1:ks.length = 1:=by rw [hl,ar_of h]; rfl
  obtain ⟨a,rfl⟩:=List.length_eq_one_iff.1 hl1
  have e:evN u D q n ([a].map V) = minL [nN n,V a]:=by unfold evN; rw [h]; rfl
  have m:magN u D n ([a].map M) = M a + nN n:=by unfold magN; rw [h]; simp [sumL]
  have Ba:=B a (by simp)
  have h':n.1 = 12:=h
  have hmx:minL [nN n,V a] = nN n ∨ minL [nN n,V a] = V a:=by have:=minL_mem (l:=[nN n,V a]) (by simp); simpa using this
  rw [e,m]
  refine ⟨?_,by omega,by omega⟩
  unfold eval_inner.sh
  rw [i0,h',show wide_Of.sh F n.2.1 = some ((mk (nN n),()),()) from hof]
  simp only [Int.reduceBEq,cond_false,cond_true]
  rw [oB_some,show get tWide ([a].map fun k=>mk (V k)) 0 = mk (V a) from rfl]
  have:=minf_eq F (l:=[nN n,V a]) (by intro v hv; simp at hv; rcases hv with rfl | rfl; exact iN; exact Ba.2.2.2) (by simp) (by simp; omega) (by simp)
  rw [show (([nN n,V a]:List Int).map mk) = [mk (nN n),mk (V a)] from rfl] at this
  rw [this,oB_some]
 ·
  have hl1:ks.length = 1:=by rw [hl,ar_of h]; rfl
  obtain ⟨a,rfl⟩:=List.length_eq_one_iff.1 hl1
  have hr:=g8 (by unfold tierB asks; rw [h]; rfl)
  have e:evN u D q n ([a].map V) = u * grad (V a) (nT n):=by unfold evN; rw [h]; rfl
  have m:magN u D n ([a].map M) = u * (rateM 0 (nT n) * (M a + lastF (nT n)) + waysS (nT n)):=by unfold magN; rw [h]; rfl
  have hf:farN n (magN u D n ([a].map M)) = u * (rateM 0 (nT n) * (M a + lastF (nT n)) + waysS (nT n)):=by unfold farN; rw [h,m]; rfl
  rw [hf] at hfar
  have Ba:=B a (by simp)
  have hgb:=grad_bd hr Ba.2.1 (by omega)
  have hub:=abs_mul_bd (show -u ≤ u by omega) (Int.le_refl u) hgb.1 hgb.2
  have hle:=mul_ge hu (show 0 ≤ rateM 0 (nT n) * (M a + lastF (nT n)) + waysS (nT n) by omega)
  have h':n.1 = 13:=h
  rw [e,m]
  refine ⟨?_,hub.1,hub.2⟩
  unfold eval_inner.sh
  rw [i0,h',show wide_Of.sh F n.2.1 = some ((mk (nN n),()),()) from hof]
  simp only [Int.reduceBEq,cond_false,cond_true]
  rw [oB_some,show get tWide ([a].map fun k=>mk (V k)) 0 = mk (V a) from rfl,graduated_eq F (by omega) hr Ba.2.2.2 Ba.2.1 (by omega) (by omega),oB_some,emul_eq F iu (by rw [inR_iff]; omega) (by rw [inR_iff]; omega),oB_some]
 ·
  have hl1:ks.length = 1:=by rw [hl,ar_of h]; rfl
  obtain ⟨a,rfl⟩:=List.length_eq_one_iff.1 hl1
  have hr:=g8 (by unfold tierB asks; rw [h]; rfl)
  have e:evN u D q n ([a].map V) = u * vol (V a) (nT n):=by unfold evN; rw [h]; rfl
  have m:magN u D n ([a].map M) = u * (rateM 0 (nT n) * (M a + lastF (nT n)) + waysS (nT n)):=by unfold magN; rw [h]; rfl
  have hf:farN n (magN u D n ([a].map M)) = u * (rateM 0 (nT n) * (M a + lastF (nT n)) + waysS (nT n)):=by unfold farN; rw [h,m]; rfl
  rw [hf] at hfar
  have Ba:=B a (by simp)
  have hgb:=vol_bd hr Ba.2.1 (by omega)
  have hub:=abs_mul_bd (show -u ≤ u by omega) (Int.le_refl u) hgb.1 hgb.2
  have hle:=mul_ge hu (show 0 ≤ rateM 0 (nT n) * (M a + lastF (nT n)) + waysS (nT n) by omega)
  have h':n.1 = 14:=h
  rw [e,m]
  refine ⟨?_,hub.1,hub.2⟩
  unfold eval_inner.sh
  rw [i0,h',show wide_Of.sh F n.2.1 = some ((mk (nN n),()),()) from hof]
  simp only [Int.reduceBEq,cond_false,cond_true]
  rw [oB_some,show get tWide ([a].map fun k=>mk (V k)) 0 = mk (V a) from rfl,volume_eq F (by omega) hr Ba.2.2.2 Ba.2.1 (by omega) (by omega),oB_some,emul_eq F iu (by rw [inR_iff]; omega) (by rw [inR_iff]; omega),oB_some]
 ·
  have hl1:ks.length = 1:=by rw [hl,ar_of h]; rfl
  obtain ⟨a,rfl⟩:=List.length_eq_one_iff.1 hl1
  have e:evN u D q n ([a].map V) = divM 2 (V a * (10000 - nN n)) 10000:=by unfold evN; rw [h]; rfl
  have m:magN u D n ([a].map M) = M a:=by unfold magN; rw [h]; rfl
  have hf:farN n (magN u D n ([a].map M)) = M a * 10000:=by unfold farN; rw [h,m]; rfl
  rw [hf] at hfar
  rw [most_of h] at g3
  have g3:nN n ≤ 10000:=g3
  have Ba:=B a (by simp)
  have ho:=off_bd g2 g3 (M a) Ba.1 Ba.2.1
  have h':n.1 = 15:=h
  rw [e,m,divM2]
  refine ⟨?_,ho.2.1,ho.2.2⟩
  unfold eval_inner.sh
  rw [i0,h',show wide_Of.sh F n.2.1 = some ((mk (nN n),()),()) from hof]
  simp only [Int.reduceBEq,cond_false,cond_true]
  rw [oB_some,show get tWide ([a].map fun k=>mk (V k)) 0 = mk (V a) from rfl,wrap_i64 (n:=10000 - n.2.1) (show -9223372036854775808 ≤ 10000 - nN n by omega) (show 10000 - nN n < 9223372036854775808 by omega),show (10000 - n.2.1:Int) = 10000 - nN n from rfl,
   of_eq F (v:=10000 - nN n) (by omega) (by omega),oB_some,emul_eq F Ba.2.2.2 (inR_i64 (by omega) (by omega)) (by rw [inR_iff]; omega),oB_some,of_eq F (v:=10000) (by omega) (by omega),oB_some]
  rw [div_eq F (by omega) (by rw [inR_iff]; omega) (by rw [inR_iff]; omega) (by decide) (by rw [inR_iff]; omega) (by omega) (by omega),oB_some,divM2]
 ·
  have hl1:ks.length = 3:=by rw [hl,ar_of h]; rfl
  obtain ⟨a,b,c,rfl⟩:=len3 hl1
  have e:evN u D q n ([a,b,c].map V) = bif holdB (nO n) (V a) (nN n) then V b else V c:=by unfold evN; rw [h]; rfl
  have m:magN u D n ([a,b,c].map M) = M a + (M b + M c) + nN n:=by unfold magN; rw [h]; simp [sumL]
  have Ba:=B a (by simp)
  have Bb:=B b (by simp)
  have Bc:=B c (by simp)
  have h':n.1 = 16:=h
  rw [e,m]
  refine ⟨?_,by cases holdB (nO n) (V a) (nN n) <;> simp only [cond_true,cond_false] <;> omega,by cases holdB (nO n) (V a) (nN n) <;> simp only [cond_true,cond_false] <;> omega⟩
  unfold eval_inner.sh
  rw [i0,h',show wide_Of.sh F n.2.1 = some ((mk (nN n),()),()) from hof,show idx 1 ([a,b,c].map fun k=>mk (V k)).length = true from rfl,show idx 2 ([a,b,c].map fun k=>mk (V k)).length = true from rfl]
  simp only [Int.reduceBEq,cond_false,cond_true]
  rw [oB_some,show get tWide ([a,b,c].map fun k=>mk (V k)) 0 = mk (V a) from rfl,holds_eq F Ba.2.2.2 iN,oB_some]
  cases holdB (nO n) (V a) (nN n) <;> rfl
end Go.VS
