/- Plain laws, joined from smaller texts. -/
import Derived.Test.YtepflleaeogafaaGreatDoorQKa
set_option linter.unusedVariables false
set_option linter.unusedSimpArgs false
set_option linter.unusedSectionVars false
set_option maxRecDepth 100000
namespace Go.VS
open Go
def okQ (D:List tDim.T) (q:List Int):Prop:=q.length = D.length∧∀ x ∈ q,0 ≤ x∧x ≤ 1099511627776
theorem okQ.at {D:List tDim.T} {q:List Int} (h:okQ D q) {i:Nat} (hi:i < D.length):0 ≤ q.getD i 0∧q.getD i 0 ≤ 1099511627776:=getD_bd h.2 (by rw [h.1]; exact hi)
theorem ceilQ_bd {x s:Int} (h0:0 ≤ x) (h:x ≤ 1099511627776) (h1:1 ≤ s):0 ≤ ceilD x s∧ceilD x s ≤ ceilD 1099511627776 s:=by
 have hq1:0 ≤ x / s:=Int.ediv_nonneg (by omega) (by omega)
 have e1:=Int.mul_ediv_add_emod x s
 have e2:=Int.mul_ediv_add_emod 1099511627776 s
 have r1:=Int.emod_nonneg x (show s ≠ 0 by omega)
 have r2:=Int.emod_nonneg 1099511627776 (show s ≠ 0 by omega)
 have hm:x / s ≤ 1099511627776 / s:=Int.ediv_le_ediv (by omega) h
 unfold ceilD
 refine ⟨by split <;> omega,?_⟩
 split
 ·split <;> omega
 ·split
  ·rename_i a b
   rcases Int.lt_or_eq_of_le hm with hlt | heq
   ·omega
   ·rw [heq] at e1; omega
  ·omega
theorem eleaf_eq (F:Nat) {u:Int} (hu:1 ≤ u) (hu2:u ≤ 1000000000000000000000000) {p:tPlan.T} (hD:dE [] p.2.1 = 0) (hd4:p.2.1.length ≤ 4) {n:tNode.T} {pile:Nat} (hn:nodeE p.2.1.length n pile = 0) {q:List Int} (hq:okQ p.2.1 q) (ha:ar n = 0) :
  eval_leaf.sh F p n (mk u) q = some ((mk (evN u p.2.1 q n []),()),())∧0 ≤ evN u p.2.1 q n []∧evN u p.2.1 q n [] ≤ magN u p.2.1 n []:=by
 obtain ⟨g1,g2,g3,g4,g5,g6,g7,g8⟩:=nodeE_ok hn
 have hN2:=most_le hd4 g3 g1
 have iu:inR u = true:=by rw [inR_iff]; omega
 have iN:inR (nN n) = true:=by rw [inR_iff]; omega
 have hc9:nK n = 9 ∨ nK n = 10→False:=by
  intro h
  rcases h with h | h <;> rw [kids_of h] at g4 <;> rw [ar_of h] at ha
  ·have g4:(decide (nC n ≥ 2) && decide (nC n ≤ 16)) = true:=g4
   have ha:(nC n).toNat = 0:=ha
   simp at g4; omega
  ·have g4:(decide (nC n ≥ 2) && decide (nC n ≤ 16)) = true:=g4
   have ha:(nC n).toNat = 0:=ha
   simp at g4; omega
 rcases kinds16 g1 with h | h | h | h | h | h | h | h | h | h | h | h | h | h | h | h
 ·have e:evN u p.2.1 q n [] = nN n:=by unfold evN; rw [h]; rfl
  have m:magN u p.2.1 n [] = nN n:=by unfold magN; rw [h]; rfl
  have h':n.1 = 1:=h
  rw [e,m]
  refine ⟨?_,g2,Int.le_refl _⟩
  unfold eval_leaf.sh
  rw [h',of_eq F (v:=nN n) (by omega) (by omega)]
  rfl
 ·have e:evN u p.2.1 q n [] = nN n * u:=by unfold evN; rw [h]; rfl
  have m:magN u p.2.1 n [] = nN n * u:=by unfold magN; rw [h]; rfl
  have h':n.1 = 2:=h
  have hb:=mul_bd g2 hN2 (show 0 ≤ u by omega) hu2
  rw [e,m]
  refine ⟨?_,hb.1,Int.le_refl _⟩
  unfold eval_leaf.sh
  rw [h',of_eq F (v:=nN n) (by omega) (by omega)]
  simp only [Int.reduceBEq,cond_false,cond_true]
  rw [oB_some,emul_eq F iN iu (by rw [inR_iff]; omega),oB_some]
 ·have e:evN u p.2.1 q n [] = q.getD (nN n).toNat 0:=by unfold evN; rw [h]; rfl
  have m:magN u p.2.1 n [] = 1099511627776:=by unfold magN; rw [h]; rfl
  have h':n.1 = 3:=h
  rw [most_of h] at g3
  have g3:nN n ≤ (p.2.1.length:Int) - 1:=g3
  have hb:=hq.at (i:=(nN n).toNat) (by omega)
  rw [e,m]
  refine ⟨?_,hb.1,hb.2⟩
  unfold eval_leaf.sh
  rw [h',show idx n.2.1 q.length = true from idx_of g2 (by rw [hq.1]; show nN n < _; omega),show get (.int .i64) q n.2.1.toNat = q.getD (nN n).toNat 0 from rfl,of_eq F (v:=q.getD (nN n).toNat 0) (by omega) (by omega)]
  rfl
 ·have e:evN u p.2.1 q n [] = ceilD (q.getD (nN n).toNat 0) (dS (p.2.1.getD (nN n).toNat (ByteArray.empty,0))):=by unfold evN; rw [h]; rfl
  have m:magN u p.2.1 n [] = ceilD 1099511627776 (dS (p.2.1.getD (nN n).toNat (ByteArray.empty,0))):=by unfold magN; rw [h]; rfl
  have h':n.1 = 4:=h
  rw [most_of h] at g3
  have g3:nN n ≤ (p.2.1.length:Int) - 1:=g3
  have hb:=hq.at (i:=(nN n).toNat) (by omega)
  have hs:1 ≤ dS (p.2.1.getD (nN n).toNat (ByteArray.empty,0))∧dS (p.2.1.getD (nN n).toNat (ByteArray.empty,0)) ≤ 1000000000000:=by
   have hlt:(nN n).toNat < p.2.1.length:=by omega
   rw [List.getD_eq_getElem?_getD,List.getElem?_eq_getElem hlt]
   exact dE_sizes _ _ hD _ (List.getElem_mem _)
  have hcb:=ceilQ_bd hb.1 hb.2 hs.1
  rw [e,m]
  refine ⟨?_,hcb.1,hcb.2⟩
  unfold eval_leaf.sh
  rw [h',show idx n.2.1 q.length = true from idx_of g2 (by rw [hq.1]; show nN n < _; omega),show idx n.2.1 p.2.1.length = true from idx_of g2 (by show nN n < _; omega),show get (.int .i64) q n.2.1.toNat = q.getD (nN n).toNat 0 from rfl,
   show (get tDim p.2.1 n.2.1.toNat).2 = dS (p.2.1.getD (nN n).toNat (ByteArray.empty,0)) from rfl]
  generalize dS (p.2.1.getD (nN n).toNat (ByteArray.empty,0)) = s at *
  generalize q.getD (nN n).toNat 0 = x at *
  simp only [Int.reduceBEq,cond_false,cond_true]
  rw [show (s != 0) = true from bne_iff_ne.2 (by omega),Int.tdiv_eq_ediv_of_nonneg hb.1,Int.tmod_eq_emod_of_nonneg hb.1]
  have hx1:0 ≤ x / s:=Int.ediv_nonneg hb.1 (by omega)
  have hx2:x / s ≤ x:=Int.ediv_le_self _ hb.1
  have hm0:=Int.emod_nonneg x (show s ≠ 0 by omega)
  have hmin:(if 1 < x % s then 1 else x % s) = if x % s = 0 then 0 else 1:=by split <;> split <;> omega
  rw [hmin,wrap_i64 (n:=x / s) (by omega) (by omega)]
  simp only [cond_true]
  rw [show x / s + (if x % s = 0 then 0 else 1) = ceilD x s from rfl]
  have hcc:ceilD x s ≤ 1099511627777:=Int.le_trans hcb.2 (ceilD_bd hs.1).2
  rw [wrap_i64 (n:=ceilD x s) (by omega) (by omega),of_eq F (v:=ceilD x s) (by omega) (by omega),oB_some]
 ·rw [ar_of h] at ha; exact absurd (show (1:Nat) = 0 from ha) (by decide)
 ·rw [ar_of h] at ha; exact absurd (show (2:Nat) = 0 from ha) (by decide)
 ·rw [ar_of h] at ha; exact absurd (show (2:Nat) = 0 from ha) (by decide)
 ·rw [ar_of h] at ha; exact absurd (show (2:Nat) = 0 from ha) (by decide)
 ·exact absurd (.inl h) hc9
 ·exact absurd (.inr h) hc9
 ·rw [ar_of h] at ha; exact absurd (show (1:Nat) = 0 from ha) (by decide)
 ·rw [ar_of h] at ha; exact absurd (show (1:Nat) = 0 from ha) (by decide)
 ·rw [ar_of h] at ha; exact absurd (show (1:Nat) = 0 from ha) (by decide)
 ·rw [ar_of h] at ha; exact absurd (show (1:Nat) = 0 from ha) (by decide)
 ·rw [ar_of h] at ha; exact absurd (show (1:Nat) = 0 from ha) (by decide)
 ·rw [ar_of h] at ha; exact absurd (show (3:Nat) = 0 from ha) (by decide)
theorem divM2 (a b:Int):divM 2 a b = tq a b:=by
 unfold divM awB
 cases decide (tr a b = 0) <;> rfl
theorem off_bd {v N:Int} (h0:0 ≤ N) (h1:N ≤ 10000) (M:Int) (hl:-M ≤ v) (hh:v ≤ M):(-(M * 10000) ≤ v * (10000 - N)∧v * (10000 - N) ≤ M * 10000)∧-M ≤ tq (v * (10000 - N)) 10000∧tq (v * (10000 - N)) 10000 ≤ M:=by
 have hb:=abs_mul_bd hl hh (show -10000 ≤ 10000 - N by omega) (show 10000 - N ≤ 10000 by omega)
 have h2:(aQ (v * (10000 - N)) 10000) ≤ M:=by
  unfold aQ
  rw [show (((10000:Int).natAbs:Nat):Int) = 10000 from rfl]
  generalize v * (10000 - N) = z at *
  omega
 have h3:=(aQR (a:=v * (10000 - N)) (b:=10000) (by decide)).1
 refine ⟨hb,?_⟩
 unfold tq
 cases dsg (v * (10000 - N)) 10000 <;> simp only [cond_true,cond_false] <;> omega
theorem len2 {α:Type} {l:List α} (h:l.length = 2):∃ a b,l = [a,b]:=by
 match l,h with
 | [a,b],_=>exact ⟨a,b,rfl⟩
theorem len3 {α:Type} {l:List α} (h:l.length = 3):∃ a b c,l = [a,b,c]:=by
 match l,h with
 | [a,b,c],_=>exact ⟨a,b,c,rfl⟩
theorem einner_eq (F:Nat) (hF:128 < F) {u:Int} (hu:1 ≤ u) (hu2:u ≤ 1000000000000000000000000) {D:List tDim.T} (hd4:D.length ≤ 4) {n:tNode.T} {pile:Nat} (hn:nodeE D.length n pile = 0) {q:List Int} {ks:List Tree} {V M:Tree→Int} (hk:Kids ks V M) (hl:ks.length = ar n) (ha:1 ≤ ar n)
  (hfar:farN n (magN u D n (ks.map M)) ≤ BND) :
  eval_inner.sh F n (mk u) (ks.map fun k=>mk (V k)) = some ((mk (evN u D q n (ks.map V)),()),())∧-magN u D n (ks.map M) ≤ evN u D q n (ks.map V)∧evN u D q n (ks.map V) ≤ magN u D n (ks.map M):=by
 obtain ⟨g1,g2,g3,g4,g5,g6,g7,g8⟩:=nodeE_ok hn
 have hBND:BND = 1329227995784915872903807060280344576:=rfl
 have ha16:=ar_le g1 g4
 have hN2:=most_le hd4 g3 g1
 have iu:inR u = true:=by rw [inR_iff]; omega
 have iN:inR (nN n) = true:=by rw [inR_iff]; omega
 have hof:=of_eq F (v:=nN n) (by omega) (by omega)
 have i0:idx 0 (ks.map fun k=>mk (V k)).length = true:=idx0 (by simp; omega)
 have hmm:(ks.map fun k=>mk (V k)) = (ks.map V).map mk:=by rw [List.map_map]; rfl
 have B:∀ k ∈ ks,-M k ≤ V k∧V k ≤ M k∧M k ≤ BND∧inR (V k) = true:=fun k h=>⟨hk.lo k h,hk.hi k h,hk.bd k h,hk.inr _ (List.mem_map_of_mem h)⟩
 rcases kinds16 g1 with h | h | h | h | h | h | h | h | h | h | h | h | h | h | h | h
 ·rw [ar_of h] at ha; exact absurd (show (1:Nat) ≤ 0 from ha) (by decide)
 ·rw [ar_of h] at ha; exact absurd (show (1:Nat) ≤ 0 from ha) (by decide)
 ·rw [ar_of h] at ha; exact absurd (show (1:Nat) ≤ 0 from ha) (by decide)
 ·rw [ar_of h] at ha; exact absurd (show (1:Nat) ≤ 0 from ha) (by decide)
 ·
  have hl1:ks.length = 1:=by rw [hl,ar_of h]; rfl
  obtain ⟨a,rfl⟩:=List.length_eq_one_iff.1 hl1
  have e:evN u D q n ([a].map V) = 0 - V a:=by unfold evN; rw [h]; rfl
  have m:magN u D n ([a].map M) = M a:=by unfold magN; rw [h]; simp [sumL]
  have Ba:=B a (by simp)
  have h':n.1 = 5:=h
  rw [e,m]
  refine ⟨?_,by omega,by omega⟩
  unfold eval_inner.sh
  rw [i0,h',show wide_Of.sh F n.2.1 = some ((mk (nN n),()),()) from hof]
  simp only [Int.reduceBEq,cond_false,cond_true]
  rw [oB_some,show get tWide ([a].map fun k=>mk (V k)) 0 = mk (V a) from rfl,show ((0,0):Int×Int) = mk 0 from rfl,esub_eq F (by rw [inR_iff]; omega) Ba.2.2.2 (by rw [inR_iff]; omega),oB_some]
 ·
  have hl1:ks.length = 2:=by rw [hl,ar_of h]; rfl
  obtain ⟨a,b,rfl⟩:=len2 hl1
  have e:evN u D q n ([a,b].map V) = V a + V b:=by unfold evN; rw [h]; rfl
  have m:magN u D n ([a,b].map M) = M a + M b:=by unfold magN; rw [h]; simp [sumL]
  have hf:farN n (magN u D n ([a,b].map M)) = M a + M b:=by unfold farN; rw [h,m]; rfl
  rw [hf] at hfar
  have Ba:=B a (by simp)
  have Bb:=B b (by simp)
  have h':n.1 = 6:=h
  rw [e,m]
  refine ⟨?_,by omega,by omega⟩
  unfold eval_inner.sh
  rw [i0,h',show wide_Of.sh F n.2.1 = some ((mk (nN n),()),()) from hof,show idx 1 ([a,b].map fun k=>mk (V k)).length = true from rfl]
  simp only [Int.reduceBEq,cond_false,cond_true]
  rw [oB_some,show get tWide ([a,b].map fun k=>mk (V k)) 0 = mk (V a) from rfl,show get tWide ([a,b].map fun k=>mk (V k)) 1 = mk (V b) from rfl,eadd_eq F Ba.2.2.2 Bb.2.2.2 (by rw [inR_iff]; omega),oB_some]
 ·
  have hl1:ks.length = 2:=by rw [hl,ar_of h]; rfl
  obtain ⟨a,b,rfl⟩:=len2 hl1
  have e:evN u D q n ([a,b].map V) = V a - V b:=by unfold evN; rw [h]; rfl
  have m:magN u D n ([a,b].map M) = M a + M b:=by unfold magN; rw [h]; simp [sumL]
  have hf:farN n (magN u D n ([a,b].map M)) = M a + M b:=by unfold farN; rw [h,m]; rfl
  rw [hf] at hfar
  have Ba:=B a (by simp)
  have Bb:=B b (by simp)
  have h':n.1 = 7:=h
  rw [e,m]
  refine ⟨?_,by omega,by omega⟩
  unfold eval_inner.sh
  rw [i0,h',show wide_Of.sh F n.2.1 = some ((mk (nN n),()),()) from hof,show idx 1 ([a,b].map fun k=>mk (V k)).length = true from rfl]
  simp only [Int.reduceBEq,cond_false,cond_true]
  rw [oB_some,show get tWide ([a,b].map fun k=>mk (V k)) 0 = mk (V a) from rfl,show get tWide ([a,b].map fun k=>mk (V k)) 1 = mk (V b) from rfl,esub_eq F Ba.2.2.2 Bb.2.2.2 (by rw [inR_iff]; omega),oB_some]
 ·
  have hl1:ks.length = 2:=by rw [hl,ar_of h]; rfl
  obtain ⟨a,b,rfl⟩:=len2 hl1
  have e:evN u D q n ([a,b].map V) = V a * V b:=by unfold evN; rw [h]; rfl
  have m:magN u D n ([a,b].map M) = M a * M b:=by unfold magN; rw [h]; rfl
  have hf:farN n (magN u D n ([a,b].map M)) = M a * M b:=by unfold farN; rw [h,m]; rfl
  rw [hf] at hfar
  have Ba:=B a (by simp)
  have Bb:=B b (by simp)
  have hb:=abs_mul_bd Ba.1 Ba.2.1 Bb.1 Bb.2.1
  have h':n.1 = 8:=h
  rw [e,m]
  refine ⟨?_,hb.1,hb.2⟩
  unfold eval_inner.sh
  rw [i0,h',show wide_Of.sh F n.2.1 = some ((mk (nN n),()),()) from hof,show idx 1 ([a,b].map fun k=>mk (V k)).length = true from rfl]
  simp only [Int.reduceBEq,cond_false,cond_true]
  rw [oB_some,show get tWide ([a,b].map fun k=>mk (V k)) 0 = mk (V a) from rfl,show get tWide ([a,b].map fun k=>mk (V k)) 1 = mk (V b) from rfl,emul_eq F Ba.2.2.2 Bb.2.2.2 (by rw [inR_iff]; omega),oB_some]
 ·
  have e:evN u D q n (ks.map V) = minL (ks.map V):=by unfold evN; rw [h]; rfl
  have m:magN u D n (ks.map M) = sumL (ks.map M):=by unfold magN; rw [h]; rfl
  have h':n.1 = 9:=h
  obtain ⟨k,hkm,hkv⟩:=List.mem_map.1 (minL_mem (l:=ks.map V) (by simp; omega))
  have Bk:=B k hkm
  have hs:=hk.sum k hkm
  rw [e,m]
  refine ⟨?_,by omega,by omega⟩
  unfold eval_inner.sh
  rw [i0,h',show wide_Of.sh F n.2.1 = some ((mk (nN n),()),()) from hof,hmm]
  simp only [Int.reduceBEq,cond_false,cond_true]
  rw [oB_some,minf_eq F hk.inr (by simp; omega) (by simp; omega) (by simp; omega),oB_some]
 ·
  have e:evN u D q n (ks.map V) = maxL (ks.map V):=by unfold evN; rw [h]; rfl
  have m:magN u D n (ks.map M) = sumL (ks.map M):=by unfold magN; rw [h]; rfl
  have h':n.1 = 10:=h
  obtain ⟨k,hkm,hkv⟩:=List.mem_map.1 (maxL_mem (l:=ks.map V) (by simp; omega))
  have Bk:=B k hkm
  have hs:=hk.sum k hkm
  rw [e,m]
  refine ⟨?_,by omega,by omega⟩
  unfold eval_inner.sh
  rw [i0,h',show wide_Of.sh F n.2.1 = some ((mk (nN n),()),()) from hof,hmm]
  simp only [Int.reduceBEq,cond_false,cond_true]
  rw [oB_some,maxf_eq F hk.inr (by simp; omega) (by simp; omega) (by simp; omega),oB_some]
 ·
  have hl1:ks.length = 1:=by rw [hl,ar_of h]; rfl
  obtain ⟨a,rfl⟩:=List.length_eq_one_iff.1 hl1
  have e:evN u D q n ([a].map V) = maxL [0,V a - nN n]:=by unfold evN; rw [h]; rfl
  have m:magN u D n ([a].map M) = M a + nN n:=by unfold magN; rw [h]; simp [sumL]
  have Ba:=B a (by simp)
  have h':n.1 = 11:=h
  have i1:inR (V a - nN n) = true:=by rw [inR_iff]; omega
  have hmx:maxL [0,V a - nN n] = 0 ∨ maxL [0,V a - nN n] = V a - nN n:=by have:=maxL_mem (l:=[0,V a - nN n]) (by simp); simpa using this
  rw [e,m]
  refine ⟨?_,by omega,by omega⟩
  unfold eval_inner.sh
  rw [i0,h',show wide_Of.sh F n.2.1 = some ((mk (nN n),()),()) from hof]
  simp only [Int.reduceBEq,cond_false,cond_true]
  rw [oB_some,show get tWide ([a].map fun k=>mk (V k)) 0 = mk (V a) from rfl,esub_eq F Ba.2.2.2 iN i1,oB_some]
  have:=maxf_eq F (l:=[0,V a - nN n]) (by intro v hv; simp at hv; rcases hv with rfl | rfl; rw [inR_iff]; omega; exact i1) (by simp) (by simp; omega) (by simp)
  rw [show (([0,V a - nN n]:List Int).map mk) = [(0,0),mk (V a - nN n)] from rfl] at this
  rw [this,oB_some]
 ·
  have hl1:ks.length = 1:=by rw [hl,ar_of h]; rfl
  obtain ⟨a,rfl⟩:=List.length_eq_one_iff.1 hl1
  have e:evN u D q n ([a].map V) = minL [nN n,V a]:=by unfold evN; rw [h]; rfl
  have m:magN u D n ([a].map M) = M a + nN n:=by unfold magN; rw [h]; simp [sumL]
  have Ba:=B a (by simp)
  have h':n.1 = 12:=h
  have hmx:minL [nN n,V a] = nN n ∨ minL [nN n,V a] = V a:=by have:=minL_mem (l:=[nN n,V a]) (by simp); simpa using this
  rw [e,m]
  refine ⟨?_,by omega,by omega⟩
  unfold eval_inner.sh
  rw [i0,h',show wide_Of.sh F n.2.1 = some ((mk (nN n),()),()) from hof]
  simp only [Int.reduceBEq,cond_false,cond_true]
  rw [oB_some,show get tWide ([a].map fun k=>mk (V k)) 0 = mk (V a) from rfl]
  have:=minf_eq F (l:=[nN n,V a]) (by intro v hv; simp at hv; rcases hv with rfl | rfl; exact iN; exact Ba.2.2.2) (by simp) (by simp; omega) (by simp)
  rw [show (([nN n,V a]:List Int).map mk) = [mk (nN n),mk (V a)] from rfl] at this
  rw [this,oB_some]
 ·
  have hl1:ks.length = 1:=by rw [hl,ar_of h]; rfl
  obtain ⟨a,rfl⟩:=List.length_eq_one_iff.1 hl1
  have hr:=g8 (by unfold tierB asks; rw [h]; rfl)
  have e:evN u D q n ([a].map V) = u * grad (V a) (nT n):=by unfold evN; rw [h]; rfl
  have m:magN u D n ([a].map M) = u * (rateM 0 (nT n) * (M a + lastF (nT n)) + waysS (nT n)):=by unfold magN; rw [h]; rfl
  have hf:farN n (magN u D n ([a].map M)) = u * (rateM 0 (nT n) * (M a + lastF (nT n)) + waysS (nT n)):=by unfold farN; rw [h,m]; rfl
  rw [hf] at hfar
  have Ba:=B a (by simp)
  have hgb:=grad_bd hr Ba.2.1 (by omega)
  have hub:=abs_mul_bd (show -u ≤ u by omega) (Int.le_refl u) hgb.1 hgb.2
  have hle:=mul_ge hu (show 0 ≤ rateM 0 (nT n) * (M a + lastF (nT n)) + waysS (nT n) by omega)
  have h':n.1 = 13:=h
  rw [e,m]
  refine ⟨?_,hub.1,hub.2⟩
  unfold eval_inner.sh
  rw [i0,h',show wide_Of.sh F n.2.1 = some ((mk (nN n),()),()) from hof]
  simp only [Int.reduceBEq,cond_false,cond_true]
  rw [oB_some,show get tWide ([a].map fun k=>mk (V k)) 0 = mk (V a) from rfl,graduated_eq F (by omega) hr Ba.2.2.2 Ba.2.1 (by omega) (by omega),oB_some,emul_eq F iu (by rw [inR_iff]; omega) (by rw [inR_iff]; omega),oB_some]
 ·
  have hl1:ks.length = 1:=by rw [hl,ar_of h]; rfl
  obtain ⟨a,rfl⟩:=List.length_eq_one_iff.1 hl1
  have hr:=g8 (by unfold tierB asks; rw [h]; rfl)
  have e:evN u D q n ([a].map V) = u * vol (V a) (nT n):=by unfold evN; rw [h]; rfl
  have m:magN u D n ([a].map M) = u * (rateM 0 (nT n) * (M a + lastF (nT n)) + waysS (nT n)):=by unfold magN; rw [h]; rfl
  have hf:farN n (magN u D n ([a].map M)) = u * (rateM 0 (nT n) * (M a + lastF (nT n)) + waysS (nT n)):=by unfold farN; rw [h,m]; rfl
  rw [hf] at hfar
  have Ba:=B a (by simp)
  have hgb:=vol_bd hr Ba.2.1 (by omega)
  have hub:=abs_mul_bd (show -u ≤ u by omega) (Int.le_refl u) hgb.1 hgb.2
  have hle:=mul_ge hu (show 0 ≤ rateM 0 (nT n) * (M a + lastF (nT n)) + waysS (nT n) by omega)
  have h':n.1 = 14:=h
  rw [e,m]
  refine ⟨?_,hub.1,hub.2⟩
  unfold eval_inner.sh
  rw [i0,h',show wide_Of.sh F n.2.1 = some ((mk (nN n),()),()) from hof]
  simp only [Int.reduceBEq,cond_false,cond_true]
  rw [oB_some,show get tWide ([a].map fun k=>mk (V k)) 0 = mk (V a) from rfl,volume_eq F (by omega) hr Ba.2.2.2 Ba.2.1 (by omega) (by omega),oB_some,emul_eq F iu (by rw [inR_iff]; omega) (by rw [inR_iff]; omega),oB_some]
 ·
  have hl1:ks.length = 1:=by rw [hl,ar_of h]; rfl
  obtain ⟨a,rfl⟩:=List.length_eq_one_iff.1 hl1
  have e:evN u D q n ([a].map V) = divM 2 (V a * (10000 - nN n)) 10000:=by unfold evN; rw [h]; rfl
  have m:magN u D n ([a].map M) = M a:=by unfold magN; rw [h]; rfl
  have hf:farN n (magN u D n ([a].map M)) = M a * 10000:=by unfold farN; rw [h,m]; rfl
  rw [hf] at hfar
  rw [most_of h] at g3
  have g3:nN n ≤ 10000:=g3
  have Ba:=B a (by simp)
  have ho:=off_bd g2 g3 (M a) Ba.1 Ba.2.1
  have h':n.1 = 15:=h
  rw [e,m,divM2]
  refine ⟨?_,ho.2.1,ho.2.2⟩
  unfold eval_inner.sh
  rw [i0,h',show wide_Of.sh F n.2.1 = some ((mk (nN n),()),()) from hof]
  simp only [Int.reduceBEq,cond_false,cond_true]
  rw [oB_some,show get tWide ([a].map fun k=>mk (V k)) 0 = mk (V a) from rfl,wrap_i64 (n:=10000 - n.2.1) (show -9223372036854775808 ≤ 10000 - nN n by omega) (show 10000 - nN n < 9223372036854775808 by omega),show (10000 - n.2.1:Int) = 10000 - nN n from rfl,
   of_eq F (v:=10000 - nN n) (by omega) (by omega),oB_some,emul_eq F Ba.2.2.2 (inR_i64 (by omega) (by omega)) (by rw [inR_iff]; omega),oB_some,of_eq F (v:=10000) (by omega) (by omega),oB_some]
  rw [div_eq F (by omega) (by rw [inR_iff]; omega) (by rw [inR_iff]; omega) (by decide) (by rw [inR_iff]; omega) (by omega) (by omega),oB_some,divM2]
 ·
  have hl1:ks.length = 3:=by rw [hl,ar_of h]; rfl
  obtain ⟨a,b,c,rfl⟩:=len3 hl1
  have e:evN u D q n ([a,b,c].map V) = bif holdB (nO n) (V a) (nN n) then V b else V c:=by unfold evN; rw [h]; rfl
  have m:magN u D n ([a,b,c].map M) = M a + (M b + M c) + nN n:=by unfold magN; rw [h]; simp [sumL]
  have Ba:=B a (by simp)
  have Bb:=B b (by simp)
  have Bc:=B c (by simp)
  have h':n.1 = 16:=h
  rw [e,m]
  refine ⟨?_,by cases holdB (nO n) (V a) (nN n) <;> simp only [cond_true,cond_false] <;> omega,by cases holdB (nO n) (V a) (nN n) <;> simp only [cond_true,cond_false] <;> omega⟩
  unfold eval_inner.sh
  rw [i0,h',show wide_Of.sh F n.2.1 = some ((mk (nN n),()),()) from hof,show idx 1 ([a,b,c].map fun k=>mk (V k)).length = true from rfl,show idx 2 ([a,b,c].map fun k=>mk (V k)).length = true from rfl]
  simp only [Int.reduceBEq,cond_false,cond_true]
  rw [oB_some,show get tWide ([a,b,c].map fun k=>mk (V k)) 0 = mk (V a) from rfl,holds_eq F Ba.2.2.2 iN,oB_some]
  cases holdB (nO n) (V a) (nN n) <;> rfl
theorem ekids_eq (F:Nat) {n:tNode.T} (hg:goodK n = true) (hk:kidsK n = true):eval_kids.sh F n = some (((ar n:Int),()),()):=by
 have h9:∀ k:Int,(nK n = k)→(k = 9 ∨ k = 10)→(ar n:Int) = nC n:=by
  intro k h hkk
  rw [kids_of h] at hk
  have hk:(decide (nC n ≥ 2) && decide (nC n ≤ 16)) = true:=by rcases hkk with rfl | rfl <;> exact hk
  simp at hk
  have:ar n = (nC n).toNat:=by rw [ar_of h]; rcases hkk with rfl | rfl <;> rfl
  omega
 unfold eval_kids.sh eval_kids.j6 eval_kids.j10
 rcases kinds16 hg with h | h | h | h | h | h | h | h | h | h | h | h | h | h | h | h <;> rw [show n.1 = _ from h]
 ·rw [ar_of h]; rfl
 ·rw [ar_of h]; rfl
 ·rw [ar_of h]; rfl
 ·rw [ar_of h]; rfl
 ·rw [ar_of h]; rfl
 ·rw [ar_of h]; rfl
 ·rw [ar_of h]; rfl
 ·rw [ar_of h]; rfl
 ·rw [h9 9 h (.inl rfl)]; rfl
 ·rw [h9 10 h (.inr rfl)]; rfl
 ·rw [ar_of h]; rfl
 ·rw [ar_of h]; rfl
 ·rw [ar_of h]; rfl
 ·rw [ar_of h]; rfl
 ·rw [ar_of h]; rfl
 ·rw [ar_of h]; rfl
structure Inv (u:Int) (D:List tDim.T) (q:List Int) (t:Tree):Prop where
 lo:-mag u D t ≤ ev u D q t
 hi:ev u D q t ≤ mag u D t
 bd:mag u D t ≤ BND
theorem kids_of_inv {u:Int} {D:List tDim.T} {q:List Int} {l:List Tree} (h:∀ t ∈ l,Inv u D q t):Kids l (ev u D q) (mag u D):=⟨fun k hk=>(h k hk).lo,fun k hk=>(h k hk).hi,fun k hk=>(h k hk).bd⟩
theorem farN_ge {n:tNode.T} {v:Int} (h0:0 ≤ v) (h:farN n v ≤ BND):v ≤ BND:=by
 unfold farN at h
 cases h15:(nK n == 15) with
 | true=>rw [h15] at h; simp only [cond_true] at h; omega
 | false=>rw [h15] at h; exact h
theorem step_inv (F:Nat) (hF:128 < F) {u:Int} (hu:1 ≤ u) (hu2:u ≤ 1000000000000000000000000) {p:tPlan.T} (hD:dE [] p.2.1 = 0) (hd4:p.2.1.length ≤ 4) {q:List Int} (hq:okQ p.2.1 q) {st:List Tree} {n:tNode.T}
  (hn:nodeE p.2.1.length n st.length = 0) (hI:∀ t ∈ st,Inv u p.2.1 q t) (hE:magE u p.2.1 (topT st n) = 0) :
  Inv u p.2.1 q (topT st n)∧(ar n = 0→eval_leaf.sh F p n (mk u) q = some ((mk (ev u p.2.1 q (topT st n)),()),())) ∧
  (1 ≤ ar n→eval_inner.sh F n (mk u) ((st.drop (st.length - ar n)).map fun t=>mk (ev u p.2.1 q t)) = some ((mk (ev u p.2.1 q (topT st n)),()),())):=by
 obtain ⟨g1,g2,g3,g4,g5,g6,g7,g8⟩:=nodeE_ok hn
 have hfar:farN n (mag u p.2.1 (topT st n)) ≤ BND:=by
  unfold magE at hE
  rw [show (topT st n).root = n from rfl] at hE
  cases hx:decide (farN n (mag u p.2.1 (topT st n)) > BND) with
  | true=>rw [hx] at hE; exact absurd (show (90:Int) = 0 from hE) (by decide)
  | false=>have:=of_decide_eq_false hx; omega
 have hm:mag u p.2.1 (topT st n) = magN u p.2.1 n ((st.drop (st.length - ar n)).map (mag u p.2.1)):=by unfold topT; rw [mag_nd]
 have hv:ev u p.2.1 q (topT st n) = evN u p.2.1 q n ((st.drop (st.length - ar n)).map (ev u p.2.1 q)):=by unfold topT; rw [ev_nd]
 by_cases ha:ar n = 0
 ·rw [ha,Nat.sub_zero,List.drop_of_length_le (Nat.le_refl _)] at hm hv
  simp only [List.map_nil] at hm hv
  obtain ⟨h1,h2,h3⟩:=eleaf_eq F hu hu2 hD hd4 hn hq ha
  rw [← hv] at h1 h2 h3
  rw [← hm] at h3
  exact ⟨⟨by omega,h3,farN_ge (by omega) hfar⟩,fun _=>h1,fun h=>by omega⟩
 ·have hk:Kids (st.drop (st.length - ar n)) (ev u p.2.1 q) (mag u p.2.1):=kids_of_inv (fun t ht=>hI t (List.mem_of_mem_drop ht))
  rw [hm] at hfar
  obtain ⟨h1,h2,h3⟩:=einner_eq F hF hu hu2 hd4 hn (q:=q) hk (by simp; omega) (by omega) hfar
  rw [← hv] at h1 h2 h3
  rw [← hm] at h2 h3 hfar
  exact ⟨⟨h2,h3,farN_ge (by omega) hfar⟩,fun h=>by omega,fun _=>h1⟩
theorem values_rg (F:Nat) (hF:128 < F) {R:Type} {u:Int} (hu:1 ≤ u) (hu2:u ≤ 1000000000000000000000000) {p:tPlan.T} (hD:dE [] p.2.1 = 0) (hd4:p.2.1.length ≤ 4) {q:List Int} (hq:okQ p.2.1 q) (kO:List tWide.T→Option R) (L:List tNode.T) (N:Int):∀ (xs:List tNode.T) (st:List Tree) (i:Int) (values:List tWide.T),
  okS p.2.1.length st xs→(flats st).length + xs.length ≤ 2048→values.length ≤ (flats st).length→(∀ t ∈ st,Inv u p.2.1 q t)→firstE (magE u p.2.1) (news st xs) 0 = none →
  eval_Values.l14.rg F (fun _ _ _ _ _ _ _ values _=>kO values) L N xs i q p (mk u) values (st.map fun t=>mk (ev u p.2.1 q t)) = kO (values ++ (news st xs).map fun t=>mk (ev u p.2.1 q t)):=by
 intro xs
 induction xs with
 | nil=>intro st i values h h2 h3 h4 hf; simp [eval_Values.l14.rg,news]
 | cons n xs ih =>
  intro st i values h h2 h3 h4 hf
  obtain ⟨g1,g2,g3,g4,g5,g6,g7,g8⟩:=nodeE_ok h.1
  have hst:=len_flats st
  have hfs:=congrArg List.length (flats_step st n)
  simp only [List.length_cons,List.length_append,List.length_nil] at h2 hfs
  simp only [news] at hf ⊢
  have hE:=firstE_mem hf (topT st n) (by simp)
  obtain ⟨s1,s2,s3⟩:=step_inv F hF hu hu2 hD hd4 hq h.1 h4 hE
  have hl:(st.map fun t=>mk (ev u p.2.1 q t)).length = st.length:=by simp
  have ew:=wrap_sub g7 (by omega)
  have hb1:=bounds_lo (show st.length - ar n ≤ st.length by omega)
  have hb2:=bounds_hi (show st.length - ar n ≤ st.length by omega)
  have htk:(st.map fun t=>mk (ev u p.2.1 q t)).take st.length = st.map fun t=>mk (ev u p.2.1 q t):=List.take_of_length_le (by omega)
  have hbl1:∀ y,Nat.ble (values.length + ([y]:List tWide.T).length) maxN = true:=fun y=>ble_of (by simp; omega)
  have hbl2:∀ y,Nat.ble (st.length - ar n + ([y]:List tWide.T).length) maxN = true:=fun y=>ble_of (by simp; omega)
  have hstep:(stepT st n).map (fun t=>mk (ev u p.2.1 q t)) = (st.map fun t=>mk (ev u p.2.1 q t)).take (st.length - ar n) ++ [mk (ev u p.2.1 q (topT st n))]:=by
   unfold stepT; simp [List.map_take]
  have IH:=ih (stepT st n) (i + 1) (values ++ [mk (ev u p.2.1 q (topT st n))]) h.2 (by omega) (by simp; omega) (by
   intro t ht
   rcases List.mem_append.1 ht with ht | ht
   ·exact h4 t (List.mem_of_mem_take ht)
   ·rw [List.mem_singleton.1 ht]; exact s1) (by
   simp only [firstE] at hf
   rw [show (magE u p.2.1 (topT st n) != 0) = false by simpa using hE] at hf
   exact firstE_none 0 hf)
  rw [hstep] at IH
  simp only [List.append_assoc,List.singleton_append] at IH
  have hdm:(st.map fun t=>mk (ev u p.2.1 q t)).drop (st.length - ar n) = (st.drop (st.length - ar n)).map fun t=>mk (ev u p.2.1 q t):=by rw [← List.map_drop]
  simp only [eval_Values.l14.rg]
  rw [ekids_eq F g1 g4,oB_some]
  simp only [hl,ew,hb1,hb2,htk,cond_true,hdm]
  by_cases ha:ar n = 0
  ·rw [decide_eq_false (show ¬ ((st.length - ar n:Nat):Int) < (st.length:Int) by omega)]
   simp only [cond_false]
   rw [s2 ha,oB_some]
   simp only [hbl1,hbl2,cond_true]
   exact IH
  ·rw [decide_eq_true (show ((st.length - ar n:Nat):Int) < (st.length:Int) by omega)]
   simp only [cond_true]
   rw [s3 (by omega),oB_some]
   simp only [hbl1,hbl2,cond_true]
   exact IH
def qB (x:Int):Bool:=decide (x < 0) || decide (x > 1099511627776)
theorem qty_rg (F:Nat) {R:Type} (k0:List tWide.T→Int→Option R) (k1:List Int→tPlan.T→tWide.T→Option R) (L:List Int) (N:Int) (q:List Int) (p:tPlan.T) (u:tWide.T):∀ (xs:List Int) (i:Int),
  eval_Values.l7.rg F k0 (fun q _ _ _ _ p u=>k1 q p u) L N xs i q p u = bif xs.any qB then k0 [] 101 else k1 q p u
 | [],i=>rfl
 | x :: r,i=>by
  rw [eval_Values.l7.rg,qty_rg F k0 k1 L N q p u r,List.any_cons]
  unfold qB
  cases decide (x < 0) with
  | true=>rfl
  | false=>cases decide (x > 1099511627776) <;> rfl
theorem okQ_of {D:List tDim.T} {q:List Int} (h1:q.length = D.length) (h2:q.any qB = false):okQ D q:=by
 refine ⟨h1,fun x hx=>?_⟩
 have:=(List.any_eq_false.1 h2) x hx
 simp [qB] at this
 omega
def valsR (D:List tDim.T) (t:Tree) (q:List Int):List tWide.T×Int :=
 bif (unitR D t).2.2 != 0 then ([],(unitR D t).2.2) else bif (q.length:Int) != (D.length:Int) then ([],100) else bif q.any qB then ([],101) else
 (t.subs.map fun s=>mk (ev (unitV t) D q s),0)
theorem unit_ok {p:tPlan.T} {t:Tree} (h:Good p t) (hu:(unitR p.2.1 t).2.2 = 0):deep t ≤ 6∧firstE tyE t.subs 0 = none∧ty t = 1∧firstE (magE (unitV t) p.2.1) t.subs 0 = none∧unitR p.2.1 t = (mk (unitV t),0,0):=by
 obtain ⟨a1,a2,a3,a4⟩:=unitR_ok hu
 exact ⟨a2,(typesR_ok a1).1,(typesR_ok a1).2,(measR_ok a3).1,a4⟩
theorem Values_gen (F:Nat) (hF:4096 < F) {p:tPlan.T} {t:Tree} (h:Good p t) (q:List Int) (hU:bound_Unit.sh F p = some (((unitR p.2.1 t).1,(unitR p.2.1 t).2.1,(unitR p.2.1 t).2.2,()),())):eval_Values.sh F p q = some (((valsR p.2.1 t q).1,(valsR p.2.1 t q).2,()),()):=by
 unfold eval_Values.sh valsR
 rw [hU,oB_some]
 cases hu:((unitR p.2.1 t).2.2 != 0) with
 | true=>simp only [cond_true,hu]
 | false =>
  have hu':(unitR p.2.1 t).2.2 = 0:=by simpa using hu
  obtain ⟨u1,u2,u3,u4,u5⟩:=unit_ok h hu'
  simp only [cond_false,hu]
  cases hql:((q.length:Int) != (p.2.1.length:Int)) with
  | true=>rfl
  | false =>
   have hql:(q.length:Int) = (p.2.1.length:Int):=by simpa using hql
   have hh:=headE_dims h.head
   have hl:=h.len
   simp only [cond_false]
   refine Eq.trans (eval_Values.l7.rg_eq F _ _ q _ rfl (by omega) q 0 F _ _ _ (by simp) (by omega)) ?_
   refine (qty_rg F (fun r42 r52=>(some ((r42,r52,()),()):Option eval_Values.sg.R)) (fun q3 p3 unit3=>eval_Values.l14 F (fun q7 t467 t477 t487 t497 p7 unit7 values7 pile7=>eval_Values.j24 F (fun r48 r58=>some ((r48,r58,()),())) values7) F q3 p3.2.2.2 (p3.2.2.2.length:Int) 0 p3 unit3 ([]) ([])) q _ q p _ q _).trans ?_
   cases hqa:q.any qB with
   | true=>rfl
   | false =>
    simp only [cond_false]
    have hub:=unitV_bd u1
    refine Eq.trans (eval_Values.l14.rg_eq F _ p.2.2.2 _ rfl (by omega) p.2.2.2 0 F _ _ _ _ _ (by simp) (by omega)) ?_
    rw [u5]
    refine (values_rg F (by omega) hub.1 hub.2 hh.2.2.1 hh.2.1 (okQ_of (by omega) hqa) (fun values=>(some ((values,0,()),()):Option eval_Values.sg.R)) p.2.2.2 _ p.2.2.2 [] 0 [] h.ok (by simp [flats]; omega) (by simp) (by simp) (by rw [h.subs]; exact u4)).trans ?_
    rw [h.subs]
    rfl
theorem Values_eq {p:tPlan.T} {t:Tree} (h:Good p t) (q:List Int):eval_Values.sh FU p q = some (((valsR p.2.1 t q).1,(valsR p.2.1 t q).2,()),()):=Values_gen FU FU_big h q (Unit_eq h)
def exactR (D:List tDim.T) (t:Tree) (q:List Int):tWide.T×Int :=
 bif (valsR D t q).2 != 0 then ((0,0),(valsR D t q).2) else (mk (ev (unitV t) D q t),0)
theorem vals_ok {D:List tDim.T} {t:Tree} {q:List Int} (h:(valsR D t q).2 = 0):(unitR D t).2.2 = 0∧q.length = D.length∧q.any qB = false∧valsR D t q = (t.subs.map fun s=>mk (ev (unitV t) D q s),0):=by
 unfold valsR at *
 cases h1:((unitR D t).2.2 != 0) with
 | true =>
  rw [h1] at h
  have h:(unitR D t).2.2 = 0:=h
  rw [h] at h1
  exact absurd h1 (by decide)
 | false =>
  rw [h1] at h
  cases h2:((q.length:Int) != (D.length:Int)) with
  | true=>rw [h2] at h; exact absurd (show (100:Int) = 0 from h) (by decide)
  | false =>
   rw [h2] at h
   cases h3:q.any qB with
   | true=>rw [h3] at h; exact absurd (show (101:Int) = 0 from h) (by decide)
   | false =>
    have h2:(q.length:Int) = (D.length:Int):=by simpa using h2
    exact ⟨by simpa using h1,by omega,rfl,rfl⟩
theorem Exact_eq {p:tPlan.T} {t:Tree} (h:Good p t) (q:List Int):eval_Exact.sh FU p q = some (((exactR p.2.1 t q).1,(exactR p.2.1 t q).2,()),()):=by
 unfold eval_Exact.sh exactR
 rw [Values_eq h,oB_some]
 cases hv:((valsR p.2.1 t q).2 != 0) with
 | true=>simp only [cond_true,hv]
 | false =>
  have hv':(valsR p.2.1 t q).2 = 0:=by simpa using hv
  obtain ⟨v1,v2,v3,v4⟩:=vals_ok hv'
  obtain ⟨s,hs⟩:=subs_last t
  have hlen:(valsR p.2.1 t q).1.length = s.length + 1:=by rw [v4,hs]; simp
  have hn:s.length + 1 = p.2.2.2.length:=by rw [← h.flat,← subs_len,hs]; simp
  have hl:=h.len
  simp only [cond_false,hv,hlen]
  rw [wrap_i64 (n:=((s.length + 1:Nat):Int) - 1) (by omega) (by omega),show ((s.length + 1:Nat):Int) - 1 = ((s.length:Nat):Int) by omega,rg_idx (by omega),Int.toNat_natCast]
  simp only [cond_true]
  have hg:get tWide (valsR p.2.1 t q).1 s.length = mk (ev (unitV t) p.2.1 q t):=by
   rw [v4,hs,List.map_append]; exact get_last (by simp)
  rw [hg]
theorem int_eq (F:Nat) {v:Int} (h:inR v = true):wide_Int.sh F (mk v) = some ((bif decide (-9223372036854775808 ≤ v) && decide (v < 9223372036854775808) then v else 0,decide (-9223372036854775808 ≤ v) && decide (v < 9223372036854775808),()),()):=by
 have hv:=inR_iff.1 h
 unfold wide_Int.sh
 simp only [mk]
 obtain ⟨k,e1,e2,e3⟩:=wrap_ex (v % 18446744073709551616)
 rw [shr63 e2 e3]
 generalize IntKind.i64.wrap (v % 18446744073709551616) = r at *
 by_cases hr:-9223372036854775808 ≤ v∧v < 9223372036854775808
 ·have er:r = v:=by omega
  have e0:(v / 18446744073709551616 != if r < 0 then (-1:Int) else 0) = false:=by
   have:v / 18446744073709551616 = if r < 0 then (-1:Int) else 0:=by split <;> omega
   rw [this]; simp
  rw [e0,decide_eq_true hr.1,decide_eq_true hr.2,er]
  rfl
 ·have e0:(v / 18446744073709551616 != if r < 0 then (-1:Int) else 0) = true:=by
   rw [bne_iff_ne]; split <;> omega
  rw [e0]
  rcases Int.lt_or_le v (-9223372036854775808) with h' | h'
  ·rw [decide_eq_false (show ¬ -9223372036854775808 ≤ v by omega)]; rfl
  ·rw [decide_eq_true h',decide_eq_false (show ¬ v < 9223372036854775808 by omega)]; rfl
theorem tq_bd {a b:Int} (hb:b ≠ 0):-(a.natAbs:Int) ≤ tq a b∧tq a b ≤ a.natAbs:=by
 have:=aQR (a:=a) hb
 unfold tq
 cases dsg a b <;> simp only [cond_true,cond_false] <;> omega
def Dv (S u:Int) (D:List tDim.T) (q:List Int) (t:Tree):Prop:=ty t = 1→∃ c,ev u D q t = c * 10000 ^ (S - deep t).toNat
theorem deep_kid {ks:List Tree} {k:Tree} (hk:k ∈ ks):0 ≤ deep k∧deep k ≤ maxL (ks.map deep):=by
 have h0:∀ x ∈ ks.map deep,0 ≤ x:=by simp only [List.mem_map]; rintro x ⟨k,hk,rfl⟩; exact (deep_bd k).1
 exact ⟨(deep_bd k).1,(maxL_ge h0).2 _ (List.mem_map_of_mem hk)⟩
theorem deep_top (n:tNode.T) (ks:List Tree):maxL (ks.map deep) ≤ deep (.nd n ks):=by
 rw [deep_nd]
 cases nK n == 15 <;> simp only [cond_true,cond_false] <;> omega
theorem Dv.mul {S u:Int} {D:List tDim.T} {q:List Int} {t:Tree} (h:Dv S u D q t) (ht:ty t = 1) {e:Int} (h1:deep t ≤ e) (h2:e ≤ S):∃ c,ev u D q t = c * 10000 ^ (S - e).toNat:=by
 obtain ⟨c,hc⟩:=h ht
 have h0:=(deep_bd t).1
 refine ⟨c * 10000 ^ (e - deep t).toNat,?_⟩
 rw [hc,Int.mul_assoc,← Int.pow_add,show (e - deep t).toNat + (S - e).toNat = (S - deep t).toNat by omega]
theorem oneL_one {l:List Int} (h:oneL l = 1):∀ x ∈ l,x = 1:=by
 cases l with
 | nil=>simp
 | cons a r =>
  simp only [oneL] at h
  cases hr:r.all (fun x=>x == a) with
  | false=>rw [hr] at h; exact absurd (show (-1:Int) = 1 from h) (by decide)
  | true =>
   rw [hr] at h
   have h:a = 1:=h
   intro x hx
   rcases List.mem_cons.1 hx with rfl | hx
   ·exact h
   ·have:=List.all_eq_true.1 hr x hx
    rw [← h]; simpa using this
theorem prodT_one {a b:Int} (h:prodT a b = 1):a = 1 ∨ b = 1:=by
 unfold prodT at h
 cases h1:(a == 0) with
 | true=>rw [h1] at h; exact .inr h
 | false =>
  rw [h1] at h
  cases h2:(b == 0) with
  | true=>rw [h2] at h; exact .inl h
  | false =>
   rw [h2] at h
   cases h3:(cntB a && b == 1) with
   | true=>simp at h3; exact .inr h3.2
   | false =>
    rw [h3] at h
    cases h4:(cntB b && a == 1) with
    | true=>simp at h4; exact .inl h4.2
    | false=>rw [h4] at h; exact absurd (show (-1:Int) = 1 from h) (by decide)
theorem deep_subs (t:Tree):∀ s ∈ t.subs,deep s ≤ deep t:=by
 refine Tree.ind (P:=fun t=>∀ s ∈ t.subs,deep s ≤ deep t) (fun n ks ih=>?_) t
 intro s hs
 rw [subs_nd] at hs
 rcases List.mem_append.1 hs with hs | hs
 ·unfold subss at hs
  obtain ⟨l,hl,hsl⟩:=List.mem_flatten.1 hs
  obtain ⟨k,hk,rfl⟩:=List.mem_map.1 hl
  have h1:=ih k hk s hsl
  have h2:=(deep_kid hk).2
  have h3:=deep_top n ks
  omega
 ·rw [List.mem_singleton.1 hs]; exact Int.le_refl _
def lv:List Int→Int
 | []=>0
 | d :: r=>d + 65536 * lv r
def DG (l:List Int):Prop:=∀ d ∈ l,0 ≤ d∧d < 65536
theorem DG.cons {d:Int} {r:List Int} (h:DG (d :: r)):(0 ≤ d∧d < 65536)∧DG r:=⟨h d (by simp),fun x hx=>h x (by simp [hx])⟩
theorem DG.mk {d:Int} {r:List Int} (h:0 ≤ d∧d < 65536) (hr:DG r):DG (d :: r):=fun x hx=>by
 rcases List.mem_cons.1 hx with rfl | hx
 ·exact h
 ·exact hr x hx
theorem DG.nil:DG []:=fun x hx=>by simp at hx
def hor (d c b a:Int):Int:=a + 65536 * b + 4294967296 * c + 281474976710656 * d
def TG (t:Tree):Prop:=∀ s ∈ t.subs,goodK s.root = true∧kidsK s.root = true∧ar s.root = s.kids.length
theorem TG.kids {n:tNode.T} {ks:List Tree} (h:TG (.nd n ks)):∀ k ∈ ks,TG k:=fun k hk s hs=>h s (by
 rw [subs_nd]
 refine List.mem_append.2 (.inl ?_)
 unfold subss
 exact List.mem_flatten.2 ⟨k.subs,List.mem_map.2 ⟨k,hk,rfl⟩,hs⟩)
def NR (r:tBound_meter.T) (v:Int):Prop:=0 ≤ v∧wfW r.1∧((r.2 = true∧170141183460469231731687303715884105728 ≤ v) ∨ (r = (mk v,false)∧v < 170141183460469231731687303715884105728))
theorem NR.of {v:Int} (h:0 ≤ v):NR (resW v,errW v != 0) v:=by
 refine ⟨h,wf_resW v,?_⟩
 rcases inR_pos h with ⟨i,b⟩ | ⟨i,b⟩
 ·rw [(res_in i).1,(res_in i).2]; exact .inr ⟨rfl,b⟩
 ·exact .inl ⟨res_out i,b⟩
def wfL (l:tLine.T):Prop:=wfW l.1∧wfW l.2.1∧wfW l.2.2
def lA (l:tLine.T):Int:=val l.1
def lB (l:tLine.T):Int:=val l.2.1
def lC (l:tLine.T):Int:=val l.2.2
def fitB (s q:Int):Bool:=decide (s ≥ 1) && (decide (s ≤ 1000000000000) && (decide (q ≥ 0) && decide (q ≤ 1099511627776)))
theorem fit_eq (F:Nat) (s q:Int):line_fit.sh F s q = some ((fitB s q,()),()):=by
 unfold line_fit.sh fitB
 cases decide (s ≥ 1) <;> cases decide (s ≤ 1000000000000) <;> cases decide (q ≥ 0) <;> rfl
theorem fitB_iff {s q:Int}:fitB s q = true ↔ 1 ≤ s∧s ≤ 1000000000000∧0 ≤ q∧q ≤ 1099511627776:=by
 simp [fitB]
theorem blk_bd {q s:Int} (h:fitB s q = true):0 ≤ ceilD q s∧ceilD q s ≤ 1099511627777:=by
 obtain ⟨h1,h2,h3,h4⟩:=fitB_iff.1 h
 have a1:0 ≤ q / s:=Int.ediv_nonneg h3 (by omega)
 have a2:q / s ≤ q:=Int.ediv_le_self _ h3
 unfold ceilD
 split <;> omega
theorem lblocks_eq (F:Nat) {s q:Int} (h:fitB s q = true):line_blocks.sh F q s = some ((ceilD q s,()),()):=by
 obtain ⟨h1,h2,h3,h4⟩:=fitB_iff.1 h
 have a1:0 ≤ q / s:=Int.ediv_nonneg h3 (by omega)
 have a2:q / s ≤ q:=Int.ediv_le_self _ h3
 have a3:0 ≤ q % s:=Int.emod_nonneg _ (by omega)
 have a4:q % s < s:=Int.emod_lt_of_pos _ (by omega)
 unfold line_blocks.sh ceilD
 rw [show (s != 0) = true from bne_iff_ne.2 (by omega),Int.tdiv_eq_ediv_of_nonneg h3,Int.tmod_eq_emod_of_nonneg h3,wrap_i64 (n:=q / s) (by omega) (by omega)]
 simp only [cond_true]
 by_cases hz:q % s = 0
 ·rw [hz,if_pos rfl,if_neg (by omega),wrap_i64 (by omega) (by omega)]
 ·have:(if 1 < q % s then (1:Int) else q % s) = 1:=by split <;> omega
  rw [this,if_neg hz,wrap_i64 (by omega) (by omega)]
def valueR (a b c s q:Int):Int×Int :=
 bif !fitB s q then (0,1)
 else bif !inR (b * q) then (0,10)
 else bif !inR (c * ceilD q s) then (0,10)
 else bif !inR (a + b * q) then (0,10)
 else bif !inR (a + b * q + c * ceilD q s) then (0,10)
 else (a + b * q + c * ceilD q s,0)
theorem lvalue_eq (F:Nat) {l:tLine.T} (hl:wfL l) (s q:Int):line_Value.sh F l s q = some ((mk (valueR (lA l) (lB l) (lC l) s q).1,(valueR (lA l) (lB l) (lC l) s q).2,()),()):=by
 unfold line_Value.sh valueR
 rw [fit_eq,oB_some]
 cases hf:fitB s q with
 | false=>rfl
 | true =>
  obtain ⟨h1,h2,h3,h4⟩:=fitB_iff.1 hf
  obtain ⟨b1,b2⟩:=blk_bd hf
  have iq:inR q = true:=inR_i64 (by omega) (by omega)
  have ib:inR (ceilD q s) = true:=inR_i64 (by omega) (by omega)
  simp only [Bool.not_true,cond_false]
  rw [of_eq F (v:=q) (by omega) (by omega),oB_some,wmul_eq F hl.2.1 (wf_mk iq),oB_some,val_mk,show val l.2.1 = lB l from rfl]
  cases hB:inR (lB l * q) with
  | false =>
   have:errW (lB l * q) = 10:=by unfold errW; rw [hB]; rfl
   simp only [this]
   rfl
  | true =>
   have e1:errW (lB l * q) = 0:=by unfold errW; rw [hB]; rfl
   have e2:resW (lB l * q) = mk (lB l * q):=by unfold resW; rw [hB]; rfl
   simp only [e1,bne_self_eq_false,Bool.not_true,cond_false]
   rw [lblocks_eq F hf,oB_some,of_eq F (v:=ceilD q s) (by omega) (by omega),oB_some,wmul_eq F hl.2.2 (wf_mk ib),oB_some,val_mk,show val l.2.2 = lC l from rfl]
   cases hC:inR (lC l * ceilD q s) with
   | false =>
    have:errW (lC l * ceilD q s) = 10:=by unfold errW; rw [hC]; rfl
    simp only [this]
    rfl
   | true =>
    have e3:errW (lC l * ceilD q s) = 0:=by unfold errW; rw [hC]; rfl
    have e4:resW (lC l * ceilD q s) = mk (lC l * ceilD q s):=by unfold resW; rw [hC]; rfl
    simp only [e3,bne_self_eq_false,Bool.not_true,cond_false]
    rw [e2,e4,add_eq F hl.1 (wf_mk hB),oB_some,val_mk,show val l.1 = lA l from rfl]
    cases hA:inR (lA l + lB l * q) with
    | false =>
     have:errW (lA l + lB l * q) = 10:=by unfold errW; rw [hA]; rfl
     simp only [this]
     rfl
    | true =>
     have e5:errW (lA l + lB l * q) = 0:=by unfold errW; rw [hA]; rfl
     have e6:resW (lA l + lB l * q) = mk (lA l + lB l * q):=by unfold resW; rw [hA]; rfl
     simp only [e5,bne_self_eq_false,Bool.not_true,cond_false]
     rw [e6,add_eq F (wf_mk hA) (wf_mk hC),oB_some,val_mk,val_mk]
     unfold resW errW
     cases hD:inR (lA l + lB l * q + lC l * ceilD q s) <;> rfl
abbrev LZ:=Int×Int×Int
def wL (z:LZ):tLine.T:=(mk z.1,mk z.2.1,mk z.2.2)
def kM (s:Int):Int:=ceilD 1099511627776 s
def nA (v:Int):Int:=(v.natAbs:Int)
theorem nA_nn (v:Int):0 ≤ nA v:=by unfold nA; omega
theorem nA_mul (a b:Int):nA (a * b) = nA a * nA b:=by unfold nA; rw [Int.natAbs_mul]; push_cast; rfl
theorem nA_add (a b:Int):nA (a + b) ≤ nA a + nA b:=by unfold nA; omega
theorem nA_sub (a b:Int):nA (a - b) ≤ nA a + nA b:=by unfold nA; omega
theorem nA_of {a:Int} (h:0 ≤ a):nA a = a:=by unfold nA; omega
def spanZ (s:Int) (z:LZ):Int:=nA z.1 + nA z.2.1 * 1099511627776 + nA z.2.2 * kM s
def valZ (s:Int) (z:LZ) (q:Int):Int:=z.1 + z.2.1 * q + z.2.2 * ceilD q s
def LIM:Int:=85070591730234615865843651857942052864
theorem kM_bd {s:Int} (h:1 ≤ s):1 ≤ kM s∧kM s ≤ 1099511627777:=by
 refine ⟨?_,(ceilD_bd h).2⟩
 have hq:0 ≤ 1099511627776 / s:=Int.ediv_nonneg (by omega) (by omega)
 have e:=Int.mul_ediv_add_emod 1099511627776 s
 unfold kM ceilD
 by_cases h0:1099511627776 / s = 0
 ·rw [h0] at e
  rw [if_neg (by omega)]
  omega
 ·split <;> omega
theorem nA_le_mul {a k:Int} (h:1 ≤ k):nA a ≤ nA a * k:=by
 have:=Int.mul_le_mul_of_nonneg_left h (nA_nn a)
 omega
theorem span_nn {s:Int} (h:1 ≤ s) (z:LZ):0 ≤ spanZ s z:=by
 unfold spanZ
 have h1:=nA_nn z.1
 have h2:=nA_nn z.2.1
 have h3:=Int.mul_nonneg (nA_nn z.2.2) (show 0 ≤ kM s by have:=kM_bd h; omega)
 omega
theorem span_parts {s:Int} (h:1 ≤ s) (z:LZ):nA z.1 ≤ spanZ s z∧nA z.2.1 ≤ spanZ s z∧nA z.2.2 ≤ spanZ s z∧nA z.2.1 * 1099511627776 ≤ spanZ s z∧nA z.2.2 * kM s ≤ spanZ s z:=by
 unfold spanZ
 have h1:=nA_nn z.1
 have h2:=nA_nn z.2.1
 have h4:=nA_nn z.2.2
 have h3:=nA_le_mul (a:=z.2.2) (kM_bd h).1
 omega
theorem inR_nA {v:Int} (h:nA v ≤ LIM):inR v = true:=by
 unfold nA LIM at h
 rw [inR_iff]; omega
theorem nA_le {a b m:Int} (h1:nA a ≤ b) (h2:b ≤ m):nA a ≤ m:=Int.le_trans h1 h2
theorem wf_wL {s:Int} (h:1 ≤ s) {z:LZ} (hz:spanZ s z ≤ LIM):wfL (wL z):=by
 obtain ⟨h1,h2,h3,_,_⟩:=span_parts h z
 exact ⟨wf_mk (inR_nA (nA_le h1 hz)),wf_mk (inR_nA (nA_le h2 hz)),wf_mk (inR_nA (nA_le h3 hz))⟩
theorem val_parts {s q:Int} (h:fitB s q = true) (z:LZ):nA (z.2.1 * q) ≤ nA z.2.1 * 1099511627776∧nA (z.2.2 * ceilD q s) ≤ nA z.2.2 * kM s:=by
 obtain ⟨h1,h2,h3,h4⟩:=fitB_iff.1 h
 obtain ⟨b1,b2⟩:=ceilQ_bd h3 h4 h1
 rw [nA_mul,nA_mul,nA_of h3,nA_of b1]
 exact ⟨Int.mul_le_mul_of_nonneg_left h4 (nA_nn _),Int.mul_le_mul_of_nonneg_left b2 (nA_nn _)⟩
theorem val_span {s q:Int} (h:fitB s q = true) (z:LZ):nA (valZ s z q) ≤ spanZ s z:=by
 obtain ⟨p1,p2⟩:=val_parts h z
 unfold valZ spanZ
 have e1:=nA_add (z.1 + z.2.1 * q) (z.2.2 * ceilD q s)
 have e2:=nA_add z.1 (z.2.1 * q)
 omega
theorem Value_eq (F:Nat) {s q:Int} (h:fitB s q = true) {z:LZ} (hz:spanZ s z ≤ LIM):line_Value.sh F (wL z) s q = some ((mk (valZ s z q),0,()),()):=by
 have h1:=(fitB_iff.1 h).1
 rw [lvalue_eq F (wf_wL h1 hz) s q]
 obtain ⟨p1,p2⟩:=val_parts h z
 obtain ⟨s1,s2,s3,s4,s5⟩:=span_parts h1 z
 have e2:=nA_add z.1 (z.2.1 * q)
 have v0:=val_span h z
 have ev:lA (wL z) = z.1:=val_mk
 have eb:lB (wL z) = z.2.1:=val_mk
 have ec:lC (wL z) = z.2.2:=val_mk
 have hs:nA z.1 + nA z.2.1 * 1099511627776 ≤ spanZ s z:=by
  unfold spanZ
  have:=Int.mul_nonneg (nA_nn z.2.2) (show 0 ≤ kM s by have:=kM_bd h1; omega)
  omega
 have i1:inR (z.2.1 * q) = true:=inR_nA (by omega)
 have i2:inR (z.2.2 * ceilD q s) = true:=inR_nA (by omega)
 have i3:inR (z.1 + z.2.1 * q) = true:=inR_nA (by omega)
 have i4:inR (z.1 + z.2.1 * q + z.2.2 * ceilD q s) = true:=inR_nA (by unfold valZ at v0; omega)
 unfold valueR
 rw [ev,eb,ec,h,i1,i2,i3,i4]
 rfl
def addL (x y:LZ):LZ:=(x.1 + y.1,x.2.1 + y.2.1,x.2.2 + y.2.2)
def subL (x y:LZ):LZ:=(x.1 - y.1,x.2.1 - y.2.1,x.2.2 - y.2.2)
def scaleL (x:LZ) (k:Int):LZ:=(x.1 * k,x.2.1 * k,x.2.2 * k)
def constL (v:Int):LZ:=(v,0,0)
theorem val_add (s:Int) (x y:LZ) (q:Int):valZ s (addL x y) q = valZ s x q + valZ s y q:=by
 simp only [valZ,addL,Int.add_mul]; omega
theorem val_sub (s:Int) (x y:LZ) (q:Int):valZ s (subL x y) q = valZ s x q - valZ s y q:=by
 simp only [valZ,subL,Int.sub_mul]; omega
theorem val_scale (s:Int) (x:LZ) (k q:Int):valZ s (scaleL x k) q = valZ s x q * k:=by
 simp only [valZ,scaleL,Int.add_mul]
 rw [Int.mul_right_comm x.2.1,Int.mul_right_comm x.2.2]
theorem val_const (s v q:Int):valZ s (constL v) q = v:=by simp [valZ,constL]
theorem span_const {s:Int} (v:Int):spanZ s (constL v) = nA v:=by
 have:nA 0 = 0:=rfl
 simp [spanZ,constL,this]
theorem span_add {s:Int} (h:1 ≤ s) (x y:LZ):spanZ s (addL x y) ≤ spanZ s x + spanZ s y:=by
 have h3:=Int.mul_le_mul_of_nonneg_right (nA_add x.2.2 y.2.2) (show 0 ≤ kM s by have:=kM_bd h; omega)
 have h1:=nA_add x.1 y.1
 have h2:=nA_add x.2.1 y.2.1
 rw [Int.add_mul] at h3
 simp only [spanZ,addL]
 omega
theorem span_sub {s:Int} (h:1 ≤ s) (x y:LZ):spanZ s (subL x y) ≤ spanZ s x + spanZ s y:=by
 have h3:=Int.mul_le_mul_of_nonneg_right (nA_sub x.2.2 y.2.2) (show 0 ≤ kM s by have:=kM_bd h; omega)
 have h1:=nA_sub x.1 y.1
 have h2:=nA_sub x.2.1 y.2.1
 rw [Int.add_mul] at h3
 simp only [spanZ,subL]
 omega
theorem span_scale (s:Int) (x:LZ) (k:Int):spanZ s (scaleL x k) = spanZ s x * nA k:=by
 simp only [spanZ,scaleL,nA_mul,Int.add_mul]
 rw [Int.mul_right_comm (nA x.2.1),Int.mul_right_comm (nA x.2.2)]
theorem zero_mk:mk 0 = (0,0):=rfl
theorem nconst_eq (F:Nat) (v:Int):normal_constant.sh F (mk v) = some ((wL (constL v),()),()):=by
 unfold normal_constant.sh wL constL
 simp only [zero_mk]
theorem ladd_eq (F:Nat) {s:Int} (h:1 ≤ s) {x y:LZ} (hx:spanZ s x ≤ LIM) (hy:spanZ s y ≤ LIM) (hxy:spanZ s (addL x y) ≤ LIM):normal_add.sh F (wL x) (wL y) = some ((wL (addL x y),()),()):=by
 obtain ⟨a1,a2,a3⟩:=wf_wL h hx
 obtain ⟨b1,b2,b3⟩:=wf_wL h hy
 obtain ⟨c1,c2,c3,_,_⟩:=span_parts h (addL x y)
 have i1:inR (x.1 + y.1) = true:=inR_nA (nA_le c1 hxy)
 have i2:inR (x.2.1 + y.2.1) = true:=inR_nA (nA_le c2 hxy)
 have i3:inR (x.2.2 + y.2.2) = true:=inR_nA (nA_le c3 hxy)
 unfold normal_add.sh line_Add.sh
 rw [add_eq F a1 b1,oB_some,add_eq F a2 b2,oB_some,add_eq F a3 b3,oB_some]
 simp only [wL,val_mk]
 unfold resW errW
 rw [i1,i2,i3]
 rfl
theorem lsub_eq (F:Nat) {s:Int} (h:1 ≤ s) {x y:LZ} (hx:spanZ s x ≤ LIM) (hy:spanZ s y ≤ LIM) (hxy:spanZ s (subL x y) ≤ LIM):normal_sub.sh F (wL x) (wL y) = some ((wL (subL x y),()),()):=by
 obtain ⟨a1,a2,a3⟩:=wf_wL h hx
 obtain ⟨b1,b2,b3⟩:=wf_wL h hy
 obtain ⟨c1,c2,c3,_,_⟩:=span_parts h (subL x y)
 have i1:inR (x.1 - y.1) = true:=inR_nA (nA_le c1 hxy)
 have i2:inR (x.2.1 - y.2.1) = true:=inR_nA (nA_le c2 hxy)
 have i3:inR (x.2.2 - y.2.2) = true:=inR_nA (nA_le c3 hxy)
 unfold normal_sub.sh line_Sub.sh
 rw [sub_eq F a1 b1,oB_some,sub_eq F a2 b2,oB_some,sub_eq F a3 b3,oB_some]
 simp only [wL,val_mk]
 unfold resW errW
 rw [i1,i2,i3]
 rfl
theorem lby_eq (F:Nat) {s:Int} (h:1 ≤ s) {x:LZ} {k:Int} (hx:spanZ s x ≤ LIM) (hk:inR k = true) (hxy:spanZ s (scaleL x k) ≤ LIM):normal_by.sh F (wL x) (mk k) = some ((wL (scaleL x k),()),()):=by
 obtain ⟨a1,a2,a3⟩:=wf_wL h hx
 obtain ⟨c1,c2,c3,_,_⟩:=span_parts h (scaleL x k)
 have i1:inR (x.1 * k) = true:=inR_nA (nA_le c1 hxy)
 have i2:inR (x.2.1 * k) = true:=inR_nA (nA_le c2 hxy)
 have i3:inR (x.2.2 * k) = true:=inR_nA (nA_le c3 hxy)
 unfold normal_by.sh line_Scale.sh
 rw [wmul_eq F a1 (wf_mk hk),oB_some,wmul_eq F a2 (wf_mk hk),oB_some,wmul_eq F a3 (wf_mk hk),oB_some]
 simp only [wL,val_mk]
 unfold resW errW
 rw [i1,i2,i3]
 rfl
theorem wL_inj {s:Int} (h:1 ≤ s) {x y:LZ} (e:wL x = wL y):x = y:=by
 have h1:=congrArg (fun l:tLine.T=>val l.1) e
 have h2:=congrArg (fun l:tLine.T=>val l.2.1) e
 have h3:=congrArg (fun l:tLine.T=>val l.2.2) e
 simp only [wL,val_mk] at h1 h2 h3
 obtain ⟨x1,x2,x3⟩:=x
 obtain ⟨y1,y2,y3⟩:=y
 simp only at h1 h2 h3
 subst h1 h2 h3
 rfl
theorem mk_neg {v:Int}:decide ((mk v).1 < 0) = decide (v < 0):=by
 apply decide_eq_decide.2
 simp only [mk]; omega
theorem sign_pos (F:Nat) {v:Int}:∃ k,wide_Sign.sh F (mk v) = some ((k,()),())∧decide (k > 0) = decide (v > 0)∧decide (k ≥ 0) = decide (v ≥ 0)∧decide (k ≤ 0) = decide (v ≤ 0):=by
 unfold wide_Sign.sh
 rw [mk_neg,mk_zero]
 by_cases h:v < 0
 ·rw [decide_eq_true h]
  exact ⟨-1,rfl,by simp; omega,by simp; omega,by simp; omega⟩
 ·rw [decide_eq_false h]
  by_cases h0:v = 0
  ·rw [decide_eq_true h0]
   exact ⟨0,rfl,by simp; omega,by simp; omega,by simp; omega⟩
  ·rw [decide_eq_false h0]
   exact ⟨1,rfl,by simp; omega,by simp; omega,by simp; omega⟩
def abvZ (s:Int) (z:LZ) (q:Int):Bool:=decide (valZ s z q > 0)
theorem nabove_eq (F:Nat) {m:tNormal_maker.T} {q:Int} (h:fitB m.2.2 q = true) {z:LZ} (hz:spanZ m.2.2 z ≤ LIM):normal_maker_above.sh F m (wL z) q = some ((abvZ m.2.2 z q,()),()):=by
 unfold normal_maker_above.sh abvZ
 rw [Value_eq F h hz,oB_some]
 obtain ⟨k,e,e1,_⟩:=sign_pos F (v:=valZ m.2.2 z q)
 rw [e,oB_some,e1]
theorem floor_div {a b:Int} (ha:0 ≤ a) (hb:0 < b):divM 0 a b * b ≤ a∧a < (divM 0 a b + 1) * b∧0 ≤ divM 0 a b∧divM 0 a b ≤ a:=by
 obtain ⟨q0,q1,q2,q3,q4⟩:=aQR (a:=a) (b:=b) (by omega)
 have e:divM 0 a b = aQ a b:=by
  unfold divM tq tr awB dsg
  rw [decide_eq_false (show ¬ a < 0 by omega),decide_eq_false (show ¬ b < 0 by omega)]
  simp only [beq_self_eq_true,Bool.not_true,cond_false,cond_true]
  rw [decide_eq_false (show ¬ aR a b < 0 by omega)]
  simp
 rw [e]
 have n1:(b.natAbs:Int) = b:=by omega
 have n2:(a.natAbs:Int) = a:=by omega
 rw [n1] at q2 q3
 rw [n2] at q3 q4
 rw [Int.add_mul,Int.mul_comm (aQ a b) b]
 omega
theorem ceil_div {a b:Int} (ha:a < 0) (hb:b < 0):divM 1 a b * b ≤ a∧a < (divM 1 a b - 1) * b∧1 ≤ divM 1 a b∧divM 1 a b ≤ -a:=by
 obtain ⟨q0,q1,q2,q3,q4⟩:=aQR (a:=a) (b:=b) (by omega)
 have n1:(b.natAbs:Int) = -b:=by omega
 have n2:(a.natAbs:Int) = -a:=by omega
 have e:divM 1 a b = if aR a b = 0 then aQ a b else aQ a b + 1:=by
  unfold divM tq tr awB dsg
  rw [decide_eq_true ha,decide_eq_true hb]
  simp only [beq_self_eq_true,Bool.not_true,cond_false,cond_true]
  by_cases hr:aR a b = 0
  ·rw [hr]; rfl
  ·rw [decide_eq_false (show ¬ -aR a b = 0 by omega),decide_eq_true (show -aR a b < 0 by omega),if_neg hr]
   rfl
 rw [n1] at q2 q3
 rw [n2] at q3 q4
 rw [Int.neg_mul,Int.mul_comm] at q3
 rw [e]
 have hb1:aQ a b ≤ aQ a b * (-b):=by
  have:=Int.mul_le_mul_of_nonneg_left (show 1 ≤ -b by omega) q0
  omega
 rw [Int.mul_neg] at hb1
 split
 ·rename_i hr
  rw [Int.sub_mul]
  by_cases h0:aQ a b = 0
  ·rw [h0] at q3; omega
  ·omega
 ·rename_i hr
  rw [show aQ a b + 1 - 1 = aQ a b by omega,Int.add_mul]
  omega
def tnB (was:Bool) (v:Int):Bool:=!(decide (v > 0) == was)
theorem tq_bd2 {a b:Int} (hb:b ≠ 0) (ha:nA a ≤ LIM):inR (tq a b) = true:=by
 have:=tq_bd (a:=a) (b:=b) hb
 unfold nA LIM at ha
 rw [inR_iff]; omega
theorem step_tail (F:Nat) {n most:Int} (hn:inR n = true):∃ k:Int,(oB (wide_Int.sh F (mk n)) fun c_7=>bif c_7.1.2.1 then (some ((c_7.1.1,decide (c_7.1.1 ≤ most),()),()):Option line_walk_steps.sg.R) else some ((c_7.1.1,false,()),())) =
  some ((k,decide (-9223372036854775808 ≤ n) && decide (n < 9223372036854775808) && decide (n ≤ most),()),())∧((decide (-9223372036854775808 ≤ n) && decide (n < 9223372036854775808)) = true→k = n):=by
 rw [int_eq F hn,oB_some]
 cases h:(decide (-9223372036854775808 ≤ n) && decide (n < 9223372036854775808)) with
 | false=>exact ⟨0,rfl,fun h=>by cases h⟩
 | true=>exact ⟨n,rfl,fun _=>rfl⟩
theorem steps_eq (F:Nat) (hF:70 < F) (l:tLine.T) (s:Int) (was:Bool) {v d most:Int} (hv:nA v ≤ LIM) (hd:nA d ≤ LIM) (hm:0 ≤ most) (hm2:most < 9223372036854775808) :
  ∃ (n:Int) (ok:Bool),line_walk_steps.sh F (l,s,was) (mk v) (mk d) most = some ((n,ok,()),())∧(ok = true→0 ≤ n∧n ≤ most∧tnB was (v + n * d) = true∧∀ j,0 ≤ j→j < n→tnB was (v + j * d) = false) ∧
  (ok = false→∀ j,0 ≤ j→j ≤ most→tnB was (v + j * d) = false):=by
 have iv:=inR_nA hv
 have id:=inR_nA hd
 have hL:LIM = 85070591730234615865843651857942052864:=rfl
 unfold line_walk_steps.sh
 obtain ⟨k,e,e1,e2,e3⟩:=sign_pos F (v:=v)
 obtain ⟨k',e',e1',e2',e3'⟩:=sign_pos F (v:=d)
 rw [e,oB_some,e1]
 cases ht:(!(decide (v > 0) == was)) with
 | true=>exact ⟨0,true,rfl,fun _=>⟨by omega,hm,by unfold tnB; rw [Int.zero_mul,Int.add_zero]; exact ht,fun j h1 h2=>by omega⟩,fun h=>by cases h⟩
 | false =>
  have hs:decide (v > 0) = was:=by simpa using ht
  simp only [cond_false]
  rw [e',oB_some,oB_some,e2',e3']
  have ineg:inR (-v) = true:=by unfold nA at hv; rw [inR_iff]; omega
  have rneg:resW (-v) = mk (-v):=by unfold resW; rw [ineg]; rfl
  have nneg:nA (-v) ≤ LIM:=by unfold nA at *; omega
  cases was with
  | true =>
   have hv0:v > 0:=of_decide_eq_true hs
   simp only [cond_true,Bool.not_true,cond_false]
   by_cases hd0:d ≥ 0
   ·rw [decide_eq_true hd0]
    refine ⟨0,false,rfl,(fun h=>by cases h),fun _ j h1 h2=>?_⟩
    unfold tnB
    have:=Int.mul_nonneg h1 hd0
    rw [decide_eq_true (show v + j * d > 0 by omega)]
    rfl
   ·rw [decide_eq_false hd0]
    simp only [cond_false,line_walk_steps.j5,cond_true,line_walk_steps.j10]
    rw [neg_eq F (wf_mk iv),oB_some,val_mk,rneg,div_eq F hF ineg id (by omega) (tq_bd2 (by omega) nneg) (by omega) (by omega),oB_some,div_eq F hF ineg id (by omega) (tq_bd2 (by omega) nneg) (by omega) (by omega),oB_some]
    obtain ⟨c1,c2,c3,c4⟩:=ceil_div (a:=-v) (b:=d) (by omega) (by omega)
    generalize divM 1 (-v) d = n at *
    have hn:inR n = true:=by unfold nA at hv; rw [inR_iff]; omega
    obtain ⟨k,ek,hk⟩:=step_tail F (n:=n) (most:=most) hn
    have hlow:∀ j,0 ≤ j→j < n→tnB true (v + j * d) = false:=fun j h1 h2=>by
     have:=Int.mul_le_mul_of_nonpos_right (show j ≤ n - 1 by omega) (show d ≤ 0 by omega)
     unfold tnB
     rw [decide_eq_true (show v + j * d > 0 by omega)]
     rfl
    refine ⟨k,_,ek,fun h=>?_,fun h j h1 h2=>?_⟩
    ·rw [Bool.and_eq_true] at h
     have:=hk h.1
     subst this
     refine ⟨by omega,of_decide_eq_true h.2,?_,hlow⟩
     unfold tnB
     rw [decide_eq_false (show ¬ v + k * d > 0 by omega)]
     rfl
    ·refine hlow j h1 ?_
     rw [decide_eq_true (show -9223372036854775808 ≤ n by omega),Bool.true_and] at h
     by_cases hm3:n ≤ most
     ·rw [decide_eq_true hm3,decide_eq_true (show n < 9223372036854775808 by omega)] at h; cases h
     ·omega
  | false =>
   have hv0:¬ v > 0:=of_decide_eq_false hs
   simp only [cond_true,Bool.not_false,cond_false]
   by_cases hd0:d ≤ 0
   ·rw [decide_eq_true hd0]
    refine ⟨0,false,rfl,(fun h=>by cases h),fun _ j h1 h2=>?_⟩
    unfold tnB
    have:=Int.mul_le_mul_of_nonneg_left hd0 h1
    rw [Int.mul_zero] at this
    rw [decide_eq_false (show ¬ v + j * d > 0 by omega)]
    rfl
   ·rw [decide_eq_false hd0]
    simp only [cond_false,line_walk_steps.j5,cond_true,line_walk_steps.j10]
    rw [neg_eq F (wf_mk iv),oB_some,val_mk,rneg,div_eq F hF ineg id (by omega) (tq_bd2 (by omega) nneg) (by omega) (by omega),oB_some]
    obtain ⟨c1,c2,c3,c4⟩:=floor_div (a:=-v) (b:=d) (by omega) (by omega)
    generalize divM 0 (-v) d = n at *
    have hn:inR n = true:=by unfold nA at hv; rw [inR_iff]; omega
    have hn1:inR (n + 1) = true:=by unfold nA at hv; rw [inR_iff]; omega
    rw [of_eq F (v:=1) (by omega) (by omega),oB_some,add_eq F (wf_mk hn) (wf_mk (by decide)),oB_some,val_mk,val_mk,show resW (n + 1) = mk (n + 1) by unfold resW; rw [hn1]; rfl]
    obtain ⟨k,ek,hk⟩:=step_tail F (n:=n + 1) (most:=most) hn1
    have hlow:∀ j,0 ≤ j→j < n + 1→tnB false (v + j * d) = false:=fun j h1 h2=>by
     have:=Int.mul_le_mul_of_nonneg_right (show j ≤ n by omega) (show 0 ≤ d by omega)
     unfold tnB
     rw [decide_eq_false (show ¬ v + j * d > 0 by omega)]
     rfl
    refine ⟨k,_,ek,fun h=>?_,fun h j h1 h2=>?_⟩
    ·rw [Bool.and_eq_true] at h
     have:=hk h.1
     subst this
     refine ⟨by omega,of_decide_eq_true h.2,?_,hlow⟩
     unfold tnB
     rw [decide_eq_true (show v + (n + 1) * d > 0 by omega)]
     rfl
    ·refine hlow j h1 ?_
     rw [decide_eq_true (show -9223372036854775808 ≤ n + 1 by omega),Bool.true_and] at h
     by_cases hm3:n + 1 ≤ most
     ·rw [decide_eq_true hm3,decide_eq_true (show n + 1 < 9223372036854775808 by omega)] at h; cases h
     ·omega
theorem ceil_of {q s k:Int} (hs:1 ≤ s) (h1:(k - 1) * s < q) (h2:q ≤ k * s):ceilD q s = k:=by
 have e:=Int.mul_ediv_add_emod q s
 have r1:=Int.emod_nonneg q (show s ≠ 0 by omega)
 have r2:=Int.emod_lt_of_pos q (show 0 < s by omega)
 rw [Int.mul_comm] at e
 unfold ceilD
 generalize q / s = d at *
 have hd1:d ≤ k:=by
  rcases Int.lt_or_le k d with h | h
  ·have:=Int.mul_le_mul_of_nonneg_right (show k + 1 ≤ d by omega) (show 0 ≤ s by omega)
   rw [Int.add_mul] at this; omega
  ·exact h
 have hd2:k - 1 ≤ d:=by
  rcases Int.lt_or_le d (k - 1) with h | h
  ·have:=Int.mul_le_mul_of_nonneg_right (show d + 1 ≤ k - 1 by omega) (show 0 ≤ s by omega)
   rw [Int.add_mul] at this; omega
  ·exact h
 split
 ·rename_i h0
  rw [h0] at e
  rcases Int.lt_or_le d k with h | h
  ·have:d = k - 1:=by omega
   subst this
   omega
  ·omega
 ·rename_i h0
  rcases Int.lt_or_le d k with h | h
  ·omega
  ·have:d = k:=by omega
   subst this
   omega
theorem ceil_in {q s:Int} (hs:1 ≤ s):(ceilD q s - 1) * s < q∧q ≤ ceilD q s * s:=by
 have e:=Int.mul_ediv_add_emod q s
 have r1:=Int.emod_nonneg q (show s ≠ 0 by omega)
 have r2:=Int.emod_lt_of_pos q (show 0 < s by omega)
 rw [Int.mul_comm] at e
 unfold ceilD
 generalize q / s = d at *
 split
 ·rw [Int.add_zero,Int.sub_mul]; omega
 ·rw [show d + 1 - 1 = d by omega,Int.add_mul]; omega
def turnB (was:Bool) (s:Int) (z:LZ) (q:Int):Bool:=tnB was (valZ s z q)
theorem val_step {s:Int} {z:LZ} {x y k:Int} (hx:ceilD x s = k) (hy:ceilD y s = k):valZ s z y = valZ s z x + (y - x) * z.2.1:=by
 unfold valZ
 rw [hx,hy]
 grind
theorem turn_mid {was:Bool} {s:Int} {z:LZ} {lo hi x k:Int} (h1:lo ≤ x) (h2:x ≤ hi) (hlo:ceilD lo s = k) (hx:ceilD x s = k) (hhi:ceilD hi s = k) (t1:turnB was s z lo = false) (t2:turnB was s z hi = false):turnB was s z x = false:=by
 have e1:=val_step (z:=z) hlo hx
 have e2:=val_step (z:=z) hx hhi
 have p1:z.2.1 ≥ 0→0 ≤ (x - lo) * z.2.1∧0 ≤ (hi - x) * z.2.1:=fun h=>⟨Int.mul_nonneg (by omega) h,Int.mul_nonneg (by omega) h⟩
 have p2:z.2.1 ≤ 0→(x - lo) * z.2.1 ≤ 0∧(hi - x) * z.2.1 ≤ 0:=fun h=>⟨Int.mul_nonpos_of_nonneg_of_nonpos (by omega) h,Int.mul_nonpos_of_nonneg_of_nonpos (by omega) h⟩
 unfold turnB tnB at *
 generalize valZ s z x = vx at *
 generalize valZ s z lo = vl at *
 generalize valZ s z hi = vh at *
 generalize (x - lo) * z.2.1 = d1 at *
 generalize (hi - x) * z.2.1 = d2 at *
 generalize z.2.1 = b at *
 cases was with
 | true =>
  have t1:vl > 0:=by simpa using t1
  have t2:vh > 0:=by simpa using t2
  rw [decide_eq_true (show vx > 0 by rcases Int.le_total 0 b with h | h <;> first | (have:=p1 h; omega) | (have:=p2 h; omega))]
  rfl
 | false =>
  have t1:¬ vl > 0:=by simpa using t1
  have t2:¬ vh > 0:=by simpa using t2
  rw [decide_eq_false (show ¬ vx > 0 by rcases Int.le_total 0 b with h | h <;> first | (have:=p1 h; omega) | (have:=p2 h; omega))]
  rfl
theorem walk_at (F:Nat) {s q:Int} (h:fitB s q = true) {z:LZ} (hz:spanZ s z ≤ LIM) (was:Bool):line_walk_at.sh F (wL z,s,was) q = some ((mk (valZ s z q),()),()):=by
 unfold line_walk_at.sh
 rw [Value_eq F h hz,oB_some]
theorem within_eq (F:Nat) (hF:70 < F) {s:Int} {z:LZ} (hz:spanZ s z ≤ LIM) (hs:1 ≤ s) (hs2:s ≤ 1000000000000) (was:Bool) {lo hi k:Int} (h0:0 ≤ lo) (h1:hi ≤ 1099511627776) (hk:∀ x,lo ≤ x→x ≤ hi→ceilD x s = k) :
  ∃ (f:Int) (ok:Bool),line_walk_within.sh F (wL z,s,was) lo hi = some ((f,ok,()),())∧(ok = true→lo ≤ f∧f ≤ hi∧turnB was s z f = true∧∀ x,lo ≤ x→x < f→turnB was s z x = false) ∧
  (ok = false→∀ x,lo ≤ x→x ≤ hi→turnB was s z x = false):=by
 unfold line_walk_within.sh
 by_cases hlt:lo > hi
 ·rw [decide_eq_true hlt]
  exact ⟨0,false,rfl,(fun h=>by cases h),fun _ x a b=>by omega⟩
 ·rw [decide_eq_false hlt]
  simp only [cond_false]
  have hf:fitB s lo = true:=fitB_iff.2 ⟨hs,hs2,h0,by omega⟩
  obtain ⟨_,sb,_⟩:=span_parts hs z
  rw [walk_at F hf hz,oB_some,wrap_i64 (n:=hi - lo) (by omega) (by omega)]
  obtain ⟨n,ok,e,a1,a2⟩:=steps_eq F hF (wL z) s was (v:=valZ s z lo) (d:=z.2.1) (most:=hi - lo) (nA_le (val_span hf z) hz) (nA_le sb hz) (by omega) (by omega)
  have e':line_walk_steps.sh F (wL z,s,was) (mk (valZ s z lo)) (wL z).2.1 (hi - lo) = some ((n,ok,()),()):=e
  show ∃ (f:Int) (ok:Bool),(oB (line_walk_steps.sh F (wL z,s,was) (mk (valZ s z lo)) (wL z).2.1 (hi - lo)) fun c_2=>_) = _∧_
  rw [e',oB_some]
  have hv:∀ j,0 ≤ j→j ≤ hi - lo→valZ s z lo + j * z.2.1 = valZ s z (lo + j):=fun j b1 b2=>by
   rw [val_step (z:=z) (hk lo (by omega) (by omega)) (hk (lo + j) (by omega) (by omega)),show lo + j - lo = j by omega]
  refine ⟨_,ok,rfl,fun h=>?_,fun h x b1 b2=>?_⟩
  ·obtain ⟨b1,b2,b3,b4⟩:=a1 h
   rw [wrap_i64 (n:=lo + n) (by omega) (by omega)]
   refine ⟨by omega,by omega,?_,fun x d1 d2=>?_⟩
   ·unfold turnB; rw [← hv n b1 b2]; exact b3
   ·have:=b4 (x - lo) (by omega) (by omega)
    rw [hv (x - lo) (by omega) (by omega),show lo + (x - lo) = x by omega] at this
    exact this
  ·have:=a2 h (x - lo) (by omega) (by omega)
   rw [hv (x - lo) (by omega) (by omega),show lo + (x - lo) = x by omega] at this
   exact this
def bLo (s k:Int):Int:=(k - 1) * s + 1
def bHi (s k:Int):Int:=k * s
theorem lo_step (s:Int) (hs:1 ≤ s) (z:LZ) {k i:Int}:valZ s z (bLo s i) = valZ s z (bLo s k) + (i - k) * (z.2.1 * s + z.2.2):=by
 have h:∀ j,ceilD (bLo s j) s = j:=fun j=>ceil_of hs (by unfold bLo; omega) (by unfold bLo; rw [Int.sub_mul]; omega)
 unfold valZ
 rw [h,h]
 unfold bLo
 grind
theorem hi_step (s:Int) (hs:1 ≤ s) (z:LZ) {k i:Int}:valZ s z (bHi s i) = valZ s z (bHi s k) + (i - k) * (z.2.1 * s + z.2.2):=by
 have h:∀ j,ceilD (bHi s j) s = j:=fun j=>ceil_of hs (by unfold bHi; rw [Int.sub_mul]; omega) (by unfold bHi; omega)
 unfold valZ
 rw [h,h]
 unfold bHi
 grind
theorem drift_bd {s:Int} (hs:1 ≤ s) (hs2:s ≤ 1000000000000) (z:LZ):nA (z.2.1 * s) ≤ spanZ s z∧nA (z.2.1 * s + z.2.2) ≤ spanZ s z:=by
 have h1:=nA_add (z.2.1 * s) z.2.2
 have h2:nA (z.2.1 * s) ≤ nA z.2.1 * 1099511627776:=by
  rw [nA_mul,nA_of (show 0 ≤ s by omega)]
  exact Int.mul_le_mul_of_nonneg_left (by omega) (nA_nn _)
 have h3:=nA_le_mul (a:=z.2.2) (kM_bd hs).1
 have h4:=nA_nn z.1
 have h5:=Int.mul_nonneg (nA_nn z.2.2) (show 0 ≤ kM s by have:=kM_bd hs; omega)
 unfold spanZ
 omega
theorem block_eq (F:Nat) (l:tLine.T) {s k:Int} (was:Bool) (hs:1 ≤ s) (hs2:s ≤ 1000000000000) (hk:1 ≤ k) (hk2:(k - 1) * s ≤ 1099511627776):line_walk_block.sh F (l,s,was) k = some ((bLo s k,(if 1099511627776 < bHi s k then 1099511627776 else bHi s k),()),()):=by
 unfold line_walk_block.sh bLo bHi
 have h0:=Int.mul_nonneg (show 0 ≤ k - 1 by omega) (show 0 ≤ s by omega)
 have hks:k - 1 ≤ (k - 1) * s:=by
  have:=Int.mul_le_mul_of_nonneg_left hs (show 0 ≤ k - 1 by omega)
  omega
 have e:k * s = (k - 1) * s + s:=by rw [Int.sub_mul]; omega
 rw [wrap_i64 (n:=k - 1) (by omega) (by omega),wrap_i64 (n:=(k - 1) * s) (by omega) (by omega),wrap_i64 (n:=(k - 1) * s + 1) (by omega) (by omega),wrap_i64 (n:=k * s) (by omega) (by omega)]
theorem lo_fit {s k:Int} (hs:1 ≤ s) (hs2:s ≤ 1000000000000) (hk:1 ≤ k) (hk2:k * s ≤ 1099511627776):fitB s (bLo s k) = true∧fitB s (bHi s k) = true:=by
 have h0:=Int.mul_nonneg (show 0 ≤ k - 1 by omega) (show 0 ≤ s by omega)
 have e:k * s = (k - 1) * s + s:=by rw [Int.sub_mul]; omega
 exact ⟨fitB_iff.2 ⟨hs,hs2,by unfold bLo; omega,by unfold bLo; omega⟩,fitB_iff.2 ⟨hs,hs2,by unfold bHi; omega,by unfold bHi; omega⟩⟩
theorem ahead_eq (F:Nat) (hF:70 < F) {s:Int} {z:LZ} (hz:spanZ s z ≤ LIM) (hs:1 ≤ s) (hs2:s ≤ 1000000000000) (was:Bool) {k most:Int} (hk:1 ≤ k) (hmost:most * s ≤ 1099511627776) :
  ∃ (j:Int) (ok:Bool),line_walk_ahead.sh F (wL z,s,was) k most = some ((j,ok,()),()) ∧
  (ok = true→k ≤ j∧j ≤ most∧(turnB was s z (bLo s j) = true ∨ turnB was s z (bHi s j) = true)∧∀ i,k ≤ i→i < j→turnB was s z (bLo s i) = false∧turnB was s z (bHi s i) = false) ∧
  (ok = false→∀ i,k ≤ i→i ≤ most→turnB was s z (bLo s i) = false∧turnB was s z (bHi s i) = false):=by
 unfold line_walk_ahead.sh
 by_cases hlt:k > most
 ·rw [decide_eq_true hlt]
  exact ⟨0,false,rfl,(fun h=>by cases h),fun _ x a b=>by omega⟩
 ·rw [decide_eq_false hlt]
  simp only [cond_false]
  have hks:k * s ≤ 1099511627776:=by
   have:=Int.mul_le_mul_of_nonneg_right (show k ≤ most by omega) (show 0 ≤ s by omega)
   omega
  have hms:most ≤ most * s:=by
   have:=Int.mul_le_mul_of_nonneg_left hs (show 0 ≤ most by omega)
   omega
  have e:k * s = (k - 1) * s + s:=by rw [Int.sub_mul]; omega
  obtain ⟨f1,f2⟩:=lo_fit hs hs2 hk hks
  obtain ⟨_,sb,sc,_⟩:=span_parts hs z
  obtain ⟨d1,d2⟩:=drift_bd hs hs2 z
  have i1:inR (z.2.1 * s) = true:=inR_nA (nA_le d1 hz)
  have i2:inR (z.2.1 * s + z.2.2) = true:=inR_nA (nA_le d2 hz)
  have is:inR s = true:=inR_i64 (by omega) (by omega)
  rw [of_eq F (v:=s) (by omega) (by omega),oB_some,show (wL z).2.1 = mk z.2.1 from rfl,show (wL z).2.2 = mk z.2.2 from rfl,wmul_eq F (wf_mk (inR_nA (nA_le sb hz))) (wf_mk is),oB_some,val_mk,val_mk,
   show resW (z.2.1 * s) = mk (z.2.1 * s) by unfold resW; rw [i1]; rfl,add_eq F (wf_mk i1) (wf_mk (inR_nA (nA_le sc hz))),oB_some,val_mk,val_mk,show resW (z.2.1 * s + z.2.2) = mk (z.2.1 * s + z.2.2) by unfold resW; rw [i2]; rfl,
   block_eq F (wL z) was hs hs2 hk (by omega),oB_some]
  have hh:¬ 1099511627776 < bHi s k:=by unfold bHi; omega
  rw [if_neg hh,walk_at F f1 hz,oB_some,wrap_i64 (n:=most - k) (by omega) (by omega)]
  obtain ⟨a,isA,ea,a1,a2⟩:=steps_eq F hF (wL z) s was (v:=valZ s z (bLo s k)) (d:=z.2.1 * s + z.2.2) (most:=most - k) (nA_le (val_span f1 z) hz) (nA_le d2 hz) (by omega) (by omega)
  obtain ⟨b,isB,eb,b1,b2⟩:=steps_eq F hF (wL z) s was (v:=valZ s z (bHi s k)) (d:=z.2.1 * s + z.2.2) (most:=most - k) (nA_le (val_span f2 z) hz) (nA_le d2 hz) (by omega) (by omega)
  rw [ea,oB_some,walk_at F f2 hz,oB_some,eb,oB_some]
  have va:∀ j,valZ s z (bLo s k) + j * (z.2.1 * s + z.2.2) = valZ s z (bLo s (k + j)):=fun j=>by
   rw [lo_step s hs z (k:=k) (i:=k + j),show k + j - k = j by omega]
  have vb:∀ j,valZ s z (bHi s k) + j * (z.2.1 * s + z.2.2) = valZ s z (bHi s (k + j)):=fun j=>by
   rw [hi_step s hs z (k:=k) (i:=k + j),show k + j - k = j by omega]
  have A1:isA = true→0 ≤ a∧a ≤ most - k∧turnB was s z (bLo s (k + a)) = true∧∀ i,k ≤ i→i < k + a→turnB was s z (bLo s i) = false:=fun h=>by
   obtain ⟨c1,c2,c3,c4⟩:=a1 h
   refine ⟨c1,c2,?_,fun i g1 g2=>?_⟩
   ·unfold turnB; rw [← va]; exact c3
   ·have:=c4 (i - k) (by omega) (by omega)
    rw [va,show k + (i - k) = i by omega] at this
    exact this
  have B1:isB = true→0 ≤ b∧b ≤ most - k∧turnB was s z (bHi s (k + b)) = true∧∀ i,k ≤ i→i < k + b→turnB was s z (bHi s i) = false:=fun h=>by
   obtain ⟨c1,c2,c3,c4⟩:=b1 h
   refine ⟨c1,c2,?_,fun i g1 g2=>?_⟩
   ·unfold turnB; rw [← vb]; exact c3
   ·have:=c4 (i - k) (by omega) (by omega)
    rw [vb,show k + (i - k) = i by omega] at this
    exact this
  have A2:isA = false→∀ i,k ≤ i→i ≤ most→turnB was s z (bLo s i) = false:=fun h i g1 g2=>by
   have:=a2 h (i - k) (by omega) (by omega)
   rw [va,show k + (i - k) = i by omega] at this
   exact this
  have B2:isB = false→∀ i,k ≤ i→i ≤ most→turnB was s z (bHi s i) = false:=fun h i g1 g2=>by
   have:=b2 h (i - k) (by omega) (by omega)
   rw [vb,show k + (i - k) = i by omega] at this
   exact this
  clear a1 a2 b1 b2 va vb ea eb
  cases isA with
  | true =>
   obtain ⟨c1,c2,c3,c4⟩:=A1 rfl
   cases isB with
   | true =>
    obtain ⟨g1,g2,g3,g4⟩:=B1 rfl
    by_cases hab:b < a
    ·refine ⟨k + b,true,?_,fun _=>⟨by omega,by omega,.inr g3,fun i h1 h2=>⟨c4 i h1 (by omega),g4 i h1 h2⟩⟩,fun h=>by cases h⟩
     simp only [cond_true]
     rw [if_pos hab,wrap_i64 (n:=k + b) (by omega) (by omega)]
    ·refine ⟨k + a,true,?_,fun _=>⟨by omega,by omega,.inl c3,fun i h1 h2=>⟨c4 i h1 h2,g4 i h1 (by omega)⟩⟩,fun h=>by cases h⟩
     simp only [cond_true]
     rw [if_neg hab,wrap_i64 (n:=k + a) (by omega) (by omega)]
   | false =>
    refine ⟨k + a,true,?_,fun _=>⟨by omega,by omega,.inl c3,fun i h1 h2=>⟨c4 i h1 h2,B2 rfl i h1 (by omega)⟩⟩,fun h=>by cases h⟩
    simp only [cond_true,cond_false]
    rw [wrap_i64 (n:=k + a) (by omega) (by omega)]
  | false =>
   simp only [cond_false]
   refine ⟨_,isB,rfl,fun h=>?_,fun h i h1 h2=>⟨A2 rfl i h1 h2,B2 h i h1 h2⟩⟩
   obtain ⟨g1,g2,g3,g4⟩:=B1 h
   rw [wrap_i64 (n:=k + b) (by omega) (by omega)]
   exact ⟨by omega,by omega,.inr g3,fun i h1 h2=>⟨A2 rfl i h1 (by omega),g4 i h1 h2⟩⟩
def isFlip (s:Int) (z:LZ) (q f:Int):Prop:=q < f∧f ≤ 1099511627777∧(∀ x,q < x→x < f→abvZ s z x = abvZ s z q)∧(f ≤ 1099511627776→abvZ s z f ≠ abvZ s z q)
theorem isFlip_inj {s:Int} {z:LZ} {q f g:Int} (hf:isFlip s z q f) (hg:isFlip s z q g):f = g:=by
 obtain ⟨a1,a2,a3,a4⟩:=hf
 obtain ⟨b1,b2,b3,b4⟩:=hg
 rcases Int.lt_trichotomy f g with h | h | h
 ·exact absurd (b3 f a1 h) (a4 (by omega))
 ·exact h
 ·exact absurd (a3 g b1 h) (b4 (by omega))
theorem turn_abv {s:Int} {z:LZ} {q x:Int}:turnB (abvZ s z q) s z x = false ↔ abvZ s z x = abvZ s z q:=by
 unfold turnB tnB abvZ
 simp only [Bool.not_eq_false',beq_iff_eq]
theorem turn_abv' {s:Int} {z:LZ} {q x:Int}:turnB (abvZ s z q) s z x = true ↔ abvZ s z x ≠ abvZ s z q:=by
 rw [← Bool.not_eq_false,ne_eq,turn_abv]
theorem lspan_eq (F:Nat) {s:Int} (hs:1 ≤ s) (hs2:s ≤ 1000000000000) {z:LZ} (hz:spanZ s z ≤ LIM):line_Span.sh F (wL z) s = some ((mk (spanZ s z),0,()),()):=by
 have hL:LIM = 85070591730234615865843651857942052864:=rfl
 have hfar:∀ v,nA v ≤ LIM→line_far.sh F (mk v) = some ((mk (nA v),0,()),()):=fun v hv=>by
  have iv:=inR_nA hv
  unfold line_far.sh
  rw [mk_neg]
  by_cases h:v < 0
  ·rw [decide_eq_true h,cond_true,neg_eq F (wf_mk iv),oB_some,val_mk,show -v = nA v by unfold nA; omega]
   have:inR (nA v) = true:=by rw [inR_iff]; have:=nA_nn v; omega
   unfold resW errW
   rw [this]; rfl
  ·rw [decide_eq_false h,cond_false,show nA v = v by unfold nA; omega]
 obtain ⟨s1,s2,s3,_⟩:=span_parts hs z
 unfold line_Span.sh
 rw [fit_eq,oB_some,fitB_iff.2 ⟨hs,hs2,by omega,by omega⟩]
 simp only [Bool.not_true,cond_false]
 rw [show (wL z).1 = mk z.1 from rfl,show (wL z).2.1 = mk z.2.1 from rfl,show (wL z).2.2 = mk z.2.2 from rfl,hfar _ (nA_le s1 hz),oB_some,hfar _ (nA_le s2 hz),oB_some,hfar _ (nA_le s3 hz),oB_some]
 simp only [bne_self_eq_false,cond_false]
 have hab:∀ v,nA (nA v) = nA v:=fun v=>nA_of (nA_nn v)
 have e1:spanZ s (nA z.1,nA z.2.1,nA z.2.2) = spanZ s z:=by
  unfold spanZ
  rw [hab,hab,hab]
 have e2:valZ s (nA z.1,nA z.2.1,nA z.2.2) 1099511627776 = spanZ s z:=rfl
 have:=Value_eq F (s:=s) (q:=1099511627776) (fitB_iff.2 ⟨hs,hs2,by omega,by omega⟩) (z:=(nA z.1,nA z.2.1,nA z.2.2)) (by rw [e1]; exact hz)
 rw [show ((mk (nA z.1),mk (nA z.2.1),mk (nA z.2.2)):tLine.T) = wL (nA z.1,nA z.2.1,nA z.2.2) from rfl,this,oB_some,e2]
theorem cmp_lim (F:Nat) {v:Int} (h0:0 ≤ v) (h:v ≤ LIM):∃ k,wide_Cmp.sh F (mk v) (4611686018427387904,0) = some ((k,()),())∧decide (k > 0) = false:=by
 have hL:LIM = 85070591730234615865843651857942052864:=rfl
 have e:((4611686018427387904,0):Int×Int) = mk LIM:=by rw [hL]; rfl
 rw [e,cmp_eq F (wf_mk (by rw [inR_iff]; omega)) (wf_mk (by rw [inR_iff]; omega)),val_mk,val_mk]
 exact ⟨_,rfl,by rw [cmpZ_pos]; exact decide_eq_false (by omega)⟩
theorem ceil_mono {s x y:Int} (hs:1 ≤ s) (h:x ≤ y):ceilD x s ≤ ceilD y s:=by
 obtain ⟨a1,a2⟩:=ceil_in (q:=x) hs
 obtain ⟨b1,b2⟩:=ceil_in (q:=y) hs
 rcases Int.lt_or_le (ceilD y s) (ceilD x s) with h' | h'
 ·have:=Int.mul_le_mul_of_nonneg_right (show ceilD y s ≤ ceilD x s - 1 by omega) (show 0 ≤ s by omega)
  omega
 ·exact h'
theorem lo_ceil {s k:Int} (hs:1 ≤ s):ceilD (bLo s k) s = k∧ceilD (bHi s k) s = k :=
 ⟨ceil_of hs (by unfold bLo; omega) (by unfold bLo; rw [Int.sub_mul]; omega),ceil_of hs (by unfold bHi; rw [Int.sub_mul]; omega) (by unfold bHi; omega)⟩
theorem lo_hi {s k:Int} (hs:1 ≤ s):bLo s k ≤ bHi s k:=by unfold bLo bHi; rw [Int.sub_mul]; omega
theorem no_turn {was:Bool} {s:Int} {z:LZ} {q j:Int} (hs:1 ≤ s) (h1:∀ x,q < x→x ≤ ceilD q s * s→x ≤ 1099511627776→turnB was s z x = false)
  (h2:∀ i,ceilD q s + 1 ≤ i→i < j→turnB was s z (bLo s i) = false∧turnB was s z (bHi s i) = false):∀ x,q < x→x < bLo s j→x ≤ 1099511627776→turnB was s z x = false:=by
 intro x hx hxj hx2
 by_cases hk:x ≤ ceilD q s * s
 ·exact h1 x hx hk hx2
 ·obtain ⟨a1,a2⟩:=ceil_in (q:=x) hs
  have hlo:ceilD q s + 1 ≤ ceilD x s:=by
   rcases Int.lt_or_le (ceilD q s) (ceilD x s) with h | h
   ·omega
   ·have:=Int.mul_le_mul_of_nonneg_right h (show 0 ≤ s by omega)
    omega
  have hhi:ceilD x s < j:=by
   rcases Int.lt_or_le (ceilD x s) j with h | h
   ·exact h
   ·have:=Int.mul_le_mul_of_nonneg_right (show j - 1 ≤ ceilD x s - 1 by omega) (show 0 ≤ s by omega)
    unfold bLo at hxj
    omega
  obtain ⟨t1,t2⟩:=h2 _ hlo hhi
  obtain ⟨l1,l2⟩:=lo_ceil (s:=s) (k:=ceilD x s) hs
  exact turn_mid (show bLo s (ceilD x s) ≤ x by unfold bLo; omega) (show x ≤ bHi s (ceilD x s) from a2) l1 rfl l2 t1 t2
theorem flip_j15 (F:Nat) (hF:70 < F) {s q:Int} {z:LZ} (hz:spanZ s z ≤ LIM) (hs:1 ≤ s) (hs2:s ≤ 1000000000000) (hq:0 ≤ q) (j:Int) (hj1:1 ≤ j) (hjq:q < bLo s j) (hj:j ≤ kM s)
  (hn:∀ x,q < x→x < bLo s j→x ≤ 1099511627776→turnB (abvZ s z q) s z x = false)
  (hend:j < kM s→(turnB (abvZ s z q) s z (bLo s j) = true ∨ turnB (abvZ s z q) s z (bHi s j) = true)) (k0 k1 k2:Int→Int→Option line_Flip.sg.R)
  (e1:k1 = k2):∃ f:Int,line_Flip.j15 F k0 k1 k2 (kM s) j (wL z,s,abvZ s z q) = k1 f 0∧isFlip s z q f:=by
 obtain ⟨m1,m2⟩:=ceil_in (q:=1099511627776) hs
 have hjs:(j - 1) * s < 1099511627776:=by
  have:=Int.mul_le_mul_of_nonneg_right (show j - 1 ≤ kM s - 1 by omega) (show 0 ≤ s by omega)
  unfold kM at this
  omega
 obtain ⟨l1,l2⟩:=lo_ceil (s:=s) (k:=j) hs
 have hll:=lo_hi (s:=s) (k:=j) hs
 have h0:=Int.mul_nonneg (show 0 ≤ j - 1 by omega) (show 0 ≤ s by omega)
 unfold line_Flip.j15
 rw [decide_eq_false (show ¬ j > kM s by omega)]
 simp only [cond_false]
 rw [block_eq F (wL z) (abvZ s z q) hs hs2 hj1 (by omega),oB_some]
 obtain ⟨hi,ehi,h1,h2,h3⟩:∃ hi:Int,(if 1099511627776 < bHi s j then (1099511627776:Int) else bHi s j) = hi∧hi ≤ 1099511627776∧hi ≤ bHi s j∧bLo s j ≤ hi:=by
  refine ⟨_,rfl,?_,?_,?_⟩ <;> split <;> unfold bLo at * <;> omega
 simp only [ehi]
 obtain ⟨f,ok,e,a1,a2⟩:=within_eq F hF hz hs hs2 (abvZ s z q) (lo:=bLo s j) (hi:=hi) (k:=j) (by unfold bLo; omega) h1 (fun x g1 g2=>ceil_of hs (by unfold bLo at g1; omega) (by unfold bHi at h2; omega))
 rw [e,oB_some]
 cases ok with
 | true =>
  obtain ⟨c1,c2,c3,c4⟩:=a1 rfl
  refine ⟨f,rfl,by omega,by omega,fun x g1 g2=>turn_abv.1 ?_,fun _=>turn_abv'.1 c3⟩
  rcases Int.lt_or_le x (bLo s j) with h | h
  ·exact hn x g1 h (by omega)
  ·exact c4 x h g2
 | false =>
  have a2:=a2 rfl
  refine ⟨1099511627777,by rw [e1]; rfl,by unfold bLo at *; omega,by omega,fun x g1 g2=>turn_abv.1 ?_,fun h=>by omega⟩
  rcases Int.lt_or_le x (bLo s j) with h | h
  ·exact hn x g1 h (by omega)
  ·by_cases hjk:j < kM s
   ·have hbs:bHi s j ≤ 1099511627776:=by
     have:=Int.mul_le_mul_of_nonneg_right (show j ≤ kM s - 1 by omega) (show 0 ≤ s by omega)
     unfold kM at this
     unfold bHi
     omega
    rw [if_neg (by omega)] at ehi
    subst ehi
    rcases hend hjk with t | t
    ·rw [a2 _ (by omega) (by omega)] at t; cases t
    ·rw [a2 _ (by omega) (by omega)] at t; cases t
   ·have hjk:j = kM s:=by omega
    have hbs:1099511627776 ≤ bHi s j:=by rw [hjk]; exact m2
    refine a2 x h ?_
    by_cases hlt:1099511627776 < bHi s j
    ·rw [if_pos hlt] at ehi; omega
    ·rw [if_neg hlt] at ehi; omega
theorem flip_eq (F:Nat) (hF:70 < F) {s q:Int} {z:LZ} (hz:spanZ s z ≤ LIM) (h:fitB s q = true):∃ f:Int,line_Flip.sh F (wL z) s q = some ((f,0,()),())∧isFlip s z q f:=by
 obtain ⟨hs,hs2,hq,hq2⟩:=fitB_iff.1 h
 obtain ⟨k,ek,hk⟩:=cmp_lim F (span_nn hs z) hz
 unfold line_Flip.sh
 rw [fit_eq,oB_some,h]
 simp only [Bool.not_true,cond_false]
 rw [lspan_eq F hs hs2 hz,oB_some]
 simp only [bne_self_eq_false,cond_false]
 rw [ek,oB_some,hk]
 simp only [cond_false]
 rw [walk_at F h hz,oB_some]
 obtain ⟨g,eg,hg,_⟩:=sign_pos F (v:=valZ s z q)
 rw [eg,oB_some,lblocks_eq F h,oB_some,lblocks_eq F (fitB_iff.2 ⟨hs,hs2,by omega,by omega⟩),oB_some,hg,show decide (valZ s z q > 0) = abvZ s z q from rfl,show ceilD 1099511627776 s = kM s from rfl]
 obtain ⟨m1,m2⟩:=ceil_in (q:=1099511627776) hs
 obtain ⟨n1,n2⟩:=ceil_in (q:=q) hs
 have hkM:ceilD 1099511627776 s = kM s:=rfl
 rw [hkM] at m1 m2
 have hkq:=ceil_mono (x:=q) (y:=1099511627776) hs hq2
 rw [hkM] at hkq
 have hk0:=(blk_bd h).1
 have hk1:=kM_bd hs
 have hks:ceilD q s * s ≤ 2099511627776:=by
  rw [Int.sub_mul] at n1; omega
 have hks0:=Int.mul_nonneg hk0 (show 0 ≤ s by omega)
 rw [wrap_i64 (n:=q + 1) (by omega) (by omega),wrap_i64 (n:=ceilD q s * s) (by omega) (by omega),wrap_i64 (n:=ceilD q s + 1) (by omega) (by omega),wrap_i64 (n:=kM s - 1) (by omega) (by omega)]
 obtain ⟨hi,ehi,h1,h2,h3⟩:∃ hi:Int,(if 1099511627776 < ceilD q s * s then (1099511627776:Int) else ceilD q s * s) = hi∧hi ≤ 1099511627776∧hi ≤ ceilD q s * s∧∀ x,x ≤ ceilD q s * s→x ≤ 1099511627776→x ≤ hi:=by
  refine ⟨_,rfl,?_,?_,?_⟩
  ·split <;> omega
  ·split <;> omega
  ·intro x g1 g2
   split <;> omega
 simp only [ehi]
 obtain ⟨f,ok,e,a1,a2⟩:=within_eq F hF hz hs hs2 (abvZ s z q) (lo:=q + 1) (hi:=hi) (k:=ceilD q s) (by omega) h1 (fun x g1 g2=>ceil_of hs (by omega) (by omega))
 rw [e,oB_some]
 cases ok with
 | true =>
  obtain ⟨c1,c2,c3,c4⟩:=a1 rfl
  exact ⟨f,rfl,by omega,by omega,fun x g1 g2=>turn_abv.1 (c4 x (by omega) g2),fun _=>turn_abv'.1 c3⟩
 | false =>
  have a2:∀ x,q < x→x ≤ ceilD q s * s→x ≤ 1099511627776→turnB (abvZ s z q) s z x = false:=fun x g1 g2 g3=>a2 rfl x (by omega) (h3 x g2 g3)
  simp only [cond_false]
  obtain ⟨j,ok,e,b1,b2⟩:=ahead_eq F hF hz hs hs2 (abvZ s z q) (k:=ceilD q s + 1) (most:=kM s - 1) (by omega) (by omega)
  rw [e,oB_some]
  have hlo:∀ j,ceilD q s + 1 ≤ j→q < bLo s j:=fun j hj=>by
   have:=Int.mul_le_mul_of_nonneg_right (show ceilD q s ≤ j - 1 by omega) (show 0 ≤ s by omega)
   unfold bLo
   omega
  cases ok with
  | true =>
   obtain ⟨c1,c2,c3,c4⟩:=b1 rfl
   simp only [Bool.not_true,cond_false]
   exact flip_j15 F hF hz hs hs2 hq j (by omega) (hlo j c1) (by omega) (no_turn hs a2 c4) (fun _=>c3) _ _ _ rfl
  | false =>
   have b2:=b2 rfl
   simp only [Bool.not_false,cond_true]
   by_cases hlast:ceilD q s + 1 > kM s
   ·rw [if_pos hlast]
    have hkk:ceilD q s = kM s:=by omega
    unfold line_Flip.j15
    rw [decide_eq_true hlast]
    refine ⟨1099511627777,rfl,by omega,by omega,fun x g1 g2=>turn_abv.1 (a2 x g1 ?_ (by omega)),fun g=>by omega⟩
    rw [hkk]; omega
   ·rw [if_neg hlast]
    exact flip_j15 F hF hz hs hs2 hq (kM s) (by omega) (hlo _ (by omega)) (by omega) (no_turn hs a2 (fun i g1 g2=>b2 i g1 (by omega))) (fun g=>by omega) _ _ _ rfl
abbrev PZ:=Int×LZ
def wP (p:PZ):tPiece.T:=(p.1,wL p.2)
def lineAt:List PZ→Int→LZ
 | [],_=>(0,0,0)
 | p :: r,q=>match r with
  | []=>p.2
  | p' :: _=>bif decide (p'.1 ≤ q) then lineAt r q else p.2
def nextAt:List PZ→Int→Int→Int
 | [],_,n=>n
 | p :: r,q,n=>match r with
  | []=>n
  | p' :: _=>bif decide (p'.1 ≤ q) then nextAt r q n else if p'.1 < n then p'.1 else n
theorem lineAt_two (p p':PZ) (r:List PZ) (q:Int):lineAt (p :: p' :: r) q = bif decide (p'.1 ≤ q) then lineAt (p' :: r) q else p.2:=rfl
theorem nextAt_two (p p':PZ) (r:List PZ) (q n:Int):nextAt (p :: p' :: r) q n = bif decide (p'.1 ≤ q) then nextAt (p' :: r) q n else if p'.1 < n then p'.1 else n:=rfl
theorem nextAt_bd:∀ (ps:List PZ) (q n:Int),nextAt ps q n ≤ n∧(q < n→q < nextAt ps q n)∧∀ x,q ≤ x→x < nextAt ps q n→lineAt ps x = lineAt ps q
 | [],q,n=>⟨Int.le_refl _,fun h=>h,fun x _ _=>rfl⟩
 | [p],q,n=>⟨Int.le_refl _,fun h=>h,fun x _ _=>rfl⟩
 | p :: p' :: r,q,n=>by
  have ih:=nextAt_bd (p' :: r) q n
  rw [nextAt_two]
  by_cases h:p'.1 ≤ q
  ·rw [decide_eq_true h]
   simp only [cond_true]
   refine ⟨ih.1,ih.2.1,fun x h1 h2=>?_⟩
   rw [lineAt_two,lineAt_two,decide_eq_true h,decide_eq_true (show p'.1 ≤ x by omega)]
   exact ih.2.2 x h1 h2
  ·rw [decide_eq_false h]
   simp only [cond_false]
   refine ⟨by split <;> omega,fun h'=>by split <;> omega,fun x h1 h2=>?_⟩
   rw [lineAt_two,lineAt_two,decide_eq_false h,decide_eq_false (show ¬ p'.1 ≤ x by split at h2 <;> omega)]
   rfl
theorem lineAt_mem:∀ (ps:List PZ) (q:Int),ps ≠ []→∃ p ∈ ps,lineAt ps q = p.2
 | [],q,h=>absurd rfl h
 | [p],q,h=>⟨p,by simp,rfl⟩
 | p :: p' :: r,q,h=>by
  obtain ⟨x,hx,e⟩:=lineAt_mem (p' :: r) q (by simp)
  rw [lineAt_two]
  cases decide (p'.1 ≤ q) with
  | true=>exact ⟨x,List.mem_cons_of_mem _ hx,e⟩
  | false=>exact ⟨p,by simp,rfl⟩
def nextK (kids:List (List PZ)) (q n:Int):Int:=kids.foldl (fun n ps=>nextAt ps q n) n
theorem nextK_bd:∀ (kids:List (List PZ)) (q n:Int),nextK kids q n ≤ n∧(q < n→q < nextK kids q n)∧∀ x,q ≤ x→x < nextK kids q n→kids.map (fun ps=>lineAt ps x) = kids.map fun ps=>lineAt ps q
 | [],q,n=>⟨Int.le_refl _,fun h=>h,fun x _ _=>rfl⟩
 | ps :: r,q,n=>by
  have a:=nextAt_bd ps q n
  have ih:=nextK_bd r q (nextAt ps q n)
  have e:nextK (ps :: r) q n = nextK r q (nextAt ps q n):=rfl
  rw [e]
  refine ⟨by omega,fun h=>ih.2.1 (a.2.1 h),fun x h1 h2=>?_⟩
  rw [List.map_cons,List.map_cons,ih.2.2 x h1 h2,a.2.2 x h1 (by omega)]
open Classical in
noncomputable def flipZ (s:Int) (z:LZ) (q:Int):Int:=if h:∃ f,isFlip s z q f then Classical.choose h else 0
theorem flipZ_eq {s:Int} {z:LZ} {q f:Int} (h:isFlip s z q f):flipZ s z q = f:=by
 unfold flipZ
 rw [dif_pos ⟨f,h⟩]
 exact isFlip_inj (Classical.choose_spec (⟨f,h⟩:∃ f,isFlip s z q f)) h
noncomputable def nextT (s q:Int) (turn:List LZ) (n:Int):Int:=turn.foldl (fun n t=>if flipZ s t q < n then flipZ s t q else n) n
theorem nextT_bd (s q:Int):∀ (turn:List LZ) (n:Int),(∀ t ∈ turn,∃ f,isFlip s t q f)→nextT s q turn n ≤ n∧(q < n→q < nextT s q turn n)∧∀ x,q ≤ x→x < nextT s q turn n→∀ t ∈ turn,abvZ s t x = abvZ s t q
 | [],n,h=>⟨Int.le_refl _,fun h=>h,fun x _ _ t ht=>by simp at ht⟩
 | t :: r,n,h=>by
  obtain ⟨f,hf⟩:=h t (by simp)
  have ef:=flipZ_eq hf
  have ih:=nextT_bd s q r (if flipZ s t q < n then flipZ s t q else n) (fun x hx=>h x (List.mem_cons_of_mem _ hx))
  have e:nextT s q (t :: r) n = nextT s q r (if flipZ s t q < n then flipZ s t q else n):=rfl
  rw [e]
  rw [ef] at ih ⊢
  obtain ⟨f1,f2,f3,f4⟩:=hf
  obtain ⟨m,em,m1,m2,m3⟩:∃ m:Int,(if f < n then f else n) = m∧m ≤ n∧m ≤ f∧(m = f ∨ m = n):=by
   refine ⟨_,rfl,?_,?_,?_⟩ <;> split <;> omega
  rw [em] at ih ⊢
  refine ⟨by omega,fun hn=>ih.2.1 (by omega),fun x h1 h2 y hy=>?_⟩
  rcases List.mem_cons.1 hy with rfl | hy
  ·rcases Int.lt_or_le q x with hx | hx
   ·exact f3 x hx (by omega)
   ·rw [show x = q by omega]
  ·exact ih.2.2 x h1 h2 y hy
def lastL (out:List PZ):Option LZ:=out.getLast?.map (·.2)
def putZ (out:List PZ) (q:Int) (l:LZ):List PZ:=if lastL out = some l then out else out ++ [(q,l)]
noncomputable def nextZ (c:List LZ→Int→LZ×List LZ) (s:Int) (kids:List (List PZ)) (q:Int):Int :=
 nextT s q (c (kids.map fun ps=>lineAt ps q) q).2 (nextK kids q 1099511627777)
noncomputable def mdZ (c:List LZ→Int→LZ×List LZ) (s:Int) (kids:List (List PZ)):Nat→Int→List PZ→Option (List PZ)
 | 0,q,out=>bif decide (q ≤ 1099511627776) then none else some out
 | fu + 1,q,out=>bif decide (q ≤ 1099511627776) then
   (if (putZ out q (c (kids.map fun ps=>lineAt ps q) q).1).length > 256 then none
   else mdZ c s kids fu (nextZ c s kids q) (putZ out q (c (kids.map fun ps=>lineAt ps q) q).1))
  else some out
def chainZ:List PZ→Prop
 | []=>True
 | p :: r=>(match r with | []=>True | p' :: _=>p.1 < p'.1∧p'.1 ≤ 1099511627776∧p.2 ≠ p'.2)∧chainZ r
structure PG (s M:Int) (V:Int→Int) (Q:LZ→Prop) (ps:List PZ):Prop where
 ne:ps ≠ []
 len:ps.length ≤ 256
 hd:∀ p,ps.head? = some p→p.1 = 0
 ch:chainZ ps
 sp:∀ p ∈ ps,spanZ s p.2 ≤ M
 pr:∀ p ∈ ps,Q p.2
 vl:∀ q,0 ≤ q→q ≤ 1099511627776→valZ s (lineAt ps q) q = V q
theorem chainZ_snoc:∀ (out:List PZ) (q:Int) (l:LZ),chainZ out→(∀ p,out.getLast? = some p→p.1 < q∧p.2 ≠ l)→q ≤ 1099511627776→chainZ (out ++ [(q,l)])
 | [],q,l,h,h1,h2=>⟨trivial,trivial⟩
 | [p],q,l,h,h1,h2=>by
  have:=h1 p rfl
  exact ⟨⟨this.1,h2,this.2⟩,trivial,trivial⟩
 | p :: p' :: r,q,l,h,h1,h2=>by
  have ih:=chainZ_snoc (p' :: r) q l h.2 (fun x hx=>h1 x (by rw [List.getLast?_cons_cons]; exact hx)) h2
  exact ⟨h.1,ih⟩
def chainEnd:List PZ→Int→Bool
 | [],_=>true
 | p :: r,x=>match r with
  | []=>true
  | p' :: _=>decide (p'.1 ≤ x) && chainEnd r x
theorem lineAt_snoc:∀ (out:List PZ) (q:Int) (l:LZ) (x:Int),out ≠ []→lineAt (out ++ [(q,l)]) x = (bif decide (q ≤ x) && chainEnd out x then l else lineAt out x)
 | [],q,l,x,h=>absurd rfl h
 | [p],q,l,x,h=>by
  show (bif decide (q ≤ x) then _ else _) = _
  cases decide (q ≤ x) <;> rfl
 | p :: p' :: r,q,l,x,h=>by
  have ih:=lineAt_snoc (p' :: r) q l x (by simp)
  show lineAt (p :: p' :: (r ++ [(q,l)])) x = _
  rw [lineAt_two,show p' :: (r ++ [(q,l)]) = (p' :: r) ++ [(q,l)] from rfl,ih,lineAt_two]
  show _ = bif decide (q ≤ x) && (decide (p'.1 ≤ x) && chainEnd (p' :: r) x) then _ else _
  cases decide (p'.1 ≤ x) <;> cases decide (q ≤ x) <;> cases chainEnd (p' :: r) x <;> rfl
theorem chainEnd_of:∀ (out:List PZ) (x:Int),chainZ out→(∀ p,out.getLast? = some p→p.1 ≤ x)→chainEnd out x = true
 | [],x,h,h1=>rfl
 | [p],x,h,h1=>rfl
 | p :: p' :: r,x,h,h1=>by
  have hl:∀ y,(p' :: r).getLast? = some y→y.1 ≤ x:=fun y hy=>h1 y (by rw [List.getLast?_cons_cons]; exact hy)
  have ih:=chainEnd_of (p' :: r) x h.2 hl
  show (decide (p'.1 ≤ x) && chainEnd (p' :: r) x) = true
  rw [ih,Bool.and_true,decide_eq_true_eq]
  exact le_last (p' :: r) h.2 x hl p' rfl
where le_last:∀ (out:List PZ),chainZ out→∀ (x:Int),(∀ p,out.getLast? = some p→p.1 ≤ x)→∀ p,out.head? = some p→p.1 ≤ x
 | [],h,x,h1,p,hp=>by cases hp
 | [a],h,x,h1,p,hp=>h1 p hp
 | a :: b :: r,h,x,h1,p,hp=>by
  have:=le_last (b :: r) h.2 x (fun y hy=>h1 y (by rw [List.getLast?_cons_cons]; exact hy)) b rfl
  have hp:a = p:=by simpa using hp
  subst hp
  have:=h.1.1
  omega
theorem lineAt_last:∀ (out:List PZ) (x:Int) (p:PZ),chainEnd out x = true→out.getLast? = some p→lineAt out x = p.2
 | [],x,p,h,h1=>by cases h1
 | [a],x,p,h,h1=>by
  have h1:a = p:=by simpa using h1
  subst h1; rfl
 | a :: b :: r,x,p,h,h1=>by
  have h:(decide (b.1 ≤ x) && chainEnd (b :: r) x) = true:=h
  rw [Bool.and_eq_true] at h
  rw [lineAt_two,h.1,cond_true]
  exact lineAt_last (b :: r) x p h.2 (by rw [← h1,List.getLast?_cons_cons])
structure Pre (s M:Int) (V:Int→Int) (Q:LZ→Prop) (q:Int) (out:List PZ):Prop where
 q0:q = 0→out = []
 q1:0 < q→out ≠ []
 len:out.length ≤ 256
 hd:∀ p,out.head? = some p→p.1 = 0
 ch:chainZ out
 la:∀ p,out.getLast? = some p→p.1 < q
 sp:∀ p ∈ out,spanZ s p.2 ≤ M
 pr:∀ p ∈ out,Q p.2
 vl:∀ x,0 ≤ x→x < q→x ≤ 1099511627776→valZ s (lineAt out x) x = V x
def Step (s M:Int) (V:Int→Int) (Q:LZ→Prop) (c:List LZ→Int→LZ×List LZ) (kids:List (List PZ)):Prop :=
 ∀ q,0 ≤ q→q ≤ 1099511627776→spanZ s (c (kids.map fun ps=>lineAt ps q) q).1 ≤ M∧Q (c (kids.map fun ps=>lineAt ps q) q).1 ∧
  (∀ t ∈ (c (kids.map fun ps=>lineAt ps q) q).2,∃ f,isFlip s t q f) ∧
  ∀ x,q ≤ x→x ≤ 1099511627776→(kids.map fun ps=>lineAt ps x) = (kids.map fun ps=>lineAt ps q)→(∀ t ∈ (c (kids.map fun ps=>lineAt ps q) q).2,abvZ s t x = abvZ s t q) →
   valZ s (c (kids.map fun ps=>lineAt ps q) q).1 x = V x
theorem nextZ_bd {s M:Int} {V:Int→Int} {Q:LZ→Prop} {c:List LZ→Int→LZ×List LZ} {kids:List (List PZ)} (hs:Step s M V Q c kids) {q:Int} (h0:0 ≤ q) (h1:q ≤ 1099511627776) :
  q < nextZ c s kids q∧nextZ c s kids q ≤ 1099511627777∧∀ x,q ≤ x→x < nextZ c s kids q→valZ s (c (kids.map fun ps=>lineAt ps q) q).1 x = V x:=by
 obtain ⟨_,_,a3,a4⟩:=hs q h0 h1
 have hK:=nextK_bd kids q 1099511627777
 have hT:=nextT_bd s q (c (kids.map fun ps=>lineAt ps q) q).2 (nextK kids q 1099511627777) a3
 refine ⟨hT.2.1 (hK.2.1 (by omega)),Int.le_trans hT.1 hK.1,fun x g1 g2=>?_⟩
 unfold nextZ at g2
 exact a4 x g1 (by omega) (hK.2.2 x g1 (by omega)) (hT.2.2 x g1 g2)
theorem pre_step {s M:Int} {V:Int→Int} {Q:LZ→Prop} {c:List LZ→Int→LZ×List LZ} {kids:List (List PZ)} (hs:Step s M V Q c kids) {q:Int} (h0:0 ≤ q) (h1:q ≤ 1099511627776) {out:List PZ} (hp:Pre s M V Q q out)
  (hl:¬ (putZ out q (c (kids.map fun ps=>lineAt ps q) q).1).length > 256):Pre s M V Q (nextZ c s kids q) (putZ out q (c (kids.map fun ps=>lineAt ps q) q).1):=by
 obtain ⟨n1,n2,n3⟩:=nextZ_bd hs h0 h1
 obtain ⟨a1,a2,_,_⟩:=hs q h0 h1
 generalize (c (kids.map fun ps=>lineAt ps q) q).1 = l at *
 generalize nextZ c s kids q = n at *
 unfold putZ at *
 by_cases he:lastL out = some l
 ·rw [if_pos he] at hl ⊢
  obtain ⟨p,hp1,hp2⟩:∃ p,out.getLast? = some p∧p.2 = l:=by
   unfold lastL at he
   cases hx:out.getLast? with
   | none=>rw [hx] at he; cases he
   | some p=>rw [hx] at he; exact ⟨p,rfl,by simpa using he⟩
  have hla:=hp.la p hp1
  refine ⟨fun h=>by omega,fun _ h=>(by rw [h] at hp1; cases hp1),hp.len,hp.hd,hp.ch,fun p' h=>by have:=hp.la p' h; omega,hp.sp,hp.pr,fun x x1 x2 x3=>?_⟩
  rcases Int.lt_or_le x q with hx | hx
  ·exact hp.vl x x1 hx x3
  ·rw [lineAt_last out x p (chainEnd_of out x hp.ch (fun y hy=>by have:=hp.la y hy; omega)) hp1,hp2]
   exact n3 x hx x2
 ·rw [if_neg he] at hl ⊢
  refine ⟨fun h=>by omega,fun _ h=>by simp at h,by omega,?_,?_,?_,?_,?_,?_⟩
  ·intro p h
   rcases Int.lt_or_le 0 q with hq | hq
   ·have hne:=hp.q1 hq
    cases out with
    | nil=>exact absurd rfl hne
    | cons a r=>exact hp.hd p (by simpa using h)
   ·have:=hp.q0 (by omega)
    subst this
    have h:(q,l) = p:=by simpa using h
    rw [← h]; show q = 0; omega
  ·refine chainZ_snoc out q l hp.ch (fun p hp1=>⟨hp.la p hp1,fun e=>he ?_⟩) h1
   unfold lastL
   rw [hp1,← e]; rfl
  ·intro p h
   have h:(q,l) = p:=by simpa using h
   rw [← h]; exact n1
  ·intro p h
   rcases List.mem_append.1 h with h | h
   ·exact hp.sp p h
   ·rw [List.mem_singleton.1 h]; exact a1
  ·intro p h
   rcases List.mem_append.1 h with h | h
   ·exact hp.pr p h
   ·rw [List.mem_singleton.1 h]; exact a2
  ·intro x x1 x2 x3
   by_cases hne:out = []
   ·subst hne
    have hq:q = 0:=by
     rcases Int.lt_or_le 0 q with hq | hq
     ·exact absurd rfl (hp.q1 hq)
     ·omega
    exact n3 x (by omega) x2
   ·rw [lineAt_snoc out q l x hne]
    rcases Int.lt_or_le x q with hx | hx
    ·rw [decide_eq_false (show ¬ q ≤ x by omega)]
     exact hp.vl x x1 hx x3
    ·rw [decide_eq_true hx,chainEnd_of out x hp.ch (fun y hy=>by have:=hp.la y hy; omega)]
     exact n3 x hx x2
theorem mdZ_PG {s M:Int} {V:Int→Int} {Q:LZ→Prop} {c:List LZ→Int→LZ×List LZ} {kids:List (List PZ)} (hs:Step s M V Q c kids):∀ (fu:Nat) (q:Int) (out:List PZ),0 ≤ q→q ≤ 1099511627777→Pre s M V Q q out →
  ∀ res,mdZ c s kids fu q out = some res→PG s M V Q res:=by
 have fin:∀ (q:Int) (out:List PZ),¬ q ≤ 1099511627776→Pre s M V Q q out→PG s M V Q out:=fun q out h hp =>
  ⟨hp.q1 (by omega),hp.len,hp.hd,hp.ch,hp.sp,hp.pr,fun x x1 x2=>hp.vl x x1 (by omega) x2⟩
 intro fu
 induction fu with
 | zero =>
  intro q out h0 h1 hp res h
  unfold mdZ at h
  by_cases hq:q ≤ 1099511627776
  ·rw [decide_eq_true hq] at h; cases h
  ·rw [decide_eq_false hq] at h
   have h:out = res:=by simpa using h
   subst h
   exact fin q out hq hp
 | succ fu ih =>
  intro q out h0 h1 hp res h
  unfold mdZ at h
  by_cases hq:q ≤ 1099511627776
  ·rw [decide_eq_true hq,cond_true] at h
   split at h
   ·cases h
   ·rename_i hl
    obtain ⟨n1,n2,_⟩:=nextZ_bd hs h0 hq
    exact ih _ _ (by omega) n2 (pre_step hs h0 hq hp hl) res h
  ·rw [decide_eq_false hq] at h
   have h:out = res:=by simpa using h
   subst h
   exact fin q out hq hp
theorem made_PG {s M:Int} {V:Int→Int} {Q:LZ→Prop} {c:List LZ→Int→LZ×List LZ} {kids:List (List PZ)} (hs:Step s M V Q c kids) {res:List PZ} (h:mdZ c s kids 4096 0 [] = some res):PG s M V Q res :=
 mdZ_PG hs 4096 0 [] (by omega) (by omega) ⟨fun _=>rfl,fun h=>absurd h (by decide),by simp,(fun p h=>by cases h),trivial,(fun p h=>by cases h),(fun p h=>by simp at h),(fun p h=>by simp at h),fun x x1 x2 _=>by omega⟩ res h
def lineB (l m:tLine.T):Bool:=(l.1.1 == m.1.1) && ((l.1.2 == m.1.2) && ((l.2.1.1 == m.2.1.1) && ((l.2.1.2 == m.2.1.2) && ((l.2.2.1 == m.2.2.1) && ((l.2.2.2 == m.2.2.2) && true)))))
theorem lineB_iff {l m:tLine.T}:lineB l m = true ↔ l = m:=by
 obtain ⟨⟨a,b⟩,⟨c,d⟩,e,f⟩:=l
 obtain ⟨⟨a',b'⟩,⟨c',d'⟩,e',f'⟩:=m
 unfold lineB
 simp only [Bool.and_eq_true,beq_iff_eq,Bool.and_true,Prod.mk.injEq]
 constructor
 ·rintro ⟨h1,h2,h3,h4,h5,h6⟩; exact ⟨⟨h1,h2⟩,⟨h3,h4⟩,h5,h6⟩
 ·rintro ⟨⟨h1,h2⟩,⟨h3,h4⟩,h5,h6⟩; exact ⟨h1,h2,h3,h4,h5,h6⟩
def pairB (a b:tPiece.T):Bool:=!decide (a.1 ≥ b.1) && (!decide (b.1 > 1099511627776) && !lineB a.2 b.2)
def chainB:List tPiece.T→Bool
 | []=>true
 | a :: r=>(match r with | []=>true | b :: _=>pairB a b) && chainB r
def tableB (t:tTable.T):Bool:=!decide (t.1 < 1) && (!decide (t.1 > 1000000000000) && (!decide (t.2.1 < 0) && (!decide (t.2.1 > 6) && (!decide ((t.2.2.length:Int) < 1) && (!decide ((t.2.2.length:Int) > 256) && (((get tPiece t.2.2 0).1 == 0) && chainB t.2.2))))))
theorem check_l5 (F:Nat) {R:Type} (k0:Bool→Option R) (kT:Option R) (t:tTable.T) (hn:t.2.2.length ≤ 256):∀ (r:List tPiece.T) (a:tPiece.T) (i fu:Nat),t.2.2.drop i = a :: r→r.length < fu →
  normal_Check.l5 F k0 (fun _ _ _ _=>kT) fu ((t.2.2.length:Int) - 1) (i:Int) t = bif chainB (a :: r) then kT else k0 false
 | r,a,i,0,h,hf=>by omega
 | [],a,i,fu + 1,h,hf=>by
  have hl:=congrArg List.length h
  simp only [List.length_drop,List.length_cons,List.length_nil] at hl
  simp only [normal_Check.l5,normal_Check.l5.body,decide_eq_false (show ¬ (i:Int) < (t.2.2.length:Int) - 1 by omega),cond_false]
  rfl
 | b :: r,a,i,fu + 1,h,hf=>by
  have hl:=congrArg List.length h
  simp only [List.length_drop,List.length_cons] at hl
  have h2:=rg_next h
  have ih:=check_l5 F k0 kT t hn r b (i + 1) fu h2 (by simpa using hf)
  have g1:=rg_get (t:=tPiece) h
  have g2:=rg_get (t:=tPiece) h2
  have w:IntKind.i64.wrap ((i:Int) + 1) = ((i + 1:Nat):Int):=by rw [wrap_i64 (by omega) (by omega)]; simp
  simp only [normal_Check.l5,normal_Check.l5.body,decide_eq_true (show (i:Int) < (t.2.2.length:Int) - 1 by omega),cond_true,rg_idx (show i < t.2.2.length by omega),w,rg_idx (show i + 1 < t.2.2.length by omega),g1,g2]
  show (bif decide (a.1 ≥ b.1) then k0 false else bif decide (b.1 > 1099511627776) then k0 false else bif lineB a.2 b.2 then k0 false else _) = _
  rw [ih]
  show _ = bif pairB a b && chainB (b :: r) then kT else k0 false
  unfold pairB
  cases decide (a.1 ≥ b.1) with
  | true=>rfl
  | false =>
   cases decide (b.1 > 1099511627776) with
   | true=>rfl
   | false=>cases lineB a.2 b.2 <;> rfl
theorem check12_eq (F:Nat) (hF:256 < F) (t:tTable.T):normal_Check.sh F t = some ((tableB t,()),()):=by
 unfold normal_Check.sh tableB
 cases h1:decide (t.1 < 1) with
 | true=>rfl
 | false =>
 cases h2:decide (t.1 > 1000000000000) with
 | true=>rfl
 | false =>
 cases h3:decide (t.2.1 < 0) with
 | true=>rfl
 | false =>
 cases h4:decide (t.2.1 > 6) with
 | true=>rfl
 | false =>
 cases h5:decide ((t.2.2.length:Int) < 1) with
 | true=>rfl
 | false =>
 cases h6:decide ((t.2.2.length:Int) > 256) with
 | true=>rfl
 | false =>
  have h5:=of_decide_eq_false h5
  have h6:=of_decide_eq_false h6
  simp only [cond_false,Bool.not_false,Bool.true_and]
  rw [show idx 0 t.2.2.length = true from rg_idx (i:=0) (by omega)]
  simp only [cond_true]
  cases h7:((get tPiece t.2.2 0).1 != 0) with
  | true =>
   have:((get tPiece t.2.2 0).1 == 0) = false:=by simpa using h7
   rw [this]; rfl
  | false =>
   have:((get tPiece t.2.2 0).1 == 0) = true:=by simpa using h7
   rw [this,wrap_i64 (by omega) (by omega)]
   obtain ⟨a,r,hr⟩:∃ a r,t.2.2 = a :: r:=by
    cases h:t.2.2 with
    | nil=>rw [h] at h5; exact absurd (by decide) h5
    | cons a r=>exact ⟨a,r,rfl⟩
   have hd:t.2.2.drop 0 = a :: r:=hr
   have hl:=congrArg List.length hr
   simp only [List.length_cons] at hl
   simp only [cond_false,Bool.true_and]
   refine (check_l5 F (fun r21=>some ((r21,()),())) (some ((true,()),())) t (by omega) r a 0 F hd (by omega)).trans ?_
   rw [hr]
   cases chainB (a :: r) <;> rfl
def pF (l:List tPiece.T) (i:Nat):Int:=(get tPiece l i).1
theorem pF_cons (a:tPiece.T) (l:List tPiece.T) (i:Nat):pF (a :: l) (i + 1) = pF l i:=rfl
theorem pairB_lt {a b:tPiece.T} (h:pairB a b = true):a.1 < b.1:=by
 unfold pairB at h
 simp only [Bool.and_eq_true,Bool.not_eq_true',decide_eq_false_iff_not] at h
 exact Int.not_le.1 h.1
theorem chain_next:∀ {l:List tPiece.T},chainB l = true→∀ i,i + 1 < l.length→pF l i < pF l (i + 1)
 | [],h,i,hi=>by simp at hi
 | [a],h,i,hi=>by simp at hi
 | a :: b :: r,h,i,hi=>by
  have h':(pairB a b && chainB (b :: r)) = true:=h
  rw [Bool.and_eq_true] at h'
  cases i with
  | zero=>exact pairB_lt h'.1
  | succ i=>rw [pF_cons,pF_cons]; exact chain_next h'.2 i (by simpa using hi)
theorem chain_lt {l:List tPiece.T} (h:chainB l = true) (i:Nat):∀ (d:Nat),i + (d + 1) < l.length→pF l i < pF l (i + (d + 1))
 | 0,hi=>chain_next h i hi
 | d + 1,hi=>Int.lt_trans (chain_lt h i d (by omega)) (chain_next h (i + (d + 1)) hi)
theorem chain_lt' {l:List tPiece.T} (h:chainB l = true) {i j:Nat} (hij:i < j) (hj:j < l.length):pF l i < pF l j:=by
 have:=chain_lt h i (j - i - 1) (by omega)
 rwa [show i + (j - i - 1 + 1) = j by omega] at this
def isAt (l:List tPiece.T) (q:Int) (i:Nat):Prop:=i < l.length∧pF l i ≤ q∧∀ j,i < j→j < l.length→q < pF l j
theorem isAt_inj {l:List tPiece.T} {q:Int} {i j:Nat} (hi:isAt l q i) (hj:isAt l q j):i = j:=by
 obtain ⟨a1,a2,a3⟩:=hi
 obtain ⟨b1,b2,b3⟩:=hj
 rcases Nat.lt_trichotomy i j with h | h | h
 ·have:=a3 j h b1; omega
 ·exact h
 ·have:=b3 i h a1; omega
theorem find_l2 (F:Nat) {R:Type} (kk:Int→Option R) {l:List tPiece.T} (hn:l.length ≤ 256) (hc:chainB l = true) {q:Int}:∀ (n i fu:Nat),i + n + 1 = l.length→n < fu→pF l i ≤ q →
  ∃ k:Nat,octroiref12_Find.l2 F (fun _ _ i _=>kk i) fu l q (i:Int) = kk (k:Int)∧isAt l q k
 | n,i,0,h,hf,hi=>by omega
 | 0,i,fu + 1,h,hf,hi=>by
  refine ⟨i,?_,by omega,hi,fun j h1 h2=>by omega⟩
  simp only [octroiref12_Find.l2,octroiref12_Find.l2.body]
  rw [wrap_i64 (n:=(l.length:Int) - 1) (by omega) (by omega),decide_eq_false (show ¬ (i:Int) < (l.length:Int) - 1 by omega)]
  rfl
 | n + 1,i,fu + 1,h,hf,hi=>by
  have w:IntKind.i64.wrap ((i:Int) + 1) = ((i + 1:Nat):Int):=by rw [wrap_i64 (by omega) (by omega)]; simp
  simp only [octroiref12_Find.l2,octroiref12_Find.l2.body]
  rw [wrap_i64 (n:=(l.length:Int) - 1) (by omega) (by omega),decide_eq_true (show (i:Int) < (l.length:Int) - 1 by omega),w,rg_idx (show i + 1 < l.length by omega),Int.toNat_natCast]
  simp only [cond_true]
  show ∃ k,(bif decide (pF l (i + 1) ≤ q) then _ else _) = _∧_
  by_cases hq:pF l (i + 1) ≤ q
  ·obtain ⟨k,e,hk⟩:=find_l2 F kk hn hc n (i + 1) fu (by omega) (by omega) hq
   exact ⟨k,by rw [decide_eq_true hq]; exact e,hk⟩
  ·refine ⟨i,by rw [decide_eq_false hq]; rfl,by omega,hi,fun j h1 h2=>?_⟩
   rcases Nat.lt_or_ge (i + 1) j with h' | h'
   ·have:=chain_lt' hc h' h2; omega
   ·have:j = i + 1:=by omega
    subst this; omega
theorem find_eq (F:Nat) (hF:256 < F) {l:List tPiece.T} (hn:l.length ≤ 256) (h0:0 < l.length) (hc:chainB l = true) {q:Int} (hq:pF l 0 ≤ q):∃ k:Nat,octroiref12_Find.sh F l q = some (((k:Int),()),())∧isAt l q k:=by
 unfold octroiref12_Find.sh
 exact find_l2 F (fun i=>(some ((i,()),()):Option octroiref12_Find.sg.R)) hn hc (l.length - 1) 0 F (by omega) (by omega) hq
def sgF (p q:Int):Int:=if 1 < (if (-1) > IntKind.i64.wrap (p - q) then (-1) else IntKind.i64.wrap (p - q)) then 1 else (if (-1) > IntKind.i64.wrap (p - q) then (-1) else IntKind.i64.wrap (p - q))
theorem sgF_lt {p q:Int} (h1:0 ≤ p) (h2:p ≤ 1099511627776) (h3:0 ≤ q) (h4:q ≤ 1099511627776):decide (sgF p q < 0) = decide (p < q):=by
 unfold sgF
 rw [wrap_i64 (n:=p - q) (by omega) (by omega)]
 apply decide_eq_decide.2
 split <;> split <;> omega
theorem sgF_eq {p q:Int} (h1:0 ≤ p) (h2:p ≤ 1099511627776) (h3:0 ≤ q) (h4:q ≤ 1099511627776):(sgF p q == 0) = decide (p = q):=by
 unfold sgF
 rw [wrap_i64 (n:=p - q) (by omega) (by omega)]
 rw [show ∀ x:Int,(x == 0) = decide (x = 0) from fun x=>rfl]
 apply decide_eq_decide.2
 split <;> split <;> omega
theorem halved {i j:Nat} (h:i + j ≤ 512):IntKind.i64.wrap ((IntKind.u64.wrap (IntKind.i64.wrap ((i:Int) + (j:Int)))).fdiv (2 ^ (min (1:Int).toNat IntKind.u64.bits))) = (((i + j) / 2:Nat):Int):=by
 have e:(2 ^ (min (1:Int).toNat IntKind.u64.bits):Int) = 2:=by decide
 rw [e,wrap_i64 (n:=(i:Int) + (j:Int)) (by omega) (by omega),wrap_u64 (by omega) (by omega),Int.fdiv_eq_ediv_of_nonneg _ (by omega),wrap_i64 (by omega) (by omega)]
 omega
theorem bs_l3 (F:Nat) {R:Type} (k0:(List tPiece.T)→Int→Nat→Int→Int→Int→Bool→Option R) {l:List tPiece.T} (hn:l.length ≤ 256) (hb:∀ i,i < l.length→0 ≤ pF l i∧pF l i ≤ 1099511627776) {q:Int} (q1:0 ≤ q) (q2:q ≤ 1099511627776) (N:Int) (hc:chainB l = true) :
  ∀ (fu i j:Nat),i ≤ j→j ≤ l.length→j - i < fu→(∀ k,k < i→pF l k < q)→(∀ k,j ≤ k→k < l.length→q ≤ pF l k) →
  ∃ (k:Nat) (j':Int) (b:Bool),slices_BinarySearchFunc_int64.l3 F k0 fu l q fn_normal_At_c1 N (i:Int) (j:Int) = k0 l q fn_normal_At_c1 N (k:Int) j' b∧k ≤ l.length∧(∀ m,m < k→pF l m < q)∧∀ m,k ≤ m→m < l.length→q ≤ pF l m
 | 0,i,j,h1,h2,h3,_,_=>by omega
 | fu + 1,i,j,h1,h2,h3,h4,h5=>by
  simp only [slices_BinarySearchFunc_int64.l3,slices_BinarySearchFunc_int64.l3.body]
  by_cases hij:i < j
  ·rw [decide_eq_true (show (i:Int) < (j:Int) by omega),halved (i:=i) (j:=j) (by omega),rg_idx (show (i + j) / 2 < l.length by omega),Int.toNat_natCast]
   simp only [cond_true]
   have e:slices_BinarySearchFunc_int64.d30 F fn_normal_At_c1 (get tPiece l ((i + j) / 2),q,()) = some ((sgF (pF l ((i + j) / 2)) q,()),()):=rfl
   obtain ⟨b1,b2⟩:=hb ((i + j) / 2) (by omega)
   rw [e,oB_some,sgF_lt b1 b2 q1 q2]
   by_cases hq:pF l ((i + j) / 2) < q
   ·rw [decide_eq_true hq,wrap_i64 (n:=(((i + j) / 2:Nat):Int) + 1) (by omega) (by omega)]
    simp only [cond_true]
    refine bs_l3 F k0 hn hb q1 q2 N hc fu ((i + j) / 2 + 1) j (by omega) h2 (by omega) (fun k hk=>?_) h5
    rcases Nat.lt_or_ge k ((i + j) / 2) with h' | h'
    ·have:=chain_lt' hc h' (by omega); omega
    ·have:k = (i + j) / 2:=by omega
     subst this; exact hq
   ·rw [decide_eq_false hq]
    simp only [cond_false]
    refine bs_l3 F k0 hn hb q1 q2 N hc fu i ((i + j) / 2) (by omega) (by omega) (by omega) h4 (fun k hk hk2=>?_)
    rcases Nat.lt_or_ge ((i + j) / 2) k with h' | h'
    ·have:=chain_lt' hc h' hk2; omega
    ·have:k = (i + j) / 2:=by omega
     subst this; omega
  ·rw [decide_eq_false (show ¬ (i:Int) < (j:Int) by omega)]
   exact ⟨i,_,_,rfl,by omega,h4,fun m hm hm2=>h5 m (by omega) hm2⟩
theorem bs_eq (F:Nat) (hF:257 < F) {l:List tPiece.T} (hn:l.length ≤ 256) (hb:∀ i,i < l.length→0 ≤ pF l i∧pF l i ≤ 1099511627776) {q:Int} (q1:0 ≤ q) (q2:q ≤ 1099511627776) (hc:chainB l = true) (h0:pF l 0 = 0) (hl:0 < l.length) :
  ∃ (k:Nat) (f:Bool),slices_BinarySearchFunc_int64.sh F l q fn_normal_At_c1 = some (((k:Int),f,()),())∧isAt l q (bif f then k else k - 1)∧(f = false→1 ≤ k)∧k ≤ l.length:=by
 unfold slices_BinarySearchFunc_int64.sh
 obtain ⟨k,j',b,e,k1,k2,k3⟩:=bs_l3 F (fun x2 target2 cmp2 n2 i2 j2 t172=>(bif decide (i2 < n2) then bif idx i2 x2.length then oB (slices_BinarySearchFunc_int64.d46 F cmp2 ((get tPiece x2 i2.toNat),target2,())) fun c_3 =>
   some ((i2,(c_3.1.1 == 0),()),())
  else none
 else some ((i2,false,()),()):Option slices_BinarySearchFunc_int64.sg.R)) hn hb q1 q2 (l.length:Int) hc F 0 l.length (by omega) (by omega) (by omega) (fun k hk=>by omega) (fun k h1 h2=>by omega)
 rw [show ((0:Nat):Int) = 0 from rfl] at e
 rw [e]
 by_cases hk:k < l.length
 ·obtain ⟨b1,b2⟩:=hb k hk
  have ed:slices_BinarySearchFunc_int64.d46 F fn_normal_At_c1 (get tPiece l k,q,()) = some ((sgF (pF l k) q,()),()):=rfl
  rw [decide_eq_true (show (k:Int) < (l.length:Int) by omega),rg_idx hk,Int.toNat_natCast,ed,oB_some,sgF_eq b1 b2 q1 q2]
  simp only [cond_true]
  have h6:=k3 k (by omega) hk
  by_cases hq:pF l k = q
  ·rw [decide_eq_true hq]
   refine ⟨k,true,rfl,⟨hk,by simp only [cond_true]; omega,fun j h1 h2=>by simp only [cond_true] at h1; have:=chain_lt' hc h1 h2; omega⟩,(fun h=>?_),k1⟩
   cases h
  ·rw [decide_eq_false hq]
   have hk1:1 ≤ k:=by
    rcases Nat.eq_zero_or_pos k with h | h
    ·subst h; omega
    ·exact h
   exact ⟨k,false,rfl,⟨by simp only [cond_false]; omega,by simp only [cond_false]; have:=k2 (k - 1) (by omega); omega,fun j h1 h2=>by
    simp only [cond_false] at h1
    rcases Nat.lt_or_ge k j with h' | h'
    ·have:=chain_lt' hc h' h2; omega
    ·have:j = k:=by omega
     subst this; omega⟩,fun _=>hk1,k1⟩
 ·rw [decide_eq_false (show ¬ (k:Int) < (l.length:Int) by omega)]
  exact ⟨k,false,rfl,⟨by simp only [cond_false]; omega,by simp only [cond_false]; have:=k2 (k - 1) (by omega); omega,fun j h1 h2=>by simp only [cond_false] at h1; omega⟩,fun _=>by omega,k1⟩
def okTab (t:tTable.T):Prop:=1 ≤ t.1∧t.1 ≤ 1000000000000∧0 ≤ t.2.1∧t.2.1 ≤ 6∧0 < t.2.2.length∧t.2.2.length ≤ 256∧pF t.2.2 0 = 0∧chainB t.2.2 = true
theorem tableB_iff {t:tTable.T}:tableB t = true ↔ okTab t:=by
 unfold tableB okTab pF
 simp only [Bool.and_eq_true,Bool.not_eq_true',decide_eq_false_iff_not,beq_iff_eq]
 constructor
 ·rintro ⟨h1,h2,h3,h4,h5,h6,h7,h8⟩
  exact ⟨Int.not_lt.1 h1,Int.not_lt.1 h2,Int.not_lt.1 h3,Int.not_lt.1 h4,by omega,by omega,h7,h8⟩
 ·rintro ⟨h1,h2,h3,h4,h5,h6,h7,h8⟩
  exact ⟨Int.not_lt.2 h1,Int.not_lt.2 h2,Int.not_lt.2 h3,Int.not_lt.2 h4,by omega,by omega,h7,h8⟩
theorem pairB_le {a b:tPiece.T} (h:pairB a b = true):b.1 ≤ 1099511627776:=by
 unfold pairB at h
 simp only [Bool.and_eq_true,Bool.not_eq_true',decide_eq_false_iff_not] at h
 exact Int.not_lt.1 h.2.1
theorem chain_le:∀ {l:List tPiece.T},chainB l = true→∀ i,i + 1 < l.length→pF l (i + 1) ≤ 1099511627776
 | [],h,i,hi=>by simp at hi
 | [a],h,i,hi=>by simp at hi
 | a :: b :: r,h,i,hi=>by
  have h':(pairB a b && chainB (b :: r)) = true:=h
  rw [Bool.and_eq_true] at h'
  cases i with
  | zero=>exact pairB_le h'.1
  | succ i=>rw [pF_cons]; exact chain_le h'.2 i (by simpa using hi)
theorem okTab_bd {t:tTable.T} (h:okTab t) (i:Nat) (hi:i < t.2.2.length):0 ≤ pF t.2.2 i∧pF t.2.2 i ≤ 1099511627776:=by
 obtain ⟨_,_,_,_,h5,h6,h7,h8⟩:=h
 cases i with
 | zero=>omega
 | succ i =>
  have:=chain_lt' h8 (i:=0) (j:=i + 1) (by omega) hi
  have:=chain_le h8 i hi
  omega
theorem isAt_ex {t:tTable.T} (h:okTab t) {q:Int} (q1:0 ≤ q):∃ k,isAt t.2.2 q k:=by
 obtain ⟨_,_,_,_,h5,h6,h7,h8⟩:=h
 obtain ⟨k,_,hk⟩:=find_eq 300 (by omega) h6 h5 h8 (q:=q) (by omega)
 exact ⟨k,hk⟩
theorem at_eq (F:Nat) (hF:257 < F) {t:tTable.T} (hw:∀ p ∈ t.2.2,wfL p.2) (h:okTab t) {q:Int} (q1:0 ≤ q) (q2:q ≤ 1099511627776) {k:Nat} (hk:isAt t.2.2 q k) :
  normal_At.sh F t q = line_Value.sh F (get tPiece t.2.2 k).2 t.1 q:=by
 have hb:=okTab_bd h
 have ht:=tableB_iff.2 h
 obtain ⟨_,_,_,_,h5,h6,h7,h8⟩:=h
 unfold normal_At.sh
 rw [check12_eq F (by omega),oB_some,ht,decide_eq_false (show ¬ q < 0 by omega),decide_eq_false (show ¬ q > 1099511627776 by omega)]
 simp only [Bool.not_true,cond_false]
 obtain ⟨j,f,e,a1,a2,a3⟩:=bs_eq F hF h6 hb q1 q2 h8 h7 h5
 rw [e,oB_some]
 have hj:=isAt_inj hk a1
 have hl:∀ r,line_Value.sh F (get tPiece t.2.2 k).2 t.1 q = some r→(oB (line_Value.sh F (get tPiece t.2.2 k).2 t.1 q) fun c_3=>(some ((c_3.1.1,c_3.1.2.1,()),()):Option line_Value.sg.R)) = line_Value.sh F (get tPiece t.2.2 k).2 t.1 q:=by
  intro r hr
  rw [hr]
  rfl
 cases f with
 | true =>
  simp only [cond_true] at hj
  subst hj
  simp only [Bool.not_true,cond_false,normal_At.j6]
  rw [rg_idx hk.1,Int.toNat_natCast]
  simp only [cond_true]
  have hm:get tPiece t.2.2 k ∈ t.2.2:=by
   unfold get
   rw [List.getD_eq_getElem?_getD,List.getElem?_eq_getElem hk.1]
   exact List.getElem_mem _
  exact hl _ (lvalue_eq F (hw _ hm) t.1 q)
 | false =>
  simp only [cond_false] at hj
  have:=a2 rfl
  simp only [Bool.not_false,cond_true,normal_At.j6]
  rw [wrap_i64 (n:=(j:Int) - 1) (by omega) (by omega),show (j:Int) - 1 = ((j - 1:Nat):Int) by omega,← hj,rg_idx hk.1,Int.toNat_natCast]
  simp only [cond_true]
  have hm:get tPiece t.2.2 k ∈ t.2.2:=by
   unfold get
   rw [List.getD_eq_getElem?_getD,List.getElem?_eq_getElem hk.1]
   exact List.getElem_mem _
  exact hl _ (lvalue_eq F (hw _ hm) t.1 q)
theorem at_bad (F:Nat) (hF:257 < F) {t:tTable.T} {q:Int} (h:tableB t = false ∨ q < 0 ∨ q > 1099511627776):normal_At.sh F t q = some ((mk 0,1,()),()):=by
 unfold normal_At.sh
 rw [check12_eq F (by omega),oB_some]
 cases ht:tableB t with
 | false=>rfl
 | true =>
  rw [ht] at h
  simp only [Bool.not_true,cond_false]
  by_cases h1:q < 0
  ·rw [decide_eq_true h1]; rfl
  ·rw [decide_eq_false h1]
   by_cases h2:q > 1099511627776
   ·rw [decide_eq_true h2]; rfl
   ·rcases h with h | h | h
    ·cases h
    ·exact absurd h h1
    ·exact absurd h h2
theorem get_set_eq {l:List Int} {i:Nat} {v:Int} (h:i < l.length):get (.int .i64) (l.set i v) i = v:=by
 unfold get
 rw [List.getD_eq_getElem?_getD,List.getElem?_set_self h]
 rfl
theorem get_set_ne {l:List Int} {i j:Nat} {v:Int} (h:j ≠ i):get (.int .i64) (l.set i v) j = get (.int .i64) l j:=by
 unfold get
 rw [List.getD_eq_getElem?_getD,List.getD_eq_getElem?_getD,List.getElem?_set_ne (Ne.symm h)]
theorem map_drop {ps:List PZ} {a:Nat} {p:PZ} {r:List PZ} (h:ps.drop a = p :: r):(ps.map wP).drop a = wP p :: r.map wP:=by
 rw [← List.map_drop,h]; rfl
theorem md_l11 (F:Nat)
  (of:Nat×tNormal_maker.T) (kids:List (List tPiece.T)) (runs q next:Int) (t30:List (List tPiece.T)) (t31 t32:Int) (m:tNormal_maker.T) (out:List tPiece.T) (lines:List tLine.T) {ps:List PZ} (hps:ps.length ≤ 256) (i:Nat) :
  ∀ (r:List PZ) (p:PZ) (a fu:Nat) (at_:List Int),ps.drop a = p :: r→i < at_.length→get (.int .i64) at_ i = (a:Int)→r.length < fu →
  ∃ (a':Nat) (p':PZ) (r':List PZ) (b:Bool) (at':List Int),ps.drop a' = p' :: r'∧(∀ x,q ≤ x→lineAt (p' :: r') x = lineAt (p :: r) x)∧(∀ x n,q ≤ x→nextAt (p' :: r') x n = nextAt (p :: r) x n)∧(∀ y r2,r' = y :: r2→q < y.1) ∧
   at'.length = at_.length∧get (.int .i64) at' i = (a':Int)∧(∀ j,j ≠ i→get (.int .i64) at' j = get (.int .i64) at_ j) ∧
   ∀ {R:Type} (k0:(Nat×tNormal_maker.T)→(List (List tPiece.T))→Int→Int→Int→Int→(List tPiece.T)→(List (List tPiece.T))→Int→Int→Bool→tNormal_maker.T→(List tPiece.T)→(List Int)→(List tLine.T)→Option R),normal_maker_made.l11 F k0 fu of kids runs q next (i:Int) (ps.map wP) t30 t31 t32 m out at_ lines = k0 of kids runs q next (i:Int) (ps.map wP) t30 t31 t32 b m out at' lines
 | r,p,a,0,at_,h,hi,hg,hf=>by omega
 | [],p,a,fu + 1,at_,h,hi,hg,hf=>by
  have hl:=congrArg List.length h
  simp only [List.length_drop,List.length_cons,List.length_nil] at hl
  refine ⟨a,p,[],false,at_,h,fun _ _=>rfl,fun _ _ _=>rfl,(fun y r2 e=>by cases e),rfl,hg,fun _ _=>rfl,fun k0=>?_⟩
  simp only [normal_maker_made.l11,normal_maker_made.l11.body,rg_idx hi,Int.toNat_natCast,hg,List.length_map]
  rw [wrap_i64 (n:=(a:Int) + 1) (by omega) (by omega),decide_eq_false (show ¬ (a:Int) + 1 < (ps.length:Int) by omega)]
  rfl
 | y :: r,p,a,fu + 1,at_,h,hi,hg,hf=>by
  have hl:=congrArg List.length h
  simp only [List.length_drop,List.length_cons] at hl
  have h2:=rg_next h
  have g2:=rg_get (t:=tPiece) (map_drop h2)
  have w:IntKind.i64.wrap ((a:Int) + 1) = ((a + 1:Nat):Int):=by rw [wrap_i64 (by omega) (by omega)]; simp
  by_cases hq:y.1 ≤ q
  ·obtain ⟨a',p',r',b,at',e1,e2,e3,e4,e5,e6,e7,e8⟩:=md_l11 F of kids runs q next t30 t31 t32 m out lines hps i r y (a + 1) fu (at_.set i ((a + 1:Nat):Int)) h2 (by simpa using hi) (get_set_eq hi) (by simp at hf; omega)
   refine ⟨a',p',r',b,at',e1,fun x hx=>?_,fun x n hx=>?_,e4,by simpa using e5,e6,fun j hj=>(by rw [e7 j hj,get_set_ne hj]),?_⟩
   ·rw [e2 x hx,lineAt_two,decide_eq_true (show y.1 ≤ x by omega)]; rfl
   ·rw [e3 x n hx,nextAt_two,decide_eq_true (show y.1 ≤ x by omega)]; rfl
   ·intro R k0
    rw [← e8 k0]
    simp only [normal_maker_made.l11,normal_maker_made.l11.body,rg_idx hi,Int.toNat_natCast,hg,List.length_map,w]
    rw [decide_eq_true (show ((a + 1:Nat):Int) < (ps.length:Int) by omega),rg_idx (show a + 1 < ps.length by omega),show get tPiece (ps.map wP) (a + 1) = wP y from g2]
    simp only [cond_true]
    rw [show decide ((wP y).1 ≤ q) = true from decide_eq_true hq]
    rfl
  ·refine ⟨a,p,y :: r,false,at_,h,fun _ _=>rfl,fun _ _ _=>rfl,(fun z r2 e=>?_),rfl,hg,fun _ _=>rfl,?_⟩
   ·have e:y = z:=by injection e
    rw [← e]; omega
   ·intro R k0
    simp only [normal_maker_made.l11,normal_maker_made.l11.body,rg_idx hi,Int.toNat_natCast,hg,List.length_map,w]
    rw [decide_eq_true (show ((a + 1:Nat):Int) < (ps.length:Int) by omega),rg_idx (show a + 1 < ps.length by omega),show get tPiece (ps.map wP) (a + 1) = wP y from g2]
    simp only [cond_true]
    rw [show decide ((wP y).1 ≤ q) = false from decide_eq_false hq]
    rfl
def atOK (q:Int) (ps:List PZ) (v:Int):Prop:=∃ (a:Nat) (p:PZ) (r:List PZ),v = (a:Int)∧ps.drop a = p :: r∧(∀ x,q ≤ x→lineAt (p :: r) x = lineAt ps x)∧∀ x n,q ≤ x→nextAt (p :: r) x n = nextAt ps x n
theorem atOK.mono {q q':Int} {ps:List PZ} {v:Int} (h:atOK q ps v) (hq:q ≤ q'):atOK q' ps v:=by
 obtain ⟨a,p,r,h1,h2,h3,h4⟩:=h
 exact ⟨a,p,r,h1,h2,fun x hx=>h3 x (by omega),fun x n hx=>h4 x n (by omega)⟩
theorem at_zero {q:Int} {ps:List PZ} (h:ps ≠ []):atOK q ps 0:=by
 cases ps with
 | nil=>exact absurd rfl h
 | cons p r=>exact ⟨0,p,r,rfl,rfl,fun _ _=>rfl,fun _ _ _=>rfl⟩
def nxOf (r:List PZ) (n:Int):Int:=match r with | []=>n | y :: _=>if y.1 < n then y.1 else n
theorem next_now {q n:Int} {p:PZ} {r:List PZ} (h:∀ y r2,r = y :: r2→q < y.1):lineAt (p :: r) q = p.2∧nextAt (p :: r) q n = nxOf r n:=by
 cases r with
 | nil=>exact ⟨rfl,rfl⟩
 | cons y r =>
  have:=h y r rfl
  rw [lineAt_two,nextAt_two,decide_eq_false (show ¬ y.1 ≤ q by omega)]
  exact ⟨rfl,rfl⟩
theorem md_l9 (F:Nat) (hF:300 < F)
  (of:Nat×tNormal_maker.T) (kids:List (List tPiece.T)) (runs q:Int) (m:tNormal_maker.T) (out:List tPiece.T) {KS:List (List PZ)} (hK:∀ ps ∈ KS,ps.length ≤ 256) (hK16:KS.length ≤ 16) :
  ∀ (ks:List (List PZ)) (i fu:Nat) (next:Int) (at_:List Int) (lines:List tLine.T),KS.drop i = ks→at_.length = KS.length→(∀ j,j < KS.length→atOK q (KS.getD j []) (get (.int .i64) at_ j))→lines.length = KS.length→ks.length < fu →
  ∃ (at':List Int) (x:Int),at'.length = KS.length∧(∀ j,j < KS.length→atOK q (KS.getD j []) (get (.int .i64) at' j)) ∧
   ∀ {R:Type} (k0:(Nat×tNormal_maker.T)→(List (List tPiece.T))→Int→Int→Int→(List (List tPiece.T))→Int→Int→Bool→tNormal_maker.T→(List tPiece.T)→(List Int)→(List tLine.T)→Option R),normal_maker_made.l9 F k0 fu of kids runs q next (KS.map fun ps=>ps.map wP) (KS.length:Int) (i:Int) m out at_ lines =
   k0 of kids runs q (nextK ks q next) (KS.map fun ps=>ps.map wP) (KS.length:Int) x false m out at' (lines.take i ++ ks.map fun ps=>wL (lineAt ps q))
 | ks,i,0,next,at_,lines,h,ha,hat,hl,hf=>by omega
 | [],i,fu + 1,next,at_,lines,h,ha,hat,hl,hf=>by
  have:=rg_end h
  refine ⟨at_,(i:Int),ha,hat,fun k0=>?_⟩
  simp only [normal_maker_made.l9,normal_maker_made.l9.body]
  rw [decide_eq_false (show ¬ (i:Int) < (KS.length:Int) by omega),List.take_of_length_le (by omega)]
  simp [nextK]
 | ps :: ks,i,fu + 1,next,at_,lines,h,ha,hat,hl,hf=>by
  have hlt:=rg_len h
  have hps:KS.getD i [] = ps:=by
   have:=congrArg (·[0]?) h
   rw [List.getD_eq_getElem?_getD]
   simp at this
   rw [this]; rfl
  have hmem:ps ∈ KS:=by
   rw [← hps,List.getD_eq_getElem?_getD,List.getElem?_eq_getElem hlt]
   exact List.getElem_mem _
  have hp256:=hK ps hmem
  have hgk:get (.sl tPiece) (KS.map fun ps=>ps.map wP) i = ps.map wP:=by
   unfold get
   rw [List.getD_eq_getElem?_getD,List.getElem?_map,List.getElem?_eq_getElem hlt]
   rw [List.getD_eq_getElem?_getD,List.getElem?_eq_getElem hlt] at hps
   have hps:KS[i] = ps:=hps
   rw [← hps]; rfl
  have hai:=hat i hlt
  rw [hps] at hai
  obtain ⟨a,p,r,v1,v2,v3,v4⟩:=hai
  have hd:=congrArg List.length v2
  simp only [List.length_drop,List.length_cons] at hd
  obtain ⟨a',p',r',b,at',e1,e2,e3,e4,e5,e6,e7,e8⟩:=md_l11 F of kids runs q next (KS.map fun ps=>ps.map wP) (KS.length:Int) (i:Int) m out lines hp256 i r p a F at_ v2 (by omega) v1 (by omega)
  have hl2:=congrArg List.length e1
  simp only [List.length_drop,List.length_cons] at hl2
  have w:IntKind.i64.wrap ((a':Int) + 1) = ((a' + 1:Nat):Int):=by rw [wrap_i64 (by omega) (by omega)]; simp
  have wi:IntKind.i64.wrap ((i:Int) + 1) = ((i + 1:Nat):Int):=by rw [wrap_i64 (by omega) (by omega)]; simp
  have gp:=rg_get (t:=tPiece) (map_drop e1)
  rw [Int.toNat_natCast] at gp
  have hnow:=next_now (n:=next) (p:=p') e4
  have el:lineAt ps q = p'.2:=by rw [← v3 q (Int.le_refl _),← e2 q (Int.le_refl _)]; exact hnow.1
  have en:nextAt ps q next = nxOf r' next:=by rw [← v4 q next (Int.le_refl _),← e3 q next (Int.le_refl _)]; exact hnow.2
  have hat':∀ j,j < KS.length→atOK q (KS.getD j []) (get (.int .i64) at' j):=fun j hj=>by
   by_cases hji:j = i
   ·subst hji
    rw [hps,e6]
    exact ⟨a',p',r',rfl,e1,fun x hx=>by rw [e2 x hx,v3 x hx],fun x n hx=>by rw [e3 x n hx,v4 x n hx]⟩
   ·rw [e7 j hji]; exact hat j hj
  have hset:∀ v:tLine.T,(lines.set i v).take (i + 1) = lines.take i ++ [v]:=fun v=>by
   rw [List.take_set,List.take_add_one,List.getElem?_eq_getElem (by omega)]
   have:(lines.take i).length = i:=by simp; omega
   rw [Option.toList_some,List.set_append_right _ _ (by omega),this,Nat.sub_self]
   rfl
  have hstart:∀ {R:Type} (k0:(Nat×tNormal_maker.T)→(List (List tPiece.T))→Int→Int→Int→(List (List tPiece.T))→Int→Int→Bool→tNormal_maker.T→(List tPiece.T)→(List Int)→(List tLine.T)→Option R),
    normal_maker_made.l9 F k0 (fu + 1) of kids runs q next (KS.map fun ps=>ps.map wP) (KS.length:Int) (i:Int) m out at_ lines =
    normal_maker_made.l9 F k0 fu of kids runs q (nxOf r' next) (KS.map fun ps=>ps.map wP) (KS.length:Int) ((i + 1:Nat):Int) m out at' (lines.set i (wP p').2):=by
   intro R k0
   simp only [normal_maker_made.l9,normal_maker_made.l9.body]
   rw [decide_eq_true (show (i:Int) < (KS.length:Int) by omega),rg_idx (show i < (KS.map fun ps=>ps.map wP).length by simpa using hlt),Int.toNat_natCast,hgk,e8]
   rw [rg_idx (show i < at'.length by omega),rg_idx (show i < lines.length by omega),Int.toNat_natCast,e6,w,wi,rg_idx (show a' < (ps.map wP).length by simp; omega),Int.toNat_natCast,Int.toNat_natCast,gp,List.length_map]
   cases r' with
   | nil =>
    simp only [List.length_nil] at hl2
    rw [decide_eq_false (show ¬ ((a' + 1:Nat):Int) < (ps.length:Int) by omega)]
    rfl
   | cons y r2 =>
    simp only [List.length_cons] at hl2
    have gy:=rg_get (t:=tPiece) (map_drop (rg_next e1))
    rw [Int.toNat_natCast] at gy
    rw [decide_eq_true (show ((a' + 1:Nat):Int) < (ps.length:Int) by omega),rg_idx (show a' + 1 < ps.length by omega),gy]
    rfl
  obtain ⟨at2,x,f1,f2,f3⟩:=md_l9 F hF of kids runs q m out hK hK16 ks (i + 1) fu (nxOf r' next) at' (lines.set i (wP p').2) (rg_next h) (by omega) hat' (by simpa using hl) (by simp at hf; omega)
  refine ⟨at2,x,f1,f2,fun k0=>(hstart k0).trans ((f3 k0).trans ?_)⟩
  rw [hset,show nextK (ps :: ks) q next = nextK ks q (nextAt ps q next) from rfl,en,List.map_cons,el,List.append_assoc]
  rfl
theorem md_l19 (F:Nat) (hF:70 < F)
  (T:List tLine.T) (N:Int) (of:Nat×tNormal_maker.T) (kids:List (List tPiece.T)) (runs q:Int) (m:tNormal_maker.T) (l:tLine.T) (out:List tPiece.T) (at_:List Int) (lines:List tLine.T) (hq:fitB m.2.2 q = true) :
  ∀ (ts:List LZ) (i next:Int),(∀ t ∈ ts,spanZ m.2.2 t ≤ LIM)→∃ i':Int,∀ {R:Type} (k0:(Nat×tNormal_maker.T)→(List (List tPiece.T))→Int→Int→Int→(List tLine.T)→Int→Int→Bool→tNormal_maker.T→tLine.T→(List tPiece.T)→(List Int)→(List tLine.T)→Option R),normal_maker_made.l19.rg F k0 T N (ts.map wL) i of kids runs q next m l out at_ lines = k0 of kids runs q (nextT m.2.2 q ts next) T N i' (decide (i' < N)) m l out at_ lines
 | [],i,next,h=>⟨i,fun k0=>rfl⟩
 | t :: ts,i,next,h=>by
  obtain ⟨f,e,hf⟩:=flip_eq F hF (h t (by simp)) hq
  obtain ⟨i',ih⟩:=md_l19 F hF T N of kids runs q m l out at_ lines hq ts (i + 1) (if f < next then f else next) (fun x hx=>h x (List.mem_cons_of_mem _ hx))
  refine ⟨i',fun k0=>?_⟩
  rw [List.map_cons,normal_maker_made.l19.rg,e,oB_some]
  show normal_maker_made.l19.rg F k0 T N (ts.map wL) (i + 1) of kids runs q (if f < next then f else next) m l out at_ lines = _
  rw [ih]
  have e2:nextT m.2.2 q (t :: ts) next = nextT m.2.2 q ts (if flipZ m.2.2 t q < next then flipZ m.2.2 t q else next):=rfl
  rw [e2,flipZ_eq hf]
theorem lineB_w {x y:LZ}:lineB (wL x) (wL y) = decide (x = y):=by
 by_cases h:x = y
 ·rw [decide_eq_true h,h]; exact lineB_iff.2 rfl
 ·rw [decide_eq_false h]
  cases hb:lineB (wL x) (wL y) with
  | false=>rfl
  | true=>exact absurd (wL_inj (s:=1) (by omega) (lineB_iff.1 hb)) h
theorem last_get {out:List PZ} {p:PZ} (h:out.getLast? = some p):get tPiece (out.map wP) (out.length - 1) = wP p:=by
 unfold get
 rw [List.getD_eq_getElem?_getD,List.getElem?_map]
 rw [List.getLast?_eq_getElem?] at h
 rw [h]; rfl
def Calls (F:Nat) (of:Nat×tNormal_maker.T) (c:List LZ→Int→LZ×List LZ) (s:Int) (kids:List (List PZ)):Prop :=
 ∀ q,0 ≤ q→q ≤ 1099511627776→normal_maker_made.d99 F of.1 (of.2,(kids.map fun ps=>wL (lineAt ps q)),q,()) = some ((wL (c (kids.map fun ps=>lineAt ps q) q).1,(c (kids.map fun ps=>lineAt ps q) q).2.map wL,()),()) ∧
  (∀ t ∈ (c (kids.map fun ps=>lineAt ps q) q).2,spanZ s t ≤ LIM)∧(c (kids.map fun ps=>lineAt ps q) q).2.length ≤ 16
noncomputable def mdN (c:List LZ→Int→LZ×List LZ) (s:Int) (kids:List (List PZ)) (n:Nat) (q:Int) (out:List PZ):Option (List PZ) :=
 match n with | 0=>none | n + 1=>(if out.length > 256 then none else mdZ c s kids n (nextZ c s kids q) out)
theorem md_l6 (F:Nat) (hF:300 < F) {R:Type} (k0:(List tPiece.T)→Bool→Option R) (k1:List tPiece.T→Option R) (of:Nat×tNormal_maker.T) {KS:List (List PZ)} (hK:∀ ps ∈ KS,ps.length ≤ 256) (hK16:KS.length ≤ 16)
  (m:tNormal_maker.T) (hs:1 ≤ m.2.2) (hs2:m.2.2 ≤ 1000000000000) {c:List LZ→Int→LZ×List LZ} (hc:Calls F of c m.2.2 KS) (hnx:∀ q,0 ≤ q→q ≤ 1099511627776→q < nextZ c m.2.2 KS q) :
  ∀ (n fu:Nat) (runs q:Int) (out:List PZ) (at_:List Int) (lines:List tLine.T),runs = 4096 - (n:Int)→n ≤ 4096→n < fu→0 ≤ q→out.length ≤ 256→at_.length = KS.length→(∀ j,j < KS.length→atOK q (KS.getD j []) (get (.int .i64) at_ j))→lines.length = KS.length →
   normal_maker_made.l6 F k0 (fun _ _ _ _ _ _ out _ _=>k1 out) fu of (KS.map fun ps=>ps.map wP) runs q m (out.map wP) at_ lines =
    match mdZ c m.2.2 KS n q out with | some res=>k1 (res.map wP) | none=>k0 [] false:=by
 intro n fu
 induction fu generalizing n with
 | zero=>intro runs q out at_ lines hr hn hf; omega
 | succ fu ih =>
  intro runs q out at_ lines hr hn hf h0 ho ha hat hl
  by_cases hq:q ≤ 1099511627776
  ·obtain ⟨c1,c2,c3⟩:=hc q h0 hq
   have hfq:fitB m.2.2 q = true:=fitB_iff.2 ⟨hs,hs2,h0,hq⟩
   obtain ⟨at',x,b1,b2,b3⟩:=md_l9 F hF of (KS.map fun ps=>ps.map wP) runs q m (out.map wP) hK hK16 KS 0 F 1099511627777 at_ lines rfl ha hat hl (by omega)
   have hnx:=hnx q h0 hq
   have hmd:mdZ c m.2.2 KS n q out = mdN c m.2.2 KS n q (putZ out q (c (KS.map fun ps=>lineAt ps q) q).1):=by
    cases n with
    | zero=>simp only [mdZ,mdN,decide_eq_true hq,cond_true]
    | succ n=>simp only [mdZ,mdN,decide_eq_true hq,cond_true]
   have hnz:nextT m.2.2 q (c (KS.map fun ps=>lineAt ps q) q).2 (nextK KS q 1099511627777) = nextZ c m.2.2 KS q:=rfl
   generalize hL:(c (KS.map fun ps=>lineAt ps q) q).1 = l at *
   generalize hT:(c (KS.map fun ps=>lineAt ps q) q).2 = tn at *
   simp only [normal_maker_made.l6,normal_maker_made.l6.body]
   rw [decide_eq_true hq,show ((KS.map fun ps=>ps.map wP).length:Int) = (KS.length:Int) by simp]
   simp only [cond_true]
   have b3':=@b3 R
   rw [show ((0:Nat):Int) = 0 from rfl] at b3'
   rw [b3',List.take_zero,List.nil_append,c1,oB_some]
   have hrg:=fun k=>normal_maker_made.l19.rg_eq (R:=R) F k (tn.map wL) ((tn.map wL).length:Int) rfl (by simp; omega) (tn.map wL) 0 F of (KS.map fun ps=>ps.map wP) runs q (nextK KS q 1099511627777) m (wL l) (out.map wP) at' (KS.map fun ps=>wL (lineAt ps q)) rfl (by simp; omega)
   rw [show ((0:Nat):Int) = 0 from rfl] at hrg
   rw [hrg]
   obtain ⟨i',e19⟩:=md_l19 F (by omega) (tn.map wL) ((tn.map wL).length:Int) of (KS.map fun ps=>ps.map wP) runs q m (wL l) (out.map wP) at' (KS.map fun ps=>wL (lineAt ps q)) hfq tn 0 (nextK KS q 1099511627777) c2
   rw [e19,hnz,hmd]
   have hl5:(KS.map fun ps=>wL (lineAt ps q)).length = KS.length:=by simp
   have hat5:∀ j,j < KS.length→atOK (nextZ c m.2.2 KS q) (KS.getD j []) (get (.int .i64) at' j):=fun j hj=>(b2 j hj).mono (by omega)
   have common:∀ out':List PZ,(bif decide (IntKind.i64.wrap (runs + 1) > 4096) then k0 [] false else bif decide (((out'.map wP).length:Int) > 256) then k0 [] false
     else normal_maker_made.l6 F k0 (fun _ _ _ _ _ _ out _ _=>k1 out) fu of (KS.map fun ps=>ps.map wP) (IntKind.i64.wrap (runs + 1)) (nextZ c m.2.2 KS q) m (out'.map wP) at' (KS.map fun ps=>wL (lineAt ps q))) =
     match mdN c m.2.2 KS n q out' with | some res=>k1 (res.map wP) | none=>k0 [] false:=by
    intro out'
    rw [wrap_i64 (n:=runs + 1) (by omega) (by omega)]
    cases n with
    | zero=>rw [decide_eq_true (show runs + 1 > 4096 by omega)]; rfl
    | succ n =>
     rw [decide_eq_false (show ¬ runs + 1 > 4096 by omega)]
     simp only [cond_false]
     by_cases ho:out'.length > 256
     ·rw [decide_eq_true (show ((out'.map wP).length:Int) > 256 by simp; omega)]
      simp only [mdN,if_pos ho,cond_true]
     ·rw [decide_eq_false (show ¬ ((out'.map wP).length:Int) > 256 by simp; omega)]
      simp only [mdN,if_neg ho,cond_false]
      exact ih n (runs + 1) (nextZ c m.2.2 KS q) out' at' (KS.map fun ps=>wL (lineAt ps q)) (by omega) (by omega) (by omega) (by omega) (by omega) b1 hat5 hl5
   have hble:Nat.ble ((out.map wP).length + ([(q,wL l)]:List tPiece.T).length) maxN = true:=ble_of (by simp; omega)
   have hsn:out.map wP ++ ([(q,wL l)]:List tPiece.T) = (out ++ [(q,l)]).map wP:=by rw [List.map_append]; rfl
   cases hout:out with
   | nil =>
    have c0:=common [(q,l)]
    rw [hout] at hble hsn
    have hp:putZ [] q l = [(q,l)]:=by unfold putZ lastL; rw [if_neg (by simp)]; rfl
    rw [hp]
    rw [show (((([]:List PZ).map wP).length:Int) == 0) = true from rfl,hble,hsn]
    simp only [cond_true]
    exact c0
   | cons a r =>
    have hne:out ≠ []:=by rw [hout]; simp
    obtain ⟨p,hp⟩:∃ p,out.getLast? = some p:=⟨_,List.getLast?_eq_some_getLast hne⟩
    have hlen:1 ≤ out.length:=by rw [hout]; simp
    rw [← hout]
    have hb:=lineB_w (x:=p.2) (y:=l)
    rw [show (((out.map wP).length:Int) == 0) = false by simp; omega,hble,hsn,wrap_i64 (n:=((out.map wP).length:Int) - 1) (by simp; omega) (by simp; omega),
     show ((out.map wP).length:Int) - 1 = ((out.length - 1:Nat):Int) by simp; omega,rg_idx (show out.length - 1 < (out.map wP).length by simp; omega),Int.toNat_natCast,last_get hp]
    simp only [cond_true,cond_false]
    show (bif !(lineB (wL p.2) (wL l)) then _ else _) = _
    rw [hb]
    have hll:lastL out = some p.2:=by unfold lastL; rw [hp]; rfl
    by_cases he:p.2 = l
    ·rw [decide_eq_true he]
     have c0:=common out
     have hpz:putZ out q l = out:=by unfold putZ; rw [if_pos (by rw [hll,he])]
     rw [hpz]
     simp only [Bool.not_true,Bool.not_false,cond_true,cond_false]
     exact c0
    ·rw [decide_eq_false he]
     have c0:=common (out ++ [(q,l)])
     have hpz:putZ out q l = out ++ [(q,l)]:=by unfold putZ; rw [if_neg (by rw [hll]; simp; exact he)]
     rw [hpz]
     simp only [Bool.not_true,Bool.not_false,cond_true,cond_false]
     exact c0
  ·simp only [normal_maker_made.l6,normal_maker_made.l6.body]
   rw [decide_eq_false hq]
   have:mdZ c m.2.2 KS n q out = some out:=by
    cases n <;> simp only [mdZ,decide_eq_false hq,cond_false]
   rw [this]
   rfl
def mdR (r:Option (List PZ)):normal_maker_made.sg.R:=match r with | some res=>((res.map wP,true,()),()) | none=>(([],false,()),())
theorem made_eq (F:Nat) (hF:4200 < F) (of:Nat×tNormal_maker.T) {KS:List (List PZ)} (hK:∀ ps ∈ KS,ps.length ≤ 256) (hK16:KS.length ≤ 16) (hne:∀ ps ∈ KS,ps ≠ [])
  (m:tNormal_maker.T) (hs:1 ≤ m.2.2) (hs2:m.2.2 ≤ 1000000000000) {c:List LZ→Int→LZ×List LZ} (hc:Calls F of c m.2.2 KS) (hnx:∀ q,0 ≤ q→q ≤ 1099511627776→q < nextZ c m.2.2 KS q) :
  normal_maker_made.sh F m of (KS.map fun ps=>ps.map wP) = some (mdR (mdZ c m.2.2 KS 4096 0 [])):=by
 unfold normal_maker_made.sh
 have hz:∀ j,get (.int .i64) (zeroL (.int .i64) KS.length) j = 0:=fun j=>by
  unfold get zeroL
  rw [List.getD_eq_getElem?_getD,List.getElem?_replicate]
  split <;> rfl
 have hlen:(KS.map fun ps=>ps.map wP).length = KS.length:=by simp
 have hmx:(maxN:Int) ≥ 16:=by decide
 rw [hlen,decide_eq_true (show (0:Int) ≤ (KS.length:Int) by omega),decide_eq_true (show (KS.length:Int) ≤ (KS.length:Int) by omega),decide_eq_true (show (KS.length:Int) ≤ (maxN:Int) by omega),Int.toNat_natCast]
 simp only [Bool.and_true,cond_true]
 have:=md_l6 F (by omega) (fun r66 r76=>(some ((r66,r76,()),()):Option normal_maker_made.sg.R)) (fun out7=>normal_maker_made.j30 F (fun r68 r78=>some ((r68,r78,()),())) out7) of hK hK16 m hs hs2 hc hnx 4096 F 0 0 [] (zeroL (.int .i64) KS.length) (zeroL tLine KS.length) (by omega) (by omega) (by omega) (by omega) (by simp) (by simp [zeroL])
  (fun j hj=>by
   rw [hz]
   refine at_zero (hne _ ?_)
   rw [List.getD_eq_getElem?_getD,List.getElem?_eq_getElem hj]
   exact List.getElem_mem _) (by simp [zeroL])
 refine this.trans ?_
 unfold mdR
 cases mdZ c m.2.2 KS 4096 0 [] <;> rfl
abbrev z0:LZ:=(0,0,0)
def lessL (l:LZ) (n:Int):LZ:=subL l (constL n)
def tsAt (l:LZ) (ts:List tTier.T) (n:Nat):List LZ :=
 (if n = 0 then [] else [lessL l (tF (ts.getD (n - 1) (0,0)))]) ++ (if n < ts.length then [lessL l (tF (ts.getD n (0,0)))] else [])
def gradL (u:Int) (l:LZ) (ts:List tTier.T) (n:Nat):LZ :=
 if n = 0 then z0 else scaleL (addL (scaleL (lessL l (tF (ts.getD (n - 1) (0,0)))) (tR (ts.getD (n - 1) (0,0)))) (constL (wayT ts (n - 1)))) u
def volL (u:Int) (l:LZ) (ts:List tTier.T) (n:Nat):LZ:=if n = 0 then z0 else scaleL (scaleL l (tR (ts.getD (n - 1) (0,0)))) u
def offP (N a:Int):Int:=divM 2 (a * (10000 - N)) 10000
def offL (N:Int) (l:LZ):LZ:=(offP N l.1,offP N l.2.1,offP N l.2.2)
def chZ (n:tNode.T) (u s:Int) (k:List LZ) (q:Int):LZ×List LZ :=
 bif nK n == 5 then (subL z0 (k.getD 0 z0),[])
 else bif nK n == 6 then (addL (k.getD 0 z0) (k.getD 1 z0),[])
 else bif nK n == 7 then (subL (k.getD 0 z0) (k.getD 1 z0),[])
 else bif nK n == 8 then ((if k.getD 0 z0 = constL (k.getD 0 z0).1 then scaleL (k.getD 1 z0) (k.getD 0 z0).1 else scaleL (k.getD 0 z0) (k.getD 1 z0).1),[])
 else bif nK n == 9 then ((bif abvZ s (subL (k.getD 0 z0) (k.getD 1 z0)) q then k.getD 1 z0 else k.getD 0 z0),[subL (k.getD 0 z0) (k.getD 1 z0)])
 else bif nK n == 10 then ((bif abvZ s (subL (k.getD 1 z0) (k.getD 0 z0)) q then k.getD 1 z0 else k.getD 0 z0),[subL (k.getD 1 z0) (k.getD 0 z0)])
 else bif nK n == 11 then ((bif abvZ s (lessL (k.getD 0 z0) (nN n)) q then lessL (k.getD 0 z0) (nN n) else z0),[lessL (k.getD 0 z0) (nN n)])
 else bif nK n == 12 then ((bif abvZ s (lessL (k.getD 0 z0) (nN n)) q then constL (nN n) else k.getD 0 z0),[lessL (k.getD 0 z0) (nN n)])
 else bif nK n == 13 then (gradL u (k.getD 0 z0) (nT n) (cntT (valZ s (k.getD 0 z0) q) (nT n)),tsAt (k.getD 0 z0) (nT n) (cntT (valZ s (k.getD 0 z0) q) (nT n)))
 else bif nK n == 14 then (volL u (k.getD 0 z0) (nT n) (cntT (valZ s (k.getD 0 z0) q) (nT n)),tsAt (k.getD 0 z0) (nT n) (cntT (valZ s (k.getD 0 z0) q) (nT n)))
 else bif nK n == 15 then (offL (nN n) (k.getD 0 z0),[])
 else ((bif holdB (nO n) (valZ s (k.getD 0 z0) q) (nN n) then k.getD 1 z0 else k.getD 2 z0),[lessL (k.getD 0 z0) (nN n),lessL (k.getD 0 z0) (nN n - 1)])
def Got (s M:Int) (W:Int→Int) (q:Int) (g:LZ×List LZ):Prop :=
 spanZ s g.1 ≤ M∧(∀ t ∈ g.2,spanZ s t ≤ LIM)∧g.2.length ≤ 16∧∀ x,(∀ t ∈ g.2,abvZ s t x = abvZ s t q)→valZ s g.1 x = W x
theorem span_z0 (s:Int):spanZ s z0 = 0:=by
 have:nA 0 = 0:=rfl
 simp [spanZ,this]
theorem val_z0 (s q:Int):valZ s z0 q = 0:=by simp [valZ]
theorem span_less {s:Int} (h:1 ≤ s) (l:LZ) (n:Int):spanZ s (lessL l n) ≤ spanZ s l + nA n:=by
 have:=span_sub h l (constL n)
 rw [span_const] at this
 exact this
theorem val_less (s:Int) (l:LZ) (n q:Int):valZ s (lessL l n) q = valZ s l q - n:=by
 unfold lessL; rw [val_sub,val_const]
theorem abv_less (s:Int) (l:LZ) (n q:Int):abvZ s (lessL l n) q = decide (n < valZ s l q):=by
 unfold abvZ; rw [val_less]; exact decide_eq_decide.2 (by omega)
theorem got_flat {s M:Int} {W:Int→Int} {q:Int} {l:LZ} (h1:spanZ s l ≤ M) (h2:∀ x,valZ s l x = W x):Got s M W q (l,[]) :=
 ⟨h1,by simp,by simp,fun x _=>h2 x⟩
theorem got_neg {s A:Int} (hs:1 ≤ s) {a:LZ} (ha:spanZ s a ≤ A) (q:Int):Got s A (fun x=>0 - valZ s a x) q (subL z0 a,[]) :=
 got_flat (by have:=span_sub hs z0 a; rw [span_z0] at this; omega) (fun x=>by rw [val_sub,val_z0])
theorem got_add {s A B:Int} (hs:1 ≤ s) {a b:LZ} (ha:spanZ s a ≤ A) (hb:spanZ s b ≤ B) (q:Int):Got s (A + B) (fun x=>valZ s a x + valZ s b x) q (addL a b,[]) :=
 got_flat (by have:=span_add hs a b; omega) (fun x=>by rw [val_add])
theorem got_sub {s A B:Int} (hs:1 ≤ s) {a b:LZ} (ha:spanZ s a ≤ A) (hb:spanZ s b ≤ B) (q:Int):Got s (A + B) (fun x=>valZ s a x - valZ s b x) q (subL a b,[]) :=
 got_flat (by have:=span_sub hs a b; omega) (fun x=>by rw [val_sub])
theorem const_eta {a:LZ} (h:a = constL a.1) (s x:Int):valZ s a x = a.1:=by rw [h,val_const]; rfl
theorem const_span {s:Int} {a:LZ} (h:a = constL a.1):spanZ s a = nA a.1:=by rw [h,span_const]; rfl
theorem got_mul {s A B:Int} (hs:1 ≤ s) {a b:LZ} (ha:spanZ s a ≤ A) (hb:spanZ s b ≤ B) (hc:a = constL a.1 ∨ b = constL b.1) (q:Int) :
  Got s (A * B) (fun x=>valZ s a x * valZ s b x) q ((if a = constL a.1 then scaleL b a.1 else scaleL a b.1),[]):=by
 have n1:=span_nn hs a
 have n2:=span_nn hs b
 have hm:spanZ s a * spanZ s b ≤ A * B:=Int.mul_le_mul ha hb n2 (by omega)
 by_cases h:a = constL a.1
 ·rw [if_pos h]
  exact got_flat (by rw [span_scale,← const_span h,Int.mul_comm]; exact hm) (fun x=>by rw [val_scale,const_eta h,Int.mul_comm])
 ·rw [if_neg h]
  have h:=hc.resolve_left h
  exact got_flat (by rw [span_scale,← const_span h]; exact hm) (fun x=>by rw [val_scale,const_eta h])
theorem got_min {s A B:Int} (hs:1 ≤ s) {a b:LZ} (ha:spanZ s a ≤ A) (hb:spanZ s b ≤ B) (hA:0 ≤ A) (hB:0 ≤ B) (hL:A + B ≤ LIM) (q:Int) :
  Got s (A + B) (fun x=>if valZ s b x < valZ s a x then valZ s b x else valZ s a x) q ((bif abvZ s (subL a b) q then b else a),[subL a b]):=by
 have hd:=span_sub hs a b
 refine ⟨by cases abvZ s (subL a b) q <;> simp only [cond_true,cond_false] <;> omega,fun t ht=>?_,by simp,fun x hx=>?_⟩
 ·rw [List.mem_singleton.1 ht]; omega
 ·rw [← hx _ (List.mem_singleton.2 rfl)]
  unfold abvZ
  rw [val_sub]
  by_cases h:valZ s b x < valZ s a x
  ·rw [decide_eq_true (show valZ s a x - valZ s b x > 0 by omega)]; exact (if_pos h).symm
  ·rw [decide_eq_false (show ¬ valZ s a x - valZ s b x > 0 by omega)]; exact (if_neg h).symm
theorem got_max {s A B:Int} (hs:1 ≤ s) {a b:LZ} (ha:spanZ s a ≤ A) (hb:spanZ s b ≤ B) (hA:0 ≤ A) (hB:0 ≤ B) (hL:A + B ≤ LIM) (q:Int) :
  Got s (A + B) (fun x=>if valZ s b x > valZ s a x then valZ s b x else valZ s a x) q ((bif abvZ s (subL b a) q then b else a),[subL b a]):=by
 have hd:=span_sub hs b a
 refine ⟨by cases abvZ s (subL b a) q <;> simp only [cond_true,cond_false] <;> omega,fun t ht=>?_,by simp,fun x hx=>?_⟩
 ·rw [List.mem_singleton.1 ht]; omega
 ·rw [← hx _ (List.mem_singleton.2 rfl)]
  unfold abvZ
  rw [val_sub]
  by_cases h:valZ s b x > valZ s a x
  ·rw [decide_eq_true (show valZ s b x - valZ s a x > 0 by omega)]; exact (if_pos h).symm
  ·rw [decide_eq_false (show ¬ valZ s b x - valZ s a x > 0 by omega)]; exact (if_neg h).symm
theorem got_over {s A N:Int} (hs:1 ≤ s) {a:LZ} (ha:spanZ s a ≤ A) (hN:0 ≤ N) (hA:0 ≤ A) (hL:A + N ≤ LIM) (q:Int) :
  Got s (A + N) (fun x=>maxL [0,valZ s a x - N]) q ((bif abvZ s (lessL a N) q then lessL a N else z0),[lessL a N]):=by
 have hd:=span_less hs a N
 rw [nA_of hN] at hd
 refine ⟨by cases abvZ s (lessL a N) q <;> simp only [cond_true,cond_false] <;> first | (rw [span_z0]; omega) | omega,fun t ht=>?_,by simp,fun x hx=>?_⟩
 ·rw [List.mem_singleton.1 ht]; omega
 ·rw [← hx _ (List.mem_singleton.2 rfl),abv_less]
  show _ = (if valZ s a x - N > 0 then valZ s a x - N else 0)
  by_cases h:N < valZ s a x
  ·rw [decide_eq_true h,if_pos (by omega),cond_true,val_less]
  ·rw [decide_eq_false h,if_neg (by omega),cond_false,val_z0]
theorem got_upto {s A N:Int} (hs:1 ≤ s) {a:LZ} (ha:spanZ s a ≤ A) (hN:0 ≤ N) (hA:0 ≤ A) (hL:A + N ≤ LIM) (q:Int) :
  Got s (A + N) (fun x=>minL [N,valZ s a x]) q ((bif abvZ s (lessL a N) q then constL N else a),[lessL a N]):=by
 have hd:=span_less hs a N
 rw [nA_of hN] at hd
 have hc:=span_const (s:=s) N
 rw [nA_of hN] at hc
 refine ⟨by cases abvZ s (lessL a N) q <;> simp only [cond_true,cond_false] <;> omega,fun t ht=>?_,by simp,fun x hx=>?_⟩
 ·rw [List.mem_singleton.1 ht]; omega
 ·rw [← hx _ (List.mem_singleton.2 rfl),abv_less]
  show _ = (if valZ s a x < N then valZ s a x else N)
  by_cases h:N < valZ s a x
  ·rw [decide_eq_true h,if_neg (by omega),cond_true,val_const]
  ·rw [decide_eq_false h]
   show valZ s a x = _
   split <;> omega
theorem scale_scale (z:LZ) (a b:Int):scaleL (scaleL z a) b = scaleL z (a * b):=by simp only [scaleL,Int.mul_assoc]
theorem offP_scale (N c:Int):offP N (c * 10000) = c * (10000 - N):=by
 unfold offP
 rw [Int.mul_right_comm,divM_exact (by decide)]
theorem offL_scale (N:Int) (z:LZ):offL N (scaleL z 10000) = scaleL z (10000 - N):=by
 unfold offL scaleL
 simp only [offP_scale]
theorem got_off {s A N:Int} (hs:1 ≤ s) {a:LZ} (ha:spanZ s a ≤ A) (hN:0 ≤ N) (hN2:N ≤ 10000) (hd:∃ z,a = scaleL z 10000) (q:Int) :
  Got s A (fun x=>divM 2 (valZ s a x * (10000 - N)) 10000) q (offL N a,[]):=by
 obtain ⟨z,rfl⟩:=hd
 rw [offL_scale]
 refine got_flat ?_ (fun x=>?_)
 ·rw [span_scale] at ha ⊢
  have:=span_nn hs z
  rw [nA_of (show 0 ≤ 10000 - N by omega)]
  rw [nA_of (by omega)] at ha
  have:=Int.mul_le_mul_of_nonneg_left (show 10000 - N ≤ 10000 by omega) this
  omega
 ·rw [val_scale,val_scale]
  exact (offP_scale N (valZ s z x)).symm
theorem got_test {s A B C N:Int} (hs:1 ≤ s) {a b c:LZ} (ha:spanZ s a ≤ A) (hb:spanZ s b ≤ B) (hc:spanZ s c ≤ C) (hN:0 ≤ N) (hA:0 ≤ A) (hB:0 ≤ B) (hC:0 ≤ C) (hL:A + N + 1 ≤ LIM) (op q:Int) :
  Got s (A + (B + C) + N) (fun x=>bif holdB op (valZ s a x) N then valZ s b x else valZ s c x) q ((bif holdB op (valZ s a q) N then b else c),[lessL a N,lessL a (N - 1)]):=by
 have h1:=span_less hs a N
 have h2:=span_less hs a (N - 1)
 rw [nA_of hN] at h1
 have h3:nA (N - 1) ≤ N + 1:=by unfold nA; omega
 refine ⟨by cases holdB op (valZ s a q) N <;> simp only [cond_true,cond_false] <;> omega,fun t ht=>?_,by simp,fun x hx=>?_⟩
 ·simp only [List.mem_cons,List.not_mem_nil,or_false] at ht
  rcases ht with rfl | rfl <;> omega
 ·have e1:=hx (lessL a N) (by simp)
  have e2:=hx (lessL a (N - 1)) (by simp)
  rw [abv_less,abv_less] at e1 e2
  have e1:=decide_eq_decide.1 e1
  have e2:=decide_eq_decide.1 e2
  have:holdB op (valZ s a x) N = holdB op (valZ s a q) N:=by
   unfold holdB
   rw [decide_eq_decide.2 (show valZ s a x < N ↔ valZ s a q < N by omega),decide_eq_decide.2 (show valZ s a x ≤ N ↔ valZ s a q ≤ N by omega),decide_eq_decide.2 (show valZ s a x > N ↔ valZ s a q > N by omega),
    decide_eq_decide.2 (show valZ s a x ≥ N ↔ valZ s a q ≥ N by omega),decide_eq_decide.2 (show valZ s a x = N ↔ valZ s a q = N by omega)]
  show valZ s (bif holdB op (valZ s a q) N then b else c) x = bif holdB op (valZ s a x) N then valZ s b x else valZ s c x
  rw [this]
  cases holdB op (valZ s a q) N <;> rfl
theorem incT_mem:∀ (l:List tTier.T) (lo:Int),incT lo l→∀ t ∈ l,lo < tF t
 | [],lo,h,t,ht=>by simp at ht
 | a :: r,lo,h,t,ht=>by
  obtain ⟨a1,a2,a3,a4,a5⟩:=h
  rcases List.mem_cons.1 ht with rfl | ht
  ·exact a1
  ·have:=incT_mem r (tF a) a5 t ht; omega
theorem tget_mem {l:List tTier.T} {n:Nat} (h:n < l.length):l.getD n (0,0) ∈ l:=by
 rw [List.getD_eq_getElem?_getD,List.getElem?_eq_getElem h]; exact List.getElem_mem _
theorem cntT_iff:∀ (l:List tTier.T) (lo:Int),incT lo l→∀ (x:Int) (n:Nat),n ≤ l.length→(0 < n→tF (l.getD (n - 1) (0,0)) < x)→(n < l.length→¬ tF (l.getD n (0,0)) < x)→cntT x l = n
 | [],lo,h,x,n,h1,h2,h3=>by simp at h1; simp [cntT,h1]
 | a :: r,lo,h,x,0,h1,h2,h3=>by
  have:¬ tF a < x:=h3 (by simp)
  simp only [cntT]; rw [if_neg this]
 | a :: r,lo,h,x,n + 1,h1,h2,h3=>by
  obtain ⟨a1,a2,a3,a4,a5⟩:=h
  have h2:tF ((a :: r).getD n (0,0)) < x:=h2 (by omega)
  have hax:tF a < x:=by
   cases n with
   | zero=>exact h2
   | succ m =>
    have:=incT_mem r (tF a) a5 _ (tget_mem (show m < r.length by simp at h1; omega))
    have h2:tF (r.getD m (0,0)) < x:=h2
    omega
  simp only [cntT]; rw [if_pos hax,cntT_iff r (tF a) a5 x n (by simpa using h1) (fun h=>by
   obtain ⟨m,rfl⟩:∃ m,n = m + 1:=⟨n - 1,by omega⟩
   exact h2) (fun h=>h3 (by simp; omega))]
theorem cntT_sp:∀ (l:List tTier.T) (x:Int),(0 < cntT x l→tF (l.getD (cntT x l - 1) (0,0)) < x)∧(cntT x l < l.length→¬ tF (l.getD (cntT x l) (0,0)) < x)
 | [],x=>by simp [cntT]
 | a :: r,x=>by
  have ih:=cntT_sp r x
  simp only [cntT]
  by_cases h:tF a < x
  ·rw [if_pos h,Nat.add_sub_cancel]
   refine ⟨fun _=>?_,fun h1=>ih.2 (by simp at h1; omega)⟩
   cases hc:cntT x r with
   | zero=>exact h
   | succ m=>have:=ih.1 (by omega); rw [hc] at this; exact this
  ·rw [if_neg h]
   exact ⟨fun h=>by omega,fun _=>h⟩
theorem le_lastF:∀ (l:List tTier.T) (lo:Int),incT lo l→∀ n,n < l.length→tF (l.getD n (0,0)) ≤ lastF l
 | [],lo,h,n,hn=>by simp at hn
 | [a],lo,h,n,hn=>by
  have:n = 0:=by simp at hn; omega
  subst this; exact Int.le_refl _
 | a :: b :: r,lo,h,0,hn=>by
  obtain ⟨a1,a2,a3,a4,a5⟩:=h
  have:=le_lastF (b :: r) (tF a) a5 0 (by simp)
  have h2:=a5.1
  have:tF b ≤ lastF (b :: r):=this
  show tF a ≤ lastF (b :: r)
  omega
 | a :: b :: r,lo,h,n + 1,hn=>by
  obtain ⟨a1,a2,a3,a4,a5⟩:=h
  exact le_lastF (b :: r) (tF a) a5 n (by simpa using hn)
theorem tier_in {l:List tTier.T} {lo:Int} (hlo:-1 ≤ lo) (hi:incT lo l) {n:Nat} (h:n < l.length):0 ≤ tF (l.getD n (0,0))∧tF (l.getD n (0,0)) ≤ lastF l∧nA (tR (l.getD n (0,0))) ≤ rateM 0 l:=by
 have hm:l.getD n (0,0) ∈ l:=tget_mem h
 have h1:=incT_mem l lo hi _ hm
 have h2:=(rateM_ge l 0).2 _ hm
 refine ⟨by omega,le_lastF l lo hi n h,?_⟩
 unfold farZ at h2
 unfold nA
 split at h2 <;> omega
theorem ts_turn {s A:Int} (hs:1 ≤ s) {a:LZ} (ha:spanZ s a ≤ A) (hA:0 ≤ A) (hL:A ≤ BND) {ts:List tTier.T} (hr:risB ts = true) (q:Int) :
  (∀ t ∈ tsAt a ts (cntT (valZ s a q) ts),spanZ s t ≤ LIM)∧(tsAt a ts (cntT (valZ s a q) ts)).length ≤ 16∧∀ x,(∀ t ∈ tsAt a ts (cntT (valZ s a q) ts),abvZ s t x = abvZ s t q)→cntT (valZ s a x) ts = cntT (valZ s a q) ts:=by
 obtain ⟨l1,l2,l3⟩:=risB_inc hr
 have hcl:=cntT_le (valZ s a q) ts
 obtain ⟨c1,c2⟩:=cntT_sp ts (valZ s a q)
 have hBND:BND = 1329227995784915872903807060280344576:=rfl
 have hLIM:LIM = 85070591730234615865843651857942052864:=rfl
 have hlf:=lastF_bd ts (-1) (by omega) l3
 generalize hn:cntT (valZ s a q) ts = n at *
 have hsp:∀ i,i < ts.length→spanZ s (lessL a (tF (ts.getD i (0,0)))) ≤ LIM:=fun i hi=>by
  have h1:=span_less hs a (tF (ts.getD i (0,0)))
  obtain ⟨t1,t2,_⟩:=tier_in (by omega) l3 hi
  rw [nA_of t1] at h1
  omega
 unfold tsAt
 refine ⟨fun t ht=>?_,by split <;> split <;> simp,fun x hx=>?_⟩
 ·rcases List.mem_append.1 ht with ht | ht
  ·split at ht
   ·simp at ht
   ·rw [List.mem_singleton.1 ht]; exact hsp _ (by omega)
  ·split at ht
   ·rw [List.mem_singleton.1 ht]; exact hsp _ (by omega)
   ·simp at ht
 ·refine cntT_iff ts (-1) l3 _ n hcl (fun h0=>?_) (fun h0=>?_)
  ·have:=hx (lessL a (tF (ts.getD (n - 1) (0,0)))) (by rw [if_neg (by omega)]; simp)
   rw [abv_less,abv_less] at this
   exact (decide_eq_decide.1 this).2 (c1 h0)
  ·have:=hx (lessL a (tF (ts.getD n (0,0)))) (by rw [if_pos h0]; simp)
   rw [abv_less,abv_less] at this
   exact fun h=>c2 h0 ((decide_eq_decide.1 this).1 h)
theorem got_grad {s A u:Int} (hs:1 ≤ s) (hu:1 ≤ u) {a:LZ} (ha:spanZ s a ≤ A) (hA:0 ≤ A) (hL:A ≤ BND) {ts:List tTier.T} (hr:risB ts = true) (q:Int) :
  Got s (scaleM u A ts) (fun x=>u * grad (valZ s a x) ts) q (gradL u a ts (cntT (valZ s a q) ts),tsAt a ts (cntT (valZ s a q) ts)):=by
 obtain ⟨l1,l2,l3⟩:=risB_inc hr
 obtain ⟨t1,t2,t3⟩:=ts_turn hs ha hA hL hr q
 have hcl:=cntT_le (valZ s a q) ts
 have hlf:=lastF_bd ts (-1) (by omega) l3
 have hr0:=(rateM_ge ts 0).1
 have hm0:=Int.mul_nonneg hr0 (show 0 ≤ A + lastF ts by omega)
 have hw0:=(waysS_bd ts (-1) (by omega) l3).1
 refine ⟨?_,t1,t2,fun x hx=>?_⟩
 ·unfold gradL scaleM
  have hz:=Int.mul_nonneg (show 0 ≤ u by omega) (show 0 ≤ rateM 0 ts * (A + lastF ts) + waysS ts by omega)
  split
  ·rw [span_z0]; exact hz
  ·generalize hn:cntT (valZ s a q) ts = n at *
   obtain ⟨i1,i2,i3⟩:=tier_in (by omega) l3 (show n - 1 < ts.length by omega)
   have hw:=wayT_bd ts (-1) (n - 1) (by omega) l3
   rw [span_scale,nA_of (show 0 ≤ u by omega),Int.mul_comm]
   refine Int.mul_le_mul_of_nonneg_left ?_ (by omega)
   have h1:=span_add hs (scaleL (lessL a (tF (ts.getD (n - 1) (0,0)))) (tR (ts.getD (n - 1) (0,0)))) (constL (wayT ts (n - 1)))
   rw [span_scale,span_const] at h1
   have h2:=span_less hs a (tF (ts.getD (n - 1) (0,0)))
   rw [nA_of i1] at h2
   have h3:nA (wayT ts (n - 1)) ≤ waysS ts:=by unfold nA; omega
   have h4:=Int.mul_le_mul (show spanZ s (lessL a (tF (ts.getD (n - 1) (0,0)))) ≤ A + lastF ts by omega) i3 (nA_nn _) (by omega)
   rw [Int.mul_comm (A + lastF ts)] at h4
   omega
 ·have e:=t3 x hx
  show valZ s (gradL u a ts (cntT (valZ s a q) ts)) x = u * grad (valZ s a x) ts
  unfold gradL grad topT'
  rw [e]
  split
  ·rw [val_z0,Int.mul_zero]
  ·rw [val_scale,val_add,val_scale,val_const,val_less,Int.mul_comm,Int.add_comm,Int.mul_comm (tR _)]
theorem got_vol {s A u:Int} (hs:1 ≤ s) (hu:1 ≤ u) {a:LZ} (ha:spanZ s a ≤ A) (hA:0 ≤ A) (hL:A ≤ BND) {ts:List tTier.T} (hr:risB ts = true) (q:Int) :
  Got s (scaleM u A ts) (fun x=>u * vol (valZ s a x) ts) q (volL u a ts (cntT (valZ s a q) ts),tsAt a ts (cntT (valZ s a q) ts)):=by
 obtain ⟨l1,l2,l3⟩:=risB_inc hr
 obtain ⟨t1,t2,t3⟩:=ts_turn hs ha hA hL hr q
 have hcl:=cntT_le (valZ s a q) ts
 have hlf:=lastF_bd ts (-1) (by omega) l3
 have hr0:=(rateM_ge ts 0).1
 have hm0:=Int.mul_nonneg hr0 (show 0 ≤ A + lastF ts by omega)
 have hw0:=(waysS_bd ts (-1) (by omega) l3).1
 refine ⟨?_,t1,t2,fun x hx=>?_⟩
 ·unfold volL scaleM
  have hz:=Int.mul_nonneg (show 0 ≤ u by omega) (show 0 ≤ rateM 0 ts * (A + lastF ts) + waysS ts by omega)
  split
  ·rw [span_z0]; exact hz
  ·generalize hn:cntT (valZ s a q) ts = n at *
   obtain ⟨i1,i2,i3⟩:=tier_in (by omega) l3 (show n - 1 < ts.length by omega)
   rw [span_scale,span_scale,nA_of (show 0 ≤ u by omega),Int.mul_comm]
   refine Int.mul_le_mul_of_nonneg_left ?_ (by omega)
   have h4:=Int.mul_le_mul (show spanZ s a ≤ A + lastF ts by omega) i3 (nA_nn _) (by omega)
   rw [Int.mul_comm (A + lastF ts)] at h4
   omega
 ·have e:=t3 x hx
  show valZ s (volL u a ts (cntT (valZ s a q) ts)) x = u * vol (valZ s a x) ts
  unfold volL vol topT'
  rw [e]
  split
  ·rw [val_z0,Int.mul_zero]
  ·rw [val_scale,val_scale,Int.mul_comm]
theorem n_neg (F:Nat) {m:tNormal_maker.T} (hs:1 ≤ m.2.2) {a:LZ} (ha:spanZ m.2.2 a ≤ LIM) (q:Int):normal_maker_neg.sh F m [wL a] q = some ((wL (subL z0 a),[],()),()):=by
 have h1:=span_sub hs z0 a
 rw [span_z0] at h1
 have:normal_sub.sh F ((0,0),(0,0),0,0) (wL a) = _:=lsub_eq F (x:=z0) hs (by rw [span_z0]; decide) ha (by omega)
 unfold normal_maker_neg.sh
 show oB (normal_sub.sh F ((0,0),(0,0),0,0) (wL a)) _ = _
 rw [this,oB_some]
theorem n_add (F:Nat) {m:tNormal_maker.T} (hs:1 ≤ m.2.2) {a b:LZ} (ha:spanZ m.2.2 a ≤ LIM) (hb:spanZ m.2.2 b ≤ LIM) (hl:spanZ m.2.2 (addL a b) ≤ LIM) (q:Int):normal_maker_add.sh F m [wL a,wL b] q = some ((wL (addL a b),[],()),()):=by
 unfold normal_maker_add.sh
 show oB (normal_add.sh F (wL a) (wL b)) _ = _
 rw [ladd_eq F hs ha hb hl,oB_some]
theorem n_sub (F:Nat) {m:tNormal_maker.T} (hs:1 ≤ m.2.2) {a b:LZ} (ha:spanZ m.2.2 a ≤ LIM) (hb:spanZ m.2.2 b ≤ LIM) (hl:spanZ m.2.2 (subL a b) ≤ LIM) (q:Int):normal_maker_sub.sh F m [wL a,wL b] q = some ((wL (subL a b),[],()),()):=by
 unfold normal_maker_sub.sh
 show oB (normal_sub.sh F (wL a) (wL b)) _ = _
 rw [lsub_eq F hs ha hb hl,oB_some]
theorem n_mul (F:Nat) {m:tNormal_maker.T} (hs:1 ≤ m.2.2) {a b:LZ} (ha:spanZ m.2.2 a ≤ LIM) (hb:spanZ m.2.2 b ≤ LIM) (hl:spanZ m.2.2 (if a = constL a.1 then scaleL b a.1 else scaleL a b.1) ≤ LIM) (q:Int) :
  normal_maker_mul.sh F m [wL a,wL b] q = some ((wL (if a = constL a.1 then scaleL b a.1 else scaleL a b.1),[],()),()):=by
 obtain ⟨a1,_⟩:=span_parts hs a
 obtain ⟨b1,_⟩:=span_parts hs b
 unfold normal_maker_mul.sh
 rw [show idx 0 ([wL a,wL b]:List tLine.T).length = true from rfl,show idx 1 ([wL a,wL b]:List tLine.T).length = true from rfl,show get tLine [wL a,wL b] 0 = wL a from rfl,show get tLine [wL a,wL b] 1 = wL b from rfl]
 simp only [cond_true]
 rw [show (wL a).1 = mk a.1 from rfl,nconst_eq,oB_some,show (wL b).1 = mk b.1 from rfl]
 show (bif lineB (wL a) (wL (constL a.1)) then (oB (normal_by.sh F (wL b) (mk a.1)) fun c_2=>some ((c_2.1.1,[],()),())) else oB (normal_by.sh F (wL a) (mk b.1)) fun c_3=>some ((c_3.1.1,[],()),())) = _
 rw [lineB_w]
 by_cases h:a = constL a.1
 ·rw [decide_eq_true h,if_pos h]
  rw [if_pos h] at hl
  simp only [cond_true]
  rw [lby_eq F hs hb (inR_nA (nA_le a1 ha)) hl,oB_some]
 ·rw [decide_eq_false h,if_neg h]
  rw [if_neg h] at hl
  simp only [cond_false]
  rw [lby_eq F hs ha (inR_nA (nA_le b1 hb)) hl,oB_some]
theorem n_least (F:Nat) {m:tNormal_maker.T} {a b:LZ} {q:Int} (hq:fitB m.2.2 q = true) (ha:spanZ m.2.2 a ≤ LIM) (hb:spanZ m.2.2 b ≤ LIM) (hl:spanZ m.2.2 (subL a b) ≤ LIM) :
  normal_maker_least.sh F m [wL a,wL b] q = some ((wL (bif abvZ m.2.2 (subL a b) q then b else a),[wL (subL a b)],()),()):=by
 unfold normal_maker_least.sh
 show oB (normal_sub.sh F (wL a) (wL b)) _ = _
 rw [lsub_eq F (fitB_iff.1 hq).1 ha hb hl,oB_some,nabove_eq F hq hl,oB_some]
 cases abvZ m.2.2 (subL a b) q <;> rfl
theorem n_most (F:Nat) {m:tNormal_maker.T} {a b:LZ} {q:Int} (hq:fitB m.2.2 q = true) (ha:spanZ m.2.2 a ≤ LIM) (hb:spanZ m.2.2 b ≤ LIM) (hl:spanZ m.2.2 (subL b a) ≤ LIM) :
  normal_maker_most.sh F m [wL a,wL b] q = some ((wL (bif abvZ m.2.2 (subL b a) q then b else a),[wL (subL b a)],()),()):=by
 unfold normal_maker_most.sh
 show oB (normal_sub.sh F (wL b) (wL a)) _ = _
 rw [lsub_eq F (fitB_iff.1 hq).1 hb ha hl,oB_some,nabove_eq F hq hl,oB_some]
 cases abvZ m.2.2 (subL b a) q <;> rfl
abbrev mN (m:tNormal_maker.T):Int:=nN m.1
theorem n_less (F:Nat) {m:tNormal_maker.T} (hs:1 ≤ m.2.2) (hN:0 ≤ mN m) (hN2:mN m ≤ 1000000000000) {a:LZ} (ha:spanZ m.2.2 a + 1000000000001 ≤ LIM) {o:Int} (ho:0 ≤ o) (ho2:o ≤ 1) :
  normal_maker_less.sh F m (wL a) o = some ((wL (lessL a (mN m - o)),()),())∧spanZ m.2.2 (lessL a (mN m - o)) ≤ LIM:=by
 have h1:=span_less hs a (mN m - o)
 have h2:nA (mN m - o) ≤ 1000000000001:=by unfold nA; omega
 have hL:LIM = 85070591730234615865843651857942052864:=rfl
 refine ⟨?_,by omega⟩
 unfold normal_maker_less.sh
 rw [show m.1.2.1 = mN m from rfl,wrap_i64 (n:=mN m - o) (by omega) (by omega),of_eq F (by omega) (by omega),oB_some,nconst_eq,oB_some,lsub_eq F hs (by omega) (by rw [span_const]; omega) (by have:subL a (constL (mN m - o)) = lessL a (mN m - o):=rfl; rw [this]; omega),oB_some]
 rfl
theorem n_over (F:Nat) {m:tNormal_maker.T} {q:Int} (hq:fitB m.2.2 q = true) (hN:0 ≤ mN m) (hN2:mN m ≤ 1000000000000) {a:LZ} (ha:spanZ m.2.2 a + 1000000000001 ≤ LIM) :
  normal_maker_over.sh F m [wL a] q = some ((wL (bif abvZ m.2.2 (lessL a (mN m)) q then lessL a (mN m) else z0),[wL (lessL a (mN m))],()),()):=by
 obtain ⟨e,h⟩:=n_less F (fitB_iff.1 hq).1 hN hN2 ha (o:=0) (by omega) (by omega)
 rw [Int.sub_zero] at e h
 unfold normal_maker_over.sh
 show oB (normal_maker_less.sh F m (wL a) 0) _ = _
 rw [e,oB_some,nabove_eq F hq h,oB_some]
 cases abvZ m.2.2 (lessL a (mN m)) q <;> rfl
theorem n_upto (F:Nat) {m:tNormal_maker.T} {q:Int} (hq:fitB m.2.2 q = true) (hN:0 ≤ mN m) (hN2:mN m ≤ 1000000000000) {a:LZ} (ha:spanZ m.2.2 a + 1000000000001 ≤ LIM) :
  normal_maker_upto.sh F m [wL a] q = some ((wL (bif abvZ m.2.2 (lessL a (mN m)) q then constL (mN m) else a),[wL (lessL a (mN m))],()),()):=by
 obtain ⟨e,h⟩:=n_less F (fitB_iff.1 hq).1 hN hN2 ha (o:=0) (by omega) (by omega)
 rw [Int.sub_zero] at e h
 unfold normal_maker_upto.sh
 show oB (normal_maker_less.sh F m (wL a) 0) _ = _
 rw [e,oB_some,nabove_eq F hq h,oB_some]
 cases abvZ m.2.2 (lessL a (mN m)) q with
 | false=>rfl
 | true =>
  simp only [cond_true]
  rw [of_eq F (v:=mN m) (by omega) (by omega),oB_some,nconst_eq,oB_some]
theorem n_offc (F:Nat) (hF:70 < F) {m:tNormal_maker.T} (hN:0 ≤ mN m) (hN2:mN m ≤ 10000) {v:Int} (hv:nA v * 10000 ≤ LIM):normal_maker_off_c1.sh F (mk v) m = some ((mk (offP (mN m) v),()),()):=by
 have h1:nA (v * (10000 - mN m)) ≤ LIM:=by
  rw [nA_mul,nA_of (show 0 ≤ 10000 - mN m by omega)]
  have:=Int.mul_le_mul_of_nonneg_left (show 10000 - mN m ≤ 10000 by omega) (nA_nn v)
  omega
 have h0:=nA_nn v
 have i1:=inR_nA h1
 unfold normal_maker_off_c1.sh
 rw [show m.1.2.1 = mN m from rfl,wrap_i64 (n:=10000 - mN m) (by omega) (by omega),of_eq F (by omega) (by omega),oB_some,wmul_eq F (wf_mk (inR_nA (by omega))) (wf_mk (inR_i64 (by omega) (by omega))),oB_some,val_mk,val_mk,(res_in i1).1,
  of_eq F (v:=10000) (by omega) (by omega),oB_some,div_eq F hF i1 (by decide) (by decide) (tq_bd2 (by decide) h1) (by omega) (by omega),oB_some]
 rfl
theorem n_off (F:Nat) (hF:70 < F) {m:tNormal_maker.T} (hs:1 ≤ m.2.2) (hN:0 ≤ mN m) (hN2:mN m ≤ 10000) {a:LZ} (ha:spanZ m.2.2 a * 10000 ≤ LIM) (q:Int):normal_maker_off.sh F m [wL a] q = some ((wL (offL (mN m) a),[],()),()):=by
 obtain ⟨a1,a2,a3,_⟩:=span_parts hs a
 unfold normal_maker_off.sh
 have e:∀ v,nA v ≤ spanZ m.2.2 a→normal_maker_off.d15 F (cl_normal_maker_off_c1 + 1) (mk v,m,()) = some ((mk (offP (mN m) v),()),())∧normal_maker_off.d21 F (cl_normal_maker_off_c1 + 1) (mk v,m,()) = some ((mk (offP (mN m) v),()),())∧normal_maker_off.d27 F (cl_normal_maker_off_c1 + 1) (mk v,m,()) = some ((mk (offP (mN m) v),()),()):=fun v hv=>by
  have:=n_offc F hF (m:=m) hN hN2 (v:=v) (by omega)
  exact ⟨this,this,this⟩
 show oB (normal_maker_off.d15 F (cl_normal_maker_off_c1 + 1) (mk a.1,m,())) _ = _
 rw [(e _ a1).1,oB_some]
 show oB (normal_maker_off.d21 F (cl_normal_maker_off_c1 + 1) (mk a.2.1,m,())) _ = _
 rw [(e _ a2).2.1,oB_some]
 show oB (normal_maker_off.d27 F (cl_normal_maker_off_c1 + 1) (mk a.2.2,m,())) _ = _
 rw [(e _ a3).2.2,oB_some]
 rfl
theorem n_test (F:Nat) {m:tNormal_maker.T} {q:Int} (hq:fitB m.2.2 q = true) (hN:0 ≤ mN m) (hN2:mN m ≤ 1000000000000) (hO:1 ≤ nO m.1) (hO2:nO m.1 ≤ 6) {a:LZ} (b c:LZ) (ha:spanZ m.2.2 a + 1000000000001 ≤ LIM) :
  normal_maker_test.sh F m [wL a,wL b,wL c] q = some ((wL (bif holdB (nO m.1) (valZ m.2.2 a q) (mN m) then b else c),[wL (lessL a (mN m)),wL (lessL a (mN m - 1))],()),()):=by
 obtain ⟨e,h⟩:=n_less F (fitB_iff.1 hq).1 hN hN2 ha (o:=0) (by omega) (by omega)
 obtain ⟨e1,h1⟩:=n_less F (fitB_iff.1 hq).1 hN hN2 ha (o:=1) (by omega) (by omega)
 rw [Int.sub_zero] at e h
 unfold normal_maker_test.sh
 show oB (normal_maker_less.sh F m (wL a) 0) _ = _
 rw [e,oB_some]
 show oB (normal_maker_less.sh F m (wL a) 1) _ = _
 rw [e1,oB_some,nabove_eq F hq h,oB_some,nabove_eq F hq h1,oB_some,abv_less,abv_less]
 have ho:nO m.1 = 1 ∨ nO m.1 = 2 ∨ nO m.1 = 3 ∨ nO m.1 = 4 ∨ nO m.1 = 5 ∨ nO m.1 = 6:=by omega
 unfold holdB
 rw [show m.1.2.2.1 = nO m.1 from rfl]
 generalize valZ m.2.2 a q = v
 generalize mN m = N at *
 rcases Int.lt_trichotomy v N with hv | hv | hv
 ·rw [decide_eq_false (show ¬ N < v by omega),decide_eq_false (show ¬ N - 1 < v by omega),decide_eq_true (show v < N from hv),decide_eq_true (show v ≤ N by omega),decide_eq_false (show ¬ v ≥ N by omega),decide_eq_false (show ¬ v = N by omega)]
  rcases ho with h | h | h | h | h | h <;> rw [h] <;> rfl
 ·rw [decide_eq_false (show ¬ N < v by omega),decide_eq_true (show N - 1 < v by omega),decide_eq_false (show ¬ v < N by omega),decide_eq_true (show v ≤ N by omega),decide_eq_true (show v ≥ N by omega),decide_eq_true (show v = N by omega)]
  rcases ho with h | h | h | h | h | h <;> rw [h] <;> rfl
 ·rw [decide_eq_true (show N < v by omega),decide_eq_true (show N - 1 < v by omega),decide_eq_false (show ¬ v < N by omega),decide_eq_false (show ¬ v ≤ N by omega),decide_eq_true (show v ≥ N by omega),decide_eq_false (show ¬ v = N by omega)]
  rcases ho with h | h | h | h | h | h <;> rw [h] <;> rfl
abbrev mT (m:tNormal_maker.T):List tTier.T:=nT m.1
theorem n_from (F:Nat) {m:tNormal_maker.T} (hs:1 ≤ m.2.2) {ts:List tTier.T} (hts:mT m = ts) (hr:risB ts = true) {a:LZ} (ha:spanZ m.2.2 a + 1000000000001 ≤ LIM) {i:Nat} (hi:i < ts.length) :
  normal_maker_tier_c1.sh F (i:Int) (wL a) m = some ((wL (lessL a (tF (ts.getD i (0,0)))),()),())∧spanZ m.2.2 (lessL a (tF (ts.getD i (0,0)))) ≤ LIM:=by
 obtain ⟨l1,l2,l3⟩:=risB_inc hr
 obtain ⟨t1,t2,_⟩:=tier_in (by omega) l3 hi
 have hlf:=lastF_bd ts (-1) (by omega) l3
 have h1:=span_less hs a (tF (ts.getD i (0,0)))
 rw [nA_of t1] at h1
 have hL:LIM = 85070591730234615865843651857942052864:=rfl
 refine ⟨?_,by omega⟩
 unfold normal_maker_tier_c1.sh
 have e:m.1.2.2.2.2.1 = ts:=hts
 rw [e,rg_idx hi,Int.toNat_natCast]
 simp only [cond_true]
 rw [show (get tTier ts i).1 = tF (ts.getD i (0,0)) from rfl,of_eq F (by omega) (by omega),oB_some,nconst_eq,oB_some,lsub_eq F hs (by omega) (by rw [span_const,nA_of t1]; omega) (by have:subL a (constL (tF (ts.getD i (0,0)))) = lessL a (tF (ts.getD i (0,0))):=rfl; rw [this]; omega),oB_some]
 rfl
theorem drop_getD {ts xs:List tTier.T} {x:tTier.T} {i:Nat} (h:ts.drop i = x :: xs):ts.getD i (0,0) = x:=by
 have:=congrArg (·[0]?) h
 rw [List.getD_eq_getElem?_getD]
 simp at this
 rw [this]; rfl
theorem n_tier_l3 (F:Nat) {R:Type} (k:Int→tNormal_maker.T→(Nat×tLine.T×tNormal_maker.T)→Int→Bool→Option R) {m:tNormal_maker.T} {q:Int} (hq:fitB m.2.2 q = true) {ts:List tTier.T} (hts:mT m = ts) (hr:risB ts = true) {a:LZ} (ha:spanZ m.2.2 a + 1000000000001 ≤ LIM):∀ (xs:List tTier.T) (i fu:Nat),ts.drop i = xs→xs.length < fu →
  normal_maker_tier.l3 F k fu q m (cl_normal_maker_tier_c1,wL a,m) (i:Int) = k q m (cl_normal_maker_tier_c1,wL a,m) ((i + cntT (valZ m.2.2 a q) xs:Nat):Int) false
 | xs,i,0,h,hf=>by omega
 | [],i,fu + 1,h,hf=>by
  have:=rg_end h
  simp only [normal_maker_tier.l3,normal_maker_tier.l3.body]
  rw [show m.1.2.2.2.2.1 = ts from hts,decide_eq_false (show ¬ (i:Int) < (ts.length:Int) by omega)]
  rfl
 | x :: xs,i,fu + 1,h,hf=>by
  obtain ⟨l1,l2,l3⟩:=risB_inc hr
  have hi:=rg_len h
  obtain ⟨e,hl⟩:=n_from F (fitB_iff.1 hq).1 hts hr ha hi
  have ih:=n_tier_l3 F k hq hts hr ha xs (i + 1) fu (rg_next h) (by simp at hf; omega)
  simp only [normal_maker_tier.l3,normal_maker_tier.l3.body]
  rw [show m.1.2.2.2.2.1 = ts from hts,decide_eq_true (show (i:Int) < (ts.length:Int) by omega)]
  simp only [cond_true]
  have e':normal_maker_tier.d22 F (cl_normal_maker_tier_c1 + 1) ((i:Int),wL a,m,()) = _:=e
  rw [e',oB_some,nabove_eq F hq hl,oB_some,abv_less,drop_getD h]
  simp only [cntT]
  by_cases hx:tF x < valZ m.2.2 a q
  ·rw [decide_eq_true hx,if_pos hx,wrap_i64 (n:=(i:Int) + 1) (by omega) (by omega)]
   simp only [cond_true]
   rw [show (i:Int) + 1 = ((i + 1:Nat):Int) by omega,ih]
   exact congrArg (fun z=>k q m (cl_normal_maker_tier_c1,wL a,m) z false) (by omega)
  ·rw [decide_eq_false hx,if_neg hx]
   rfl
theorem n_tier (F:Nat) (hF:20 < F) {m:tNormal_maker.T} {q:Int} (hq:fitB m.2.2 q = true) {ts:List tTier.T} (hts:mT m = ts) (hr:risB ts = true) {a:LZ} (ha:spanZ m.2.2 a + 1000000000001 ≤ LIM) :
  normal_maker_tier.sh F m (wL a) q = some (((cntT (valZ m.2.2 a q) ts:Int),(tsAt a ts (cntT (valZ m.2.2 a q) ts)).map wL,()),()):=by
 obtain ⟨l1,l2,l3⟩:=risB_inc hr
 have hcl:=cntT_le (valZ m.2.2 a q) ts
 have hs:=(fitB_iff.1 hq).1
 have hj8:∀ (n:Nat) (turn:List tLine.T),n ≤ ts.length→turn.length ≤ 1→normal_maker_tier.j8 F (fun r66 r76=>some ((r66,r76,()),())) m (cl_normal_maker_tier_c1,wL a,m) (n:Int) turn =
   (some (((n:Int),turn ++ (if n < ts.length then [lessL a (tF (ts.getD n (0,0)))] else []).map wL,()),()):Option normal_maker_tier.sg.R):=fun n turn hn ht=>by
  unfold normal_maker_tier.j8
  rw [show m.1.2.2.2.2.1 = ts from hts]
  by_cases h:n < ts.length
  ·obtain ⟨e,hl⟩:=n_from F hs hts hr ha h
   have e':normal_maker_tier.d46 F (cl_normal_maker_tier_c1 + 1) ((n:Int),wL a,m,()) = _:=e
   rw [decide_eq_true (show (n:Int) < (ts.length:Int) by omega),if_pos h]
   simp only [cond_true]
   rw [e',oB_some,show Nat.ble (turn.length + [wL (lessL a (tF (ts.getD n (0,0))))].length) maxN = true from ble_of (by simp; omega)]
   rfl
  ·rw [decide_eq_false (show ¬ (n:Int) < (ts.length:Int) by omega),if_neg h]
   simp only [cond_false,List.map_nil,List.append_nil]
   rfl
 unfold normal_maker_tier.sh
 refine Eq.trans (n_tier_l3 F _ hq hts hr ha ts 0 F rfl (by omega)) ?_
 rw [Nat.zero_add]
 generalize cntT (valZ m.2.2 a q) ts = n at *
 unfold tsAt
 by_cases h0:n = 0
 ·subst h0
  rw [decide_eq_false (show ¬ ((0:Nat):Int) > 0 by omega),if_pos rfl]
  simp only [cond_false,List.nil_append]
  rw [hj8 0 [] (by omega) (by simp)]
  rfl
 ·obtain ⟨e,hl⟩:=n_from F hs hts hr ha (show n - 1 < ts.length by omega)
  have e':normal_maker_tier.d34 F (cl_normal_maker_tier_c1 + 1) (((n - 1:Nat):Int),wL a,m,()) = _:=e
  rw [decide_eq_true (show (n:Int) > 0 by omega),if_neg h0,wrap_i64 (n:=(n:Int) - 1) (by omega) (by omega),show (n:Int) - 1 = ((n - 1:Nat):Int) by omega]
  simp only [cond_true]
  rw [e',oB_some,show Nat.ble (0 + [wL (lessL a (tF (ts.getD (n - 1) (0,0))))].length) maxN = true from ble_of (by simp)]
  simp only [cond_true]
  rw [hj8 n _ hcl (by simp)]
  simp
theorem n_ways (F:Nat) {R:Type} (kk:List tLine.T→Int→List tLine.T→List tTier.T→Int→Int→Bool→tNormal_maker.T→tLine.T→tWide.T→Option R) (L:List tTier.T) (hL:L.length ≤ 16) (k:List tLine.T) (nn:Int) (turn:List tLine.T) (m:tNormal_maker.T) (r6:tLine.T) (K:Nat) :
  ∀ (n i fu:Nat) (xs:List tTier.T) (s lo:Int),L.drop i = xs→n < xs.length→n < fu→K = i + n→-1 ≤ lo→incT lo xs →
  -20000000000000000000000000 ≤ s - n * 1000000000000000000000000→s + n * 1000000000000000000000000 ≤ 20000000000000000000000000 →
  normal_maker_graduated.l7 F kk fu k nn turn L (K:Int) (i:Int) m r6 (mk s) = kk k nn turn L (K:Int) (K:Int) false m r6 (mk (s + wayT xs n))
 | n,i,0,xs,s,lo,h,hn,hf,hK,hlo,hi,b1,b2=>by omega
 | 0,i,fu + 1,xs,s,lo,h,hn,hf,hK,hlo,hi,b1,b2=>by
  have hKi:K = i:=by omega
  subst hKi
  simp only [normal_maker_graduated.l7,normal_maker_graduated.l7.body]
  rw [decide_eq_false (show ¬ (K:Int) < (K:Int) by omega)]
  have:wayT xs 0 = 0:=by cases xs with
   | nil=>rfl
   | cons a r=>cases r <;> rfl
  rw [this,Int.add_zero]
  rfl
 | n + 1,i,fu + 1,[],s,lo,h,hn,hf,hK,hlo,hi,b1,b2=>by simp at hn
 | n + 1,i,fu + 1,[a],s,lo,h,hn,hf,hK,hlo,hi,b1,b2=>by simp at hn
 | n + 1,i,fu + 1,a :: b :: r,s,lo,h,hn,hf,hK,hlo,hi,b1,b2=>by
  obtain ⟨a1,a2,a3,a4,a5⟩:=hi
  have ⟨c1,c2,c3,c4,c5⟩:=a5
  have h0:=rg_len h
  have h1:=rg_len (rg_next h)
  have hg:get tTier L ((i:Int)).toNat = a:=by rw [Int.toNat_natCast]; exact rg_get h
  have hg1:get tTier L (((i + 1:Nat):Int)).toNat = b:=by rw [Int.toNat_natCast]; exact rg_get (rg_next h)
  push_cast at b1 b2
  have hp:=abs_mul_bd (show -1000000000000 ≤ tR a by omega) (show tR a ≤ 1000000000000 by omega) (show -1000000000000 ≤ tF b - tF a by omega) (show tF b - tF a ≤ 1000000000000 by omega)
  have IH:=n_ways F kk L hL k nn turn m r6 K n (i + 1) fu (b :: r) (s + tR a * (tF b - tF a)) (tF a) (rg_next h) (by simp at hn ⊢; omega) (by omega) (by omega) (by omega) a5 (by omega) (by omega)
  have i1:inR (tR a * (tF b - tF a)) = true:=by rw [inR_iff]; omega
  have i2:inR s = true:=by rw [inR_iff]; omega
  have i3:inR (s + tR a * (tF b - tF a)) = true:=by rw [inR_iff]; omega
  simp only [normal_maker_graduated.l7,normal_maker_graduated.l7.body]
  rw [decide_eq_true (show (i:Int) < (K:Int) by omega),rg_idx h0,hg,wrap_i64 (n:=(i:Int) + 1) (by omega) (by omega),show (i:Int) + 1 = ((i + 1:Nat):Int) by omega,rg_idx h1,hg1]
  simp only [cond_true]
  rw [of_eq F (v:=tR a) (by omega) (by omega),oB_some,wrap_i64 (n:=tF b - tF a) (by omega) (by omega),of_eq F (v:=tF b - tF a) (by omega) (by omega),oB_some]
  rw [wmul_eq F (wf_mk (inR_i64 (by omega) (by omega))) (wf_mk (inR_i64 (by omega) (by omega))),oB_some,val_mk,val_mk,(res_in i1).1,add_eq F (wf_mk i2) (wf_mk i1),oB_some,val_mk,val_mk,(res_in i3).1]
  rw [IH,Int.add_assoc]
  rfl
theorem n_volume (F:Nat) (hF:20 < F) {m:tNormal_maker.T} {u:Int} (hm:m.2.1 = mk u) (hu:inR u = true) {q:Int} (hq:fitB m.2.2 q = true) {ts:List tTier.T} (hts:mT m = ts) (hr:risB ts = true) {a:LZ} (ha:spanZ m.2.2 a + 1000000000001 ≤ LIM)
  (h1:∀ n,n < ts.length→spanZ m.2.2 (scaleL a (tR (ts.getD n (0,0)))) ≤ LIM) (h2:∀ n,n < ts.length→spanZ m.2.2 (scaleL (scaleL a (tR (ts.getD n (0,0)))) u) ≤ LIM) :
  normal_maker_volume.sh F m [wL a] q = some ((wL (volL u a ts (cntT (valZ m.2.2 a q) ts)),(tsAt a ts (cntT (valZ m.2.2 a q) ts)).map wL,()),()):=by
 obtain ⟨l1,l2,l3⟩:=risB_inc hr
 have hcl:=cntT_le (valZ m.2.2 a q) ts
 have hs:=(fitB_iff.1 hq).1
 unfold normal_maker_volume.sh
 show oB (normal_maker_tier.sh F m (wL a) q) _ = _
 rw [n_tier F hF hq hts hr ha,oB_some]
 generalize cntT (valZ m.2.2 a q) ts = n at *
 unfold volL
 by_cases h0:n = 0
 ·subst h0; rfl
 ·have hn:n - 1 < ts.length:=by omega
  rw [if_neg h0,show (((n:Int)) == 0) = false by simp; omega]
  simp only [cond_false]
  obtain ⟨t1,t2,t3⟩:=incT_in ts (-1) l3 (n - 1) hn
  rw [wrap_i64 (n:=(n:Int) - 1) (by omega) (by omega),show (n:Int) - 1 = ((n - 1:Nat):Int) by omega,show m.1.2.2.2.2.1 = ts from hts,rg_idx hn,Int.toNat_natCast,show (get tTier ts (n - 1)).2 = tR (ts.getD (n - 1) (0,0)) from rfl]
  rw [show idx 0 ([wL a]:List tLine.T).length = true from rfl,show get tLine [wL a] 0 = wL a from rfl]
  simp only [cond_true]
  rw [of_eq F (by omega) (by omega),oB_some,lby_eq F hs (by omega) (inR_i64 (by omega) (by omega)) (h1 _ hn),oB_some,hm,lby_eq F hs (h1 _ hn) hu (h2 _ hn),oB_some]
where
 incT_in:∀ (l:List tTier.T) (lo:Int),incT lo l→∀ n,n < l.length→tF (l.getD n (0,0)) ≤ 1000000000000∧-1000000000000 ≤ tR (l.getD n (0,0))∧tR (l.getD n (0,0)) ≤ 1000000000000
 | [],lo,h,n,hn=>by simp at hn
 | a :: r,lo,h,0,hn=>by
  obtain ⟨a1,a2,a3,a4,a5⟩:=h
  exact ⟨a2,a3,a4⟩
 | a :: r,lo,h,n + 1,hn=>by
  obtain ⟨a1,a2,a3,a4,a5⟩:=h
  exact incT_in r (tF a) a5 n (by simpa using hn)
theorem n_graduated (F:Nat) (hF:20 < F) {m:tNormal_maker.T} {u:Int} (hm:m.2.1 = mk u) (hu:inR u = true) {q:Int} (hq:fitB m.2.2 q = true) {ts:List tTier.T} (hts:mT m = ts) (hr:risB ts = true) {a:LZ} (ha:spanZ m.2.2 a + 1000000000001 ≤ LIM)
  (h1:∀ n,n < ts.length→spanZ m.2.2 (scaleL (lessL a (tF (ts.getD n (0,0)))) (tR (ts.getD n (0,0)))) ≤ LIM)
  (h2:∀ n,n < ts.length→spanZ m.2.2 (addL (scaleL (lessL a (tF (ts.getD n (0,0)))) (tR (ts.getD n (0,0)))) (constL (wayT ts n))) ≤ LIM)
  (h3:∀ n,n < ts.length→spanZ m.2.2 (scaleL (addL (scaleL (lessL a (tF (ts.getD n (0,0)))) (tR (ts.getD n (0,0)))) (constL (wayT ts n))) u) ≤ LIM) :
  normal_maker_graduated.sh F m [wL a] q = some ((wL (gradL u a ts (cntT (valZ m.2.2 a q) ts)),(tsAt a ts (cntT (valZ m.2.2 a q) ts)).map wL,()),()):=by
 obtain ⟨l1,l2,l3⟩:=risB_inc hr
 have hcl:=cntT_le (valZ m.2.2 a q) ts
 have hs:=(fitB_iff.1 hq).1
 have hL:LIM = 85070591730234615865843651857942052864:=rfl
 unfold normal_maker_graduated.sh
 show oB (normal_maker_tier.sh F m (wL a) q) _ = _
 rw [n_tier F hF hq hts hr ha,oB_some]
 generalize cntT (valZ m.2.2 a q) ts = n at *
 unfold gradL
 by_cases h0:n = 0
 ·subst h0; rfl
 ·have hn:n - 1 < ts.length:=by omega
  rw [if_neg h0,show (((n:Int)) == 0) = false by simp; omega]
  simp only [cond_false]
  obtain ⟨t1,t2,t3⟩:=n_volume.incT_in ts (-1) l3 (n - 1) hn
  obtain ⟨i1,i2,i3⟩:=tier_in (by omega) l3 hn
  have hw:=wayT_bd ts (-1) (n - 1) (by omega) l3
  have hw2:=(waysS_bd ts (-1) (by omega) l3).2
  have hw3:waysS ts ≤ 16 * 1000000000000000000000000:=by
   have:(ts.length:Int) * 1000000000000000000000000 ≤ 16 * 1000000000000000000000000:=Int.mul_le_mul_of_nonneg_right (by omega) (by omega)
   omega
  have hls:=span_less hs a (tF (ts.getD (n - 1) (0,0)))
  rw [nA_of i1] at hls
  rw [wrap_i64 (n:=(n:Int) - 1) (by omega) (by omega),show (n:Int) - 1 = ((n - 1:Nat):Int) by omega,show m.1.2.2.2.2.1 = ts from hts]
  have hlp:=fun kk=>n_ways F (R:=normal_maker_graduated.sg.R) kk ts l2 [wL a] (n:Int) ((tsAt a ts n).map wL) m ((0,0),(0,0),0,0) (n - 1) (n - 1) 0 F ts 0 (-1) rfl hn (by omega) (by omega) (by omega) l3 (by omega) (by omega)
  rw [show ((0:Nat):Int) = 0 from rfl,zero_mk] at hlp
  rw [hlp]
  rw [wrap_i64 (n:=(n:Int) - 1) (by omega) (by omega),show (n:Int) - 1 = ((n - 1:Nat):Int) by omega,rg_idx hn,Int.toNat_natCast,show get tTier ts (n - 1) = ts.getD (n - 1) (0,0) from rfl,show idx 0 ([wL a]:List tLine.T).length = true from rfl,show get tLine [wL a] 0 = wL a from rfl]
  simp only [cond_true]
  have hw':nA (wayT ts (n - 1)) ≤ LIM:=by unfold nA; omega
  rw [of_eq F (v:=(ts.getD (n - 1) (0,0)).1) (show _ ≤ tF (ts.getD (n - 1) (0,0)) by omega) (show tF (ts.getD (n - 1) (0,0)) < _ by omega),oB_some,nconst_eq,oB_some,
   lsub_eq F hs (by omega) (by rw [span_const,nA_of i1]; show tF (ts.getD (n - 1) (0,0)) ≤ _; omega) (show spanZ m.2.2 (lessL a (tF (ts.getD (n - 1) (0,0)))) ≤ LIM by omega),oB_some,
   of_eq F (v:=(ts.getD (n - 1) (0,0)).2) (show -9223372036854775808 ≤ tR (ts.getD (n - 1) (0,0)) by omega) (show tR (ts.getD (n - 1) (0,0)) < _ by omega),oB_some]
  rw [show subL a (constL (ts.getD (n - 1) (0,0)).1) = lessL a (tF (ts.getD (n - 1) (0,0))) from rfl,lby_eq F hs (show spanZ m.2.2 (lessL a (tF (ts.getD (n - 1) (0,0)))) ≤ LIM by omega) (inR_i64 (show _ ≤ tR (ts.getD (n - 1) (0,0)) by omega) (show tR (ts.getD (n - 1) (0,0)) < _ by omega)) (h1 _ hn),oB_some]
  rw [Int.zero_add,nconst_eq,oB_some]
  rw [ladd_eq F hs (h1 _ hn) (by rw [span_const]; exact hw') (h2 _ hn),oB_some,hm,lby_eq F hs (h2 _ hn) hu (h3 _ hn),oB_some]
def fnOf (n:tNode.T):Nat :=
 bif nK n == 5 then fn_normal_maker_neg else bif nK n == 6 then fn_normal_maker_add else bif nK n == 7 then fn_normal_maker_sub else bif nK n == 8 then fn_normal_maker_mul
 else bif nK n == 9 then fn_normal_maker_least else bif nK n == 10 then fn_normal_maker_most else bif nK n == 11 then fn_normal_maker_over else bif nK n == 12 then fn_normal_maker_upto
 else bif nK n == 13 then fn_normal_maker_graduated else bif nK n == 14 then fn_normal_maker_volume else bif nK n == 15 then fn_normal_maker_off else fn_normal_maker_test
theorem choices_eq (F:Nat) {n:tNode.T} (hg:goodK n = true) (hk:kidsK n = true) (h5:5 ≤ nK n) (u:tWide.T) (s:Int):normal_maker_choices.sh F (n,u,s) = some (((fnOf n,(n,u,s)),(ar n:Int),()),()):=by
 have h9:∀ k:Int,(nK n = k)→(k = 9 ∨ k = 10)→(ar n:Int) = nC n:=by
  intro k h hkk
  rw [kids_of h] at hk
  have hk:(decide (nC n ≥ 2) && decide (nC n ≤ 16)) = true:=by rcases hkk with rfl | rfl <;> exact hk
  simp at hk
  have:ar n = (nC n).toNat:=by rw [ar_of h]; rcases hkk with rfl | rfl <;> rfl
  omega
 have e:∀ k:Int,nK n = k→normal_maker_choices.sh F (n,u,s) = normal_maker_choices.sh F ((k,n.2),u,s):=fun k h=>by
  rw [← h]
 unfold fnOf
 rcases kinds16 hg with h | h | h | h | h | h | h | h | h | h | h | h | h | h | h | h
 ·omega
 ·omega
 ·omega
 ·omega
 ·rw [ar_of h,e _ h,h]; rw [show n = (5,n.2) by rw [← h]]; rfl
 ·rw [ar_of h,e _ h,h]; rw [show n = (6,n.2) by rw [← h]]; rfl
 ·rw [ar_of h,e _ h,h]; rw [show n = (7,n.2) by rw [← h]]; rfl
 ·rw [ar_of h,e _ h,h]; rw [show n = (8,n.2) by rw [← h]]; rfl
 ·rw [h9 9 h (.inl rfl),e _ h,h]; rw [show n = (9,n.2) by rw [← h]]; rfl
 ·rw [h9 10 h (.inr rfl),e _ h,h]; rw [show n = (10,n.2) by rw [← h]]; rfl
 ·rw [ar_of h,e _ h,h]; rw [show n = (11,n.2) by rw [← h]]; rfl
 ·rw [ar_of h,e _ h,h]; rw [show n = (12,n.2) by rw [← h]]; rfl
 ·rw [ar_of h,e _ h,h]; rw [show n = (13,n.2) by rw [← h]]; rfl
 ·rw [ar_of h,e _ h,h]; rw [show n = (14,n.2) by rw [← h]]; rfl
 ·rw [ar_of h,e _ h,h]; rw [show n = (15,n.2) by rw [← h]]; rfl
 ·rw [ar_of h,e _ h,h]; rw [show n = (16,n.2) by rw [← h]]; rfl
def Made (F:Nat) (n:tNode.T) (u s:Int) (k:List LZ) (q:Int) (g:LZ×List LZ):Prop :=
 normal_maker_made.d99 F (fnOf n) ((n,mk u,s),k.map wL,q,()) = some ((wL g.1,g.2.map wL,()),())
theorem bnd_lim {A:Int} (h:A ≤ BND):A + 1000000000001 ≤ LIM:=by
 have hBND:BND = 1329227995784915872903807060280344576:=rfl
 have hLIM:LIM = 85070591730234615865843651857942052864:=rfl
 omega
theorem scaleM_in {s A u:Int} (hs:1 ≤ s) (hu:1 ≤ u) {a:LZ} (ha:spanZ s a ≤ A) (hA:0 ≤ A) {ts:List tTier.T} (hr:risB ts = true) (hb:scaleM u A ts ≤ BND) :
  (∀ n,n < ts.length→spanZ s (scaleL a (tR (ts.getD n (0,0)))) ≤ LIM∧spanZ s (scaleL (scaleL a (tR (ts.getD n (0,0)))) u) ≤ LIM) ∧
  (∀ n,n < ts.length→spanZ s (scaleL (lessL a (tF (ts.getD n (0,0)))) (tR (ts.getD n (0,0)))) ≤ LIM∧spanZ s (addL (scaleL (lessL a (tF (ts.getD n (0,0)))) (tR (ts.getD n (0,0)))) (constL (wayT ts n))) ≤ LIM ∧
   spanZ s (scaleL (addL (scaleL (lessL a (tF (ts.getD n (0,0)))) (tR (ts.getD n (0,0)))) (constL (wayT ts n))) u) ≤ LIM):=by
 obtain ⟨l1,l2,l3⟩:=risB_inc hr
 have hlf:=lastF_bd ts (-1) (by omega) l3
 have hr0:=(rateM_ge ts 0).1
 have hm0:=Int.mul_nonneg hr0 (show 0 ≤ A + lastF ts by omega)
 have hw0:=(waysS_bd ts (-1) (by omega) l3).1
 have hBND:BND = 1329227995784915872903807060280344576:=rfl
 have hLIM:LIM = 85070591730234615865843651857942052864:=rfl
 unfold scaleM at hb
 have hT:=mul_ge hu (show 0 ≤ rateM 0 ts * (A + lastF ts) + waysS ts by omega)
 refine ⟨fun n hn=>?_,fun n hn=>?_⟩
 ·obtain ⟨i1,i2,i3⟩:=tier_in (by omega) l3 hn
  have h4:=Int.mul_le_mul (show spanZ s a ≤ A + lastF ts by omega) i3 (nA_nn _) (by omega)
  rw [Int.mul_comm (A + lastF ts)] at h4
  rw [span_scale,span_scale,nA_of (show 0 ≤ u by omega)]
  have h5:=Int.mul_le_mul_of_nonneg_right (show spanZ s a * nA (tR (ts.getD n (0,0))) ≤ rateM 0 ts * (A + lastF ts) + waysS ts by omega) (show 0 ≤ u by omega)
  rw [Int.mul_comm _ u] at h5
  have h6:spanZ s (scaleL a (tR (ts.getD n (0,0)))) * u = spanZ s a * nA (tR (ts.getD n (0,0))) * u:=by rw [span_scale]
  rw [span_scale]
  rw [Int.mul_comm u] at h5 hb
  rw [Int.mul_comm u] at hT
  omega
 ·obtain ⟨i1,i2,i3⟩:=tier_in (by omega) l3 hn
  have hw:=wayT_bd ts (-1) n (by omega) l3
  have h2:=span_less hs a (tF (ts.getD n (0,0)))
  rw [nA_of i1] at h2
  have h3:nA (wayT ts n) ≤ waysS ts:=by unfold nA; omega
  have h4:=Int.mul_le_mul (show spanZ s (lessL a (tF (ts.getD n (0,0)))) ≤ A + lastF ts by omega) i3 (nA_nn _) (by omega)
  rw [Int.mul_comm (A + lastF ts)] at h4
  have h1:=span_add hs (scaleL (lessL a (tF (ts.getD n (0,0)))) (tR (ts.getD n (0,0)))) (constL (wayT ts n))
  rw [span_const] at h1
  have e0:=span_scale s (lessL a (tF (ts.getD n (0,0)))) (tR (ts.getD n (0,0)))
  have e1:=span_scale s (addL (scaleL (lessL a (tF (ts.getD n (0,0)))) (tR (ts.getD n (0,0)))) (constL (wayT ts n))) u
  rw [nA_of (show 0 ≤ u by omega)] at e1
  have h5:=Int.mul_le_mul_of_nonneg_right (show spanZ s (addL (scaleL (lessL a (tF (ts.getD n (0,0)))) (tR (ts.getD n (0,0)))) (constL (wayT ts n))) ≤ rateM 0 ts * (A + lastF ts) + waysS ts by omega) (show 0 ≤ u by omega)
  rw [Int.mul_comm u] at hb hT
  omega
theorem ch1 {u s:Int} (hu:1 ≤ u) (hu2:inR u = true) {dims pile:Nat} (hd:dims ≤ 4) {n:tNode.T} (hn:nodeE dims n pile = 0) (hk:nK n = 5 ∨ nK n = 11 ∨ nK n = 12 ∨ nK n = 13 ∨ nK n = 14 ∨ nK n = 15)
  {a:LZ} {A:Int} (ha:spanZ s a ≤ A) (hA:0 ≤ A) (hb:A ≤ BND) {D:List tDim.T} (hfar:farN n (magN u D n [A]) ≤ BND) (hoff:nK n = 15→∃ z,a = scaleL z 10000) {q:Int} (hq:fitB s q = true) :
  Got s (magN u D n [A]) (fun x=>evN u D [x] n [valZ s a x]) q (chZ n u s [a] q)∧∀ F,300 < F→Made F n u s [a] q (chZ n u s [a] q):=by
 obtain ⟨g1,g2,g3,g4,g5,g6,g7,g8⟩:=nodeE_ok hn
 have hN2:=most_le hd g3 g1
 have hs:=(fitB_iff.1 hq).1
 have hlim:=bnd_lim hb
 have hBND:BND = 1329227995784915872903807060280344576:=rfl
 have hLIM:LIM = 85070591730234615865843651857942052864:=rfl
 have hm:mN (n,mk u,s) = nN n:=rfl
 rcases hk with h | h | h | h | h | h
 ·have e:chZ n u s [a] q = (subL z0 a,[]):=by unfold chZ; rw [h]; rfl
  have em:magN u D n [A] = A:=by unfold magN; rw [h]; simp [sumL]
  have ev:∀ x,evN u D [x] n [valZ s a x] = 0 - valZ s a x:=fun x=>by unfold evN; rw [h]; rfl
  have ef:fnOf n = fn_normal_maker_neg:=by unfold fnOf; rw [h]; rfl
  rw [e,em]
  simp only [ev]
  refine ⟨got_neg hs ha q,fun F hF=>?_⟩
  unfold Made
  rw [ef]
  exact n_neg F (m:=(n,mk u,s)) hs (by show spanZ s a ≤ _; omega) q
 ·have e:chZ n u s [a] q = ((bif abvZ s (lessL a (nN n)) q then lessL a (nN n) else z0),[lessL a (nN n)]):=by unfold chZ; rw [h]; rfl
  have em:magN u D n [A] = A + nN n:=by unfold magN; rw [h]; simp [sumL]
  have ev:∀ x,evN u D [x] n [valZ s a x] = maxL [0,valZ s a x - nN n]:=fun x=>by unfold evN; rw [h]; rfl
  have ef:fnOf n = fn_normal_maker_over:=by unfold fnOf; rw [h]; rfl
  rw [e,em]
  simp only [ev]
  refine ⟨got_over hs ha g2 hA (by omega) q,fun F hF=>?_⟩
  unfold Made
  rw [ef]
  exact n_over F (m:=(n,mk u,s)) hq g2 hN2 (by show spanZ s a + _ ≤ _; omega)
 ·have e:chZ n u s [a] q = ((bif abvZ s (lessL a (nN n)) q then constL (nN n) else a),[lessL a (nN n)]):=by unfold chZ; rw [h]; rfl
  have em:magN u D n [A] = A + nN n:=by unfold magN; rw [h]; simp [sumL]
  have ev:∀ x,evN u D [x] n [valZ s a x] = minL [nN n,valZ s a x]:=fun x=>by unfold evN; rw [h]; rfl
  have ef:fnOf n = fn_normal_maker_upto:=by unfold fnOf; rw [h]; rfl
  rw [e,em]
  simp only [ev]
  refine ⟨got_upto hs ha g2 hA (by omega) q,fun F hF=>?_⟩
  unfold Made
  rw [ef]
  exact n_upto F (m:=(n,mk u,s)) hq g2 hN2 (by show spanZ s a + _ ≤ _; omega)
 ·have hr:=g8 (by unfold tierB asks; rw [h]; rfl)
  have e:chZ n u s [a] q = (gradL u a (nT n) (cntT (valZ s a q) (nT n)),tsAt a (nT n) (cntT (valZ s a q) (nT n))):=by unfold chZ; rw [h]; rfl
  have em:magN u D n [A] = scaleM u A (nT n):=by unfold magN; rw [h]; rfl
  have ev:∀ x,evN u D [x] n [valZ s a x] = u * grad (valZ s a x) (nT n):=fun x=>by unfold evN; rw [h]; rfl
  have ef:fnOf n = fn_normal_maker_graduated:=by unfold fnOf; rw [h]; rfl
  have hf:scaleM u A (nT n) ≤ BND:=by rw [em] at hfar; unfold farN at hfar; rw [h] at hfar; exact hfar
  have hin:=(scaleM_in hs hu ha hA hr hf).2
  rw [e,em]
  simp only [ev]
  refine ⟨got_grad hs hu ha hA hb hr q,fun F hF=>?_⟩
  unfold Made
  rw [ef]
  exact n_graduated F (by omega) (m:=(n,mk u,s)) rfl hu2 hq rfl hr (by show spanZ s a + _ ≤ _; omega) (fun n hn=>(hin n hn).1) (fun n hn=>(hin n hn).2.1) (fun n hn=>(hin n hn).2.2)
 ·have hr:=g8 (by unfold tierB asks; rw [h]; rfl)
  have e:chZ n u s [a] q = (volL u a (nT n) (cntT (valZ s a q) (nT n)),tsAt a (nT n) (cntT (valZ s a q) (nT n))):=by unfold chZ; rw [h]; rfl
  have em:magN u D n [A] = scaleM u A (nT n):=by unfold magN; rw [h]; rfl
  have ev:∀ x,evN u D [x] n [valZ s a x] = u * vol (valZ s a x) (nT n):=fun x=>by unfold evN; rw [h]; rfl
  have ef:fnOf n = fn_normal_maker_volume:=by unfold fnOf; rw [h]; rfl
  have hf:scaleM u A (nT n) ≤ BND:=by rw [em] at hfar; unfold farN at hfar; rw [h] at hfar; exact hfar
  have hin:=(scaleM_in hs hu ha hA hr hf).1
  rw [e,em]
  simp only [ev]
  refine ⟨got_vol hs hu ha hA hb hr q,fun F hF=>?_⟩
  unfold Made
  rw [ef]
  exact n_volume F (by omega) (m:=(n,mk u,s)) rfl hu2 hq rfl hr (by show spanZ s a + _ ≤ _; omega) (fun n hn=>(hin n hn).1) (fun n hn=>(hin n hn).2)
 ·have e:chZ n u s [a] q = (offL (nN n) a,[]):=by unfold chZ; rw [h]; rfl
  have em:magN u D n [A] = A:=by unfold magN; rw [h]; rfl
  have ev:∀ x,evN u D [x] n [valZ s a x] = divM 2 (valZ s a x * (10000 - nN n)) 10000:=fun x=>by unfold evN; rw [h]; rfl
  have ef:fnOf n = fn_normal_maker_off:=by unfold fnOf; rw [h]; rfl
  have hf:A * 10000 ≤ BND:=by rw [em] at hfar; unfold farN at hfar; rw [h] at hfar; exact hfar
  rw [most_of h] at g3
  have g3:nN n ≤ 10000:=g3
  rw [e,em]
  simp only [ev]
  refine ⟨got_off hs ha g2 g3 (hoff h) q,fun F hF=>?_⟩
  unfold Made
  rw [ef]
  exact n_off F (by omega) (m:=(n,mk u,s)) hs g2 g3 (by show spanZ s a * _ ≤ _; omega) q
theorem ch2 {u s:Int} {dims pile:Nat} (hd:dims ≤ 4) {n:tNode.T} (hn:nodeE dims n pile = 0) (hk:nK n = 6 ∨ nK n = 7 ∨ nK n = 8)
  {a b:LZ} {A B:Int} (ha:spanZ s a ≤ A) (hb:spanZ s b ≤ B) (hA:A ≤ BND) (hB:B ≤ BND) {D:List tDim.T} (hfar:farN n (magN u D n [A,B]) ≤ BND) (hmul:nK n = 8→a = constL a.1 ∨ b = constL b.1) {q:Int} (hq:fitB s q = true) :
  Got s (magN u D n [A,B]) (fun x=>evN u D [x] n [valZ s a x,valZ s b x]) q (chZ n u s [a,b] q)∧∀ F,300 < F→Made F n u s [a,b] q (chZ n u s [a,b] q):=by
 have hs:=(fitB_iff.1 hq).1
 have hBND:BND = 1329227995784915872903807060280344576:=rfl
 have hLIM:LIM = 85070591730234615865843651857942052864:=rfl
 rcases hk with h | h | h
 ·have e:chZ n u s [a,b] q = (addL a b,[]):=by unfold chZ; rw [h]; rfl
  have em:magN u D n [A,B] = A + B:=by unfold magN; rw [h]; simp [sumL]
  have ev:∀ x,evN u D [x] n [valZ s a x,valZ s b x] = valZ s a x + valZ s b x:=fun x=>by unfold evN; rw [h]; rfl
  have ef:fnOf n = fn_normal_maker_add:=by unfold fnOf; rw [h]; rfl
  rw [e,em]
  simp only [ev]
  have hg:=got_add hs ha hb q
  refine ⟨hg,fun F hF=>?_⟩
  unfold Made
  rw [ef]
  exact n_add F (m:=(n,mk u,s)) hs (by show spanZ s a ≤ _; omega) (by show spanZ s b ≤ _; omega) (by have:=hg.1; show spanZ s (addL a b) ≤ _; simp only at this; omega) q
 ·have e:chZ n u s [a,b] q = (subL a b,[]):=by unfold chZ; rw [h]; rfl
  have em:magN u D n [A,B] = A + B:=by unfold magN; rw [h]; simp [sumL]
  have ev:∀ x,evN u D [x] n [valZ s a x,valZ s b x] = valZ s a x - valZ s b x:=fun x=>by unfold evN; rw [h]; rfl
  have ef:fnOf n = fn_normal_maker_sub:=by unfold fnOf; rw [h]; rfl
  rw [e,em]
  simp only [ev]
  have hg:=got_sub hs ha hb q
  refine ⟨hg,fun F hF=>?_⟩
  unfold Made
  rw [ef]
  exact n_sub F (m:=(n,mk u,s)) hs (by show spanZ s a ≤ _; omega) (by show spanZ s b ≤ _; omega) (by have:=hg.1; show spanZ s (subL a b) ≤ _; simp only at this; omega) q
 ·have e:chZ n u s [a,b] q = ((if a = constL a.1 then scaleL b a.1 else scaleL a b.1),[]):=by unfold chZ; rw [h]; rfl
  have em:magN u D n [A,B] = A * B:=by unfold magN; rw [h]; rfl
  have ev:∀ x,evN u D [x] n [valZ s a x,valZ s b x] = valZ s a x * valZ s b x:=fun x=>by unfold evN; rw [h]; rfl
  have ef:fnOf n = fn_normal_maker_mul:=by unfold fnOf; rw [h]; rfl
  have hf:A * B ≤ BND:=by rw [em] at hfar; unfold farN at hfar; rw [h] at hfar; exact hfar
  rw [e,em]
  simp only [ev]
  have hg:=got_mul hs ha hb (hmul h) q
  refine ⟨hg,fun F hF=>?_⟩
  unfold Made
  rw [ef]
  exact n_mul F (m:=(n,mk u,s)) hs (by show spanZ s a ≤ _; omega) (by show spanZ s b ≤ _; omega) (by have:=hg.1; show spanZ s (if a = constL a.1 then scaleL b a.1 else scaleL a b.1) ≤ _; simp only at this; omega) q
def bestZ (n:tNode.T) (x y:Int):Int:=bif nK n == 9 then (if y < x then y else x) else if y > x then y else x
theorem ch2m {u s:Int} {n:tNode.T} (hk:nK n = 9 ∨ nK n = 10) {a b:LZ} {A B:Int} (ha:spanZ s a ≤ A) (hb:spanZ s b ≤ B) (hA:0 ≤ A) (hB:0 ≤ B) (hL:A + B ≤ BND) {q:Int} (hq:fitB s q = true) :
  Got s (A + B) (fun x=>bestZ n (valZ s a x) (valZ s b x)) q (chZ n u s [a,b] q)∧((chZ n u s [a,b] q).1 = a ∨ (chZ n u s [a,b] q).1 = b)∧∀ F,300 < F→Made F n u s [a,b] q (chZ n u s [a,b] q):=by
 have hs:=(fitB_iff.1 hq).1
 have hBND:BND = 1329227995784915872903807060280344576:=rfl
 have hLIM:LIM = 85070591730234615865843651857942052864:=rfl
 have h1:=span_sub hs a b
 have h2:=span_sub hs b a
 rcases hk with h | h
 ·have e:chZ n u s [a,b] q = ((bif abvZ s (subL a b) q then b else a),[subL a b]):=by unfold chZ; rw [h]; rfl
  have ev:∀ x y,bestZ n x y = if y < x then y else x:=fun x y=>by unfold bestZ; rw [h]; rfl
  have ef:fnOf n = fn_normal_maker_least:=by unfold fnOf; rw [h]; rfl
  rw [e]
  simp only [ev]
  refine ⟨got_min hs ha hb hA hB (by omega) q,by cases abvZ s (subL a b) q <;> simp,fun F hF=>?_⟩
  unfold Made
  rw [ef]
  exact n_least F (m:=(n,mk u,s)) hq (by show spanZ s a ≤ _; omega) (by show spanZ s b ≤ _; omega) (by show spanZ s (subL a b) ≤ _; omega)
 ·have e:chZ n u s [a,b] q = ((bif abvZ s (subL b a) q then b else a),[subL b a]):=by unfold chZ; rw [h]; rfl
  have ev:∀ x y,bestZ n x y = if y > x then y else x:=fun x y=>by unfold bestZ; rw [h]; rfl
  have ef:fnOf n = fn_normal_maker_most:=by unfold fnOf; rw [h]; rfl
  rw [e]
  simp only [ev]
  refine ⟨got_max hs ha hb hA hB (by omega) q,by cases abvZ s (subL b a) q <;> simp,fun F hF=>?_⟩
  unfold Made
  rw [ef]
  exact n_most F (m:=(n,mk u,s)) hq (by show spanZ s a ≤ _; omega) (by show spanZ s b ≤ _; omega) (by show spanZ s (subL b a) ≤ _; omega)
theorem ch3 {u s:Int} {dims pile:Nat} (hd:dims ≤ 4) {n:tNode.T} (hn:nodeE dims n pile = 0) (h:nK n = 16) {a b c:LZ} {A B C:Int} (ha:spanZ s a ≤ A) (hb:spanZ s b ≤ B) (hc:spanZ s c ≤ C) (hA:0 ≤ A) (hB:0 ≤ B) (hC:0 ≤ C) (hL:A ≤ BND) {D:List tDim.T} {q:Int} (hq:fitB s q = true) :
  Got s (magN u D n [A,B,C]) (fun x=>evN u D [x] n [valZ s a x,valZ s b x,valZ s c x]) q (chZ n u s [a,b,c] q)∧((chZ n u s [a,b,c] q).1 = b ∨ (chZ n u s [a,b,c] q).1 = c)∧∀ F,300 < F→Made F n u s [a,b,c] q (chZ n u s [a,b,c] q):=by
 obtain ⟨g1,g2,g3,g4,g5,g6,g7,g8⟩:=nodeE_ok hn
 have hN2:=most_le hd g3 g1
 have hs:=(fitB_iff.1 hq).1
 have hlim:=bnd_lim hL
 have e:chZ n u s [a,b,c] q = ((bif holdB (nO n) (valZ s a q) (nN n) then b else c),[lessL a (nN n),lessL a (nN n - 1)]):=by unfold chZ; rw [h]; rfl
 have em:magN u D n [A,B,C] = A + (B + C) + nN n:=by unfold magN; rw [h]; simp [sumL]
 have ev:∀ x,evN u D [x] n [valZ s a x,valZ s b x,valZ s c x] = bif holdB (nO n) (valZ s a x) (nN n) then valZ s b x else valZ s c x:=fun x=>by unfold evN; rw [h]; rfl
 have ef:fnOf n = fn_normal_maker_test:=by unfold fnOf; rw [h]; rfl
 have ho:1 ≤ nO n∧nO n ≤ 6:=by
  unfold opB asks at g5
  rw [h] at g5
  have g5:(decide (nO n ≥ 1) && decide (nO n ≤ 6)) = true:=g5
  simp at g5
  omega
 rw [e,em]
 simp only [ev]
 refine ⟨got_test hs ha hb hc g2 hA hB hC (by omega) (nO n) q,by cases holdB (nO n) (valZ s a q) (nN n) <;> simp,fun F hF=>?_⟩
 unfold Made
 rw [ef]
 exact n_test F (m:=(n,mk u,s)) hq g2 hN2 ho.1 ho.2 b c (by show spanZ s a + _ ≤ _; omega)
def QT (S:Int) (t:Tree) (l:LZ):Prop:=(noQ t = true→l = constL l.1)∧(ty t = 1→∃ z,l = scaleL z (10000 ^ (S - deep t).toNat))
theorem noQ_kid {n:tNode.T} {ks:List Tree} (h:noQ (.nd n ks) = true):isQ n = false∧∀ k ∈ ks,noQ k = true:=by
 unfold noQ at h ⊢
 rw [flat_nd,List.all_append,Bool.and_eq_true] at h
 refine ⟨by simpa using h.2,fun k hk=>?_⟩
 refine List.all_eq_true.2 fun x hx=>List.all_eq_true.1 h.1 x ?_
 unfold flats
 exact List.mem_flatten.2 ⟨k.flat,List.mem_map_of_mem hk,hx⟩
theorem QT.div {S:Int} {k:Tree} {l:LZ} (h:QT S k l) (ht:ty k = 1) {e:Int} (h1:deep k ≤ e) (h2:e ≤ S):∃ z,l = scaleL z (10000 ^ (S - e).toNat):=by
 obtain ⟨z,hz⟩:=h.2 ht
 have h0:=(deep_bd k).1
 refine ⟨scaleL z (10000 ^ (e - deep k).toNat),?_⟩
 rw [hz,scale_scale,← Int.pow_add,show (e - deep k).toNat + (S - e).toNat = (S - deep k).toNat by omega]
theorem QT.up {S:Int} {n:tNode.T} {ks:List Tree} {k:Tree} {l:LZ} (h:QT S k l) (hk:k ∈ ks) (hS:deep (.nd n ks) ≤ S) (ht:ty (.nd n ks) = 1→ty k = 1):QT S (.nd n ks) l:=by
 have h1:=(deep_kid hk).2
 have h2:=deep_top n ks
 exact ⟨fun hq=>h.1 ((noQ_kid hq).2 k hk),fun h1'=>h.div (ht h1') (by omega) hS⟩
theorem scale_comm (z:LZ) (a b:Int):scaleL (scaleL z a) b = scaleL (scaleL z b) a:=by rw [scale_scale,scale_scale,Int.mul_comm]
theorem scale_z0 (a:Int):scaleL z0 a = z0:=by simp [scaleL]
theorem less_const (v N:Int):lessL (constL v) N = constL (v - N):=by simp [lessL,subL,constL]
theorem scale_const (v k:Int):scaleL (constL v) k = constL (v * k):=by simp [scaleL,constL]
theorem add_const (v w:Int):addL (constL v) (constL w) = constL (v + w):=by simp [addL,constL]
theorem sub_const (v w:Int):subL (constL v) (constL w) = constL (v - w):=by simp [subL,constL]
theorem add_scale (x y:LZ) (P:Int):addL (scaleL x P) (scaleL y P) = scaleL (addL x y) P:=by simp only [addL,scaleL,Int.add_mul]
theorem sub_scale (x y:LZ) (P:Int):subL (scaleL x P) (scaleL y P) = scaleL (subL x y) P:=by simp only [subL,scaleL,Int.sub_mul]
theorem off_const (N v:Int):offL N (constL v) = constL (offP N v):=by
 have:=offP_scale N 0
 simp only [Int.zero_mul] at this
 simp [offL,constL,this]
theorem is_const {l:LZ} {v:Int} (h:l = constL v):l = constL l.1:=by rw [h]; rfl
theorem ty15 {n:tNode.T} {k:Tree} (h:nK n = 15) (hty:ty (.nd n [k]) ≠ -1):ty k = 1:=by
 have hx:ty (.nd n [k]) = (bif ty k == 1 then (1:Int) else -1):=by rw [ty_nd]; unfold tyN; rw [h]; rfl
 cases hta:(ty k == 1) with
 | true=>simpa using hta
 | false=>rw [hx,hta] at hty; exact absurd rfl hty
theorem off_ten {S:Int} {n:tNode.T} {k:Tree} {a:LZ} (h:nK n = 15) (hty:ty (.nd n [k]) ≠ -1) (hS:deep (.nd n [k]) ≤ S) (ha:QT S k a) :
  ty k = 1∧∃ z,a = scaleL z (10000 ^ (S - deep (.nd n [k])).toNat * 10000):=by
 have h1:=ty15 h hty
 have hdn:=deep_nd n [k]
 rw [h] at hdn
 have hdn:deep (.nd n [k]) = deep k + 1:=by rw [hdn]; rfl
 obtain ⟨z,hz⟩:=ha.div h1 (e:=deep (.nd n [k]) - 1) (by omega) (by omega)
 refine ⟨h1,z,?_⟩
 rw [hz,show (S - (deep (.nd n [k]) - 1)).toNat = (S - deep (.nd n [k])).toNat + 1 by omega,Int.pow_succ]
theorem q1 {S u:Int} (hS0:0 ≤ S) (hu:u = 10000 ^ S.toNat) {n:tNode.T} (hk:nK n = 5 ∨ nK n = 11 ∨ nK n = 12 ∨ nK n = 13 ∨ nK n = 14 ∨ nK n = 15) {k:Tree} (hS:deep (.nd n [k]) ≤ S) (hty:ty (.nd n [k]) ≠ -1) {a:LZ} (ha:QT S k a) (s q:Int):QT S (.nd n [k]) (chZ n u s [a] q).1:=by
 have hd0:=(deep_bd (.nd n [k])).1
 have hup:u = 10000 ^ (deep (.nd n [k])).toNat * 10000 ^ (S - deep (.nd n [k])).toNat:=by
  rw [hu,← Int.pow_add]; congr 1; omega
 have hc:noQ (.nd n [k]) = true→a = constL a.1:=fun h=>ha.1 ((noQ_kid h).2 k (by simp))
 have hno:∀ x:Int,(nK n = 11 ∨ nK n = 12)→¬ ty (.nd n [k]) = 1:=fun x h h1=>by
  have:ty (.nd n [k]) = bif cntB (ty k) then ty k else -1:=by rw [ty_nd]; unfold tyN; rcases h with h | h <;> rw [h] <;> rfl
  rw [this] at h1
  cases hcc:cntB (ty k) with
  | false=>rw [hcc] at h1; exact absurd (show (-1:Int) = 1 from h1) (by decide)
  | true=>rw [hcc] at h1; unfold cntB at hcc; have:=of_decide_eq_true hcc; simp only [cond_true] at h1; omega
 rcases hk with h | h | h | h | h | h
 ·have e:chZ n u s [a] q = (subL z0 a,[]):=by unfold chZ; rw [h]; rfl
  rw [e]
  refine ⟨fun hq=>?_,fun h1=>?_⟩
  ·rw [hc hq]; exact is_const (v:=0 - a.1) (sub_const 0 a.1)
  ·have h1k:ty k = 1:=by
    have ho:oneL ([k].map ty) = 1:=by rw [← h1,ty_nd]; unfold tyN; rw [h]; rfl
    exact oneL_one ho (ty k) (by simp)
   obtain ⟨z,hz⟩:=(ha.up (n:=n) (ks:=[k]) (by simp) hS (fun _=>h1k)).2 h1
   refine ⟨subL z0 z,?_⟩
   show subL z0 a = _
   rw [hz]
   conv=>lhs; rw [← scale_z0 (10000 ^ (S - deep (.nd n [k])).toNat)]
   exact sub_scale _ _ _
 ·have e:chZ n u s [a] q = ((bif abvZ s (lessL a (nN n)) q then lessL a (nN n) else z0),[lessL a (nN n)]):=by unfold chZ; rw [h]; rfl
  rw [e]
  refine ⟨fun hq=>?_,fun h1=>absurd h1 (hno 0 (.inl h))⟩
  rw [hc hq,less_const]
  cases abvZ s (constL (a.1 - nN n)) q <;> rfl
 ·have e:chZ n u s [a] q = ((bif abvZ s (lessL a (nN n)) q then constL (nN n) else a),[lessL a (nN n)]):=by unfold chZ; rw [h]; rfl
  rw [e]
  refine ⟨fun hq=>?_,fun h1=>absurd h1 (hno 0 (.inr h))⟩
  rw [hc hq,less_const]
  cases abvZ s (constL (a.1 - nN n)) q <;> rfl
 ·have e:chZ n u s [a] q = (gradL u a (nT n) (cntT (valZ s a q) (nT n)),tsAt a (nT n) (cntT (valZ s a q) (nT n))):=by unfold chZ; rw [h]; rfl
  rw [e]
  show (_→gradL u a (nT n) (cntT (valZ s a q) (nT n)) = constL (gradL u a (nT n) (cntT (valZ s a q) (nT n))).1)∧(_→∃ z,gradL u a (nT n) (cntT (valZ s a q) (nT n)) = _)
  generalize cntT (valZ s a q) (nT n) = i
  unfold gradL
  refine ⟨fun hq=>?_,fun h1=>?_⟩
  ·rw [hc hq]
   split
   ·rfl
   ·rw [less_const,scale_const,add_const,scale_const]; rfl
  ·split
   ·exact ⟨z0,(scale_z0 _).symm⟩
   ·rw [hup,← scale_scale]; exact ⟨_,rfl⟩
 ·have e:chZ n u s [a] q = (volL u a (nT n) (cntT (valZ s a q) (nT n)),tsAt a (nT n) (cntT (valZ s a q) (nT n))):=by unfold chZ; rw [h]; rfl
  rw [e]
  show (_→volL u a (nT n) (cntT (valZ s a q) (nT n)) = constL (volL u a (nT n) (cntT (valZ s a q) (nT n))).1)∧(_→∃ z,volL u a (nT n) (cntT (valZ s a q) (nT n)) = _)
  generalize cntT (valZ s a q) (nT n) = i
  unfold volL
  refine ⟨fun hq=>?_,fun h1=>?_⟩
  ·rw [hc hq]
   split
   ·rfl
   ·rw [scale_const,scale_const]; rfl
  ·split
   ·exact ⟨z0,(scale_z0 _).symm⟩
   ·rw [hup,← scale_scale]; exact ⟨_,rfl⟩
 ·have e:chZ n u s [a] q = (offL (nN n) a,[]):=by unfold chZ; rw [h]; rfl
  rw [e]
  refine ⟨fun hq=>?_,fun h1=>?_⟩
  ·rw [hc hq,off_const]; rfl
  ·obtain ⟨_,z,hz⟩:=off_ten h hty hS ha
   refine ⟨scaleL z (10000 - nN n),?_⟩
   show offL (nN n) a = _
   rw [hz,← scale_scale,offL_scale,scale_comm]
theorem q2 {S u:Int} {n:tNode.T} (hk:nK n = 6 ∨ nK n = 7 ∨ nK n = 8) {k k':Tree} (hS:deep (.nd n [k,k']) ≤ S) {a b:LZ} (ha:QT S k a) (hb:QT S k' b) (s q:Int):QT S (.nd n [k,k']) (chZ n u s [a,b] q).1:=by
 have hc:noQ (.nd n [k,k']) = true→a = constL a.1∧b = constL b.1:=fun h=>⟨ha.1 ((noQ_kid h).2 k (by simp)),hb.1 ((noQ_kid h).2 k' (by simp))⟩
 have hda:=fun h1:ty k = 1=>ha.div h1 (e:=deep (.nd n [k,k'])) (by have:=(deep_kid (ks:=[k,k']) (k:=k) (by simp)).2; have:=deep_top n [k,k']; omega) hS
 have hdb:=fun h1:ty k' = 1=>hb.div h1 (e:=deep (.nd n [k,k'])) (by have:=(deep_kid (ks:=[k,k']) (k:=k') (by simp)).2; have:=deep_top n [k,k']; omega) hS
 rcases hk with h | h | h
 ·have e:chZ n u s [a,b] q = (addL a b,[]):=by unfold chZ; rw [h]; rfl
  rw [e]
  refine ⟨fun hq=>?_,fun h1=>?_⟩
  ·obtain ⟨c1,c2⟩:=hc hq
   rw [c1,c2,add_const]; rfl
  ·have ho:oneL ([k,k'].map ty) = 1:=by rw [← h1,ty_nd]; unfold tyN; rw [h]; rfl
   obtain ⟨x,hx⟩:=hda (oneL_one ho (ty k) (by simp))
   obtain ⟨y,hy⟩:=hdb (oneL_one ho (ty k') (by simp))
   exact ⟨addL x y,by show addL a b = _; rw [hx,hy,add_scale]⟩
 ·have e:chZ n u s [a,b] q = (subL a b,[]):=by unfold chZ; rw [h]; rfl
  rw [e]
  refine ⟨fun hq=>?_,fun h1=>?_⟩
  ·obtain ⟨c1,c2⟩:=hc hq
   rw [c1,c2,sub_const]; rfl
  ·have ho:oneL ([k,k'].map ty) = 1:=by rw [← h1,ty_nd]; unfold tyN; rw [h]; rfl
   obtain ⟨x,hx⟩:=hda (oneL_one ho (ty k) (by simp))
   obtain ⟨y,hy⟩:=hdb (oneL_one ho (ty k') (by simp))
   exact ⟨subL x y,by show subL a b = _; rw [hx,hy,sub_scale]⟩
 ·have e:chZ n u s [a,b] q = ((if a = constL a.1 then scaleL b a.1 else scaleL a b.1),[]):=by unfold chZ; rw [h]; rfl
  rw [e]
  have hdv:∀ (x:LZ) (P y1:Int) (y z:LZ),(x = scaleL z P ∨ (y = scaleL z P∧y1 = y.1))→∃ w,scaleL x y1 = scaleL w P:=fun x P y1 y z hxy=>by
   rcases hxy with rfl | ⟨rfl,rfl⟩
   ·exact ⟨scaleL z y1,scale_comm _ _ _⟩
   ·exact ⟨scaleL x z.1,by rw [scale_scale]; rfl⟩
  refine ⟨fun hq=>?_,fun h1=>?_⟩
  ·obtain ⟨c1,c2⟩:=hc hq
   show (if a = constL a.1 then scaleL b a.1 else scaleL a b.1) = constL (if a = constL a.1 then scaleL b a.1 else scaleL a b.1).1
   rw [if_pos c1,c2,scale_const]; rfl
  ·have ho:prodT (ty k) (ty k') = 1:=by rw [← h1,ty_nd]; unfold tyN; rw [h]; rfl
   show ∃ z,(if a = constL a.1 then scaleL b a.1 else scaleL a b.1) = _
   rcases prodT_one ho with h2 | h2
   ·obtain ⟨x,hx⟩:=hda h2
    split
    ·exact hdv b _ a.1 a x (.inr ⟨hx,rfl⟩)
    ·exact hdv a _ b.1 b x (.inl hx)
   ·obtain ⟨x,hx⟩:=hdb h2
    split
    ·exact hdv b _ a.1 a x (.inl hx)
    ·exact hdv a _ b.1 b x (.inr ⟨hx,rfl⟩)
theorem mul_const {S:Int} {n:tNode.T} {k k':Tree} (h:nK n = 8) (hty:tyE (.nd n [k,k']) = 0) {a b:LZ} (ha:QT S k a) (hb:QT S k' b):a = constL a.1 ∨ b = constL b.1:=by
 unfold tyE at hty
 cases h1:(ty (.nd n [k,k']) == -1) with
 | true=>rw [h1] at hty; exact absurd (show (80:Int) = 0 from hty) (by decide)
 | false =>
  rw [h1] at hty
  have e:linE (Tree.nd n [k,k']).root ((Tree.nd n [k,k']).kids.map noQ) = (!noQ k && !noQ k'):=by
   unfold linE
   rw [show (Tree.nd n [k,k']).root = n from rfl,h]
   rfl
  rw [e] at hty
  cases hk:noQ k with
  | true=>exact .inl (ha.1 hk)
  | false =>
   cases hk':noQ k' with
   | true=>exact .inr (hb.1 hk')
   | false=>rw [hk,hk'] at hty; exact absurd (show (81:Int) = 0 from hty) (by decide)
theorem tyE_ne {t:Tree} (h:tyE t = 0):ty t ≠ -1:=fun h1=>by
 unfold tyE at h
 rw [h1] at h
 exact absurd (show (80:Int) = 0 from h) (by decide)
theorem PG.at {s M:Int} {V:Int→Int} {Q:LZ→Prop} {ps:List PZ} (h:PG s M V Q ps) (q:Int):spanZ s (lineAt ps q) ≤ M∧Q (lineAt ps q):=by
 obtain ⟨p,hp,e⟩:=lineAt_mem ps q h.ne
 rw [e]
 exact ⟨h.sp p hp,h.pr p hp⟩
theorem flips {s q:Int} {t:LZ} (hq:fitB s q = true) (h:spanZ s t ≤ LIM):∃ f,isFlip s t q f:=by
 obtain ⟨f,_,hf⟩:=flip_eq 71 (by decide) h hq
 exact ⟨f,hf⟩
theorem fit_of {s q:Int} (hs:1 ≤ s) (hs2:s ≤ 1000000000000) (h0:0 ≤ q) (h1:q ≤ 1099511627776):fitB s q = true:=fitB_iff.2 ⟨hs,hs2,h0,h1⟩
theorem mk1 {s u M A:Int} (hs:1 ≤ s) (hs2:s ≤ 1000000000000) {n:tNode.T} {V V0:Int→Int} {W:Int→Int→Int} {Q Q0:LZ→Prop} {p0:List PZ} (g0:PG s A V0 Q0 p0)
  (h:∀ a q,spanZ s a ≤ A→Q0 a→fitB s q = true→Q (chZ n u s [a] q).1∧Got s M (fun x=>W x (valZ s a x)) q (chZ n u s [a] q)∧∀ F,300 < F→Made F n u s [a] q (chZ n u s [a] q))
  (hV:∀ x,0 ≤ x→x ≤ 1099511627776→V x = W x (V0 x)):Step s M V Q (chZ n u s) [p0]∧∀ F,300 < F→Calls F (fnOf n,(n,mk u,s)) (chZ n u s) s [p0]:=by
 refine ⟨fun q q0 q1=>?_,fun F hF q q0 q1=>?_⟩
 ·have hq:=fit_of hs hs2 q0 q1
  obtain ⟨h1,⟨h2,h3,h4,h5⟩,h6⟩:=h _ q (g0.at q).1 (g0.at q).2 hq
  refine ⟨h2,h1,fun t ht=>flips hq (h3 t ht),fun x x0 x1 e ht=>?_⟩
  have e0:lineAt p0 x = lineAt p0 q:=by simpa using e
  refine (h5 x ht).trans ?_
  rw [hV x (by omega) x1,← g0.vl x (by omega) x1,e0]
 ·have hq:=fit_of hs hs2 q0 q1
  obtain ⟨h1,⟨h2,h3,h4,h5⟩,h6⟩:=h _ q (g0.at q).1 (g0.at q).2 hq
  exact ⟨h6 F hF,h3,h4⟩
theorem mk2 {s u M A B:Int} (hs:1 ≤ s) (hs2:s ≤ 1000000000000) {n:tNode.T} {V V0 V1:Int→Int} {W:Int→Int→Int→Int} {Q Q0 Q1:LZ→Prop} {p0 p1:List PZ} (g0:PG s A V0 Q0 p0) (g1:PG s B V1 Q1 p1)
  (h:∀ a b q,spanZ s a ≤ A→spanZ s b ≤ B→Q0 a→Q1 b→fitB s q = true→Q (chZ n u s [a,b] q).1∧Got s M (fun x=>W x (valZ s a x) (valZ s b x)) q (chZ n u s [a,b] q)∧∀ F,300 < F→Made F n u s [a,b] q (chZ n u s [a,b] q))
  (hV:∀ x,0 ≤ x→x ≤ 1099511627776→V x = W x (V0 x) (V1 x)):Step s M V Q (chZ n u s) [p0,p1]∧∀ F,300 < F→Calls F (fnOf n,(n,mk u,s)) (chZ n u s) s [p0,p1]:=by
 refine ⟨fun q q0 q1=>?_,fun F hF q q0 q1=>?_⟩
 ·have hq:=fit_of hs hs2 q0 q1
  obtain ⟨h1,⟨h2,h3,h4,h5⟩,h6⟩:=h _ _ q (g0.at q).1 (g1.at q).1 (g0.at q).2 (g1.at q).2 hq
  refine ⟨h2,h1,fun t ht=>flips hq (h3 t ht),fun x x0 x1 e ht=>?_⟩
  have e:lineAt p0 x = lineAt p0 q∧lineAt p1 x = lineAt p1 q:=by simpa using e
  refine (h5 x ht).trans ?_
  rw [hV x (by omega) x1,← g0.vl x (by omega) x1,← g1.vl x (by omega) x1,e.1,e.2]
 ·have hq:=fit_of hs hs2 q0 q1
  obtain ⟨h1,⟨h2,h3,h4,h5⟩,h6⟩:=h _ _ q (g0.at q).1 (g1.at q).1 (g0.at q).2 (g1.at q).2 hq
  exact ⟨h6 F hF,h3,h4⟩
theorem mk3 {s u M A B C:Int} (hs:1 ≤ s) (hs2:s ≤ 1000000000000) {n:tNode.T} {V V0 V1 V2:Int→Int} {W:Int→Int→Int→Int→Int} {Q Q0 Q1 Q2:LZ→Prop} {p0 p1 p2:List PZ} (g0:PG s A V0 Q0 p0) (g1:PG s B V1 Q1 p1) (g2:PG s C V2 Q2 p2)
  (h:∀ a b c q,spanZ s a ≤ A→spanZ s b ≤ B→spanZ s c ≤ C→Q0 a→Q1 b→Q2 c→fitB s q = true→Q (chZ n u s [a,b,c] q).1∧Got s M (fun x=>W x (valZ s a x) (valZ s b x) (valZ s c x)) q (chZ n u s [a,b,c] q)∧∀ F,300 < F→Made F n u s [a,b,c] q (chZ n u s [a,b,c] q))
  (hV:∀ x,0 ≤ x→x ≤ 1099511627776→V x = W x (V0 x) (V1 x) (V2 x)):Step s M V Q (chZ n u s) [p0,p1,p2]∧∀ F,300 < F→Calls F (fnOf n,(n,mk u,s)) (chZ n u s) s [p0,p1,p2]:=by
 refine ⟨fun q q0 q1=>?_,fun F hF q q0 q1=>?_⟩
 ·have hq:=fit_of hs hs2 q0 q1
  obtain ⟨h1,⟨h2,h3,h4,h5⟩,h6⟩:=h _ _ _ q (g0.at q).1 (g1.at q).1 (g2.at q).1 (g0.at q).2 (g1.at q).2 (g2.at q).2 hq
  refine ⟨h2,h1,fun t ht=>flips hq (h3 t ht),fun x x0 x1 e ht=>?_⟩
  have e:lineAt p0 x = lineAt p0 q∧lineAt p1 x = lineAt p1 q∧lineAt p2 x = lineAt p2 q:=by simpa using e
  refine (h5 x ht).trans ?_
  rw [hV x (by omega) x1,← g0.vl x (by omega) x1,← g1.vl x (by omega) x1,← g2.vl x (by omega) x1,e.1,e.2.1,e.2.2]
 ·have hq:=fit_of hs hs2 q0 q1
  obtain ⟨h1,⟨h2,h3,h4,h5⟩,h6⟩:=h _ _ _ q (g0.at q).1 (g1.at q).1 (g2.at q).1 (g0.at q).2 (g1.at q).2 (g2.at q).2 hq
  exact ⟨h6 F hF,h3,h4⟩
def leafZ (u:Int) (n:tNode.T):LZ:=bif nK n == 1 then constL (nN n) else bif nK n == 2 then constL (nN n * u) else bif nK n == 3 then (0,1,0) else (0,0,1)
noncomputable def foldZ (n:tNode.T) (u s:Int):List PZ→List (List PZ)→Option (List PZ)
 | acc,[]=>some acc
 | acc,k :: r=>match mdZ (chZ n u s) s [acc,k] 4096 0 [] with | none=>none | some a=>foldZ n u s a r
noncomputable def allZ (n:tNode.T) (u s:Int) (kids:List (List PZ)):Option (List PZ) :=
 bif nK n == 9 || nK n == 10 then foldZ n u s (kids.getD 0 []) (kids.drop 1) else mdZ (chZ n u s) s kids 4096 0 []
noncomputable def pcN (u s:Int) (n:tNode.T) (ks:List (Option (List PZ))):Option (List PZ) :=
 bif decide (nK n ≤ 4) then some [(0,leafZ u n)] else allZ n u s (ks.map fun k=>k.getD [])
noncomputable def pc (u s:Int):Tree→Option (List PZ):=Tree.fold (pcN u s)
theorem pc_nd (u s:Int) (n:tNode.T) (ks:List Tree):pc u s (.nd n ks) = pcN u s n (ks.map (pc u s)):=Tree.fold_nd _ n ks
noncomputable abbrev pcs (u s:Int) (t:Tree):List PZ:=(pc u s t).getD []
noncomputable def pcE (u s:Int) (t:Tree):Int:=bif (pc u s t).isNone then 120 else 0
structure PT (u S:Int) (d:tDim.T) (t:Tree):Prop where
 pg:PG (dS d) (mag u [d] t) (fun x=>ev u [d] [x] t) (QT S t) (pcs u (dS d) t)
 m0:0 ≤ mag u [d] t
 mb:mag u [d] t ≤ BND
theorem all_two (F:Nat) (hF:4200 < F) {u s:Int} (hs:1 ≤ s) (hs2:s ≤ 1000000000000) {n:tNode.T} (hk:nK n = 9 ∨ nK n = 10) {Q:LZ→Prop} {A B:Int} {VA VB:Int→Int} {p0 p1:List PZ} (g0:PG s A VA Q p0) (g1:PG s B VB Q p1) (hA:0 ≤ A) (hB:0 ≤ B) (hL:A + B ≤ BND) :
  normal_maker_made.sh F (n,mk u,s) (fnOf n,(n,mk u,s)) [p0.map wP,p1.map wP] = some (mdR (mdZ (chZ n u s) s [p0,p1] 4096 0 [])) ∧
  ∀ ps,mdZ (chZ n u s) s [p0,p1] 4096 0 [] = some ps→PG s (A + B) (fun x=>bestZ n (VA x) (VB x)) Q ps:=by
 obtain ⟨st,ca⟩:=mk2 (u:=u) (M:=A + B) (n:=n) (V:=fun x=>bestZ n (VA x) (VB x)) (W:=fun _=>bestZ n) (Q:=Q) hs hs2 g0 g1 (fun a b q ha hb qa qb hq=>by
  obtain ⟨h1,h2,h3⟩:=ch2m (u:=u) hk ha hb hA hB hL hq
  exact ⟨by rcases h2 with h2 | h2 <;> rw [h2] <;> assumption,h1,h3⟩) (fun x _ _=>rfl)
 refine ⟨?_,fun ps h=>made_PG st h⟩
 exact made_eq F hF (fnOf n,(n,mk u,s)) (KS:=[p0,p1]) (by simp [g0.len,g1.len]) (by simp) (by simp [g0.ne,g1.ne]) (n,mk u,s) hs hs2 (ca F (by omega)) (fun q q0 q1=>(nextZ_bd st q0 q1).1)
theorem fold_pc (F:Nat) (hF:4200 < F) {u s:Int} (hs:1 ≤ s) (hs2:s ≤ 1000000000000) {n:tNode.T} (hk:nK n = 9 ∨ nK n = 10) {Q:LZ→Prop} (of:Nat×tNormal_maker.T) (hof:of = (fnOf n,(n,mk u,s)))
  {R:Type} (k0:List tPiece.T→Bool→Option R) (k1:List tPiece.T→Option R) (L:List (List tPiece.T)) (N:Int):∀ (r:List (List PZ×Int×(Int→Int))) (i:Int) (acc:List PZ) (A:Int) (VA:Int→Int),PG s A VA Q acc→0 ≤ A→A + (r.map fun x=>x.2.1).sum ≤ BND→(∀ x ∈ r,0 ≤ x.2.1∧PG s x.2.1 x.2.2 Q x.1) →
  (normal_maker_all.l5.rg F k0 (fun _ made _ _ _ _ _=>k1 made) L N (r.map fun x=>x.1.map wP) i of (acc.map wP) (n,mk u,s) = match foldZ n u s acc (r.map fun x=>x.1) with | some ps=>k1 (ps.map wP) | none=>k0 [] false) ∧
  ∀ ps,foldZ n u s acc (r.map fun x=>x.1) = some ps→PG s (A + (r.map fun x=>x.2.1).sum) (fun x=>r.foldl (fun v y=>bestZ n v (y.2.2 x)) (VA x)) Q ps
 | [],i,acc,A,VA,g,hA,hL,hr=>by
  refine ⟨rfl,fun ps h=>?_⟩
  have h:acc = ps:=by simpa [foldZ] using h
  subst h
  simpa using g
 | y :: r,i,acc,A,VA,g,hA,hL,hr=>by
  obtain ⟨y0,gy⟩:=hr y (by simp)
  have hsum:0 ≤ (r.map fun x=>x.2.1).sum:=by
   have:∀ (l:List (List PZ×Int×(Int→Int))),(∀ x ∈ l,0 ≤ x.2.1)→0 ≤ (l.map fun x=>x.2.1).sum:=by
    intro l
    induction l with
    | nil=>intro _; simp
    | cons z l ih=>intro h; have:=ih (fun x hx=>h x (List.mem_cons_of_mem _ hx)); have:=h z (by simp); simp only [List.map_cons,List.sum_cons]; omega
   exact this r (fun x hx=>(hr x (List.mem_cons_of_mem _ hx)).1)
  simp only [List.map_cons,List.sum_cons] at hL ⊢
  obtain ⟨e1,e2⟩:=all_two F hF hs hs2 hk (u:=u) g gy hA y0 (by omega)
  subst hof
  rw [normal_maker_all.l5.rg,e1,oB_some]
  simp only [foldZ]
  cases hm:mdZ (chZ n u s) s [acc,y.1] 4096 0 [] with
  | none=>exact ⟨rfl,fun ps h=>by cases h⟩
  | some a =>
   obtain ⟨f1,f2⟩:=fold_pc F hF hs hs2 hk (u:=u) (fnOf n,(n,mk u,s)) rfl k0 k1 L N r (i + 1) a (A + y.2.1) (fun x=>bestZ n (VA x) (y.2.2 x)) (e2 a hm) (by omega) (by omega) (fun x hx=>hr x (List.mem_cons_of_mem _ hx))
   refine ⟨f1,fun ps h=>?_⟩
   have:=f2 ps h
   rw [Int.add_assoc] at this
   exact this
theorem kind_in {n:tNode.T} (hg:goodK n = true) (hk:kidsK n = true):(ar n = 0∧(nK n = 1 ∨ nK n = 2 ∨ nK n = 3 ∨ nK n = 4)) ∨ (ar n = 1∧(nK n = 5 ∨ nK n = 11 ∨ nK n = 12 ∨ nK n = 13 ∨ nK n = 14 ∨ nK n = 15)) ∨
  (ar n = 2∧(nK n = 6 ∨ nK n = 7 ∨ nK n = 8)) ∨ ((2 ≤ ar n∧ar n ≤ 16)∧(nK n = 9 ∨ nK n = 10)) ∨ (ar n = 3∧nK n = 16):=by
 have h9:(nK n = 9 ∨ nK n = 10)→2 ≤ ar n∧ar n ≤ 16:=fun h=>by
  rcases h with h | h <;> rw [kids_of h] at hk <;> rw [ar_of h]
  ·have hk:(decide (nC n ≥ 2) && decide (nC n ≤ 16)) = true:=hk
   show 2 ≤ (nC n).toNat∧(nC n).toNat ≤ 16
   simp at hk; omega
  ·have hk:(decide (nC n ≥ 2) && decide (nC n ≤ 16)) = true:=hk
   show 2 ≤ (nC n).toNat∧(nC n).toNat ≤ 16
   simp at hk; omega
 rcases kinds16 hg with h | h | h | h | h | h | h | h | h | h | h | h | h | h | h | h
 ·exact .inl ⟨by rw [ar_of h]; rfl,by omega⟩
 ·exact .inl ⟨by rw [ar_of h]; rfl,by omega⟩
 ·exact .inl ⟨by rw [ar_of h]; rfl,by omega⟩
 ·exact .inl ⟨by rw [ar_of h]; rfl,by omega⟩
 ·exact .inr (.inl ⟨by rw [ar_of h]; rfl,by omega⟩)
 ·exact .inr (.inr (.inl ⟨by rw [ar_of h]; rfl,by omega⟩))
 ·exact .inr (.inr (.inl ⟨by rw [ar_of h]; rfl,by omega⟩))
 ·exact .inr (.inr (.inl ⟨by rw [ar_of h]; rfl,by omega⟩))
 ·exact .inr (.inr (.inr (.inl ⟨h9 (.inl h),.inl h⟩)))
 ·exact .inr (.inr (.inr (.inl ⟨h9 (.inr h),.inr h⟩)))
 ·exact .inr (.inl ⟨by rw [ar_of h]; rfl,by omega⟩)
 ·exact .inr (.inl ⟨by rw [ar_of h]; rfl,by omega⟩)
 ·exact .inr (.inl ⟨by rw [ar_of h]; rfl,by omega⟩)
 ·exact .inr (.inl ⟨by rw [ar_of h]; rfl,by omega⟩)
 ·exact .inr (.inl ⟨by rw [ar_of h]; rfl,by omega⟩)
 ·exact .inr (.inr (.inr (.inr ⟨by rw [ar_of h]; rfl,h⟩)))
theorem leaf_pc (F:Nat) {u S:Int} (hS0:0 ≤ S) (hu:u = 10000 ^ S.toNat) (hu1:1 ≤ u) (hu2:u ≤ 1000000000000000000000000) {d:tDim.T} (hs:1 ≤ dS d) (hs2:dS d ≤ 1000000000000) {n:tNode.T} {pile:Nat} (hn:nodeE 1 n pile = 0) (hk:nK n = 1 ∨ nK n = 2 ∨ nK n = 3 ∨ nK n = 4) :
  normal_maker_leaf.sh F (n,mk u,dS d) = some (([wP (0,leafZ u n)],()),())∧PG (dS d) (mag u [d] (.nd n [])) (fun x=>ev u [d] [x] (.nd n [])) (QT S (.nd n [])) [(0,leafZ u n)]:=by
 obtain ⟨g1,g2,g3,g4,g5,g6,g7,g8⟩:=nodeE_ok hn
 have hN2:=most_le (show 1 ≤ 4 by omega) g3 g1
 have i1:mk 1 = (0,1):=rfl
 have mkPG:∀ M (V:Int→Int) (Q:LZ→Prop),spanZ (dS d) (leafZ u n) ≤ M→Q (leafZ u n)→(∀ x,0 ≤ x→x ≤ 1099511627776→valZ (dS d) (leafZ u n) x = V x)→PG (dS d) M V Q [(0,leafZ u n)]:=fun M V Q h1 h2 h3 =>
  ⟨by simp,by simp,by simp,⟨trivial,trivial⟩,by simpa using h1,by simpa using h2,h3⟩
 have ha:mag u [d] (.nd n []) = magN u [d] n []:=by rw [mag_nd]; rfl
 have hv:∀ x,ev u [d] [x] (.nd n []) = evN u [d] [x] n []:=fun x=>by rw [ev_nd]; rfl
 have ht:ty (.nd n []) = tyN n []:=by rw [ty_nd]; rfl
 have hq:noQ (.nd n []) = !isQ n:=by
  unfold noQ; rw [flat_nd]; simp [flats]
 rw [ha]
 simp only [hv]
 rcases hk with h | h | h | h
 ·have e:leafZ u n = constL (nN n):=by unfold leafZ; rw [h]; rfl
  rw [e] at mkPG ⊢
  refine ⟨?_,mkPG _ _ _ ?_ ⟨fun _=>rfl,fun h1=>?_⟩ fun x _ _=>?_⟩
  ·unfold normal_maker_leaf.sh
   rw [show (n,mk u,dS d).1.1 = 1 from h]
   simp only [beq_self_eq_true,cond_true]
   rw [of_eq F (v:=n.2.1) (show _ ≤ nN n by omega) (show nN n < _ by omega),oB_some]
   rfl
  ·rw [span_const,nA_of g2,show magN u [d] n [] = nN n by unfold magN; rw [h]; rfl]; omega
  ·rw [ht,show tyN n [] = 0 by unfold tyN; rw [h]; rfl] at h1; omega
  ·rw [val_const]; unfold evN; rw [h]; rfl
 ·have e:leafZ u n = constL (nN n * u):=by unfold leafZ; rw [h]; rfl
  have hb:=mul_bd g2 hN2 (show 0 ≤ u by omega) hu2
  have iu:inR u = true:=by rw [inR_iff]; omega
  have iN:inR (nN n) = true:=by rw [inR_iff]; omega
  have im:inR (nN n * u) = true:=by rw [inR_iff]; omega
  rw [e] at mkPG ⊢
  refine ⟨?_,mkPG _ _ _ ?_ ⟨fun _=>rfl,fun h1=>?_⟩ fun x _ _=>?_⟩
  ·unfold normal_maker_leaf.sh
   rw [show (n,mk u,dS d).1.1 = 2 from h]
   simp only [Int.reduceBEq,cond_false,beq_self_eq_true,cond_true]
   rw [of_eq F (v:=n.2.1) (show _ ≤ nN n by omega) (show nN n < _ by omega),oB_some,wmul_eq F (wf_mk iN) (wf_mk iu),oB_some,val_mk,val_mk,(res_in im).1]
   rfl
  ·rw [span_const,nA_of hb.1,show magN u [d] n [] = nN n * u by unfold magN; rw [h]; rfl]; omega
  ·have hd:deep (.nd n []) = 0:=by rw [deep_nd,h]; rfl
   rw [hd,Int.sub_zero,← hu]
   exact ⟨constL (nN n),(scale_const _ _).symm⟩
  ·rw [val_const]; unfold evN; rw [h]; rfl
 ·have e:leafZ u n = (0,1,0):=by unfold leafZ; rw [h]; rfl
  rw [most_of h] at g3
  have g3:nN n ≤ 0:=g3
  rw [e] at mkPG ⊢
  refine ⟨?_,mkPG _ _ _ ?_ ⟨fun h1=>?_,fun h1=>?_⟩ fun x _ _=>?_⟩
  ·unfold normal_maker_leaf.sh
   rw [show (n,mk u,dS d).1.1 = 3 from h]
   simp only [Int.reduceBEq,cond_false,beq_self_eq_true,cond_true]
   rw [of_eq F (v:=1) (by omega) (by omega),oB_some]
   rfl
  ·rw [show magN u [d] n [] = 1099511627776 by unfold magN; rw [h]; rfl]
   simp only [spanZ,show nA 0 = 0 from rfl,show nA 1 = 1 from rfl,Int.zero_mul,Int.one_mul]
   omega
  ·rw [hq] at h1; unfold isQ at h1; rw [h] at h1; cases h1
  ·rw [ht,show tyN n [] = 2 + 2 * nN n by unfold tyN; rw [h]; rfl] at h1; omega
  ·have:nN n = 0:=by omega
   simp only [valZ]
   unfold evN; rw [h,this]
   show 0 + 1 * x + 0 * _ = x
   omega
 ·have e:leafZ u n = (0,0,1):=by unfold leafZ; rw [h]; rfl
  rw [most_of h] at g3
  have g3:nN n ≤ 0:=g3
  have h0:nN n = 0:=by omega
  rw [e] at mkPG ⊢
  refine ⟨?_,mkPG _ _ _ ?_ ⟨fun h1=>?_,fun h1=>?_⟩ fun x _ _=>?_⟩
  ·unfold normal_maker_leaf.sh
   rw [show (n,mk u,dS d).1.1 = 4 from h]
   simp only [Int.reduceBEq,cond_false,beq_self_eq_true,cond_true]
   rw [of_eq F (v:=1) (by omega) (by omega),oB_some]
   rfl
  ·rw [show magN u [d] n [] = ceilD 1099511627776 (dS d) by unfold magN; rw [h,h0]; rfl]
   simp only [spanZ,show nA 0 = 0 from rfl,show nA 1 = 1 from rfl,Int.zero_mul,Int.one_mul]
   show 0 + 0 + ceilD 1099511627776 (dS d) ≤ _
   omega
  ·rw [hq] at h1; unfold isQ at h1; rw [h] at h1; cases h1
  ·rw [ht,show tyN n [] = 3 + 2 * nN n by unfold tyN; rw [h]; rfl] at h1; omega
  ·simp only [valZ]
   unfold evN; rw [h,h0]
   show 0 + 0 * x + 1 * ceilD x (dS d) = ceilD x (dS d)
   omega
theorem minF_best {n:tNode.T} (h:nK n = 9):∀ (l:List Int) (m:Int),minF m l = l.foldl (bestZ n) m:=by
 have:bestZ n = fun m x=>if x < m then x else m:=by funext m x; unfold bestZ; rw [h]; rfl
 intro l m
 rw [this]; rfl
theorem maxF_best {n:tNode.T} (h:nK n = 10):∀ (l:List Int) (m:Int),maxF m l = l.foldl (bestZ n) m:=by
 have:bestZ n = fun m x=>if x > m then x else m:=by funext m x; unfold bestZ; rw [h]; rfl
 intro l m
 rw [this]; rfl
theorem node_pc (F:Nat) (hF:4200 < F) {u S:Int} (hS0:0 ≤ S) (hu:u = 10000 ^ S.toNat) (hu1:1 ≤ u) (hu2:u ≤ 1000000000000000000000000) {d:tDim.T} (hs:1 ≤ dS d) (hs2:dS d ≤ 1000000000000) {n:tNode.T} {pile:Nat} (hn:nodeE 1 n pile = 0) {ks:List Tree} (hl:ks.length = ar n) (ha:1 ≤ ar n)
  (hty:tyE (.nd n ks) = 0) (hm:farN n (mag u [d] (.nd n ks)) ≤ BND) (hS:deep (.nd n ks) ≤ S) (hk:∀ k ∈ ks,PT u S d k) :
  normal_maker_all.sh F (n,mk u,dS d) (fnOf n,(n,mk u,dS d)) (ks.map fun k=>(pcs u (dS d) k).map wP) = some (mdR (pc u (dS d) (.nd n ks))) ∧
  ∀ ps,pc u (dS d) (.nd n ks) = some ps→PG (dS d) (mag u [d] (.nd n ks)) (fun x=>ev u [d] [x] (.nd n ks)) (QT S (.nd n ks)) ps:=by
 obtain ⟨g1,g2,g3,g4,g5,g6,g7,g8⟩:=nodeE_ok hn
 have iu:inR u = true:=by rw [inR_iff]; omega
 have hmag:=mag_nd u [d] n ks
 have hev:∀ x,ev u [d] [x] (.nd n ks) = evN u [d] [x] n (ks.map (ev u [d] [x])):=fun x=>ev_nd _ _ _ _ _
 have htn:=tyE_ne hty
 rcases kind_in g1 g4 with ⟨h,_⟩ | ⟨h,hkd⟩ | ⟨h,hkd⟩ | ⟨h,hkd⟩ | ⟨h,hkd⟩
 ·omega
 ·obtain ⟨k,rfl⟩:=List.length_eq_one_iff.1 (hl.trans h)
  have pk:=hk k (by simp)
  have hf:farN n (magN u [d] n [mag u [d] k]) ≤ BND:=by rw [hmag] at hm; exact hm
  have hpc:pc u (dS d) (.nd n [k]) = mdZ (chZ n u (dS d)) (dS d) [pcs u (dS d) k] 4096 0 []:=by
   rw [pc_nd]; unfold pcN allZ
   rw [decide_eq_false (show ¬ nK n ≤ 4 by omega),show (nK n == 9 || nK n == 10) = false by rcases hkd with h | h | h | h | h | h <;> rw [h] <;> rfl]
   rfl
  obtain ⟨st,ca⟩:=mk1 (u:=u) (M:=magN u [d] n [mag u [d] k]) (n:=n) (V:=fun x=>ev u [d] [x] (.nd n [k])) (W:=fun x v=>evN u [d] [x] n [v]) (Q:=QT S (.nd n [k])) hs hs2 pk.pg (fun a q ha' qa hq=>by
   obtain ⟨h1,h2⟩:=ch1 hu1 iu (show 1 ≤ 4 by omega) hn hkd ha' pk.m0 pk.mb hf (fun h15=>by
    obtain ⟨_,z,hz⟩:=off_ten h15 htn hS qa
    exact ⟨scaleL z (10000 ^ (S - deep (.nd n [k])).toNat),by rw [scale_scale]; exact hz⟩) hq
   exact ⟨q1 hS0 hu hkd hS htn qa _ _,h1,h2⟩) (fun x _ _=>hev x)
  rw [hpc,hmag]
  refine ⟨?_,fun ps hps=>made_PG st hps⟩
  unfold normal_maker_all.sh
  have e9:((n,mk u,dS d).1.1 != 9) = true:=by show (nK n != 9) = true; rcases hkd with h | h | h | h | h | h <;> rw [h] <;> rfl
  have e10:((n,mk u,dS d).1.1 != 10) = true:=by show (nK n != 10) = true; rcases hkd with h | h | h | h | h | h <;> rw [h] <;> rfl
  rw [e9,e10]
  simp only [cond_true]
  have hmd:=made_eq F hF (fnOf n,(n,mk u,dS d)) (KS:=[pcs u (dS d) k]) (by simp [pk.pg.len]) (by simp) (by simp [pk.pg.ne]) (n,mk u,dS d) hs hs2 (ca F (by omega)) (fun q q0 q1=>(nextZ_bd st q0 q1).1)
  have hmd':normal_maker_made.sh F (n,mk u,dS d) (fnOf n,(n,mk u,dS d)) ([k].map fun k=>(pcs u (dS d) k).map wP) = _:=hmd
  rw [hmd',oB_some]
 ·obtain ⟨k,k',rfl⟩:=len2 (hl.trans h)
  have pk:=hk k (by simp)
  have pk':=hk k' (by simp)
  have hf:farN n (magN u [d] n [mag u [d] k,mag u [d] k']) ≤ BND:=by rw [hmag] at hm; exact hm
  have hpc:pc u (dS d) (.nd n [k,k']) = mdZ (chZ n u (dS d)) (dS d) [pcs u (dS d) k,pcs u (dS d) k'] 4096 0 []:=by
   rw [pc_nd]; unfold pcN allZ
   rw [decide_eq_false (show ¬ nK n ≤ 4 by omega),show (nK n == 9 || nK n == 10) = false by rcases hkd with h | h | h <;> rw [h] <;> rfl]
   rfl
  obtain ⟨st,ca⟩:=mk2 (u:=u) (M:=magN u [d] n [mag u [d] k,mag u [d] k']) (n:=n) (V:=fun x=>ev u [d] [x] (.nd n [k,k'])) (W:=fun x v w=>evN u [d] [x] n [v,w]) (Q:=QT S (.nd n [k,k'])) hs hs2 pk.pg pk'.pg (fun a b q ha' hb' qa qb hq=>by
   obtain ⟨h1,h2⟩:=ch2 (u:=u) (show 1 ≤ 4 by omega) hn hkd ha' hb' pk.mb pk'.mb hf (fun h8=>mul_const h8 hty qa qb) hq
   exact ⟨q2 hkd hS qa qb _ _,h1,h2⟩) (fun x _ _=>hev x)
  rw [hpc,hmag]
  refine ⟨?_,fun ps hps=>made_PG st hps⟩
  unfold normal_maker_all.sh
  have e9:((n,mk u,dS d).1.1 != 9) = true:=by show (nK n != 9) = true; rcases hkd with h | h | h <;> rw [h] <;> rfl
  have e10:((n,mk u,dS d).1.1 != 10) = true:=by show (nK n != 10) = true; rcases hkd with h | h | h <;> rw [h] <;> rfl
  rw [e9,e10]
  simp only [cond_true]
  have hmd:=made_eq F hF (fnOf n,(n,mk u,dS d)) (KS:=[pcs u (dS d) k,pcs u (dS d) k']) (by simp [pk.pg.len,pk'.pg.len]) (by simp) (by simp [pk.pg.ne,pk'.pg.ne]) (n,mk u,dS d) hs hs2 (ca F (by omega)) (fun q q0 q1=>(nextZ_bd st q0 q1).1)
  have hmd':normal_maker_made.sh F (n,mk u,dS d) (fnOf n,(n,mk u,dS d)) ([k,k'].map fun k=>(pcs u (dS d) k).map wP) = _:=hmd
  rw [hmd',oB_some]
 ·obtain ⟨k,r,rfl⟩:∃ k r,ks = k :: r:=by
   cases ks with
   | nil=>simp at hl; omega
   | cons k r=>exact ⟨k,r,rfl⟩
  have pk:=hk k (by simp)
  have em:magN u [d] n ((k :: r).map (mag u [d])) = mag u [d] k + (r.map (mag u [d])).sum:=by
   unfold magN; rcases hkd with h | h <;> rw [h] <;> simp [sumL]
  have hf:mag u [d] k + (r.map (mag u [d])).sum ≤ BND:=by
   rw [hmag,em] at hm; unfold farN at hm; rcases hkd with h | h <;> rw [h] at hm <;> exact hm
  have hpc:pc u (dS d) (.nd n (k :: r)) = foldZ n u (dS d) (pcs u (dS d) k) (r.map (pcs u (dS d))):=by
   rw [pc_nd]; unfold pcN allZ
   rw [decide_eq_false (show ¬ nK n ≤ 4 by omega),show (nK n == 9 || nK n == 10) = true by rcases hkd with h | h <;> rw [h] <;> rfl]
   simp only [cond_true,cond_false,List.map_map,List.map_cons,List.drop_succ_cons,List.drop_zero]
   rfl
  have hup:∀ k' ∈ k :: r,∀ l,QT S k' l→QT S (.nd n (k :: r)) l:=fun k' hk' l hq=>hq.up hk' hS (fun h1=>by
   have ho:oneL ((k :: r).map ty) = 1:=by rw [← h1,ty_nd]; unfold tyN; rcases hkd with h | h <;> rw [h] <;> rfl
   exact oneL_one ho (ty k') (List.mem_map_of_mem hk'))
  have hweak:∀ k' ∈ k :: r,PG (dS d) (mag u [d] k') (fun x=>ev u [d] [x] k') (QT S (.nd n (k :: r))) (pcs u (dS d) k'):=fun k' hk'=>by
   obtain ⟨a1,a2,a3,a4,a5,a6,a7⟩:=(hk k' hk').pg
   exact ⟨a1,a2,a3,a4,a5,fun p hp=>hup k' hk' _ (a6 p hp),a7⟩
  have er:∀ {β:Type} (f:List PZ×Int×(Int→Int)→β),(r.map fun k'=>((pcs u (dS d) k',mag u [d] k',fun x=>ev u [d] [x] k'):List PZ×Int×(Int→Int))).map f = r.map fun k'=>f (pcs u (dS d) k',mag u [d] k',fun x=>ev u [d] [x] k'):=fun f=>by rw [List.map_map]; rfl
  obtain ⟨f1,f2⟩:=fold_pc F hF hs hs2 hkd (u:=u) (Q:=QT S (.nd n (k :: r))) (fnOf n,(n,mk u,dS d)) rfl (fun r65 r75=>(some ((r65,r75,()),()):Option normal_maker_all.sg.R)) (fun made=>some ((made,true,()),())) (r.map fun k=>(pcs u (dS d) k).map wP) (r.length:Int)
   (r.map fun k'=>(pcs u (dS d) k',mag u [d] k',fun x=>ev u [d] [x] k')) 0 (pcs u (dS d) k) (mag u [d] k) (fun x=>ev u [d] [x] k) (hweak k (by simp)) pk.m0 (by rw [er]; exact hf) (by
    intro x hx
    obtain ⟨k',hk',rfl⟩:=List.mem_map.1 hx
    exact ⟨(hk k' (by simp [hk'])).m0,hweak k' (by simp [hk'])⟩)
  rw [er,er] at f1
  rw [er,er] at f2
  rw [hpc,hmag,em]
  refine ⟨?_,fun ps hps=>?_⟩
  ·unfold normal_maker_all.sh
   have hj:∀ (k0 k1:List tPiece.T→Bool→Option normal_maker_all.sg.R),normal_maker_all.j3 F k0 k1 (fnOf n,(n,mk u,dS d)) ((k :: r).map fun k=>(pcs u (dS d) k).map wP) (n,mk u,dS d) =
     normal_maker_all.l5.rg F k0 (fun _ made _ _ _ _ _=>k1 made true) (r.map fun k=>(pcs u (dS d) k).map wP) (r.length:Int) (r.map fun k=>(pcs u (dS d) k).map wP) 0 (fnOf n,(n,mk u,dS d)) ((pcs u (dS d) k).map wP) (n,mk u,dS d):=fun k0 k1=>by
    have hbl:=bounds_lo (n:=((k :: r).map fun k=>(pcs u (dS d) k).map wP).length) (i:=1) (by simp)
    rw [show ((1:Nat):Int) = 1 from rfl] at hbl
    unfold normal_maker_all.j3
    rw [idx0 (by simp),hbl]
    simp only [cond_true]
    rw [List.take_length,List.map_cons,List.drop_succ_cons,List.drop_zero]
    have hrl:r.length ≤ 16:=by simp at hl; omega
    refine (normal_maker_all.l5.rg_eq F k0 (fun _ made _ _ _ _ _=>k1 made true) (r.map fun k=>(pcs u (dS d) k).map wP) _ rfl (by simp; omega) (r.map fun k=>(pcs u (dS d) k).map wP) 0 F _ _ _ rfl (by simp; omega)).trans ?_
    rw [List.length_map]
    rfl
   rcases hkd with h | h
   ·rw [show ((n,mk u,dS d).1.1 != 9) = false by show (nK n != 9) = false; rw [h]; rfl]
    simp only [cond_false]
    rw [hj]
    refine f1.trans ?_
    unfold mdR
    cases foldZ n u (dS d) (pcs u (dS d) k) (r.map (pcs u (dS d))) <;> rfl
   ·rw [show ((n,mk u,dS d).1.1 != 9) = true by show (nK n != 9) = true; rw [h]; rfl,show ((n,mk u,dS d).1.1 != 10) = false by show (nK n != 10) = false; rw [h]; rfl]
    simp only [cond_false,cond_true]
    rw [hj]
    refine f1.trans ?_
    unfold mdR
    cases foldZ n u (dS d) (pcs u (dS d) k) (r.map (pcs u (dS d))) <;> rfl
  ·have hg:=f2 ps hps
   have hV:(fun x=>(r.map fun k'=>((pcs u (dS d) k',mag u [d] k',fun x=>ev u [d] [x] k'):List PZ×Int×(Int→Int))).foldl (fun v y=>bestZ n v (y.2.2 x)) (ev u [d] [x] k)) = fun x=>ev u [d] [x] (.nd n (k :: r)):=by
    funext x
    rw [List.foldl_map,hev,List.map_cons]
    have e1:r.foldl (fun v k'=>bestZ n v (ev u [d] [x] k')) (ev u [d] [x] k) = (r.map (ev u [d] [x])).foldl (bestZ n) (ev u [d] [x] k):=by rw [List.foldl_map]
    refine e1.trans ?_
    unfold evN
    rcases hkd with h | h
    ·rw [h]; exact (minF_best h _ _).symm
    ·rw [h]; exact (maxF_best h _ _).symm
   rw [hV] at hg
   exact hg
 ·obtain ⟨k,k',k2,rfl⟩:=len3 (hl.trans h)
  have pk:=hk k (by simp)
  have pk':=hk k' (by simp)
  have pk2:=hk k2 (by simp)
  have hpc:pc u (dS d) (.nd n [k,k',k2]) = mdZ (chZ n u (dS d)) (dS d) [pcs u (dS d) k,pcs u (dS d) k',pcs u (dS d) k2] 4096 0 []:=by
   rw [pc_nd]; unfold pcN allZ
   rw [decide_eq_false (show ¬ nK n ≤ 4 by omega),show (nK n == 9 || nK n == 10) = false by rw [hkd]; rfl]
   rfl
  have hone:ty (.nd n [k,k',k2]) = 1→ty k' = 1∧ty k2 = 1:=fun h1=>by
   have hx0:ty (.nd n [k,k',k2]) = (bif cntB (ty k) then oneL [ty k',ty k2] else -1):=by rw [ty_nd]; unfold tyN; rw [hkd]; rfl
   rw [hx0] at h1
   cases hc:cntB (ty k) with
   | false=>rw [hc] at h1; exact absurd (show (-1:Int) = 1 from h1) (by decide)
   | true =>
    rw [hc] at h1
    have h1:oneL [ty k',ty k2] = 1:=h1
    exact ⟨oneL_one h1 _ (by simp),oneL_one h1 _ (by simp)⟩
  obtain ⟨st,ca⟩:=mk3 (u:=u) (M:=magN u [d] n [mag u [d] k,mag u [d] k',mag u [d] k2]) (n:=n) (V:=fun x=>ev u [d] [x] (.nd n [k,k',k2])) (W:=fun x v w z=>evN u [d] [x] n [v,w,z]) (Q:=QT S (.nd n [k,k',k2])) hs hs2 pk.pg pk'.pg pk2.pg (fun a b c q ha' hb' hc' qa qb qc hq=>by
   obtain ⟨h1,h2,h3⟩:=ch3 (u:=u) (show 1 ≤ 4 by omega) hn hkd ha' hb' hc' pk.m0 pk'.m0 pk2.m0 pk.mb (D:=[d]) hq
   refine ⟨?_,h1,h3⟩
   rcases h2 with h2 | h2 <;> rw [h2]
   ·exact qb.up (by simp) hS (fun h=>(hone h).1)
   ·exact qc.up (by simp) hS (fun h=>(hone h).2)) (fun x _ _=>hev x)
  rw [hpc,hmag]
  refine ⟨?_,fun ps hps=>made_PG st hps⟩
  unfold normal_maker_all.sh
  have e9:((n,mk u,dS d).1.1 != 9) = true:=by show (nK n != 9) = true; rw [hkd]; rfl
  have e10:((n,mk u,dS d).1.1 != 10) = true:=by show (nK n != 10) = true; rw [hkd]; rfl
  rw [e9,e10]
  simp only [cond_true]
  have hmd:=made_eq F hF (fnOf n,(n,mk u,dS d)) (KS:=[pcs u (dS d) k,pcs u (dS d) k',pcs u (dS d) k2]) (by simp [pk.pg.len,pk'.pg.len,pk2.pg.len]) (by simp) (by simp [pk.pg.ne,pk'.pg.ne,pk2.pg.ne]) (n,mk u,dS d) hs hs2 (ca F (by omega)) (fun q q0 q1=>(nextZ_bd st q0 q1).1)
  have hmd':normal_maker_made.sh F (n,mk u,dS d) (fnOf n,(n,mk u,dS d)) ([k,k',k2].map fun k=>(pcs u (dS d) k).map wP) = _:=hmd
  rw [hmd',oB_some]
def PS (u S:Int) (d:tDim.T) (t:Tree):Prop:=PT u S d t∧∃ ps,pc u (dS d) t = some ps
theorem step_ps {u S:Int} (hS0:0 ≤ S) (hu:u = 10000 ^ S.toNat) (hu1:1 ≤ u) (hu2:u ≤ 1000000000000000000000000) {d:tDim.T} (hs:1 ≤ dS d) (hs2:dS d ≤ 1000000000000) {st:List Tree} {n:tNode.T} (hn:nodeE 1 n st.length = 0)
  (hI:∀ t ∈ st,PS u S d t) (hty:tyE (topT st n) = 0) (hE:magE u [d] (topT st n) = 0) (hS:deep (topT st n) ≤ S) :
  (pcE u (dS d) (topT st n) = 0→PS u S d (topT st n))∧(ar n = 0→nK n ≤ 4∧pc u (dS d) (topT st n) = some [(0,leafZ u n)]∧∀ F,normal_maker_leaf.sh F (n,mk u,dS d) = some (([wP (0,leafZ u n)],()),())) ∧
  (1 ≤ ar n→5 ≤ nK n∧∀ F,4200 < F→normal_maker_all.sh F (n,mk u,dS d) (fnOf n,(n,mk u,dS d)) ((st.drop (st.length - ar n)).map fun k=>(pcs u (dS d) k).map wP) = some (mdR (pc u (dS d) (topT st n)))):=by
 obtain ⟨g1,g2,g3,g4,g5,g6,g7,g8⟩:=nodeE_ok hn
 have hfar:farN n (mag u [d] (topT st n)) ≤ BND:=by
  unfold magE at hE
  rw [show (topT st n).root = n from rfl] at hE
  cases hx:decide (farN n (mag u [d] (topT st n)) > BND) with
  | true=>rw [hx] at hE; exact absurd (show (90:Int) = 0 from hE) (by decide)
  | false=>have:=of_decide_eq_false hx; omega
 have hkp:∀ k ∈ st.drop (st.length - ar n),PS u S d k:=fun k hk=>hI k (List.mem_of_mem_drop hk)
 have hpm:∀ ps,PG (dS d) (mag u [d] (topT st n)) (fun x=>ev u [d] [x] (topT st n)) (QT S (topT st n)) ps→0 ≤ mag u [d] (topT st n)∧mag u [d] (topT st n) ≤ BND:=fun ps g=>by
  have h1:=(g.at 0).1
  have h2:=span_nn hs (lineAt ps 0)
  exact ⟨by omega,farN_ge (by omega) hfar⟩
 by_cases ha:ar n = 0
 ·have e0:topT st n = .nd n []:=by unfold topT; rw [ha,Nat.sub_zero,List.drop_of_length_le (Nat.le_refl _)]
  have hk4:nK n = 1 ∨ nK n = 2 ∨ nK n = 3 ∨ nK n = 4:=by
   rcases kind_in g1 g4 with ⟨_,h⟩ | ⟨h,_⟩ | ⟨h,_⟩ | ⟨h,_⟩ | ⟨h,_⟩
   ·exact h
   ·omega
   ·omega
   ·omega
   ·omega
  have hp:pc u (dS d) (topT st n) = some [(0,leafZ u n)]:=by
   rw [e0,pc_nd]; unfold pcN; rw [decide_eq_true (show nK n ≤ 4 by omega)]; rfl
  obtain ⟨_,l2⟩:=leaf_pc 0 hS0 hu hu1 hu2 hs hs2 hn hk4
  rw [← e0] at l2
  have hm:=hpm _ l2
  refine ⟨fun _=>⟨⟨by unfold pcs; rw [hp]; exact l2,hm.1,hm.2⟩,_,hp⟩,fun _=>⟨by omega,hp,fun F=>(leaf_pc F hS0 hu hu1 hu2 hs hs2 hn hk4).1⟩,fun h=>by omega⟩
 ·have hnp:=fun F hF=>node_pc F hF hS0 hu hu1 hu2 hs hs2 hn (ks:=st.drop (st.length - ar n)) (by simp; omega) (by omega) hty hfar hS (fun k hk=>(hkp k hk).1)
  refine ⟨fun hE0=>?_,fun h=>by omega,fun _=>⟨?_,fun F hF=>(hnp F hF).1⟩⟩
  ·cases hp:pc u (dS d) (topT st n) with
   | none=>unfold pcE at hE0; rw [hp] at hE0; exact absurd (show (120:Int) = 0 from hE0) (by decide)
   | some ps =>
    have l2:=(hnp 4201 (by omega)).2 ps hp
    have hm:=hpm _ l2
    exact ⟨⟨by unfold pcs; rw [hp]; exact l2,hm.1,hm.2⟩,_,hp⟩
  ·rcases kind_in g1 g4 with ⟨h,_⟩ | ⟨_,h⟩ | ⟨_,h⟩ | ⟨_,h⟩ | ⟨_,h⟩ <;> omega
theorem table_rg (F:Nat) (hF:4200 < F) {u S:Int} (hS0:0 ≤ S) (hu:u = 10000 ^ S.toNat) (hu1:1 ≤ u) (hu2:u ≤ 1000000000000000000000000) {d:tDim.T} (hs:1 ≤ dS d) (hs2:dS d ≤ 1000000000000) {R:Type}
  (k0:Int→Int→tTable.T→Option R) (k1:Int→tPlan.T→tTable.T→List (List tPiece.T)→Option R) (L:List tNode.T) (N scale:Int) (p:tPlan.T) (hp:p.2.1 = [d]):∀ (xs:List tNode.T) (st:List Tree) (i:Nat),okS 1 st xs→(flats st).length + xs.length ≤ 2048→(∀ t ∈ st,PS u S d t)→(∀ t ∈ news st xs,tyE t = 0∧magE u [d] t = 0∧deep t ≤ S) →
  (normal_Table.l9.rg F k0 (fun scale _ _ _ _ p r2 _ pile=>k1 scale p r2 pile) L N xs (i:Int) scale p (0,0,[]) (mk u) (st.map fun t=>(pcs u (dS d) t).map wP) =
   match firstE (pcE u (dS d)) (news st xs) i with | some x=>k0 (x.1:Int) 120 (0,0,[]) | none=>k1 scale p (0,0,[]) ((endT st xs).map fun t=>(pcs u (dS d) t).map wP)) ∧
  (firstE (pcE u (dS d)) (news st xs) i = none→∀ t ∈ endT st xs,PS u S d t)
 | [],st,i,h,h2,h3,h4=>⟨rfl,fun _=>h3⟩
 | n :: xs,st,i,h,h2,h3,h4=>by
  obtain ⟨g1,g2,g3,g4,g5,g6,g7,g8⟩:=nodeE_ok h.1
  have hst:=len_flats st
  have hfs:=congrArg List.length (flats_step st n)
  simp only [List.length_cons,List.length_append,List.length_nil] at h2 hfs
  simp only [news,endT,firstE] at h4 ⊢
  obtain ⟨t1,t2,t3⟩:=h4 (topT st n) (by simp)
  obtain ⟨s1,s2,s3⟩:=step_ps hS0 hu hu1 hu2 hs hs2 h.1 h3 t1 t2 t3
  have hl:(st.map fun t=>(pcs u (dS d) t).map wP).length = st.length:=by simp
  have ew:=wrap_sub g7 (by omega)
  have hb1:=bounds_lo (show st.length - ar n ≤ st.length by omega)
  have hb2:=bounds_hi (show st.length - ar n ≤ st.length by omega)
  have htk:(st.map fun t=>(pcs u (dS d) t).map wP).take st.length = st.map fun t=>(pcs u (dS d) t).map wP:=List.take_of_length_le (by omega)
  have hbl2:∀ y,Nat.ble (st.length - ar n + ([y]:List (List tPiece.T)).length) maxN = true:=fun y=>ble_of (by simp; omega)
  have hstep:(stepT st n).map (fun t=>(pcs u (dS d) t).map wP) = (st.map fun t=>(pcs u (dS d) t).map wP).take (st.length - ar n) ++ [(pcs u (dS d) (topT st n)).map wP]:=by
   unfold stepT; simp [List.map_take]
  have hdm:(st.map fun t=>(pcs u (dS d) t).map wP).drop (st.length - ar n) = (st.drop (st.length - ar n)).map fun t=>(pcs u (dS d) t).map wP:=by rw [← List.map_drop]
  have hd0:(get tDim p.2.1 0).2 = dS d:=by rw [hp]; rfl
  have hi0:idx 0 p.2.1.length = true:=by rw [hp]; rfl
  have rest:pcE u (dS d) (topT st n) = 0→_:=fun hE0=>table_rg F hF hS0 hu hu1 hu2 hs hs2 k0 k1 L N scale p hp xs (stepT st n) (i + 1) h.2 (by omega) (by
   intro t ht
   rcases List.mem_append.1 ht with ht | ht
   ·exact h3 t (List.mem_of_mem_take ht)
   ·rw [List.mem_singleton.1 ht]; exact s1 hE0) (fun t ht=>h4 t (by simp [ht]))
  simp only [normal_Table.l9.rg]
  rw [hi0,hd0]
  simp only [cond_true]
  by_cases ha:ar n = 0
  ·obtain ⟨k4,l1,l2⟩:=s2 ha
   have hE0:pcE u (dS d) (topT st n) = 0:=by unfold pcE; rw [l1]; rfl
   have IH:=rest hE0
   rw [hE0]
   rw [hstep,ha,Nat.sub_zero,htk] at IH
   have hpl:pcs u (dS d) (topT st n) = [(0,leafZ u n)]:=by unfold pcs; rw [l1]; rfl
   rw [hpl] at IH
   rw [decide_eq_true (show n.1 ≤ 4 from k4)]
   simp only [cond_true,bne_self_eq_false,cond_false]
   rw [l2 F,oB_some]
   have hbl1:Nat.ble ((st.map fun t=>(pcs u (dS d) t).map wP).length + ([[wP (0,leafZ u n)]]:List (List tPiece.T)).length) maxN = true:=ble_of (by simp; omega)
   rw [hbl1]
   simp only [cond_true]
   rw [show ((i + 1:Nat):Int) = (i:Int) + 1 by omega] at IH
   exact IH
  ·obtain ⟨k5,m1⟩:=s3 (by omega)
   rw [decide_eq_false (show ¬ n.1 ≤ 4 by show ¬ nK n ≤ 4; omega)]
   simp only [cond_false]
   rw [choices_eq F g1 g4 k5 (mk u) (dS d),oB_some]
   simp only [hl,ew,hb1,hb2,htk,cond_true,hdm]
   rw [m1 F hF,oB_some]
   cases hpc:pc u (dS d) (topT st n) with
   | none =>
    have hE0:pcE u (dS d) (topT st n) = 120:=by unfold pcE; rw [hpc]; rfl
    rw [hE0]
    exact ⟨rfl,fun h=>by cases h⟩
   | some ps =>
    have hE0:pcE u (dS d) (topT st n) = 0:=by unfold pcE; rw [hpc]; rfl
    have IH:=rest hE0
    have hpl:pcs u (dS d) (topT st n) = ps:=by unfold pcs; rw [hpc]; rfl
    rw [hstep,hpl] at IH
    rw [hE0]
    simp only [mdR,Bool.not_true,cond_false,hbl2,cond_true,bne_self_eq_false]
    rw [show ((i + 1:Nat):Int) = (i:Int) + 1 by omega] at IH
    exact IH
noncomputable def tabR (d:tDim.T) (t:Tree):tTable.T×Int×Int :=
 match firstE (pcE (unitV t) (dS d)) t.subs 0 with | some x=>((0,0,[]),(x.1:Int),120) | none=>((dS d,deep t,(pcs (unitV t) (dS d) t).map wP),0,0)
noncomputable def tableR (D:List tDim.T) (t:Tree):tTable.T×Int×Int :=
 bif (unitR D t).2.2 != 0 then ((0,0,[]),(unitR D t).2.1,(unitR D t).2.2) else bif (D.length:Int) != 1 then ((0,0,[]),-1,100) else tabR (D.getD 0 (ByteArray.empty,0)) t
theorem subs_good {p:tPlan.T} {t:Tree} (h:Good p t) (hu:(unitR p.2.1 t).2.2 = 0):∀ s ∈ t.subs,tyE s = 0∧magE (unitV t) p.2.1 s = 0∧deep s ≤ deep t:=by
 obtain ⟨u1,u2,u3,u4,u5⟩:=unit_ok h hu
 exact fun s hs=>⟨firstE_mem u2 s hs,firstE_mem u4 s hs,deep_subs t s hs⟩
theorem Table_gen (F:Nat) (hF:4200 < F) {p:tPlan.T} {t:Tree} (h:Good p t) (hU:bound_Unit.sh F p = some (((unitR p.2.1 t).1,(unitR p.2.1 t).2.1,(unitR p.2.1 t).2.2,()),())) :
  normal_Table.sh F p = some (((tableR p.2.1 t).1,(tableR p.2.1 t).2.1,(tableR p.2.1 t).2.2,()),()) ∧
  ((tableR p.2.1 t).2.2 = 0→∃ d,p.2.1 = [d]∧1 ≤ dS d∧dS d ≤ 1000000000000∧PS (unitV t) (deep t) d t):=by
 unfold normal_Table.sh tableR
 rw [hU,oB_some]
 cases hu:((unitR p.2.1 t).2.2 != 0) with
 | true =>
  simp only [cond_true,hu]
  exact ⟨trivial,fun h=>by rw [h] at hu; cases hu⟩
 | false =>
  have hu':(unitR p.2.1 t).2.2 = 0:=by simpa using hu
  obtain ⟨u1,u2,u3,u4,u5⟩:=unit_ok h hu'
  simp only [cond_false,hu]
  cases hD:((p.2.1.length:Int) != 1) with
  | true=>exact ⟨rfl,fun h=>absurd (show (100:Int) = 0 from h) (by decide)⟩
  | false =>
   have hD':p.2.1.length = 1:=by
    have:(p.2.1.length:Int) = 1:=by simpa using hD
    omega
   obtain ⟨d,hd⟩:=List.length_eq_one_iff.1 hD'
   have hh:=headE_dims h.head
   have hds:=dE_sizes _ _ hh.2.2.1 d (by rw [hd]; simp)
   have hub:=unitV_bd u1
   have hdp:=(deep_bd t).1
   have hl:=h.len
   have hok:=h.ok
   rw [hD'] at hok
   simp only [cond_false]
   rw [Scale_eq F (by omega) h,oB_some,u5]
   have hg:=subs_good h hu'
   rw [← h.subs,hd] at hg
   obtain ⟨r1,r2⟩:=table_rg F hF hdp (show unitV t = 10000 ^ (deep t).toNat from rfl) hub.1 hub.2 hds.1 hds.2 (fun r36 r46 r26=>(some ((r26,r36,r46,()),()):Option normal_Table.sg.R)) (fun scale7 p7 r27 pile7=>normal_Table.j21 F (fun r38 r48 r28=>some ((r28,r38,r48,()),())) scale7 pile7 p7 r27) p.2.2.2 (p.2.2.2.length:Int) (deep t) p hd p.2.2.2 [] 0 hok (by simp [flats]; omega) (by simp) hg
   have e0:p.2.1.getD 0 (ByteArray.empty,0) = d:=by rw [hd]; rfl
   have hrg:=normal_Table.l9.rg_eq F (fun r36 r46 r26=>(some ((r26,r36,r46,()),()):Option normal_Table.sg.R)) (fun scale7 t417 t427 t437 t447 p7 r27 unit7 pile7=>normal_Table.j21 F (fun r38 r48 r28=>some ((r28,r38,r48,()),())) scale7 pile7 p7 r27) p.2.2.2 _ rfl (by omega) p.2.2.2 0 F (deep t) p (0,0,[]) (mk (unitV t)) [] (by simp) (by omega)
   rw [e0]
   unfold tabR
   rw [h.subs] at r1 r2
   rw [h.eq] at r1 r2
   have r1:=hrg.trans r1
   refine ⟨r1.trans ?_,fun hz=>⟨d,hd,hds.1,hds.2,?_⟩⟩
   ·cases hf:firstE (pcE (unitV t) (dS d)) t.subs 0 with
    | some x=>rfl
    | none =>
     simp only
     unfold normal_Table.j21
     rw [hd]
     rfl
   ·cases hf:firstE (pcE (unitV t) (dS d)) t.subs 0 with
    | some x=>rw [hf] at hz; exact absurd (show (120:Int) = 0 from hz) (by decide)
    | none=>exact r2 hf t (by simp)
theorem Table_eq {p:tPlan.T} {t:Tree} (h:Good p t):normal_Table.sh FU p = some (((tableR p.2.1 t).1,(tableR p.2.1 t).2.1,(tableR p.2.1 t).2.2,()),()):=(Table_gen FU (by decide) h (Unit_eq h)).1
theorem Table_ps {p:tPlan.T} {t:Tree} (h:Good p t) (hz:(tableR p.2.1 t).2.2 = 0):∃ d,p.2.1 = [d]∧1 ≤ dS d∧dS d ≤ 1000000000000∧PS (unitV t) (deep t) d t:=(Table_gen FU (by decide) h (Unit_eq h)).2 hz
theorem Table_bad {p:tPlan.T} (h:(checkS p).2 ≠ 0):normal_Table.sh FU p = some (((0,0,[]),(checkS p).1,(checkS p).2,()),()):=by
 unfold normal_Table.sh
 rw [Unit_bad h,oB_some]
 rw [show ((checkS p).2 != 0) = true by simpa using h]
 rfl
end Go.VS
