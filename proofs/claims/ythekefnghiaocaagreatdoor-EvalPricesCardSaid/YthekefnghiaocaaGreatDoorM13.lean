import Derived.Test.YthekefnghiaocaaGreatDoorM12
set_option linter.unusedVariables false
set_option linter.unusedSimpArgs false
set_option linter.unusedSectionVars false
set_option linter.unusedVariables false
set_option linter.unusedSimpArgs false
set_option maxRecDepth 100000
namespace Go.VS
open Go
theorem tplus_eq (F:Nat) (hF:20 < F) {a b:Int} (ha:inR a = true) (hb:inR b = true) (h:inR (a + b) = true):octroiref10_Plus.sh F (mk a) (mk b) = some ((mk (a + b),()),()):=by
 unfold octroiref10_Plus.sh
 rw [radd_eq F hF (wf_mk ha) (wf_mk hb),oB_some,val_mk,val_mk,(res_in h).1]
theorem tless_eq (F:Nat) (hF:20 < F) {a b:Int} (ha:inR a = true) (hb:inR b = true) (h:inR (a - b) = true):octroiref10_Less.sh F (mk a) (mk b) = some ((mk (a - b),()),()):=by
 unfold octroiref10_Less.sh
 rw [rsub_eq F hF (wf_mk ha) (wf_mk hb),oB_some,val_mk,val_mk,(res_in h).1]
theorem tby_eq (F:Nat) (hF:20 < F) {a b:Int} (ha:inR a = true) (hb:inR b = true) (h:inR (a * b) = true):octroiref10_By.sh F (mk a) (mk b) = some ((mk (a * b),()),()):=by
 unfold octroiref10_By.sh
 rw [rmul_eq F hF (wf_mk ha) (wf_mk hb),oB_some,val_mk,val_mk,(res_in h).1]
theorem tcmp_eq (F:Nat) (hF:20 < F) {a b:Int} (ha:inR a = true) (hb:inR b = true):octroiref01_Cmp.sh F (mk a) (mk b) = some ((cmpZ a b,()),()):=by
 rw [rcmp_eq F hF (wf_mk ha) (wf_mk hb),val_mk,val_mk]
theorem cmpZ_is1 {a b:Int}:(cmpZ a b == 1) = decide (a > b):=by
 rcases Int.lt_trichotomy a b with h | h | h
 ·rw [cmpZ_lt h,decide_eq_false (show ¬ a > b by omega)]; rfl
 ·rw [cmpZ_eq h,decide_eq_false (show ¬ a > b by omega)]; rfl
 ·rw [cmpZ_gt h,decide_eq_true h]; rfl
theorem cmpZ_isn {a b:Int}:(cmpZ a b == -1) = decide (a < b):=by
 rcases Int.lt_trichotomy a b with h | h | h
 ·rw [cmpZ_lt h,decide_eq_true h]; rfl
 ·rw [cmpZ_eq h,decide_eq_false (show ¬ a < b by omega)]; rfl
 ·rw [cmpZ_gt h,decide_eq_false (show ¬ a < b by omega)]; rfl
theorem bestn_rg (F:Nat) (hF:20 < F) {R:Type} (k:tWide.T→Option R) (X:List tWide.T):∀ (xs:List Int) (i:Int) (r4:tWide.T) (m:Int),(∀ v ∈ xs,inR v = true)→inR m = true →
  octroiref10_best.l3.rg F (fun _ _ _ _ _ m=>k m) X (xs.map mk) i (-1) r4 (mk m) = k (mk (minF m xs))
 | [],i,r4,m,_,_=>rfl
 | x :: r,i,r4,m,h,hm=>by
  have hx:=h x (by simp)
  rw [List.map_cons,octroiref10_best.l3.rg,tcmp_eq F hF hx hm,oB_some]
  have e:minF m (x :: r) = minF (if x < m then x else m) r:=rfl
  rw [e]
  simp only [cmpZ_isn]
  by_cases hlt:x < m
  ·rw [decide_eq_true hlt,if_pos hlt]
   exact bestn_rg F hF k X r (i + 1) r4 x (fun v hv=>h v (by simp [hv])) hx
  ·rw [decide_eq_false hlt,if_neg hlt]
   exact bestn_rg F hF k X r (i + 1) r4 m (fun v hv=>h v (by simp [hv])) hm
theorem best1_rg (F:Nat) (hF:20 < F) {R:Type} (k:tWide.T→Option R) (X:List tWide.T):∀ (xs:List Int) (i:Int) (r4:tWide.T) (m:Int),(∀ v ∈ xs,inR v = true)→inR m = true →
  octroiref10_best.l3.rg F (fun _ _ _ _ _ m=>k m) X (xs.map mk) i 1 r4 (mk m) = k (mk (maxF m xs))
 | [],i,r4,m,_,_=>rfl
 | x :: r,i,r4,m,h,hm=>by
  have hx:=h x (by simp)
  rw [List.map_cons,octroiref10_best.l3.rg,tcmp_eq F hF hx hm,oB_some]
  have e:maxF m (x :: r) = maxF (if x > m then x else m) r:=rfl
  rw [e]
  simp only [cmpZ_is1]
  by_cases hlt:x > m
  ·rw [decide_eq_true hlt,if_pos hlt]
   exact best1_rg F hF k X r (i + 1) r4 x (fun v hv=>h v (by simp [hv])) hx
  ·rw [decide_eq_false hlt,if_neg hlt]
   exact best1_rg F hF k X r (i + 1) r4 m (fun v hv=>h v (by simp [hv])) hm
theorem bestn_eq (F:Nat) (hF0:20 < F) {l:List Int} (h:∀ v ∈ l,inR v = true) (h1:1 ≤ l.length) (hF:l.length < F) (hL:l.length < 4611686018427387904):octroiref10_best.sh F (l.map mk) (-1) = some ((mk (minL l),()),()):=by
 unfold octroiref10_best.sh
 rw [show idx 0 (l.map mk).length = true from idx0 (by simp; omega)]
 simp only [cond_true]
 cases l with
 | nil=>simp at h1
 | cons a r =>
  refine Eq.trans (octroiref10_best.l3.rg_eq F _ ((a :: r).map mk) (by simp at hL ⊢; omega) (r.map mk) 1 F (-1) (0,0) _ (by simp) (by simp at hF ⊢; omega)) ?_
  exact bestn_rg F hF0 (fun m=>(some ((m,()),()):Option octroiref10_best.sg.R)) _ r _ _ a (fun v hv=>h v (by simp [hv])) (h a (by simp))
theorem best1_eq (F:Nat) (hF0:20 < F) {l:List Int} (h:∀ v ∈ l,inR v = true) (h1:1 ≤ l.length) (hF:l.length < F) (hL:l.length < 4611686018427387904):octroiref10_best.sh F (l.map mk) 1 = some ((mk (maxL l),()),()):=by
 unfold octroiref10_best.sh
 rw [show idx 0 (l.map mk).length = true from idx0 (by simp; omega)]
 simp only [cond_true]
 cases l with
 | nil=>simp at h1
 | cons a r =>
  refine Eq.trans (octroiref10_best.l3.rg_eq F _ ((a :: r).map mk) (by simp at hL ⊢; omega) (r.map mk) 1 F 1 (0,0) _ (by simp) (by simp at hF ⊢; omega)) ?_
  exact best1_rg F hF0 (fun m=>(some ((m,()),()):Option octroiref10_best.sg.R)) _ r _ _ a (fun v hv=>h v (by simp [hv])) (h a (by simp))
theorem ttier_rg (F:Nat) (hF:20 < F) {R:Type} (k:Int→Option R) (L:List tTier.T) {x:Int} (hx:inR x = true):∀ (xs:List tTier.T) (i k0 lo:Int),-1 ≤ lo→incT lo xs →
  octroiref10_Tier.l3.rg F (fun _ k1 _ _ _=>k k1) L xs i k0 (mk x) = k (if cntT x xs = 0 then k0 else i + (cntT x xs:Int) - 1)
 | [],i,k0,lo,hlo,hi=>rfl
 | a :: r,i,k0,lo,hlo,hi=>by
  obtain ⟨a1,a2,a3,a4,a5⟩:=hi
  have ih:=fun k1=>ttier_rg F hF k L hx r (i + 1) k1 (tF a) (by omega) a5
  rw [octroiref10_Tier.l3.rg,rof_eq F (v:=a.1) (show -9223372036854775808 ≤ tF a by omega) (show tF a < 9223372036854775808 by omega),oB_some]
  rw [tcmp_eq F hF (inR_i64 (show -9223372036854775808 ≤ tF a by omega) (show tF a < 9223372036854775808 by omega)) hx,oB_some]
  simp only [cmpZ_neg,ih]
  by_cases hlt:tF a < x
  ·have e:cntT x (a :: r) = cntT x r + 1:=by simp only [cntT]; rw [if_pos hlt]
   rw [decide_eq_true hlt,e,if_neg (show ¬ cntT x r + 1 = 0 by omega)]
   simp only [cond_true]
   refine congrArg k ?_
   by_cases h0:cntT x r = 0
   ·rw [if_pos h0,h0]; omega
   ·rw [if_neg h0]; omega
  ·have e:cntT x (a :: r) = 0:=by simp only [cntT]; rw [if_neg hlt]
   have h0:cntT x r = 0:=by
    cases r with
    | nil=>rfl
    | cons b r =>
     obtain ⟨b1,b2,b3,b4,b5⟩:=a5
     simp only [cntT]
     rw [if_neg (by omega)]
   rw [decide_eq_false hlt,e,if_pos rfl,h0,if_pos rfl]
   rfl
theorem ttier_eq (F:Nat) (hF:64 < F) {l:List tTier.T} (hl:risB l = true) {x:Int} (hx:inR x = true):octroiref10_Tier.sh F l (mk x) = some (((cntT x l:Int) - 1,()),()):=by
 obtain ⟨l1,l2,l3⟩:=risB_inc hl
 unfold octroiref10_Tier.sh
 refine Eq.trans (octroiref10_Tier.l3.rg_eq F _ l (by omega) l 0 F _ _ (by simp) (by omega)) ?_
 refine (ttier_rg F (by omega) (fun k=>(some ((k,()),()):Option octroiref10_Tier.sg.R)) l hx l _ _ (-1) (by omega) l3).trans ?_
 have:(if cntT x l = 0 then (-1:Int) else ((0:Nat):Int) + (cntT x l:Int) - 1) = (cntT x l:Int) - 1:=by split <;> omega
 rw [this]
theorem tcharge_loop (F:Nat) (hF:20 < F) {R:Type} (kk:tWide.T→Option R) (L:List tTier.T) (hL:L.length ≤ 16) (r6:tWide.T) (K:Nat):∀ (n i fu:Nat) (xs:List tTier.T) (s lo:Int),L.drop i = xs→n < xs.length→n < fu→K = i + n→-1 ≤ lo→incT lo xs →
  -10000000000000000000000000000000000000 ≤ s - n * 1000000000000000000000000→s + n * 1000000000000000000000000 ≤ 10000000000000000000000000000000000000 →
  octroiref10_Charge.l8 F (fun _ _ _ _ _ s=>kk s) fu L (K:Int) (i:Int) r6 (mk s) = kk (mk (s + wayT xs n))
 | n,i,0,xs,s,lo,h,hn,hf,hK,hlo,hi,b1,b2=>by omega
 | 0,i,fu + 1,xs,s,lo,h,hn,hf,hK,hlo,hi,b1,b2=>by
  simp only [octroiref10_Charge.l8,octroiref10_Charge.l8.body]
  rw [decide_eq_false (show ¬ (i:Int) < (K:Int) by omega)]
  have:wayT xs 0 = 0:=by cases xs with
   | nil=>rfl
   | cons a r=>cases r <;> rfl
  rw [this,Int.add_zero]
  rfl
 | n + 1,i,fu + 1,[],s,lo,h,hn,hf,hK,hlo,hi,b1,b2=>by simp at hn
 | n + 1,i,fu + 1,[a],s,lo,h,hn,hf,hK,hlo,hi,b1,b2=>by simp at hn
 | n + 1,i,fu + 1,a :: b :: r,s,lo,h,hn,hf,hK,hlo,hi,b1,b2=>by
  obtain ⟨a1,a2,a3,a4,a5⟩:=hi
  have ⟨c1,c2,c3,c4,c5⟩:=a5
  have h0:=rg_len h
  have h1:=rg_len (rg_next h)
  have hg:get tTier L ((i:Int)).toNat = a:=by rw [Int.toNat_natCast]; exact rg_get h
  have hg1:get tTier L (((i + 1:Nat):Int)).toNat = b:=by rw [Int.toNat_natCast]; exact rg_get (rg_next h)
  push_cast at b1 b2
  have hp:=abs_mul_bd (show -1000000000000 ≤ tR a by omega) (show tR a ≤ 1000000000000 by omega) (show -1000000000000 ≤ tF b - tF a by omega) (show tF b - tF a ≤ 1000000000000 by omega)
  have IH:=tcharge_loop F hF kk L hL r6 K n (i + 1) fu (b :: r) (s + tR a * (tF b - tF a)) (tF a) (rg_next h) (by simp at hn ⊢; omega) (by omega) (by omega) (by omega) a5 (by omega) (by omega)
  simp only [octroiref10_Charge.l8,octroiref10_Charge.l8.body]
  rw [decide_eq_true (show (i:Int) < (K:Int) by omega),rg_idx h0,hg,wrap_i64 (n:=(i:Int) + 1) (by omega) (by omega),show (i:Int) + 1 = ((i + 1:Nat):Int) by omega,rg_idx h1,hg1]
  simp only [cond_true]
  rw [rof_eq F (v:=tR a) (by omega) (by omega),oB_some,wrap_i64 (n:=tF b - tF a) (by omega) (by omega),rof_eq F (v:=tF b - tF a) (by omega) (by omega),oB_some]
  rw [tby_eq F hF (inR_i64 (by omega) (by omega)) (inR_i64 (by omega) (by omega)) (by rw [inR_iff]; omega),oB_some,tplus_eq F hF (by rw [inR_iff]; omega) (by rw [inR_iff]; omega) (by rw [inR_iff]; omega),oB_some]
  rw [IH,Int.add_assoc]
  rfl
theorem tgrad_eq (F:Nat) (hF:64 < F) {l:List tTier.T} (hl:risB l = true) {x X:Int} (hx:inR x = true) (hX:x ≤ X) (hX0:0 ≤ X) (hb:rateM 0 l * (X + lastF l) + waysS l ≤ BND) :
  octroiref10_Charge.sh F 13 l (mk x) = some ((mk (grad x l),()),()):=by
 obtain ⟨l1,l2,l3⟩:=risB_inc hl
 have hBND:BND = 1329227995784915872903807060280344576:=rfl
 have hlf:=lastF_bd l (-1) (by omega) l3
 have hm:=Int.mul_nonneg (rateM_ge l 0).1 (show 0 ≤ X + lastF l by omega)
 have hw0:=waysS_bd l (-1) (by omega) l3
 have hcl:=cntT_le x l
 unfold octroiref10_Charge.sh grad
 rw [ttier_eq F hF hl hx,oB_some]
 by_cases hc:cntT x l = 0
 ·rw [if_pos hc,decide_eq_true (show ((cntT x l:Nat):Int) - 1 < 0 by omega),rof_eq F (by omega) (by omega)]
  rfl
 ·have ht:=top_in l (-1) (by omega) l3 (x:=x) (by omega)
  have hs:=(share_bd hl hX hX0 (show 1 ≤ cntT x l by omega)).1
  have hw:=wayT_bd l (-1) (cntT x l - 1) (by omega) l3
  rw [if_neg hc,show ((cntT x l:Nat):Int) - 1 = ((cntT x l - 1:Nat):Int) by omega,decide_eq_false (show ¬ ((cntT x l - 1:Nat):Int) < 0 by omega),rg_idx (show cntT x l - 1 < l.length by omega),Int.toNat_natCast,show get tTier l (cntT x l - 1) = topT' x l from rfl]
  simp only [cond_true,cond_false,Int.reduceBEq]
  have hxx:=inR_iff.1 hx
  rw [rof_eq F (v:=tR (topT' x l)) (by omega) (by omega),oB_some,rof_eq F (v:=tF (topT' x l)) (by omega) (by omega),oB_some]
  rw [tless_eq F (by omega) hx (inR_i64 (by omega) (by omega)) (by rw [inR_iff]; omega),oB_some,tby_eq F (by omega) (inR_i64 (by omega) (by omega)) (by rw [inR_iff]; omega) (by rw [inR_iff]; omega),oB_some]
  have hlp:=tcharge_loop F (by omega) (fun s=>(some ((s,()),()):Option octroiref10_Charge.sg.R)) l l2 (0,0) (cntT x l - 1) (cntT x l - 1) 0 F l (tR (topT' x l) * (x - tF (topT' x l))) (-1) (by simp) (by omega) (by omega) (by omega) (by omega) l3 (by omega) (by omega)
  rw [Int.add_comm (wayT l (cntT x l - 1))]
  exact hlp
theorem tvol_eq (F:Nat) (hF:64 < F) {l:List tTier.T} (hl:risB l = true) {x X:Int} (hx:inR x = true) (hX:x ≤ X) (hX0:0 ≤ X) (hb:rateM 0 l * (X + lastF l) + waysS l ≤ BND) :
  octroiref10_Charge.sh F 14 l (mk x) = some ((mk (vol x l),()),()):=by
 obtain ⟨l1,l2,l3⟩:=risB_inc hl
 have hBND:BND = 1329227995784915872903807060280344576:=rfl
 have hw0:=waysS_bd l (-1) (by omega) l3
 have hcl:=cntT_le x l
 unfold octroiref10_Charge.sh vol
 rw [ttier_eq F hF hl hx,oB_some]
 by_cases hc:cntT x l = 0
 ·rw [if_pos hc,decide_eq_true (show ((cntT x l:Nat):Int) - 1 < 0 by omega),rof_eq F (by omega) (by omega)]
  rfl
 ·have ht:=top_in l (-1) (by omega) l3 (x:=x) (by omega)
  have hs:=(share_bd hl hX hX0 (show 1 ≤ cntT x l by omega)).2
  rw [if_neg hc,show ((cntT x l:Nat):Int) - 1 = ((cntT x l - 1:Nat):Int) by omega,decide_eq_false (show ¬ ((cntT x l - 1:Nat):Int) < 0 by omega),rg_idx (show cntT x l - 1 < l.length by omega),Int.toNat_natCast,show get tTier l (cntT x l - 1) = topT' x l from rfl]
  simp only [cond_true,cond_false,Int.reduceBEq]
  rw [rof_eq F (v:=tR (topT' x l)) (by omega) (by omega),oB_some,tby_eq F (by omega) hx (inR_i64 (by omega) (by omega)) (by rw [inR_iff]; omega),oB_some]
theorem tholds_eq (F:Nat) (hF:20 < F) {x n:Int} (hx:inR x = true) (h1:-9223372036854775808 ≤ n) (h2:n < 9223372036854775808) (op:Int):octroiref10_Holds.sh F (mk x) n op = some ((holdB op x n,()),()):=by
 have h:=holds_eq F hx (inR_i64 h1 h2) op
 unfold eval_holds.sh at h
 rw [cmp_eq F (wf_mk hx) (wf_mk (inR_i64 h1 h2)),val_mk,val_mk] at h
 unfold octroiref10_Holds.sh
 rw [rof_eq F h1 h2,oB_some,tcmp_eq F hF hx (inR_i64 h1 h2)]
 exact h
theorem tblocks_eq (F:Nat) {x s:Int} (h0:0 ≤ x) (h:x ≤ 1099511627776) (h1:1 ≤ s):octroiref09_Blocks.sh F x s = some ((ceilD x s,()),()):=by
 have hq1:0 ≤ x / s:=Int.ediv_nonneg h0 (by omega)
 have hq2:x / s ≤ x:=Int.ediv_le_self _ h0
 unfold octroiref09_Blocks.sh ceilD
 rw [show (s != 0) = true from bne_iff_ne.2 (by omega),Int.tdiv_eq_ediv_of_nonneg h0,Int.tmod_eq_emod_of_nonneg h0,wrap_i64 (n:=x / s) (by omega) (by omega),wrap_i64 (n:=x / s + 1) (by omega) (by omega)]
 simp only [cond_true]
 by_cases hz:x % s = 0
 ·rw [hz,if_pos rfl,Int.add_zero]; rfl
 ·rw [show (x % s != 0) = true from bne_iff_ne.2 hz,if_neg hz]; rfl
theorem tleaf_eq (F:Nat) (hF:20 < F) {u:Int} (hu:1 ≤ u) (hu2:u ≤ 1000000000000000000000000) {p:tPlan.T} (hD:dE [] p.2.1 = 0) (hd4:p.2.1.length ≤ 4) {n:tNode.T} {pile:Nat} (hn:nodeE p.2.1.length n pile = 0) {q:List Int} (hq:okQ p.2.1 q) (ha:ar n = 0) :
  octroiref10_leaf.sh F p n (mk u) q = some ((mk (evN u p.2.1 q n []),()),()):=by
 obtain ⟨g1,g2,g3,g4,g5,g6,g7,g8⟩:=nodeE_ok hn
 have hN2:=most_le hd4 g3 g1
 have iu:inR u = true:=by rw [inR_iff]; omega
 have iN:inR (nN n) = true:=by rw [inR_iff]; omega
 have hc9:nK n = 9 ∨ nK n = 10→False:=by
  intro h
  rcases h with h | h <;> rw [kids_of h] at g4 <;> rw [ar_of h] at ha
  ·have g4:(decide (nC n ≥ 2) && decide (nC n ≤ 16)) = true:=g4
   have ha:(nC n).toNat = 0:=ha
   simp at g4; omega
  ·have g4:(decide (nC n ≥ 2) && decide (nC n ≤ 16)) = true:=g4
   have ha:(nC n).toNat = 0:=ha
   simp at g4; omega
 rcases kinds16 g1 with h | h | h | h | h | h | h | h | h | h | h | h | h | h | h | h
 ·have e:evN u p.2.1 q n [] = nN n:=by unfold evN; rw [h]; rfl
  have h':n.1 = 1:=h
  rw [e]
  unfold octroiref10_leaf.sh
  rw [h',rof_eq F (v:=nN n) (by omega) (by omega)]
  rfl
 ·have e:evN u p.2.1 q n [] = nN n * u:=by unfold evN; rw [h]; rfl
  have h':n.1 = 2:=h
  have hb:=mul_bd g2 hN2 (show 0 ≤ u by omega) hu2
  rw [e]
  unfold octroiref10_leaf.sh
  rw [h',rof_eq F (v:=nN n) (by omega) (by omega)]
  simp only [Int.reduceBEq,cond_false,cond_true]
  rw [oB_some,tby_eq F hF iN iu (by rw [inR_iff]; omega),oB_some]
 ·have e:evN u p.2.1 q n [] = q.getD (nN n).toNat 0:=by unfold evN; rw [h]; rfl
  have h':n.1 = 3:=h
  rw [most_of h] at g3
  have g3:nN n ≤ (p.2.1.length:Int) - 1:=g3
  have hb:=hq.at (i:=(nN n).toNat) (by omega)
  rw [e]
  unfold octroiref10_leaf.sh
  rw [h',show idx n.2.1 q.length = true from idx_of g2 (by rw [hq.1]; show nN n < _; omega),show get (.int .i64) q n.2.1.toNat = q.getD (nN n).toNat 0 from rfl,rof_eq F (v:=q.getD (nN n).toNat 0) (by omega) (by omega)]
  rfl
 ·have e:evN u p.2.1 q n [] = ceilD (q.getD (nN n).toNat 0) (dS (p.2.1.getD (nN n).toNat (ByteArray.empty,0))):=by unfold evN; rw [h]; rfl
  have h':n.1 = 4:=h
  rw [most_of h] at g3
  have g3:nN n ≤ (p.2.1.length:Int) - 1:=g3
  have hb:=hq.at (i:=(nN n).toNat) (by omega)
  have hs:1 ≤ dS (p.2.1.getD (nN n).toNat (ByteArray.empty,0))∧dS (p.2.1.getD (nN n).toNat (ByteArray.empty,0)) ≤ 1000000000000:=by
   have hlt:(nN n).toNat < p.2.1.length:=by omega
   rw [List.getD_eq_getElem?_getD,List.getElem?_eq_getElem hlt]
   exact dE_sizes _ _ hD _ (List.getElem_mem _)
  have hcb:=ceilQ_bd hb.1 hb.2 hs.1
  have hcc:=Int.le_trans hcb.2 (ceilD_bd hs.1).2
  rw [e]
  unfold octroiref10_leaf.sh
  rw [h',show idx n.2.1 q.length = true from idx_of g2 (by rw [hq.1]; show nN n < _; omega),show idx n.2.1 p.2.1.length = true from idx_of g2 (by show nN n < _; omega),show get (.int .i64) q n.2.1.toNat = q.getD (nN n).toNat 0 from rfl,
   show (get tDim p.2.1 n.2.1.toNat).2 = dS (p.2.1.getD (nN n).toNat (ByteArray.empty,0)) from rfl]
  simp only [Int.reduceBEq,cond_false,cond_true]
  rw [tblocks_eq F hb.1 hb.2 hs.1,oB_some,rof_eq F (v:=ceilD (q.getD (nN n).toNat 0) (dS (p.2.1.getD (nN n).toNat (ByteArray.empty,0)))) (by omega) (by omega),oB_some]
 ·rw [ar_of h] at ha; exact absurd (show (1:Nat) = 0 from ha) (by decide)
 ·rw [ar_of h] at ha; exact absurd (show (2:Nat) = 0 from ha) (by decide)
 ·rw [ar_of h] at ha; exact absurd (show (2:Nat) = 0 from ha) (by decide)
 ·rw [ar_of h] at ha; exact absurd (show (2:Nat) = 0 from ha) (by decide)
 ·exact absurd (.inl h) hc9
 ·exact absurd (.inr h) hc9
 ·rw [ar_of h] at ha; exact absurd (show (1:Nat) = 0 from ha) (by decide)
 ·rw [ar_of h] at ha; exact absurd (show (1:Nat) = 0 from ha) (by decide)
 ·rw [ar_of h] at ha; exact absurd (show (1:Nat) = 0 from ha) (by decide)
 ·rw [ar_of h] at ha; exact absurd (show (1:Nat) = 0 from ha) (by decide)
 ·rw [ar_of h] at ha; exact absurd (show (1:Nat) = 0 from ha) (by decide)
 ·rw [ar_of h] at ha; exact absurd (show (3:Nat) = 0 from ha) (by decide)
theorem max2 (a b:Int):maxL [a,b] = maxL [b,a]:=by
 show (if b > a then b else a) = (if a > b then a else b)
 split <;> split <;> omega
theorem min2 (a b:Int):minL [a,b] = minL [b,a]:=by
 show (if b < a then b else a) = (if a < b then a else b)
 split <;> split <;> omega
theorem tinner_eq (F:Nat) (hF:200 < F) {u:Int} (hu:1 ≤ u) (hu2:u ≤ 1000000000000000000000000) {D:List tDim.T} (hd4:D.length ≤ 4) {n:tNode.T} {pile:Nat} (hn:nodeE D.length n pile = 0) {q:List Int} {ks:List Tree} {V M:Tree→Int} (hk:Kids ks V M) (hl:ks.length = ar n) (ha:1 ≤ ar n)
  (hfar:farN n (magN u D n (ks.map M)) ≤ BND) (hoff:nK n = 15→∃ c,(ks.map V).getD 0 0 = c * 10000) :
  octroiref10_inner.sh F n (mk u) (ks.map fun k=>mk (V k)) = some ((mk (evN u D q n (ks.map V)),()),()):=by
 obtain ⟨g1,g2,g3,g4,g5,g6,g7,g8⟩:=nodeE_ok hn
 have hBND:BND = 1329227995784915872903807060280344576:=rfl
 have ha16:=ar_le g1 g4
 have hN2:=most_le hd4 g3 g1
 have iu:inR u = true:=by rw [inR_iff]; omega
 have i00:inR 0 = true:=by rw [inR_iff]; omega
 have iN:inR (nN n) = true:=by rw [inR_iff]; omega
 have ho0:octroiref01_Of.sh F 0 = some ((mk 0,()),()):=rof_eq F (by omega) (by omega)
 have hof:octroiref01_Of.sh F n.2.1 = some ((mk (nN n),()),()):=rof_eq F (v:=nN n) (by omega) (by omega)
 have i0:idx 0 (ks.map fun k=>mk (V k)).length = true:=idx0 (by simp; omega)
 have hmm:(ks.map fun k=>mk (V k)) = (ks.map V).map mk:=by rw [List.map_map]; rfl
 have B:∀ k ∈ ks,-M k ≤ V k∧V k ≤ M k∧M k ≤ BND∧inR (V k) = true:=fun k h=>⟨hk.lo k h,hk.hi k h,hk.bd k h,hk.inr _ (List.mem_map_of_mem h)⟩
 rcases kinds16 g1 with h | h | h | h | h | h | h | h | h | h | h | h | h | h | h | h
 ·rw [ar_of h] at ha; exact absurd (show (1:Nat) ≤ 0 from ha) (by decide)
 ·rw [ar_of h] at ha; exact absurd (show (1:Nat) ≤ 0 from ha) (by decide)
 ·rw [ar_of h] at ha; exact absurd (show (1:Nat) ≤ 0 from ha) (by decide)
 ·rw [ar_of h] at ha; exact absurd (show (1:Nat) ≤ 0 from ha) (by decide)
 ·
  have hl1:ks.length = 1:=by rw [hl,ar_of h]; rfl
  obtain ⟨a,rfl⟩:=List.length_eq_one_iff.1 hl1
  have e:evN u D q n ([a].map V) = 0 - V a:=by unfold evN; rw [h]; rfl
  have Ba:=B a (by simp)
  have h':n.1 = 5:=h
  rw [e]
  unfold octroiref10_inner.sh
  rw [i0,h',ho0,hof]
  simp only [Int.reduceBEq,cond_false,cond_true]
  rw [oB_some,oB_some,show get tWide ([a].map fun k=>mk (V k)) 0 = mk (V a) from rfl,tless_eq F (by omega) i00 Ba.2.2.2 (by rw [inR_iff]; omega),oB_some]
 ·
  have hl1:ks.length = 2:=by rw [hl,ar_of h]; rfl
  obtain ⟨a,b,rfl⟩:=len2 hl1
  have e:evN u D q n ([a,b].map V) = V a + V b:=by unfold evN; rw [h]; rfl
  have Ba:=B a (by simp)
  have Bb:=B b (by simp)
  have h':n.1 = 6:=h
  rw [e]
  unfold octroiref10_inner.sh
  rw [i0,h',ho0,hof,show idx 1 ([a,b].map fun k=>mk (V k)).length = true from rfl]
  simp only [Int.reduceBEq,cond_false,cond_true]
  rw [oB_some,oB_some,show get tWide ([a,b].map fun k=>mk (V k)) 0 = mk (V a) from rfl,show get tWide ([a,b].map fun k=>mk (V k)) 1 = mk (V b) from rfl,tplus_eq F (by omega) Ba.2.2.2 Bb.2.2.2 (by rw [inR_iff]; omega),oB_some]
 ·
  have hl1:ks.length = 2:=by rw [hl,ar_of h]; rfl
  obtain ⟨a,b,rfl⟩:=len2 hl1
  have e:evN u D q n ([a,b].map V) = V a - V b:=by unfold evN; rw [h]; rfl
  have Ba:=B a (by simp)
  have Bb:=B b (by simp)
  have h':n.1 = 7:=h
  rw [e]
  unfold octroiref10_inner.sh
  rw [i0,h',ho0,hof,show idx 1 ([a,b].map fun k=>mk (V k)).length = true from rfl]
  simp only [Int.reduceBEq,cond_false,cond_true]
  rw [oB_some,oB_some,show get tWide ([a,b].map fun k=>mk (V k)) 0 = mk (V a) from rfl,show get tWide ([a,b].map fun k=>mk (V k)) 1 = mk (V b) from rfl,tless_eq F (by omega) Ba.2.2.2 Bb.2.2.2 (by rw [inR_iff]; omega),oB_some]
 ·
  have hl1:ks.length = 2:=by rw [hl,ar_of h]; rfl
  obtain ⟨a,b,rfl⟩:=len2 hl1
  have e:evN u D q n ([a,b].map V) = V a * V b:=by unfold evN; rw [h]; rfl
  have m:magN u D n ([a,b].map M) = M a * M b:=by unfold magN; rw [h]; rfl
  have hf:farN n (magN u D n ([a,b].map M)) = M a * M b:=by unfold farN; rw [h,m]; rfl
  rw [hf] at hfar
  have Ba:=B a (by simp)
  have Bb:=B b (by simp)
  have hb:=abs_mul_bd Ba.1 Ba.2.1 Bb.1 Bb.2.1
  have h':n.1 = 8:=h
  rw [e]
  unfold octroiref10_inner.sh
  rw [i0,h',ho0,hof,show idx 1 ([a,b].map fun k=>mk (V k)).length = true from rfl]
  simp only [Int.reduceBEq,cond_false,cond_true]
  rw [oB_some,oB_some,show get tWide ([a,b].map fun k=>mk (V k)) 0 = mk (V a) from rfl,show get tWide ([a,b].map fun k=>mk (V k)) 1 = mk (V b) from rfl,tby_eq F (by omega) Ba.2.2.2 Bb.2.2.2 (by rw [inR_iff]; omega),oB_some]
 ·
  have e:evN u D q n (ks.map V) = minL (ks.map V):=by unfold evN; rw [h]; rfl
  have h':n.1 = 9:=h
  rw [e]
  unfold octroiref10_inner.sh
  rw [h',ho0,hof,hmm]
  simp only [Int.reduceBEq,cond_false,cond_true]
  rw [oB_some,oB_some,bestn_eq F (by omega) hk.inr (by simp; omega) (by simp; omega) (by simp; omega),oB_some]
 ·
  have e:evN u D q n (ks.map V) = maxL (ks.map V):=by unfold evN; rw [h]; rfl
  have h':n.1 = 10:=h
  rw [e]
  unfold octroiref10_inner.sh
  rw [h',ho0,hof,hmm]
  simp only [Int.reduceBEq,cond_false,cond_true]
  rw [oB_some,oB_some,best1_eq F (by omega) hk.inr (by simp; omega) (by simp; omega) (by simp; omega),oB_some]
 ·
  have hl1:ks.length = 1:=by rw [hl,ar_of h]; rfl
  obtain ⟨a,rfl⟩:=List.length_eq_one_iff.1 hl1
  have e:evN u D q n ([a].map V) = maxL [0,V a - nN n]:=by unfold evN; rw [h]; rfl
  have Ba:=B a (by simp)
  have h':n.1 = 11:=h
  have i1:inR (V a - nN n) = true:=by rw [inR_iff]; omega
  rw [e,max2]
  unfold octroiref10_inner.sh
  rw [i0,h',ho0,hof]
  simp only [Int.reduceBEq,cond_false,cond_true]
  rw [oB_some,oB_some,show get tWide ([a].map fun k=>mk (V k)) 0 = mk (V a) from rfl,tless_eq F (by omega) Ba.2.2.2 iN i1,oB_some]
  have:=best1_eq F (by omega) (l:=[V a - nN n,0]) (by intro v hv; simp at hv; rcases hv with rfl | rfl; exact i1; exact i00) (by simp) (by simp; omega) (by simp)
  rw [show (([V a - nN n,0]:List Int).map mk) = [mk (V a - nN n),mk 0] from rfl] at this
  rw [this,oB_some]
 ·
  have hl1:ks.length = 1:=by rw [hl,ar_of h]; rfl
  obtain ⟨a,rfl⟩:=List.length_eq_one_iff.1 hl1
  have e:evN u D q n ([a].map V) = minL [nN n,V a]:=by unfold evN; rw [h]; rfl
  have Ba:=B a (by simp)
  have h':n.1 = 12:=h
  rw [e,min2]
  unfold octroiref10_inner.sh
  rw [i0,h',ho0,hof]
  simp only [Int.reduceBEq,cond_false,cond_true]
  rw [oB_some,oB_some,show get tWide ([a].map fun k=>mk (V k)) 0 = mk (V a) from rfl]
  have:=bestn_eq F (by omega) (l:=[V a,nN n]) (by intro v hv; simp at hv; rcases hv with rfl | rfl; exact Ba.2.2.2; exact iN) (by simp) (by simp; omega) (by simp)
  rw [show (([V a,nN n]:List Int).map mk) = [mk (V a),mk (nN n)] from rfl] at this
  rw [this,oB_some]
 ·
  have hl1:ks.length = 1:=by rw [hl,ar_of h]; rfl
  obtain ⟨a,rfl⟩:=List.length_eq_one_iff.1 hl1
  have hr:=g8 (by unfold tierB asks; rw [h]; rfl)
  have e:evN u D q n ([a].map V) = u * grad (V a) (nT n):=by unfold evN; rw [h]; rfl
  have m:magN u D n ([a].map M) = u * (rateM 0 (nT n) * (M a + lastF (nT n)) + waysS (nT n)):=by unfold magN; rw [h]; rfl
  have hf:farN n (magN u D n ([a].map M)) = u * (rateM 0 (nT n) * (M a + lastF (nT n)) + waysS (nT n)):=by unfold farN; rw [h,m]; rfl
  rw [hf] at hfar
  have Ba:=B a (by simp)
  have hgb:=grad_bd hr Ba.2.1 (by omega)
  have hub:=abs_mul_bd (show -u ≤ u by omega) (Int.le_refl u) hgb.1 hgb.2
  have hle:=mul_ge hu (show 0 ≤ rateM 0 (nT n) * (M a + lastF (nT n)) + waysS (nT n) by omega)
  have h':n.1 = 13:=h
  rw [e]
  unfold octroiref10_inner.sh
  rw [i0,h',ho0,hof]
  simp only [Int.reduceBEq,cond_false,cond_true]
  rw [oB_some,oB_some,show get tWide ([a].map fun k=>mk (V k)) 0 = mk (V a) from rfl,tgrad_eq F (by omega) hr Ba.2.2.2 Ba.2.1 (by omega) (by omega),oB_some,tby_eq F (by omega) iu (by rw [inR_iff]; omega) (by rw [inR_iff]; omega),oB_some]
 ·
  have hl1:ks.length = 1:=by rw [hl,ar_of h]; rfl
  obtain ⟨a,rfl⟩:=List.length_eq_one_iff.1 hl1
  have hr:=g8 (by unfold tierB asks; rw [h]; rfl)
  have e:evN u D q n ([a].map V) = u * vol (V a) (nT n):=by unfold evN; rw [h]; rfl
  have m:magN u D n ([a].map M) = u * (rateM 0 (nT n) * (M a + lastF (nT n)) + waysS (nT n)):=by unfold magN; rw [h]; rfl
  have hf:farN n (magN u D n ([a].map M)) = u * (rateM 0 (nT n) * (M a + lastF (nT n)) + waysS (nT n)):=by unfold farN; rw [h,m]; rfl
  rw [hf] at hfar
  have Ba:=B a (by simp)
  have hgb:=vol_bd hr Ba.2.1 (by omega)
  have hub:=abs_mul_bd (show -u ≤ u by omega) (Int.le_refl u) hgb.1 hgb.2
  have hle:=mul_ge hu (show 0 ≤ rateM 0 (nT n) * (M a + lastF (nT n)) + waysS (nT n) by omega)
  have h':n.1 = 14:=h
  rw [e]
  unfold octroiref10_inner.sh
  rw [i0,h',ho0,hof]
  simp only [Int.reduceBEq,cond_false,cond_true]
  rw [oB_some,oB_some,show get tWide ([a].map fun k=>mk (V k)) 0 = mk (V a) from rfl,tvol_eq F (by omega) hr Ba.2.2.2 Ba.2.1 (by omega) (by omega),oB_some,tby_eq F (by omega) iu (by rw [inR_iff]; omega) (by rw [inR_iff]; omega),oB_some]
 ·
  have hl1:ks.length = 1:=by rw [hl,ar_of h]; rfl
  obtain ⟨a,rfl⟩:=List.length_eq_one_iff.1 hl1
  have e:evN u D q n ([a].map V) = divM 2 (V a * (10000 - nN n)) 10000:=by unfold evN; rw [h]; rfl
  have m:magN u D n ([a].map M) = M a:=by unfold magN; rw [h]; rfl
  have hf:farN n (magN u D n ([a].map M)) = M a * 10000:=by unfold farN; rw [h,m]; rfl
  rw [hf] at hfar
  rw [most_of h] at g3
  have g3:nN n ≤ 10000:=g3
  have Ba:=B a (by simp)
  have ho:=off_bd g2 g3 (M a) Ba.1 Ba.2.1
  have h':n.1 = 15:=h
  obtain ⟨c,hc⟩:=hoff h
  have hc:V a = c * 10000:=hc
  have hx:V a * (10000 - nN n) = (c * (10000 - nN n)) * 10000:=by rw [hc,Int.mul_right_comm]
  have hd:∀ m,divM m (V a * (10000 - nN n)) 10000 = c * (10000 - nN n):=fun m=>by rw [hx]; exact divM_exact (by decide)
  rw [e,hd 2,← hd 0]
  unfold octroiref10_inner.sh
  rw [i0,h',ho0,hof]
  simp only [Int.reduceBEq,cond_false,cond_true]
  rw [oB_some,oB_some,show get tWide ([a].map fun k=>mk (V k)) 0 = mk (V a) from rfl,wrap_i64 (n:=10000 - n.2.1) (show -9223372036854775808 ≤ 10000 - nN n by omega) (show 10000 - nN n < 9223372036854775808 by omega),show (10000 - n.2.1:Int) = 10000 - nN n from rfl,
   rof_eq F (v:=10000 - nN n) (by omega) (by omega),oB_some,tby_eq F (by omega) Ba.2.2.2 (inR_i64 (by omega) (by omega)) (by rw [inR_iff]; omega),oB_some,rof_eq F (v:=10000) (by omega) (by omega),oB_some]
  rw [rdiv_eq F (by omega) (by rw [inR_iff]; omega) (by rw [inR_iff]; omega) (by decide) (by rw [inR_iff]; omega) (by omega) (by omega),oB_some]
 ·
  have hl1:ks.length = 3:=by rw [hl,ar_of h]; rfl
  obtain ⟨a,b,c,rfl⟩:=len3 hl1
  have e:evN u D q n ([a,b,c].map V) = bif holdB (nO n) (V a) (nN n) then V b else V c:=by unfold evN; rw [h]; rfl
  have Ba:=B a (by simp)
  have h':n.1 = 16:=h
  rw [e]
  unfold octroiref10_inner.sh octroiref10_inner.j26
  rw [i0,h',ho0,hof,show idx 1 ([a,b,c].map fun k=>mk (V k)).length = true from rfl,show idx 2 ([a,b,c].map fun k=>mk (V k)).length = true from rfl]
  simp only [Int.reduceBEq,cond_false,cond_true]
  rw [oB_some,oB_some,show get tWide ([a,b,c].map fun k=>mk (V k)) 0 = mk (V a) from rfl,tholds_eq F (by omega) Ba.2.2.2 (n:=n.2.1) (show -9223372036854775808 ≤ nN n by omega) (show nN n < 9223372036854775808 by omega),oB_some]
  cases holdB (nO n) (V a) (nN n) <;> rfl
end Go.VS
