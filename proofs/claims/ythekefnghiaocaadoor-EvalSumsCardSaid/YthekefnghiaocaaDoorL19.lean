import Derived.Test.YthekefnghiaocaaDoorL11
import Derived.Test.YthekefnghiaocaaDoorL18
set_option linter.unusedVariables false
set_option linter.unusedSimpArgs false
set_option linter.unusedSectionVars false
set_option linter.unusedVariables false
set_option linter.unusedSimpArgs false
set_option maxRecDepth 100000
namespace Go.VS
open Go
theorem eadd_eq (F:Nat) {a b:Int} (ha:inR a = true) (hb:inR b = true) (h:inR (a + b) = true):eval_add.sh F (mk a) (mk b) = some ((mk (a + b),()),()):=by
 unfold eval_add.sh
 rw [add_eq F (wf_mk ha) (wf_mk hb),oB_some,val_mk,val_mk,(res_in h).1]
theorem esub_eq (F:Nat) {a b:Int} (ha:inR a = true) (hb:inR b = true) (h:inR (a - b) = true):eval_sub.sh F (mk a) (mk b) = some ((mk (a - b),()),()):=by
 unfold eval_sub.sh
 rw [sub_eq F (wf_mk ha) (wf_mk hb),oB_some,val_mk,val_mk,(res_in h).1]
theorem emul_eq (F:Nat) {a b:Int} (ha:inR a = true) (hb:inR b = true) (h:inR (a * b) = true):eval_mul.sh F (mk a) (mk b) = some ((mk (a * b),()),()):=by
 unfold eval_mul.sh
 rw [wmul_eq F (wf_mk ha) (wf_mk hb),oB_some,val_mk,val_mk,(res_in h).1]
def minF (m:Int) (l:List Int):Int:=l.foldl (fun m x=>if x < m then x else m) m
def minL:List Int→Int
 | []=>0
 | a :: r=>minF a r
theorem minF_mem:∀ (l:List Int) (m:Int),minF m l = m ∨ minF m l ∈ l
 | [],m=>.inl rfl
 | x :: r,m=>by
  show minF (if x < m then x else m) r = m ∨ minF (if x < m then x else m) r ∈ x :: r
  rcases minF_mem r (if x < m then x else m) with h | h
  ·rw [h]; split
   ·exact .inr (by simp)
   ·exact .inl rfl
  ·exact .inr (by simp [h])
theorem maxF_mem:∀ (l:List Int) (m:Int),maxF m l = m ∨ maxF m l ∈ l
 | [],m=>.inl rfl
 | x :: r,m=>by
  show maxF (if x > m then x else m) r = m ∨ maxF (if x > m then x else m) r ∈ x :: r
  rcases maxF_mem r (if x > m then x else m) with h | h
  ·rw [h]; split
   ·exact .inr (by simp)
   ·exact .inl rfl
  ·exact .inr (by simp [h])
theorem minL_mem {l:List Int} (h:1 ≤ l.length):minL l ∈ l:=by
 cases l with
 | nil=>simp at h
 | cons a r =>
  rcases minF_mem r a with h | h
  ·rw [minL,h]; simp
  ·rw [minL]; simp [h]
theorem maxL_mem {l:List Int} (h:1 ≤ l.length):maxL l ∈ l:=by
 cases l with
 | nil=>simp at h
 | cons a r =>
  rcases maxF_mem r a with h | h
  ·rw [maxL,h]; simp
  ·rw [maxL]; simp [h]
theorem mind_eq (F:Nat) {a b:Int} (ha:inR a = true) (hb:inR b = true):slices_MinFunc_Wide.d26 F fn_wide_Cmp (mk a,mk b,()) = some ((cmpZ a b,()),()):=by
 refine Eq.trans (show slices_MinFunc_Wide.d26 F fn_wide_Cmp (mk a,mk b,()) = wide_Cmp.sh F (mk a) (mk b) from rfl) ?_
 rw [cmp_eq F (wf_mk ha) (wf_mk hb),val_mk,val_mk]
theorem maxd_eq (F:Nat) {a b:Int} (ha:inR a = true) (hb:inR b = true):slices_MaxFunc_Wide.d26 F fn_wide_Cmp (mk a,mk b,()) = some ((cmpZ a b,()),()):=by
 refine Eq.trans (show slices_MaxFunc_Wide.d26 F fn_wide_Cmp (mk a,mk b,()) = wide_Cmp.sh F (mk a) (mk b) from rfl) ?_
 rw [cmp_eq F (wf_mk ha) (wf_mk hb),val_mk,val_mk]
theorem cmpZ_neg {a b:Int}:decide (cmpZ a b < 0) = decide (a < b):=by
 unfold cmpZ
 by_cases h:a < b
 ·rw [if_pos h,decide_eq_true h]; rfl
 ·rw [if_neg h,decide_eq_false h]; split <;> rfl
theorem cmpZ_pos {a b:Int}:decide (cmpZ a b > 0) = decide (a > b):=by
 unfold cmpZ
 by_cases h:a < b
 ·rw [if_pos h,decide_eq_false (show ¬ a > b by omega)]; rfl
 ·rw [if_neg h]
  by_cases h':a = b
  ·rw [if_pos h',decide_eq_false (show ¬ a > b by omega)]; rfl
  ·rw [if_neg h',decide_eq_true (show a > b by omega)]; rfl
theorem minf_rg (F:Nat) {R:Type} (k:tWide.T→Option R) (X:List tWide.T):∀ (xs:List Int) (i:Int) (r4:tWide.T) (m:Int),(∀ v ∈ xs,inR v = true)→inR m = true →
  slices_MinFunc_Wide.l5.rg F (fun _ _ _ _ _ m=>k m) X (xs.map mk) i fn_wide_Cmp r4 (mk m) = k (mk (minF m xs))
 | [],i,r4,m,_,_=>rfl
 | x :: r,i,r4,m,h,hm=>by
  have hx:=h x (by simp)
  rw [List.map_cons,slices_MinFunc_Wide.l5.rg,mind_eq F hx hm,oB_some]
  have e:minF m (x :: r) = minF (if x < m then x else m) r:=rfl
  rw [e]
  simp only [cmpZ_neg]
  by_cases hlt:x < m
  ·rw [decide_eq_true hlt,if_pos hlt]
   exact minf_rg F k X r (i + 1) r4 x (fun v hv=>h v (by simp [hv])) hx
  ·rw [decide_eq_false hlt,if_neg hlt]
   exact minf_rg F k X r (i + 1) r4 m (fun v hv=>h v (by simp [hv])) hm
theorem maxf_rg (F:Nat) {R:Type} (k:tWide.T→Option R) (X:List tWide.T):∀ (xs:List Int) (i:Int) (r4:tWide.T) (m:Int),(∀ v ∈ xs,inR v = true)→inR m = true →
  slices_MaxFunc_Wide.l5.rg F (fun _ _ _ _ _ m=>k m) X (xs.map mk) i fn_wide_Cmp r4 (mk m) = k (mk (maxF m xs))
 | [],i,r4,m,_,_=>rfl
 | x :: r,i,r4,m,h,hm=>by
  have hx:=h x (by simp)
  rw [List.map_cons,slices_MaxFunc_Wide.l5.rg,maxd_eq F hx hm,oB_some]
  have e:maxF m (x :: r) = maxF (if x > m then x else m) r:=rfl
  rw [e]
  simp only [cmpZ_pos]
  by_cases hlt:x > m
  ·rw [decide_eq_true hlt,if_pos hlt]
   exact maxf_rg F k X r (i + 1) r4 x (fun v hv=>h v (by simp [hv])) hx
  ·rw [decide_eq_false hlt,if_neg hlt]
   exact maxf_rg F k X r (i + 1) r4 m (fun v hv=>h v (by simp [hv])) hm
theorem minf_eq (F:Nat) {l:List Int} (h:∀ v ∈ l,inR v = true) (h1:1 ≤ l.length) (hF:l.length < F) (hL:l.length < 4611686018427387904):slices_MinFunc_Wide.sh F (l.map mk) fn_wide_Cmp = some ((mk (minL l),()),()):=by
 unfold slices_MinFunc_Wide.sh
 rw [decide_eq_false (show ¬ (((l.map mk).length:Nat):Int) < 1 by simp; omega),show idx 0 (l.map mk).length = true from idx0 (by simp; omega)]
 simp only [cond_false,cond_true]
 cases l with
 | nil=>simp at h1
 | cons a r =>
  refine Eq.trans (slices_MinFunc_Wide.l5.rg_eq F _ ((a :: r).map mk) (by simp at hL ⊢; omega) (r.map mk) 1 F fn_wide_Cmp (0,0) _ (by simp) (by simp at hF ⊢; omega)) ?_
  exact minf_rg F (fun m=>(some ((m,()),()):Option slices_MinFunc_Wide.sg.R)) _ r _ _ a (fun v hv=>h v (by simp [hv])) (h a (by simp))
theorem maxf_eq (F:Nat) {l:List Int} (h:∀ v ∈ l,inR v = true) (h1:1 ≤ l.length) (hF:l.length < F) (hL:l.length < 4611686018427387904):slices_MaxFunc_Wide.sh F (l.map mk) fn_wide_Cmp = some ((mk (maxL l),()),()):=by
 unfold slices_MaxFunc_Wide.sh
 rw [decide_eq_false (show ¬ (((l.map mk).length:Nat):Int) < 1 by simp; omega),show idx 0 (l.map mk).length = true from idx0 (by simp; omega)]
 simp only [cond_false,cond_true]
 cases l with
 | nil=>simp at h1
 | cons a r =>
  refine Eq.trans (slices_MaxFunc_Wide.l5.rg_eq F _ ((a :: r).map mk) (by simp at hL ⊢; omega) (r.map mk) 1 F fn_wide_Cmp (0,0) _ (by simp) (by simp at hF ⊢; omega)) ?_
  exact maxf_rg F (fun m=>(some ((m,()),()):Option slices_MaxFunc_Wide.sg.R)) _ r _ _ a (fun v hv=>h v (by simp [hv])) (h a (by simp))
def cntT (x:Int):List tTier.T→Nat
 | []=>0
 | a :: r=>if tF a < x then cntT x r + 1 else 0
theorem cntT_le (x:Int):∀ l:List tTier.T,cntT x l ≤ l.length
 | []=>by simp [cntT]
 | a :: r=>by
  have:=cntT_le x r
  simp only [cntT,List.length_cons]
  split <;> omega
theorem tier_loop (F:Nat) {R:Type} (k:Int→Option R) (L:List tTier.T) (hL:L.length ≤ 16) {x:Int} (hx:inR x = true):∀ (xs:List tTier.T) (i fu:Nat) (lo:Int),L.drop i = xs→xs.length < fu→i ≤ 16→-1 ≤ lo→incT lo xs →
  eval_tier.l2 F (fun _ k1 _ _=>k k1) fu L ((i:Int) - 1) (mk x) = k ((i:Int) + (cntT x xs:Int) - 1)
 | xs,i,0,lo,h,hf,hi,hlo,hinc=>by simp at hf
 | [],i,fu + 1,lo,h,hf,hi,hlo,hinc=>by
  have hl:L.length ≤ i:=by
   have:=congrArg List.length h
   simp at this; omega
  simp only [eval_tier.l2,eval_tier.l2.body]
  rw [wrap_i64 (n:=(i:Int) - 1 + 1) (by omega) (by omega),decide_eq_false (show ¬ (i:Int) - 1 + 1 < (L.length:Int) by omega)]
  simp only [cond_false,cntT]
  exact congrArg k (by omega)
 | a :: r,i,fu + 1,lo,h,hf,hi,hlo,hinc=>by
  obtain ⟨a1,a2,a3,a4,a5⟩:=hinc
  have h0:=rg_len h
  have hg:get tTier L ((i:Int)).toNat = a:=by rw [Int.toNat_natCast]; exact rg_get h
  have IH:=tier_loop F k L hL hx r (i + 1) fu (tF a) (rg_next h) (by simp at hf; omega) (by omega) (by omega) a5
  simp only [eval_tier.l2,eval_tier.l2.body]
  rw [wrap_i64 (n:=(i:Int) - 1 + 1) (by omega) (by omega),show (i:Int) - 1 + 1 = (i:Int) by omega,decide_eq_true (show (i:Int) < (L.length:Int) by omega),rg_idx h0,hg]
  simp only [cond_true]
  rw [of_eq F (v:=a.1) (show -9223372036854775808 ≤ tF a by omega) (show tF a < 9223372036854775808 by omega),oB_some]
  rw [cmp_eq F (wf_mk (inR_i64 (show -9223372036854775808 ≤ tF a by omega) (show tF a < 9223372036854775808 by omega))) (wf_mk hx),oB_some,val_mk,val_mk]
  simp only [cmpZ_neg,cntT]
  rw [show ((i + 1:Nat):Int) - 1 = (i:Int) by omega] at IH
  by_cases hlt:tF a < x
  ·rw [decide_eq_true hlt,if_pos hlt]
   simp only [cond_true]
   rw [IH]
   exact congrArg k (by omega)
  ·rw [decide_eq_false hlt,if_neg hlt]
   simp only [cond_false]
   exact congrArg k (by omega)
theorem tier_eq (F:Nat) (hF:64 < F) {l:List tTier.T} (hl:risB l = true) {x:Int} (hx:inR x = true):eval_tier.sh F (mk x) l = some (((cntT x l:Int) - 1,()),()):=by
 obtain ⟨l1,l2,l3⟩:=risB_inc hl
 unfold eval_tier.sh
 have:=tier_loop F (fun k=>(some ((k,()),()):Option eval_tier.sg.R)) l l2 hx l 0 F (-1) (by simp) (by omega) (by omega) (by omega) l3
 rw [show (((0:Nat):Int) - 1) = -1 from rfl] at this
 rw [this,show ((0:Nat):Int) + (cntT x l:Int) - 1 = (cntT x l:Int) - 1 by omega]
def wayT:List tTier.T→Nat→Int
 | a :: b :: r,k + 1=>tR a * (tF b - tF a) + wayT (b :: r) k
 | _,_=>0
theorem farZ_abs (v:Int):-farZ v ≤ v∧v ≤ farZ v:=by unfold farZ; split <;> omega
theorem abs_mul_bd {a b m n:Int} (h1:-m ≤ a) (h2:a ≤ m) (h3:-n ≤ b) (h4:b ≤ n):-(m * n) ≤ a * b∧a * b ≤ m * n:=by
 have hm:0 ≤ m:=by omega
 have hn:0 ≤ n:=by omega
 have e1:(a.natAbs:Int) * (b.natAbs:Int) ≤ m * n:=Int.mul_le_mul (by omega) (by omega) (by omega) hm
 have e2:((a * b).natAbs:Int) = (a.natAbs:Int) * (b.natAbs:Int):=by rw [Int.natAbs_mul]; push_cast; rfl
 omega
theorem wayT_bd:∀ (l:List tTier.T) (lo:Int) (k:Nat),-1 ≤ lo→incT lo l→-waysS l ≤ wayT l k∧wayT l k ≤ waysS l
 | [],lo,k,_,h=>by simp [waysS,wayT]
 | [a],lo,k,_,h=>by simp [waysS,wayT]
 | a :: b :: r,lo,0,hlo,h=>by
  have:=(waysS_bd (a :: b :: r) lo hlo h).1
  simp only [wayT]; omega
 | a :: b :: r,lo,k + 1,hlo,h=>by
  obtain ⟨a1,a2,a3,a4,a5⟩:=h
  have ih:=wayT_bd (b :: r) (tF a) k (by omega) a5
  obtain ⟨b1,b2,b3,b4,b5⟩:=a5
  have hf:=farZ_abs (tR a)
  have:=abs_mul_bd hf.1 hf.2 (show -(tF b - tF a) ≤ tF b - tF a by omega) (show tF b - tF a ≤ tF b - tF a by omega)
  simp only [wayT,waysS]
  omega
theorem rateM_ge:∀ (l:List tTier.T) (r0:Int),r0 ≤ rateM r0 l∧∀ t ∈ l,farZ (tR t) ≤ rateM r0 l
 | [],r0=>⟨by simp [rateM],by simp⟩
 | a :: r,r0=>by
  have ih:=rateM_ge r (if farZ (tR a) > r0 then farZ (tR a) else r0)
  have e:rateM r0 (a :: r) = rateM (if farZ (tR a) > r0 then farZ (tR a) else r0) r:=rfl
  have h0:r0 ≤ (if farZ (tR a) > r0 then farZ (tR a) else r0)∧farZ (tR a) ≤ (if farZ (tR a) > r0 then farZ (tR a) else r0):=by split <;> omega
  rw [e]
  refine ⟨by omega,fun t ht=>?_⟩
  rcases List.mem_cons.1 ht with rfl | ht
  ·omega
  ·exact ih.2 t ht
def topT' (x:Int) (l:List tTier.T):tTier.T:=l.getD (cntT x l - 1) (0,0)
theorem top_in {x:Int}:∀ (l:List tTier.T) (lo:Int),-1 ≤ lo→incT lo l→1 ≤ cntT x l→topT' x l ∈ l∧0 ≤ tF (topT' x l)∧tF (topT' x l) < x∧tF (topT' x l) ≤ 1000000000000∧-1000000000000 ≤ tR (topT' x l)∧tR (topT' x l) ≤ 1000000000000
 | [],lo,hlo,h,hc=>by simp [cntT] at hc
 | a :: r,lo,hlo,h,hc=>by
  obtain ⟨a1,a2,a3,a4,a5⟩:=h
  have hax:tF a < x:=by
   simp only [cntT] at hc
   by_cases h:tF a < x
   ·exact h
   ·rw [if_neg h] at hc; omega
  have e:cntT x (a :: r) = cntT x r + 1:=by simp only [cntT]; rw [if_pos hax]
  by_cases h0:cntT x r = 0
  ·have e2:topT' x (a :: r) = a:=by unfold topT'; rw [e,h0]; rfl
   rw [e2]
   exact ⟨by simp,by omega,hax,by omega,by omega,by omega⟩
  ·have e2:topT' x (a :: r) = topT' x r:=by
    unfold topT'; rw [e,Nat.add_sub_cancel]
    obtain ⟨m,hm⟩:∃ m,cntT x r = m + 1:=⟨cntT x r - 1,by omega⟩
    rw [hm]; rfl
   have ih:=top_in (x:=x) r (tF a) (by omega) a5 (by omega)
   rw [e2]
   exact ⟨by simp [ih.1],ih.2⟩
def grad (x:Int) (l:List tTier.T):Int:=if cntT x l = 0 then 0 else wayT l (cntT x l - 1) + tR (topT' x l) * (x - tF (topT' x l))
def vol (x:Int) (l:List tTier.T):Int:=if cntT x l = 0 then 0 else x * tR (topT' x l)
theorem share_bd {x X:Int} {l:List tTier.T} (hl:risB l = true) (hX:x ≤ X) (hX0:0 ≤ X) (hc:1 ≤ cntT x l):(-(rateM 0 l * (X + lastF l)) ≤ tR (topT' x l) * (x - tF (topT' x l))∧tR (topT' x l) * (x - tF (topT' x l)) ≤ rateM 0 l * (X + lastF l)) ∧
  -(rateM 0 l * (X + lastF l)) ≤ x * tR (topT' x l)∧x * tR (topT' x l) ≤ rateM 0 l * (X + lastF l):=by
 obtain ⟨l1,l2,l3⟩:=risB_inc hl
 have ht:=top_in l (-1) (by omega) l3 hc
 have hr:=(rateM_ge l 0).2 _ ht.1
 have hf:=farZ_abs (tR (topT' x l))
 have hlf:=lastF_bd l (-1) (by omega) l3
 have h1:=abs_mul_bd (show -rateM 0 l ≤ tR (topT' x l) by omega) (show tR (topT' x l) ≤ rateM 0 l by omega) (show -(X + lastF l) ≤ x - tF (topT' x l) by omega) (show x - tF (topT' x l) ≤ X + lastF l by omega)
 have h2:=abs_mul_bd (show -rateM 0 l ≤ tR (topT' x l) by omega) (show tR (topT' x l) ≤ rateM 0 l by omega) (show -(X + lastF l) ≤ x by omega) (show x ≤ X + lastF l by omega)
 rw [Int.mul_comm x]
 exact ⟨h1,h2⟩
theorem grad_bd {x X:Int} {l:List tTier.T} (hl:risB l = true) (hX:x ≤ X) (hX0:0 ≤ X):-(rateM 0 l * (X + lastF l) + waysS l) ≤ grad x l∧grad x l ≤ rateM 0 l * (X + lastF l) + waysS l:=by
 obtain ⟨l1,l2,l3⟩:=risB_inc hl
 have hlf:=lastF_bd l (-1) (by omega) l3
 have hr0:=(rateM_ge l 0).1
 have hm:=Int.mul_nonneg hr0 (show 0 ≤ X + lastF l by omega)
 have hw0:=(waysS_bd l (-1) (by omega) l3).1
 unfold grad
 split
 ·omega
 ·have hw:=wayT_bd l (-1) (cntT x l - 1) (by omega) l3
  have hs:=(share_bd hl hX hX0 (by omega)).1
  omega
theorem vol_bd {x X:Int} {l:List tTier.T} (hl:risB l = true) (hX:x ≤ X) (hX0:0 ≤ X):-(rateM 0 l * (X + lastF l) + waysS l) ≤ vol x l∧vol x l ≤ rateM 0 l * (X + lastF l) + waysS l:=by
 obtain ⟨l1,l2,l3⟩:=risB_inc hl
 have hlf:=lastF_bd l (-1) (by omega) l3
 have hr0:=(rateM_ge l 0).1
 have hm:=Int.mul_nonneg hr0 (show 0 ≤ X + lastF l by omega)
 have hw0:=(waysS_bd l (-1) (by omega) l3).1
 unfold vol
 split
 ·omega
 ·have hs:=(share_bd hl hX hX0 (by omega)).2
  omega
end Go.VS
