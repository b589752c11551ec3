import Derived.Test.YthekefnghiaocaaDoorL19
set_option linter.unusedVariables false
set_option linter.unusedSimpArgs false
set_option linter.unusedSectionVars false
set_option linter.unusedVariables false
set_option linter.unusedSimpArgs false
set_option maxRecDepth 100000
namespace Go.VS
open Go
theorem grad_loop (F:Nat) {R:Type} (kk:List tTier.T→Int→tWide.T→tWide.T→Option R) (L:List tTier.T) (hL:L.length ≤ 16) (X:tWide.T) (r4:tWide.T) (K:Nat):∀ (n i fu:Nat) (xs:List tTier.T) (s lo:Int),L.drop i = xs→n < xs.length→n < fu→K = i + n→-1 ≤ lo→incT lo xs →
  -20000000000000000000000000 ≤ s - n * 1000000000000000000000000→s + n * 1000000000000000000000000 ≤ 20000000000000000000000000 →
  eval_graduated.l3 F (fun tiers k _ _ x _ sum=>kk tiers k x sum) fu L (K:Int) (i:Int) X r4 (mk s) = kk L (K:Int) X (mk (s + wayT xs n))
 | n,i,0,xs,s,lo,h,hn,hf,hK,hlo,hi,b1,b2=>by omega
 | 0,i,fu + 1,xs,s,lo,h,hn,hf,hK,hlo,hi,b1,b2=>by
  simp only [eval_graduated.l3,eval_graduated.l3.body]
  rw [decide_eq_false (show ¬ (i:Int) < (K:Int) by omega)]
  have:wayT xs 0 = 0:=by cases xs with
   | nil=>rfl
   | cons a r=>cases r <;> rfl
  rw [this,Int.add_zero]
  rfl
 | n + 1,i,fu + 1,[],s,lo,h,hn,hf,hK,hlo,hi,b1,b2=>by simp at hn
 | n + 1,i,fu + 1,[a],s,lo,h,hn,hf,hK,hlo,hi,b1,b2=>by simp at hn
 | n + 1,i,fu + 1,a :: b :: r,s,lo,h,hn,hf,hK,hlo,hi,b1,b2=>by
  obtain ⟨a1,a2,a3,a4,a5⟩:=hi
  have ⟨c1,c2,c3,c4,c5⟩:=a5
  have h0:=rg_len h
  have h1:=rg_len (rg_next h)
  have hg:get tTier L ((i:Int)).toNat = a:=by rw [Int.toNat_natCast]; exact rg_get h
  have hg1:get tTier L (((i + 1:Nat):Int)).toNat = b:=by rw [Int.toNat_natCast]; exact rg_get (rg_next h)
  push_cast at b1 b2
  have hp:=abs_mul_bd (show -1000000000000 ≤ tR a by omega) (show tR a ≤ 1000000000000 by omega) (show -1000000000000 ≤ tF b - tF a by omega) (show tF b - tF a ≤ 1000000000000 by omega)
  have IH:=grad_loop F kk L hL X r4 K n (i + 1) fu (b :: r) (s + tR a * (tF b - tF a)) (tF a) (rg_next h) (by simp at hn ⊢; omega) (by omega) (by omega) (by omega) a5 (by omega) (by omega)
  simp only [eval_graduated.l3,eval_graduated.l3.body]
  rw [decide_eq_true (show (i:Int) < (K:Int) by omega),rg_idx h0,hg,wrap_i64 (n:=(i:Int) + 1) (by omega) (by omega),show (i:Int) + 1 = ((i + 1:Nat):Int) by omega,rg_idx h1,hg1]
  simp only [cond_true]
  rw [of_eq F (v:=tR a) (by omega) (by omega),oB_some,wrap_i64 (n:=tF b - tF a) (by omega) (by omega),of_eq F (v:=tF b - tF a) (by omega) (by omega),oB_some]
  rw [emul_eq F (inR_i64 (by omega) (by omega)) (inR_i64 (by omega) (by omega)) (by rw [inR_iff]; omega),oB_some,eadd_eq F (by rw [inR_iff]; omega) (by rw [inR_iff]; omega) (by rw [inR_iff]; omega),oB_some]
  rw [IH,Int.add_assoc]
  rfl
theorem graduated_eq (F:Nat) (hF:64 < F) {l:List tTier.T} (hl:risB l = true) {x X:Int} (hx:inR x = true) (hX:x ≤ X) (hX0:0 ≤ X) (hb:rateM 0 l * (X + lastF l) + waysS l ≤ BND) :
  eval_graduated.sh F (mk x) l = some ((mk (grad x l),()),()):=by
 obtain ⟨l1,l2,l3⟩:=risB_inc hl
 have hgb:=grad_bd hl hX hX0
 have hBND:BND = 1329227995784915872903807060280344576:=rfl
 have hlf:=lastF_bd l (-1) (by omega) l3
 have hm:=Int.mul_nonneg (rateM_ge l 0).1 (show 0 ≤ X + lastF l by omega)
 have hw0:=waysS_bd l (-1) (by omega) l3
 have hcl:=cntT_le x l
 unfold eval_graduated.sh
 rw [tier_eq F hF hl hx,oB_some]
 by_cases hc:cntT x l = 0
 ·have hL:∀ (fu:Nat) (k:List tTier.T→Int→tWide.T→tWide.T→Option eval_graduated.sg.R),eval_graduated.l3 F (fun tiers k1 _ _ x _ sum=>k tiers k1 x sum) (fu + 1) l (((cntT x l:Nat):Int) - 1) 0 (mk x) (0,0) (0,0) = k l (((cntT x l:Nat):Int) - 1) (mk x) (0,0):=by
   intro fu k
   simp only [eval_graduated.l3,eval_graduated.l3.body]
   rw [decide_eq_false (show ¬ (0:Int) < ((cntT x l:Nat):Int) - 1 by omega)]
   rfl
  obtain ⟨fu,hfu⟩:∃ j,F = j + 1:=⟨F - 1,by omega⟩
  have:=hL (F - 1) (fun tiers6 k6 x6 sum6=>bif decide (k6 ≥ 0) then bif idx k6 tiers6.length then oB (wide_Of.sh F (get tTier tiers6 k6.toNat).2) fun c_7 =>
   bif idx k6 tiers6.length then oB (wide_Of.sh F (get tTier tiers6 k6.toNat).1) fun c_8 =>
    oB (eval_sub.sh F x6 c_8.1.1) fun c_9 =>
    oB (eval_mul.sh F c_7.1.1 c_9.1.1) fun c_10 =>
    oB (eval_add.sh F sum6 c_10.1.1) fun c_11 =>
    some ((c_11.1.1,()),())
   else none
  else none
 else some ((sum6,()),()))
  rw [show F - 1 + 1 = F by omega] at this
  rw [this,decide_eq_false (show ¬ ((cntT x l:Nat):Int) - 1 ≥ 0 by omega)]
  unfold grad
  rw [if_pos hc]
  rfl
 ·have ht:=top_in l (-1) (by omega) l3 (x:=x) (by omega)
  have hs:=(share_bd hl hX hX0 (show 1 ≤ cntT x l by omega)).1
  have hw:=wayT_bd l (-1) (cntT x l - 1) (by omega) l3
  have hlp:=grad_loop F (fun tiers6 k6 x6 sum6=>bif decide (k6 ≥ 0) then bif idx k6 tiers6.length then oB (wide_Of.sh F (get tTier tiers6 k6.toNat).2) fun c_7 =>
   bif idx k6 tiers6.length then oB (wide_Of.sh F (get tTier tiers6 k6.toNat).1) fun c_8 =>
    oB (eval_sub.sh F x6 c_8.1.1) fun c_9 =>
    oB (eval_mul.sh F c_7.1.1 c_9.1.1) fun c_10 =>
    oB (eval_add.sh F sum6 c_10.1.1) fun c_11 =>
    (some ((c_11.1.1,()),()):Option eval_graduated.sg.R)
   else none
  else none
 else some ((sum6,()),())) l l2 (mk x) (0,0) (cntT x l - 1) (cntT x l - 1) 0 F l 0 (-1) (by simp) (by omega) (by omega) (by omega) (by omega) l3 (by omega) (by omega)
  rw [show ((cntT x l - 1:Nat):Int) = ((cntT x l:Nat):Int) - 1 by omega] at hlp
  refine Eq.trans hlp ?_
  rw [show ((cntT x l:Nat):Int) - 1 = ((cntT x l - 1:Nat):Int) by omega,decide_eq_true (show ((cntT x l - 1:Nat):Int) ≥ 0 by omega),rg_idx (show cntT x l - 1 < l.length by omega),Int.toNat_natCast,show get tTier l (cntT x l - 1) = topT' x l from rfl]
  simp only [cond_true]
  have hxx:=inR_iff.1 hx
  rw [of_eq F (v:=tR (topT' x l)) (by omega) (by omega),oB_some,of_eq F (v:=tF (topT' x l)) (by omega) (by omega),oB_some]
  rw [esub_eq F hx (inR_i64 (by omega) (by omega)) (by rw [inR_iff]; omega),oB_some,emul_eq F (inR_i64 (by omega) (by omega)) (by rw [inR_iff]; omega) (by rw [inR_iff]; omega),oB_some]
  rw [eadd_eq F (by rw [inR_iff]; omega) (by rw [inR_iff]; omega) (by rw [inR_iff]; omega),oB_some]
  unfold grad
  rw [if_neg hc,Int.zero_add]
theorem volume_eq (F:Nat) (hF:64 < F) {l:List tTier.T} (hl:risB l = true) {x X:Int} (hx:inR x = true) (hX:x ≤ X) (hX0:0 ≤ X) (hb:rateM 0 l * (X + lastF l) + waysS l ≤ BND) :
  eval_volume.sh F (mk x) l = some ((mk (vol x l),()),()):=by
 obtain ⟨l1,l2,l3⟩:=risB_inc hl
 have hBND:BND = 1329227995784915872903807060280344576:=rfl
 have hw0:=waysS_bd l (-1) (by omega) l3
 have hcl:=cntT_le x l
 unfold eval_volume.sh vol
 rw [tier_eq F hF hl hx,oB_some]
 by_cases hc:cntT x l = 0
 ·rw [if_pos hc,decide_eq_false (show ¬ ((cntT x l:Nat):Int) - 1 ≥ 0 by omega)]
  rfl
 ·have ht:=top_in l (-1) (by omega) l3 (x:=x) (by omega)
  have hs:=(share_bd hl hX hX0 (show 1 ≤ cntT x l by omega)).2
  rw [if_neg hc,show ((cntT x l:Nat):Int) - 1 = ((cntT x l - 1:Nat):Int) by omega,decide_eq_true (show ((cntT x l - 1:Nat):Int) ≥ 0 by omega),rg_idx (show cntT x l - 1 < l.length by omega),Int.toNat_natCast,show get tTier l (cntT x l - 1) = topT' x l from rfl]
  simp only [cond_true]
  rw [of_eq F (v:=tR (topT' x l)) (by omega) (by omega),oB_some,emul_eq F hx (inR_i64 (by omega) (by omega)) (by rw [inR_iff]; omega),oB_some]
def holdB (op x n:Int):Bool :=
 bif op == 1 then decide (x < n) else bif op == 2 then decide (x ≤ n) else bif op == 3 then decide (x > n) else bif op == 4 then decide (x ≥ n) else bif op == 5 then decide (x = n) else !decide (x = n)
theorem holds_eq (F:Nat) {x n:Int} (hx:inR x = true) (hn:inR n = true) (op:Int):eval_holds.sh F (mk x) (mk n) op = some ((holdB op x n,()),()):=by
 unfold eval_holds.sh holdB
 rw [cmp_eq F (wf_mk hx) (wf_mk hn),oB_some,val_mk,val_mk]
 have h3:(cmpZ x n = -1∧x < n) ∨ (cmpZ x n = 0∧x = n) ∨ (cmpZ x n = 1∧x > n):=by
  unfold cmpZ
  split
  ·exact .inl ⟨rfl,by assumption⟩
  ·split
   ·exact .inr (.inl ⟨rfl,by assumption⟩)
   ·exact .inr (.inr ⟨rfl,by omega⟩)
 have e1:decide (cmpZ x n < 0) = decide (x < n):=cmpZ_neg
 have e3:decide (cmpZ x n > 0) = decide (x > n):=cmpZ_pos
 have e2:decide (cmpZ x n ≤ 0) = decide (x ≤ n):=decide_eq_decide.2 (by omega)
 have e4:decide (cmpZ x n ≥ 0) = decide (x ≥ n):=decide_eq_decide.2 (by omega)
 have e5:(cmpZ x n == 0) = decide (x = n):=by
  by_cases h:x = n
  ·rw [decide_eq_true h]; have:cmpZ x n = 0:=by omega
   rw [this]; rfl
  ·rw [decide_eq_false h,beq_eq_false_iff_ne]; omega
 simp only [e1,e2,e3,e4,e5,bne]
 cases (op == 1) <;> cases (op == 2) <;> cases (op == 3) <;> cases (op == 4) <;> cases (op == 5) <;> rfl
def evN (u:Int) (D:List tDim.T) (q:List Int) (n:tNode.T) (vs:List Int):Int :=
 bif nK n == 1 then nN n else bif nK n == 2 then nN n * u else bif nK n == 3 then q.getD (nN n).toNat 0
 else bif nK n == 4 then ceilD (q.getD (nN n).toNat 0) (dS (D.getD (nN n).toNat (ByteArray.empty,0)))
 else bif nK n == 5 then 0 - vs.getD 0 0 else bif nK n == 6 then vs.getD 0 0 + vs.getD 1 0 else bif nK n == 7 then vs.getD 0 0 - vs.getD 1 0
 else bif nK n == 8 then vs.getD 0 0 * vs.getD 1 0 else bif nK n == 9 then minL vs else bif nK n == 10 then maxL vs
 else bif nK n == 11 then maxL [0,vs.getD 0 0 - nN n] else bif nK n == 12 then minL [nN n,vs.getD 0 0]
 else bif nK n == 13 then u * grad (vs.getD 0 0) (nT n) else bif nK n == 14 then u * vol (vs.getD 0 0) (nT n)
 else bif nK n == 15 then divM 2 (vs.getD 0 0 * (10000 - nN n)) 10000
 else bif holdB (nO n) (vs.getD 0 0) (nN n) then vs.getD 1 0 else vs.getD 2 0
def ev (u:Int) (D:List tDim.T) (q:List Int):Tree→Int:=Tree.fold (evN u D q)
theorem ev_nd (u:Int) (D:List tDim.T) (q:List Int) (n:tNode.T) (ks:List Tree):ev u D q (.nd n ks) = evN u D q n (ks.map (ev u D q)):=Tree.fold_nd _ n ks
theorem sumL_ge:∀ (l:List Int),(∀ v ∈ l,0 ≤ v)→∀ v ∈ l,v ≤ sumL l
 | [],h,v,hv=>by simp at hv
 | x :: r,h,v,hv=>by
  have hx:=h x (by simp)
  have h0:0 ≤ sumL r:=by
   have:∀ (l:List Int),(∀ v ∈ l,0 ≤ v)→0 ≤ sumL l:=by
    intro l
    induction l with
    | nil=>intro _; simp [sumL]
    | cons y s ih=>intro hh; have:=ih (fun v hv=>hh v (by simp [hv])); have:=hh y (by simp); simp only [sumL,List.sum_cons] at *; omega
   exact this r (fun v hv=>h v (by simp [hv]))
  have ih:=sumL_ge r (fun v hv=>h v (by simp [hv]))
  simp only [sumL,List.sum_cons] at *
  rcases List.mem_cons.1 hv with rfl | hv
  ·omega
  ·have:=ih v hv; omega
structure Kids (ks:List Tree) (V M:Tree→Int):Prop where
 lo:∀ k ∈ ks,-M k ≤ V k
 hi:∀ k ∈ ks,V k ≤ M k
 bd:∀ k ∈ ks,M k ≤ BND
theorem Kids.nn {ks:List Tree} {V M:Tree→Int} (h:Kids ks V M):∀ k ∈ ks,0 ≤ M k:=fun k hk=>by
 have:=h.lo k hk; have:=h.hi k hk; omega
theorem Kids.sum {ks:List Tree} {V M:Tree→Int} (h:Kids ks V M):∀ k ∈ ks,M k ≤ sumL (ks.map M):=fun k hk =>
 sumL_ge _ (by simp only [List.mem_map]; rintro v ⟨k,hk,rfl⟩; exact h.nn k hk) _ (List.mem_map_of_mem hk)
theorem Kids.inr {ks:List Tree} {V M:Tree→Int} (h:Kids ks V M):∀ v ∈ ks.map V,inR v = true:=by
 simp only [List.mem_map]
 rintro v ⟨k,hk,rfl⟩
 have hBND:BND = 1329227995784915872903807060280344576:=rfl
 have:=h.lo k hk; have:=h.hi k hk; have:=h.bd k hk
 rw [inR_iff]; omega
end Go.VS
