import Derived.Test.YthekefnghiaocaaDoorL23
set_option linter.unusedVariables false
set_option linter.unusedSimpArgs false
set_option linter.unusedSectionVars false
set_option linter.unusedVariables false
set_option linter.unusedSimpArgs false
set_option maxRecDepth 100000
namespace Go.VS
open Go
theorem cnt_zero {x lo:Int} (h:x ≤ lo + 1):∀ {l:List tTier.T},incT lo l→cntT x l = 0
 | [],_=>rfl
 | a :: r,hi=>by
  simp only [cntT]
  rw [if_neg (by have:=hi.1; omega)]
theorem cnt_cons {x:Int} {a:tTier.T} {r:List tTier.T} (h:tF a < x):cntT x (a :: r) = cntT x r + 1:=by simp only [cntT]; rw [if_pos h]
theorem top_cons {x:Int} {a:tTier.T} {r:List tTier.T} (h:tF a < x):topT' x (a :: r) = if cntT x r = 0 then a else topT' x r:=by
 unfold topT'
 rw [cnt_cons h,Nat.add_sub_cancel]
 split
 ·rename_i h0; rw [h0]; rfl
 ·rename_i h0
  obtain ⟨m,hm⟩:∃ m,cntT x r = m + 1:=⟨cntT x r - 1,by omega⟩
  rw [hm]; rfl
theorem grad_one {x:Int} {a:tTier.T} {r:List tTier.T} (h:tF a < x) (h0:cntT x r = 0):grad x (a :: r) = tR a * (x - tF a):=by
 unfold grad
 rw [top_cons h,cnt_cons h,h0,if_pos rfl,if_neg (by omega)]
 have:wayT (a :: r) (0 + 1 - 1) = 0:=by cases r <;> rfl
 rw [this,Int.zero_add]
theorem grad_more {x:Int} {a b:tTier.T} {r:List tTier.T} (h:tF a < x) (h0:cntT x (b :: r) ≠ 0):grad x (a :: b :: r) = tR a * (tF b - tF a) + grad x (b :: r):=by
 have e:grad x (b :: r) = wayT (b :: r) (cntT x (b :: r) - 1) + tR (topT' x (b :: r)) * (x - tF (topT' x (b :: r))):=by unfold grad; rw [if_neg h0]
 rw [e]
 unfold grad
 rw [top_cons h,cnt_cons h,if_neg h0,if_neg (by omega),Nat.add_sub_cancel]
 obtain ⟨m,hm⟩:∃ m,cntT x (b :: r) = m + 1:=⟨cntT x (b :: r) - 1,by omega⟩
 rw [hm,Nat.add_sub_cancel,← Int.add_assoc]
 rfl
theorem grad_none {x:Int} {l:List tTier.T} (h:cntT x l = 0):grad x l = 0:=by unfold grad; rw [if_pos h]
def rateT (q:Int) (l:List tTier.T):Int:=if cntT (q + 1) l = 0 then 0 else tR (topT' (q + 1) l)
theorem grad_next (q:Int):∀ (l:List tTier.T) (lo:Int),incT lo l→grad (q + 1) l = grad q l + rateT q l
 | [],lo,h=>rfl
 | a :: r,lo,h=>by
  obtain ⟨a1,a2,a3,a4,a5⟩:=h
  rcases Int.lt_trichotomy (tF a) q with hq | hq | hq
  ·have ih:=grad_next q r (tF a) a5
   have h1:tF a < q + 1:=by omega
   have hrt:rateT q (a :: r) = if cntT (q + 1) r = 0 then tR a else tR (topT' (q + 1) r):=by
    unfold rateT
    rw [top_cons h1,cnt_cons h1,if_neg (by omega)]
    split <;> rfl
   by_cases h0:cntT (q + 1) r = 0
   ·have h00:cntT q r = 0:=by
     cases r with
     | nil=>rfl
     | cons b r =>
      simp only [cntT] at h0 ⊢
      split at h0
      ·omega
      ·rw [if_neg (by omega)]
    rw [grad_one h1 h0,grad_one hq h00,hrt,if_pos h0,show q + 1 - tF a = (q - tF a) + 1 by omega,Int.mul_add,Int.mul_one]
   ·cases r with
    | nil=>exact absurd rfl h0
    | cons b r =>
     have hr2:rateT q (b :: r) = tR (topT' (q + 1) (b :: r)):=by unfold rateT; rw [if_neg h0]
     rw [grad_more h1 h0,hrt,if_neg h0,ih,hr2]
     by_cases h00:cntT q (b :: r) = 0
     ·rw [grad_one hq h00,grad_none h00]
      have hb:tF b = q:=by
       simp only [cntT] at h0 h00
       split at h0
       ·split at h00
        ·omega
        ·omega
       ·exact absurd rfl h0
      rw [hb,Int.zero_add]
     ·rw [grad_more hq h00,Int.add_assoc]
  ·have h1:tF a < q + 1:=by omega
   have h0:cntT (q + 1) r = 0:=cnt_zero (by omega) a5
   have h00:cntT q (a :: r) = 0:=by simp only [cntT]; rw [if_neg (by omega)]
   have hrt:rateT q (a :: r) = tR a:=by
    unfold rateT
    rw [top_cons h1,cnt_cons h1,if_neg (by omega),if_pos h0]
   rw [grad_one h1 h0,grad_none h00,hrt,hq,Int.zero_add,show q + 1 - q = 1 by omega,Int.mul_one]
  ·have h0:cntT (q + 1) (a :: r) = 0:=by simp only [cntT]; rw [if_neg (by omega)]
   have h00:cntT q (a :: r) = 0:=by simp only [cntT]; rw [if_neg (by omega)]
   rw [grad_none h0,grad_none h00]
   unfold rateT
   rw [if_pos h0]
   rfl
theorem rate_rg (F:Nat) {R:Type} (k:Int→Int→Int→Int→tWide.T→tWide.T→tWide.T→Option R) (L:List tTier.T) (q f h:Int) (a b d:tWide.T):∀ (xs:List tTier.T) (i rate lo:Int),incT lo xs →
  octroilaw10_EvalTiers.l19.rg F (fun _ q f h rate _ _ a b d=>k q f h rate a b d) L xs i q f h rate a b d = k q f h (if cntT (q + 1) xs = 0 then rate else tR (topT' (q + 1) xs)) a b d
 | [],i,rate,lo,hi=>rfl
 | x :: r,i,rate,lo,hi=>by
  obtain ⟨a1,a2,a3,a4,a5⟩:=hi
  have ih:=fun rt=>rate_rg F k L q f h a b d r (i + 1) rt (tF x) a5
  simp only [octroilaw10_EvalTiers.l19.rg,ih]
  by_cases hx:tF x ≤ q
  ·rw [decide_eq_true hx,top_cons (show tF x < q + 1 by omega),cnt_cons (show tF x < q + 1 by omega),if_neg (show ¬ cntT (q + 1) r + 1 = 0 by omega)]
   simp only [cond_true]
   refine congrArg (fun z=>k q f h z a b d) ?_
   split <;> rfl
  ·have h0:cntT (q + 1) (x :: r) = 0:=by simp only [cntT]; rw [if_neg (by omega)]
   have h1:cntT (q + 1) r = 0:=cnt_zero (by omega) a5
   rw [decide_eq_false hx,h0,h1,if_pos rfl,if_pos rfl]
   rfl
abbrev qN:tNode.T:=(3,0,0,0,[],0)
abbrev tN (k:Int) (l:List tTier.T):tNode.T:=(k,0,0,0,l,0)
abbrev nmP:ByteArray:=⟨#[112]⟩
abbrev dmA:List tDim.T:=[((⟨#[97]⟩:ByteArray),10)]
abbrev planT (k:Int) (l:List tTier.T):tPlan.T:=(nmP,dmA,0,[qN,tN k l])
abbrev treeT (k:Int) (l:List tTier.T):Tree:=.nd (tN k l) [.nd qN []]
theorem head_one:headE nmP dmA 0 = 0:=by kernel_rfl
theorem node_q:nodeE 1 qN 0 = 0:=by kernel_rfl
theorem node_t {k:Int} (hk:k = 13 ∨ k = 14) (l:List tTier.T):nodeE 1 (tN k l) 1 = bif !risB l then 51 else 0:=by
 have go:∀ k:Int,goodK (tN k l) = true→decide (nN (tN k l) > mostN (tN k l) 1) = false→kidsK (tN k l) = true→opB (tN k l) = true→tierB (tN k l) = true→ar (tN k l) = 1→nodeE 1 (tN k l) 1 = bif !risB l then 51 else 0:=by
  intro k a1 a3 a4 a5 a6 a7
  unfold nodeE
  rw [a1,a3,a4,a5,a6,a7,show decide (nN (tN k l) < 0) = false from rfl,decide_eq_false (show ¬ (((1:Nat):Int) < ((1:Nat):Int)) by omega)]
  simp only [Bool.not_true,cond_false,Bool.false_and,Bool.true_and]
 rcases hk with rfl | rfl
 ·exact go 13 rfl rfl rfl rfl rfl rfl
 ·exact go 14 rfl rfl rfl rfl rfl rfl
theorem planT_bad {k:Int} (hk:k = 13 ∨ k = 14) {l:List tTier.T} (h:risB l = false):checkS (planT k l) = (1,51):=by
 unfold checkS
 have hn:=node_t hk l
 rw [h] at hn
 have hc:chkE 1 [qN,tN k l] 0 0 = some (1,51):=by
  simp only [chkE,node_q]
  rw [show (0 - ar qN + 1) = 1 from rfl,hn]
  rfl
 show (bif headE nmP dmA 0 != 0 then _ else bif decide ((([qN,tN k l].length:Nat):Int) > 1024) then _ else match chkE 1 [qN,tN k l] 0 0 with | some (j,e)=>((j:Int),e) | none=>_) = _
 rw [head_one,hc]
 rfl
theorem planT_good {k:Int} (hk:k = 13 ∨ k = 14) {l:List tTier.T} (h:risB l = true):Good (planT k l) (treeT k l):=by
 have hn:=node_t hk l
 rw [h] at hn
 have ha:ar (tN k l) = 1:=by rcases hk with rfl | rfl <;> rfl
 refine ⟨head_one,by show 2 ≤ 1024; omega,⟨node_q,hn,trivial⟩,?_⟩
 show stepT (stepT [] qN) (tN k l) = [treeT k l]
 rw [show stepT [] qN = [.nd qN []] from rfl]
 unfold stepT topT
 rw [ha]
 rfl
theorem scaleM_bd {l:List tTier.T} (h:risB l = true):rateM 0 l * (1099511627776 + lastF l) + waysS l ≤ 20000000000000000000000000∧0 ≤ rateM 0 l * (1099511627776 + lastF l) + waysS l:=by
 obtain ⟨l1,l2,l3⟩:=risB_inc h
 have h1:=lastF_bd l (-1) (by omega) l3
 have h2:=rateM_bd l 0 (-1) (by omega) (by omega) l3
 have h3:=waysS_bd l (-1) (by omega) l3
 have h4:=mul_bd h2.1 h2.2 (show 0 ≤ 1099511627776 + lastF l by omega) (show 1099511627776 + lastF l ≤ 2099511627776 by omega)
 omega
theorem planT_unit {k:Int} (hk:k = 13 ∨ k = 14) {l:List tTier.T} (h:risB l = true):unitR dmA (treeT k l) = (mk 1,0,0)∧unitV (treeT k l) = 1:=by
 have hsub:(treeT k l).subs = [.nd qN [],treeT k l]:=by
  rw [subs_nd]; unfold subss; simp only [List.map_cons,List.map_nil,List.flatten_cons,List.flatten_nil]; rw [subs_nd]; rfl
 have ty0:ty (.nd qN []) = 2:=by rw [ty_nd]; rfl
 have ty1:ty (treeT k l) = 1:=by
  rw [ty_nd]; simp only [List.map_cons,List.map_nil,ty0]; rcases hk with rfl | rfl <;> rfl
 have d0:deep (.nd qN []) = 0:=by rw [deep_nd]; rfl
 have d1:deep (treeT k l) = 0:=by
  rw [deep_nd]; simp only [List.map_cons,List.map_nil,d0]; rcases hk with rfl | rfl <;> rfl
 have m0:mag 1 dmA (.nd qN []) = 1099511627776:=by rw [mag_nd]; rfl
 have m1:mag 1 dmA (treeT k l) = 1 * (rateM 0 l * (1099511627776 + lastF l) + waysS l):=by
  rw [mag_nd]; simp only [List.map_cons,List.map_nil,m0]; rcases hk with rfl | rfl <;> rfl
 have hu:unitV (treeT k l) = 1:=by unfold unitV; rw [d1]; rfl
 have hb:=scaleM_bd h
 have hBND:BND = 1329227995784915872903807060280344576:=rfl
 have e0:magE 1 dmA (.nd qN []) = 0:=by
  unfold magE; rw [m0]; rfl
 have e1:magE 1 dmA (treeT k l) = 0:=by
  unfold magE
  rw [m1,show (treeT k l).root = tN k l from rfl]
  have hfar:farN (tN k l) (1 * (rateM 0 l * (1099511627776 + lastF l) + waysS l)) = 1 * (rateM 0 l * (1099511627776 + lastF l) + waysS l):=by rcases hk with rfl | rfl <;> rfl
  rw [hfar,decide_eq_false (by omega)]
  rfl
 have hty:firstE tyE (treeT k l).subs 0 = none:=by
  rw [hsub]
  simp only [firstE]
  have t0:tyE (.nd qN []) = 0:=by unfold tyE; rw [ty0]; rfl
  have t1:tyE (treeT k l) = 0:=by unfold tyE; rw [ty1]; rcases hk with rfl | rfl <;> rfl
  rw [t0,t1]; rfl
 have hmg:firstE (magE 1 dmA) (treeT k l).subs 0 = none:=by
  rw [hsub]
  simp only [firstE]
  rw [e0,e1]; rfl
 refine ⟨?_,hu⟩
 rw [unitR_of hty ty1 (by omega),hu]
 unfold measR
 rw [hmg]
 rfl
theorem planT_ev {k:Int} (hk:k = 13 ∨ k = 14) (l:List tTier.T) (q:Int):ev 1 dmA [q] (treeT k l) = if k = 13 then grad q l else vol q l:=by
 have e0:ev 1 dmA [q] (.nd qN []) = q:=by rw [ev_nd]; rfl
 rw [ev_nd]
 simp only [List.map_cons,List.map_nil,e0]
 rcases hk with rfl | rfl
 ·show 1 * grad q l = _
  rw [Int.one_mul]; rfl
 ·show 1 * vol q l = _
  rw [Int.one_mul]; rfl
theorem planT_exact {k:Int} (hk:k = 13 ∨ k = 14) {l:List tTier.T} (h:risB l = true) {q:Int} (hq:qB q = false):eval_Exact.sh FU (planT k l) [q] = some ((mk (if k = 13 then grad q l else vol q l),0,()),()):=by
 have hE:=Exact_eq (planT_good hk h) [q]
 obtain ⟨hu,hv⟩:=planT_unit hk h
 have hx:exactR dmA (treeT k l) [q] = (mk (if k = 13 then grad q l else vol q l),0):=by
  unfold exactR valsR
  rw [hu,hv,planT_ev hk]
  have hany:[q].any qB = false:=by simp [hq]
  rw [hany]
  rfl
 rw [show (planT k l).2.1 = dmA from rfl,hx] at hE
 exact hE
theorem planT_exact_q {k:Int} (hk:k = 13 ∨ k = 14) {l:List tTier.T} (h:risB l = true) {q:Int} (hq:qB q = true):eval_Exact.sh FU (planT k l) [q] = some (((0,0),101,()),()):=by
 have hE:=Exact_eq (planT_good hk h) [q]
 obtain ⟨hu,hv⟩:=planT_unit hk h
 have hx:exactR dmA (treeT k l) [q] = ((0,0),101):=by
  unfold exactR valsR
  rw [hu]
  have hany:[q].any qB = true:=by simp [hq]
  rw [hany]
  rfl
 rw [show (planT k l).2.1 = dmA from rfl,hx] at hE
 exact hE
theorem planT_exact_bad {k:Int} (hk:k = 13 ∨ k = 14) {l:List tTier.T} (h:risB l = false) (q:Int):eval_Exact.sh FU (planT k l) [q] = some (((0,0),51,()),()):=by
 have hc:=planT_bad hk h
 have:=Exact_bad (p:=planT k l) (by rw [hc]; decide) [q]
 rw [hc] at this
 exact this
theorem tiers_j13 (F:Nat) (hF:64 < F) {l:List tTier.T} (hr:risB l = true) {q:Int} (q0:0 ≤ q) (q1:q ≤ 1099511627776) (P V:tPlan.T)
  (hP:q ≠ 1099511627776→eval_Exact.sh F P [q + 1] = some ((mk (grad (q + 1) l),0,()),())) (hV:q ≠ 1099511627776→eval_Exact.sh F V [q + 1] = some ((mk (vol (q + 1) l),0,()),())) :
  octroilaw10_EvalTiers.j13 F (fun r416=>some ((r416,()),())) (fun r417=>(some ((r417,()),()):Option octroilaw10_EvalTiers.sg.R)) l q P V (mk (grad q l)) = some ((true,()),()):=by
 obtain ⟨l1,l2,l3⟩:=risB_inc hr
 have hb:=scaleM_bd hr
 unfold octroilaw10_EvalTiers.j13
 cases hm:(q == 1099511627776) with
 | true=>rfl
 | false =>
  have hm:q ≠ 1099511627776:=by simpa using hm
  simp only [cond_false]
  rw [wrap_i64 (n:=q + 1) (by omega) (by omega),hP hm,oB_some,hV hm,oB_some]
  have hcnt:cntT (q + 1) l ≠ 0:=by
   cases l with
   | nil=>simp at l1
   | cons a r =>
    have hF0:tF a = 0:=by
     simp only [risB,Bool.and_eq_true,decide_eq_true_eq] at hr
     exact hr.2.2.1
    rw [cnt_cons (by omega)]; omega
  have ht:=top_in l (-1) (by omega) l3 (x:=q + 1) (by omega)
  have g1:=grad_bd hr (show q ≤ 1099511627776 by omega) (by omega)
  have hgn:=grad_next q l (-1) l3
  have hrt:rateT q l = tR (topT' (q + 1) l):=by unfold rateT; rw [if_neg hcnt]
  have hvl:vol (q + 1) l = (q + 1) * tR (topT' (q + 1) l):=by unfold vol; rw [if_neg hcnt]
  rw [hrt] at hgn
  refine Eq.trans (octroilaw10_EvalTiers.l19.rg_eq F _ l (by omega) l 0 F _ _ _ _ _ _ _ (by simp) (by omega)) ?_
  refine (rate_rg F (fun q10 f10 h10 rate10 a10 b10 d10=>oB (wide_Of.sh F rate10) fun c_11 =>
 oB (wide_Add.sh F a10 c_11.1.1) fun c_12 =>
 oB (wide_Of.sh F rate10) fun c_13 =>
 oB (wide_Of.sh F (IntKind.i64.wrap (q10 + 1))) fun c_14 =>
 oB (times_Mul.sh F c_13.1.1 c_14.1.1) fun c_15 =>
 bif (f10 == 0) then bif (h10 == 0) then bif (c_12.1.2.1 == 0) then bif (c_15.1.2.1 == 0) then bif ((b10.1 == c_12.1.1.1) && ((b10.2 == c_12.1.1.2) && true)) then (some ((((d10.1 == c_15.1.1.1) && ((d10.2 == c_15.1.1.2) && true)),()),()):Option octroilaw10_EvalTiers.sg.R)
     else some ((false,()),())
    else some ((false,()),())
   else some ((false,()),())
  else some ((false,()),())
 else some ((false,()),())) l q 0 0 (mk (grad q l)) (mk (grad (q + 1) l)) (mk (vol (q + 1) l)) l _ 0 (-1) l3).trans ?_
  rw [if_neg hcnt,wrap_i64 (n:=q + 1) (by omega) (by omega),hvl,hgn]
  generalize tR (topT' (q + 1) l) = rt at *
  generalize grad q l = g at *
  have hmb:=abs_mul_bd (show -1000000000000 ≤ rt by omega) (show rt ≤ 1000000000000 by omega) (show -1099511627776 ≤ q + 1 by omega) (show q + 1 ≤ 1099511627776 by omega)
  have i1:inR (g + rt) = true:=by rw [inR_iff]; omega
  have i2:inR (rt * (q + 1)) = true:=by rw [inR_iff]; omega
  rw [of_eq F (by omega) (by omega),oB_some,add_eq F (wf_mk (by rw [inR_iff]; omega)) (wf_mk (by rw [inR_iff]; omega)),oB_some,oB_some,of_eq F (by omega) (by omega),oB_some,
   wmul_eq F (wf_mk (by rw [inR_iff]; omega)) (wf_mk (by rw [inR_iff]; omega)),oB_some,val_mk,val_mk,val_mk,(res_in i1).1,(res_in i2).1,show errW (g + rt) = 0 by unfold errW; rw [i1]; rfl,show errW (rt * (q + 1)) = 0 by unfold errW; rw [i2]; rfl,Int.mul_comm (q + 1)]
  simp only [beq_self_eq_true,cond_true,Bool.and_true]
theorem tiers_law (l:List tTier.T) (q:Int):octroilaw10_EvalTiers.sh FU l q = some ((true,()),()):=by
 unfold octroilaw10_EvalTiers.sh
 rw [awake_eq,oB_some,show (!(((true,()),()):(Bool×Unit)×Unit).1.1) = false from rfl,cond_false]
 cases hlen:decide ((l.length:Int) > 16) with
 | true=>rw [cond_true]
 | false =>
  have hlen:=of_decide_eq_false hlen
  rw [cond_false,ble_of (show 0 + l.length ≤ 4194304 by omega),cond_true]
  rw [show octroilaw10_one.sh FU [(3,0,0,0,[],0),(13,0,0,0,l,0)] = some ((planT 13 l,()),()) from rfl,oB_some,cond_true,show octroilaw10_one.sh FU [(3,0,0,0,[],0),(14,0,0,0,l,0)] = some ((planT 14 l,()),()) from rfl,oB_some]
  cases hr:risB l with
  | false =>
   rw [planT_exact_bad (.inl rfl) hr q,oB_some,planT_exact_bad (.inr rfl) hr q,oB_some]
   rfl
  | true =>
   obtain ⟨l1,l2,l3⟩:=risB_inc hr
   cases hqb:qB q with
   | true =>
    rw [planT_exact_q (.inl rfl) hr hqb,oB_some,planT_exact_q (.inr rfl) hr hqb,oB_some]
    rfl
   | false =>
    have G:∀ {q:Int},qB q = false→eval_Exact.sh FU (planT 13 l) [q] = some ((mk (grad q l),0,()),()):=fun h=>by
     have:=planT_exact (k:=13) (.inl rfl) hr h
     rw [if_pos rfl] at this
     exact this
    have V:∀ {q:Int},qB q = false→eval_Exact.sh FU (planT 14 l) [q] = some ((mk (vol q l),0,()),()):=fun h=>by
     have:=planT_exact (k:=14) (.inr rfl) hr h
     rw [if_neg (by decide)] at this
     exact this
    have hqr:0 ≤ q∧q ≤ 1099511627776:=by simp [qB] at hqb; omega
    have hn:q ≠ 1099511627776→qB (q + 1) = false:=fun h=>by unfold qB; rw [decide_eq_false (by omega),decide_eq_false (by omega)]; rfl
    have rest:=tiers_j13 FU (by decide) hr hqr.1 hqr.2 (planT 13 l) (planT 14 l) (fun h=>G (hn h)) (fun h=>V (hn h))
    rw [G hqb,oB_some,V hqb,oB_some]
    show (bif ((0:Int) != 0) then _ else bif ((0:Int) != 0) then _ else _) = _
    rw [show ((0:Int) != 0) = false from rfl,cond_false,cond_false]
    by_cases h0:q = 0
    ·have hc0:cntT q l = 0:=cnt_zero (by omega) l3
     have hg0:grad q l = 0:=grad_none hc0
     have hv0:vol q l = 0:=by unfold vol; rw [if_pos hc0]
     rw [show (q == 0) = true by rw [beq_iff_eq]; exact h0,cond_true,of_eq FU (by omega) (by omega),oB_some,oB_some,hg0,hv0]
     rw [hg0] at rest
     show (bif !(((mk 0).1 == (mk 0).1) && (((mk 0).2 == (mk 0).2) && true)) then _ else bif !(((mk 0).1 == (mk 0).1) && (((mk 0).2 == (mk 0).2) && true)) then _ else _) = _
     rw [show (!(((mk 0).1 == (mk 0).1) && (((mk 0).2 == (mk 0).2) && true))) = false from rfl,cond_false,cond_false]
     exact rest
    ·rw [show (q == 0) = false by rw [beq_eq_false_iff_ne]; exact h0,cond_false]
     exact rest
end Go.VS
