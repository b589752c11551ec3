import Derived.Test.YthekefnghiaocaaDoorL23
set_option linter.unusedVariables false
set_option linter.unusedSimpArgs false
set_option linter.unusedSectionVars false
set_option linter.unusedVariables false
set_option linter.unusedSimpArgs false
set_option maxRecDepth 100000
namespace Go.VS
open Go
theorem bif_ne {c:Bool} {a b k:Int} (h1:a ≠ k) (h2:b ≠ k):(bif c then a else b) ≠ k:=by cases c <;> assumption
theorem nodeE_ne (dims:Nat) (n:tNode.T) (pile:Nat):nodeE dims n pile ≠ 102:=by
 unfold nodeE
 exact bif_ne (by decide) (bif_ne (by decide) (bif_ne (by decide) (bif_ne (by decide) (bif_ne (by decide) (bif_ne (by decide) (bif_ne (by decide) (bif_ne (by decide) (by decide))))))))
theorem chkE_ne:∀ (dims:Nat) (xs:List tNode.T) (pile i:Nat) (j:Nat) (e:Int),chkE dims xs pile i = some (j,e)→e ≠ 102
 | dims,[],pile,i,j,e,h=>by cases h
 | dims,n :: r,pile,i,j,e,h=>by
  simp only [chkE] at h
  cases he:(nodeE dims n pile != 0) with
  | true =>
   rw [he] at h
   simp only [cond_true,Option.some.injEq,Prod.mk.injEq] at h
   rw [← h.2]
   exact nodeE_ne _ _ _
  | false=>rw [he] at h; exact chkE_ne dims r _ _ j e h
theorem dE_ne:∀ (l pre:List tDim.T),dE pre l ≠ 102
 | [],pre=>by simp only [dE]; decide
 | d :: r,pre=>by
  simp only [dE]
  exact bif_ne (by decide) (bif_ne (by decide) (bif_ne (by decide) (bif_ne (by decide) (dE_ne r _))))
theorem headE_ne (name:ByteArray) (dims:List tDim.T) (mode:Int):headE name dims mode ≠ 102:=by
 unfold headE
 exact bif_ne (by decide) (bif_ne (by decide) (bif_ne (by decide) (bif_ne (dE_ne _ _) (bif_ne (by decide) (bif_ne (by decide) (by decide))))))
theorem checkS_ne (p:tPlan.T):(checkS p).2 ≠ 102:=by
 unfold checkS
 cases (headE p.1 p.2.1 p.2.2.1 != 0) with
 | true=>exact headE_ne _ _ _
 | false =>
  cases decide ((p.2.2.2.length:Int) > 1024) with
  | true=>exact show (2:Int) ≠ 102 by decide
  | false =>
   simp only [cond_false]
   cases h:chkE p.2.1.length p.2.2.2 0 0 with
   | some x=>obtain ⟨j,e⟩:=x; exact chkE_ne _ _ _ _ _ _ h
   | none =>
    cases ((chkP p.2.2.2 0:Int) != 1) with
    | true=>exact show (50:Int) ≠ 102 by decide
    | false=>exact show (0:Int) ≠ 102 by decide
theorem firstE_ne {E:Tree→Int} (hE:∀ t,E t ≠ 102):∀ (l:List Tree) (i j:Nat) (e:Int),firstE E l i = some (j,e)→e ≠ 102
 | [],i,j,e,h=>by cases h
 | t :: r,i,j,e,h=>by
  simp only [firstE] at h
  cases he:(E t != 0) with
  | true=>rw [he] at h; simp only [cond_true,Option.some.injEq,Prod.mk.injEq] at h; rw [← h.2]; exact hE t
  | false=>rw [he] at h; exact firstE_ne hE r _ j e h
theorem tyE_ne (t:Tree):tyE t ≠ 102:=by
 unfold tyE
 exact bif_ne (by decide) (bif_ne (by decide) (by decide))
theorem unitR_ne (D:List tDim.T) (t:Tree):(unitR D t).2.2 ≠ 102:=by
 have hT:(typesR t).2.2 ≠ 102:=by
  unfold typesR
  cases h:firstE tyE t.subs 0 with
  | some x =>
   obtain ⟨j,e⟩:=x
   exact firstE_ne tyE_ne _ _ _ _ h
  | none =>
   cases (ty t != 1) with
   | true=>exact show (80:Int) ≠ 102 by decide
   | false=>exact show (0:Int) ≠ 102 by decide
 unfold unitR
 cases ((typesR t).2.2 != 0) with
 | true=>exact hT
 | false =>
  cases decide (deep t > 6) with
  | true=>exact show (90:Int) ≠ 102 by decide
  | false =>
   cases decide ((measR (unitV t) D t).2 ≥ 0) with
   | true=>exact show (90:Int) ≠ 102 by decide
   | false=>exact show (0:Int) ≠ 102 by decide
theorem exactR_ne (D:List tDim.T) (t:Tree) (q:List Int):(exactR D t q).2 ≠ 102:=by
 have hV:(valsR D t q).2 ≠ 102:=by
  unfold valsR
  cases ((unitR D t).2.2 != 0) with
  | true=>exact unitR_ne D t
  | false =>
   cases ((q.length:Int) != (D.length:Int)) with
   | true=>exact show (100:Int) ≠ 102 by decide
   | false =>
    cases q.any qB with
    | true=>exact show (101:Int) ≠ 102 by decide
    | false=>exact show (0:Int) ≠ 102 by decide
 unfold exactR
 cases ((valsR D t q).2 != 0) with
 | true=>exact hV
 | false=>exact show (0:Int) ≠ 102 by decide
theorem divM_lies {m x u:Int} (hu:0 < u) (m0:0 ≤ m) (m4:m ≤ 4) :
  (-u < divM m x u * u - x∧divM m x u * u - x < u)∧(m = 0→divM m x u * u - x ≤ 0)∧(m = 1→0 ≤ divM m x u * u - x) ∧
  (m = 2→divM m x u * u - x = 0 ∨ (divM m x u * u - x < 0∧0 < x) ∨ (0 < divM m x u * u - x∧x < 0))∧(3 ≤ m→-u ≤ 2 * (divM m x u * u - x)∧2 * (divM m x u * u - x) ≤ u):=by
 have qr:=aQR (a:=x) (b:=u) (by omega)
 have hun:((u.natAbs:Nat):Int) = u:=by omega
 rw [hun] at qr
 obtain ⟨q0,r0,r1,e1,_⟩:=qr
 have hdu:dsg x u = decide (x < 0):=by unfold dsg; rw [decide_eq_false (show ¬ u < 0 by omega)]; cases decide (x < 0) <;> rfl
 have htq:tq x u * u = if x < 0 then -(u * aQ x u) else u * aQ x u:=by
  unfold tq
  rw [hdu]
  by_cases h:x < 0
  ·rw [decide_eq_true h,if_pos h]; simp only [cond_true]; rw [Int.neg_mul,Int.mul_comm]
  ·rw [decide_eq_false h,if_neg h]; simp only [cond_false]; rw [Int.mul_comm]
 have htr:tr x u = if x < 0 then -aR x u else aR x u:=by
  unfold tr
  by_cases h:x < 0
  ·rw [decide_eq_true h,if_pos h]; rfl
  ·rw [decide_eq_false h,if_neg h]; rfl
 have hD:divM m x u * u = bif decide (tr x u = 0) then tq x u * u else bif !awB m (tq x u) (tr x u) u then tq x u * u else bif decide (x < 0) then tq x u * u - u else tq x u * u + u:=by
  unfold divM
  rw [hdu]
  cases decide (tr x u = 0) with
  | true=>rfl
  | false =>
   cases awB m (tq x u) (tr x u) u with
   | false=>rfl
   | true =>
    cases decide (x < 0) with
    | true=>simp only [cond_true,cond_false,Bool.not_true]; rw [Int.sub_mul,Int.one_mul]
    | false=>simp only [cond_true,cond_false,Bool.not_true]; rw [Int.add_mul,Int.one_mul]
 have htn:((tr x u).natAbs:Int) = aR x u:=tr_abs x u (by omega)
 rw [hD]
 have hZ:=Int.mul_nonneg (Int.le_of_lt hu) q0
 generalize tq x u * u = K at *
 generalize u * aQ x u = Z at *
 by_cases hz:tr x u = 0
 ·rw [decide_eq_true hz]
  simp only [cond_true]
  have hr:aR x u = 0:=by split at htr <;> omega
  have hx:K - x = 0:=by split at htq <;> omega
  rw [hx]
  refine ⟨by omega,by omega,by omega,fun _=>.inl rfl,by omega⟩
 ·rw [decide_eq_false hz]
  simp only [cond_false]
  have hr:aR x u ≠ 0:=fun h=>hz (by rw [htr,h]; split <;> rfl)
  have m5:m = 0 ∨ m = 1 ∨ m = 2 ∨ 3 ≤ m:=by omega
  have h34:3 ≤ m→awB m (tq x u) (tr x u) u = (decide (u < 2 * aR x u) || (decide (2 * aR x u = u) && (m == 3 || decide (tq x u % 2 = 1)))):=by
   intro h3
   unfold awB
   rw [hun,htn,show (m == 0) = false by rw [beq_eq_false_iff_ne]; omega,show (m == 1) = false by rw [beq_eq_false_iff_ne]; omega,show (m == 2) = false by rw [beq_eq_false_iff_ne]; omega]
   rfl
  have h0:m = 0→awB m (tq x u) (tr x u) u = decide (x < 0):=by
   rintro rfl
   show dsg (tr x u) u = _
   rw [dsg_tr' (by omega) hz,hdu]
  have h1:m = 1→awB m (tq x u) (tr x u) u = !decide (x < 0):=by
   rintro rfl
   show (!dsg (tr x u) u) = _
   rw [dsg_tr' (by omega) hz,hdu]
  have h2:m = 2→awB m (tq x u) (tr x u) u = false:=by rintro rfl; rfl
  by_cases hx:x < 0
  ·rw [if_pos hx] at htq htr
   rw [decide_eq_true hx] at h0 h1 ⊢
   simp only [cond_true]
   cases ha:awB m (tq x u) (tr x u) u with
   | false =>
    simp only [Bool.not_false,cond_true]
    refine ⟨by omega,fun h=>?_,fun _=>by omega,fun _=>.inr (.inr ⟨by omega,hx⟩),fun h=>?_⟩
    ·rw [h0 h] at ha; cases ha
    ·rw [h34 h] at ha
     simp only [Bool.or_eq_false_iff,decide_eq_false_iff_not] at ha
     omega
   | true =>
    simp only [Bool.not_true,cond_false]
    refine ⟨by omega,fun h=>by omega,fun h=>?_,fun h=>?_,fun h=>?_⟩
    ·rw [h1 h] at ha; cases ha
    ·rw [h2 h] at ha; cases ha
    ·rw [h34 h] at ha
     simp only [Bool.or_eq_true,Bool.and_eq_true,decide_eq_true_eq] at ha
     omega
  ·rw [if_neg hx] at htq htr
   rw [decide_eq_false hx] at h0 h1 ⊢
   simp only [cond_false]
   cases ha:awB m (tq x u) (tr x u) u with
   | false =>
    simp only [Bool.not_false,cond_true]
    refine ⟨by omega,fun h=>by omega,fun h=>?_,fun _=>.inr (.inl ⟨by omega,by omega⟩),fun h=>?_⟩
    ·rw [h1 h] at ha; cases ha
    ·rw [h34 h] at ha
     simp only [Bool.or_eq_false_iff,decide_eq_false_iff_not] at ha
     omega
   | true =>
    simp only [Bool.not_true,cond_false]
    refine ⟨by omega,fun h=>?_,fun h=>by omega,fun h=>?_,fun h=>?_⟩
    ·rw [h0 h] at ha; cases ha
    ·rw [h2 h] at ha; cases ha
    ·rw [h34 h] at ha
     simp only [Bool.or_eq_true,Bool.and_eq_true,decide_eq_true_eq] at ha
     omega
def sgZ (v:Int):Int:=if v < 0 then -1 else if v = 0 then 0 else 1
theorem sign_eq (F:Nat) {v:Int} (h:inR v = true):wide_Sign.sh F (mk v) = some ((sgZ v,()),()):=by
 unfold wide_Sign.sh sgZ
 rw [mk_zero,val_neg (wf_mk h),val_mk]
 by_cases h1:v < 0
 ·rw [decide_eq_true h1,if_pos h1]; rfl
 ·rw [decide_eq_false h1,if_neg h1]
  by_cases h2:v = 0
  ·rw [decide_eq_true h2,if_pos h2]; rfl
  ·rw [decide_eq_false h2,if_neg h2]; rfl
theorem further_eq (F:Nat) {a b:Int} (ha:inR a = true) (hb:inR b = true) (hn:inR (0 - b) = true):octroilaw10_further.sh F (mk a) (mk b) = some ((decide (a > b) || decide (a < 0 - b),()),()):=by
 unfold octroilaw10_further.sh
 rw [show ((0,0):Int×Int) = mk 0 from rfl,sub_eq F (wf_mk (by rw [inR_iff]; omega)) (wf_mk hb),oB_some,val_mk,val_mk,(res_in hn).1,(res_in hn).2]
 simp only [cond_false]
 rw [cmp_eq F (wf_mk ha) (wf_mk hb),oB_some,val_mk,val_mk]
 simp only [cmpZ_pos]
 cases decide (a > b) with
 | true=>rfl
 | false =>
  simp only [cond_false]
  rw [cmp_eq F (wf_mk ha) (wf_mk hn),oB_some,val_mk,val_mk]
  simp only [cmpZ_neg,Bool.false_or]
theorem priceR_ok {m:Int} {D:List tDim.T} {t:Tree} {q:List Int} (h:(priceR m D t q).2 = 0):(exactR D t q).2 = 0∧priceR m D t q = (divM m (ev (unitV t) D q t) (unitV t),0)∧-1000000000000000 ≤ divM m (ev (unitV t) D q t) (unitV t)∧divM m (ev (unitV t) D q t) (unitV t) ≤ 1000000000000000:=by
 unfold priceR at *
 cases h1:((exactR D t q).2 != 0) with
 | true =>
  rw [h1] at h
  have h:(exactR D t q).2 = 0:=h
  rw [h] at h1
  exact absurd h1 (by decide)
 | false =>
  rw [h1] at h
  simp only [cond_false] at h ⊢
  unfold roundR at *
  cases h2:(decide (divM m (ev (unitV t) D q t) (unitV t) < -1000000000000000) || decide (divM m (ev (unitV t) D q t) (unitV t) > 1000000000000000)) with
  | true=>rw [h2] at h; exact absurd (show (102:Int) = 0 from h) (by decide)
  | false =>
   simp only [Bool.or_eq_false_iff,decide_eq_false_iff_not] at h2
   exact ⟨by simpa using h1,rfl,by omega,by omega⟩
theorem rounds_tail (name:ByteArray) (D:List tDim.T) (m:Int) (nodes:List tNode.T) {x u d:Int} (m0:0 ≤ m) (m4:m ≤ 4) (hu:0 < u) (hu2:u ≤ 1000000000000000000000000) (ix:inR x = true) (l1:-u < d) (l2:d < u) (l3:m = 0→d ≤ 0) (l4:m = 1→0 ≤ d)
  (l5:m = 2→d = 0 ∨ (d < 0∧0 < x) ∨ (0 < d∧x < 0)) (l6:3 ≤ m→-u ≤ 2 * d∧2 * d ≤ u) :
  octroilaw10_EvalRounds.j15 FU (fun r420=>some ((r420,()),())) (fun r421=>some ((r421,()),())) (fun r422=>some ((r422,()),())) (fun r423=>some ((r423,()),())) (fun r424=>(some ((r424,()),()):Option octroilaw10_EvalRounds.sg.R)) (name,D,m,nodes) (mk x) (mk u) (mk d) (mk (d * 2)) = some ((true,()),()):=by
 have iu:inR u = true:=by rw [inR_iff]; omega
 have id:inR d = true:=by rw [inR_iff]; omega
 have itw:inR (d * 2) = true:=by rw [inR_iff]; omega
 have is:inR (d + u) = true:=by rw [inR_iff]; omega
 have iu0:inR (0 - u) = true:=by rw [inR_iff]; omega
 have hs1:¬ sgZ (d + u) ≤ 0:=by unfold sgZ; rw [if_neg (by omega),if_neg (by omega)]; decide
 unfold octroilaw10_EvalRounds.j15
 rw [add_eq FU (wf_mk id) (wf_mk iu),oB_some,val_mk,val_mk,(res_in is).1,sign_eq FU is,oB_some,decide_eq_false hs1,cond_false]
 rw [sign_eq FU id,sign_eq FU ix,further_eq FU itw iu iu0]
 show (bif (m == 0) then _ else bif (m == 1) then _ else bif (m == 2) then _ else _) = _
 have m5:m = 0 ∨ m = 1 ∨ m = 2 ∨ 3 ≤ m:=by omega
 rcases m5 with h | h | h | h
 ·have hd:=l3 h
  rw [h,beq_self_eq_true,cond_true,oB_some,decide_eq_true (show sgZ d ≤ 0 by unfold sgZ; split <;> (try split) <;> omega)]
 ·have hd:=l4 h
  rw [h,show ((1:Int) == 0) = false from rfl,beq_self_eq_true,cond_false,cond_true,oB_some,decide_eq_true (show sgZ d ≥ 0 by unfold sgZ; split <;> (try split) <;> omega)]
 ·have hd:=l5 h
  rw [h,show ((2:Int) == 0) = false from rfl,show ((2:Int) == 1) = false from rfl,beq_self_eq_true,cond_false,cond_false,cond_true,oB_some]
  rcases hd with h0 | ⟨h0,h1⟩ | ⟨h0,h1⟩
  ·rw [h0]; rfl
  ·rw [show sgZ d = -1 by unfold sgZ; rw [if_pos h0],show sgZ x = 1 by unfold sgZ; rw [if_neg (by omega),if_neg (by omega)]]; rfl
  ·rw [show sgZ d = 1 by unfold sgZ; rw [if_neg (by omega),if_neg (by omega)],show sgZ x = -1 by unfold sgZ; rw [if_pos h1]]; rfl
 ·have hd:=l6 h
  rw [show (m == 0) = false by rw [beq_eq_false_iff_ne]; omega,show (m == 1) = false by rw [beq_eq_false_iff_ne]; omega,show (m == 2) = false by rw [beq_eq_false_iff_ne]; omega,cond_false,cond_false,cond_false,oB_some,decide_eq_false (show ¬ d * 2 > u by omega),decide_eq_false (show ¬ d * 2 < 0 - u by omega)]
  rfl
theorem rounds_law (p:tPlan.T) (q:List Int):octroilaw10_EvalRounds.sh FU p q = some ((true,()),()):=by
 unfold octroilaw10_EvalRounds.sh
 rw [awake_eq,oB_some]
 simp only [Bool.not_true,cond_false]
 by_cases hc:(checkS p).2 = 0
 ·obtain ⟨t,ht⟩:=check_ok hc
  rw [Price_eq ht,oB_some,Exact_eq ht,oB_some,Unit_eq ht,oB_some]
  cases hp:((priceR p.2.2.1 p.2.1 t q).2 != 0) with
  | true =>
   have hp':(priceR p.2.2.1 p.2.1 t q).2 ≠ 0:=by simpa using hp
   simp only [hp,cond_true]
   unfold priceR at hp' ⊢
   cases hx:((exactR p.2.1 t q).2 != 0) with
   | true =>
    have hx':(exactR p.2.1 t q).2 ≠ 0:=by simpa using hx
    simp only [cond_true,beq_self_eq_true]
    rw [show ((exactR p.2.1 t q).2 == 0) = false by rw [beq_eq_false_iff_ne]; exact hx',show ((exactR p.2.1 t q).2 == 102) = false by rw [beq_eq_false_iff_ne]; exact exactR_ne _ _ _]
    rfl
   | false =>
    have hx':(exactR p.2.1 t q).2 = 0:=by simpa using hx
    rw [hx] at hp'
    simp only [cond_false] at hp' ⊢
    unfold roundR at hp' ⊢
    rw [hx']
    cases h2:(decide (divM p.2.2.1 (ev (unitV t) p.2.1 q t) (unitV t) < -1000000000000000) || decide (divM p.2.2.1 (ev (unitV t) p.2.1 q t) (unitV t) > 1000000000000000)) with
    | true=>rfl
    | false=>rw [h2] at hp'; exact absurd rfl hp'
  | false =>
   have hp':(priceR p.2.2.1 p.2.1 t q).2 = 0:=by simpa using hp
   obtain ⟨x1,x2,x3,x4⟩:=priceR_ok hp'
   obtain ⟨y1,y2⟩:=exact_ok x1
   obtain ⟨v1,v2,v3,v4⟩:=vals_ok y1
   obtain ⟨u1,u2,u3,u4,u5⟩:=unit_ok ht v1
   have hh:=headE_dims ht.head
   have hub:=unitV_bd u1
   have hI:=plan_inv ht y1 t (subs_self t)
   have hBND:BND = 1329227995784915872903807060280344576:=rfl
   have i1:=hI.lo
   have i2:=hI.hi
   have i3:=hI.bd
   have hl:=divM_lies (m:=p.2.2.1) (x:=ev (unitV t) p.2.1 q t) (u:=unitV t) (by omega) hh.2.2.2.2.1 hh.2.2.2.2.2
   simp only [hp,cond_false]
   rw [x2,y2,u5]
   simp only [bne_self_eq_false,cond_false]
   generalize ev (unitV t) p.2.1 q t = x at *
   generalize unitV t = u at *
   generalize divM p.2.2.1 x u = n at *
   obtain ⟨⟨l1,l2⟩,l3,l4,l5,l6⟩:=hl
   have iu:inR u = true:=by rw [inR_iff]; omega
   have ix:inR x = true:=by rw [inR_iff]; omega
   have inn:inR n = true:=by rw [inR_iff]; omega
   have inu:inR (n * u) = true:=by rw [inR_iff]; omega
   have id:inR (n * u - x) = true:=by rw [inR_iff]; omega
   rw [of_eq FU (by omega) (by omega),oB_some,wmul_eq FU (wf_mk inn) (wf_mk iu),oB_some,val_mk,val_mk,(res_in inu).1,(res_in inu).2]
   rw [sub_eq FU (wf_mk inu) (wf_mk ix),oB_some,val_mk,val_mk,(res_in id).1,(res_in id).2]
   generalize n * u - x = d at *
   have itw:inR (d * 2) = true:=by rw [inR_iff]; omega
   rw [of_eq FU (by omega) (by omega),oB_some,wmul_eq FU (wf_mk id) (wf_mk (by rw [inR_iff]; omega)),oB_some,val_mk,val_mk,(res_in itw).1,(res_in itw).2]
   simp only [cond_false]
   rw [decide_eq_false (show ¬ n > 1000000000000000 by omega),decide_eq_false (show ¬ n < -1000000000000000 by omega)]
   simp only [cond_false]
   rw [further_eq FU iu id (by rw [inR_iff]; omega),oB_some]
   cases hf:!(decide (u > d) || decide (u < 0 - d)) with
   | false=>simp only [cond_false]; exact rounds_tail p.1 p.2.1 p.2.2.1 p.2.2.2 hh.2.2.2.2.1 hh.2.2.2.2.2 (by omega) hub.2 ix l1 l2 l3 l4 l5 l6
   | true =>
    simp only [Bool.not_eq_true',Bool.or_eq_false_iff,decide_eq_false_iff_not] at hf
    simp only [cond_true]
    omega
 ·rw [Price_bad hc,oB_some,Exact_bad hc,oB_some,Unit_bad hc,oB_some]
  have h2:((checkS p).2 != 0) = true:=by simpa using hc
  have h3:((checkS p).2 == 0) = false:=by rw [beq_eq_false_iff_ne]; exact hc
  have h4:((checkS p).2 == 102) = false:=by rw [beq_eq_false_iff_ne]; exact checkS_ne p
  simp only [h2,h3,h4,cond_true,beq_self_eq_true]
end Go.VS
