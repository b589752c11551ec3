import Derived.Test.YthekefnghiaocaaDoorL8
set_option linter.unusedVariables false
set_option linter.unusedSimpArgs false
set_option linter.unusedSectionVars false
set_option linter.unusedVariables false
set_option linter.unusedSimpArgs false
set_option maxRecDepth 100000
namespace Go.VS
open Go
theorem keep_eq (F:Nat) (u:tWide.T) (o:Bool) (w:tWide.T) (e:Int):bound_meter_keep.sh F (u,o) w e = some ((w,()),((u,o || e != 0),())):=by
 unfold bound_meter_keep.sh
 cases o <;> rfl
theorem mmul_eq (F:Nat) (u:tWide.T) (o:Bool) {a b:tWide.T} (ha:wfW a) (hb:wfW b):bound_meter_mul.sh F (u,o) a b = some ((resW (val a * val b),()),((u,o || errW (val a * val b) != 0),())):=by
 unfold bound_meter_mul.sh
 rw [wmul_eq F ha hb]
 simp only [oB_some]
 rw [keep_eq]
 rfl
theorem madd_eq (F:Nat) (u:tWide.T) (o:Bool) {a b:tWide.T} (ha:wfW a) (hb:wfW b):bound_meter_add.sh F (u,o) a b = some ((resW (val a + val b),()),((u,o || errW (val a + val b) != 0),())):=by
 unfold bound_meter_add.sh
 rw [add_eq F ha hb]
 simp only [oB_some]
 rw [keep_eq]
 rfl
theorem res_in {v:Int} (h:inR v = true):resW v = mk v∧(errW v != 0) = false:=by
 unfold resW errW
 rw [h]
 exact ⟨rfl,rfl⟩
theorem res_out {v:Int} (h:inR v = false):(errW v != 0) = true:=by
 unfold errW
 rw [h]
 rfl
def incT:Int→List tTier.T→Prop
 | _,[]=>True
 | lo,x :: r=>lo < tF x∧tF x ≤ 1000000000000∧-1000000000000 ≤ tR x∧tR x ≤ 1000000000000∧incT (tF x) r
theorem okTiers_inc (L:List tTier.T):∀ (xs:List tTier.T) (i:Nat) (lo:Int),L.drop i = xs→okTiers L xs i = true→(i = 0→∀ x,xs.head? = some x→lo < tF x)→(i ≠ 0→tF (L.getD (i - 1) (0,0)) = lo)→incT lo xs
 | [],i,lo,h,ho,h0,h1=>trivial
 | x :: r,i,lo,h,ho,h0,h1=>by
  simp only [okTiers,okTier,Bool.and_eq_true,Bool.or_eq_true,Bool.not_eq_true',decide_eq_true_eq,decide_eq_false_iff_not] at ho
  obtain ⟨⟨a1,a2,a3,a4⟩,a5⟩:=ho
  have hx:L.getD i (0,0) = x:=by
   have:=congrArg (·[0]?) h
   rw [List.getD_eq_getElem?_getD]
   simp at this
   rw [this]; rfl
  refine ⟨?_,by omega,by omega,by omega,okTiers_inc L r (i + 1) (tF x) (rg_next h) a5 (by omega) (fun _=>by simp only [Nat.add_sub_cancel]; rw [hx])⟩
  by_cases hi:i = 0
  ·exact h0 hi x rfl
  ·rcases a1 with a1 | a1
   ·exact absurd a1 hi
   ·rw [h1 hi] at a1
    omega
theorem risB_inc {l:List tTier.T} (h:risB l = true):1 ≤ l.length∧l.length ≤ 16∧incT (-1) l:=by
 simp only [risB,Bool.and_eq_true,decide_eq_true_eq] at h
 obtain ⟨a1,a2,a3,a4⟩:=h
 refine ⟨a1,a2,okTiers_inc l l 0 (-1) (by simp) a4 (fun _ x hx=>?_) (fun h=>absurd rfl h)⟩
 cases l with
 | nil=>cases hx
 | cons y r =>
  simp only [List.head?_cons,Option.some.injEq] at hx
  subst hx
  have a3:tF y = 0:=a3
  omega
def farZ (v:Int):Int:=if 0 - v > v then 0 - v else v
theorem farZ_bd {v:Int} (h1:-1000000000000 ≤ v) (h2:v ≤ 1000000000000):0 ≤ farZ v∧farZ v ≤ 1000000000000:=by unfold farZ; split <;> omega
theorem far_eq (F:Nat) {v:Int} (h1:-1000000000000 ≤ v) (h2:v ≤ 1000000000000):bound_far.sh F v = some ((farZ v,()),()):=by
 unfold bound_far.sh farZ
 rw [wrap_i64 (n:=0 - v) (by omega) (by omega)]
def waysS:List tTier.T→Int
 | a :: b :: r=>farZ (tR a) * (tF b - tF a) + waysS (b :: r)
 | _=>0
def rateM (r0:Int) (l:List tTier.T):Int:=l.foldl (fun r t=>if farZ (tR t) > r then farZ (tR t) else r) r0
theorem waysS_bd:∀ (l:List tTier.T) (lo:Int),-1 ≤ lo→incT lo l→0 ≤ waysS l∧waysS l ≤ l.length * 1000000000000000000000000
 | [],lo,_,h=>by simp [waysS]
 | [a],lo,_,h=>by simp [waysS]
 | a :: b :: r,lo,hlo,h=>by
  obtain ⟨a1,a2,a3,a4,a5⟩:=h
  have ih:=waysS_bd (b :: r) (tF a) (by omega) a5
  obtain ⟨b1,b2,b3,b4,b5⟩:=a5
  have hf:=farZ_bd (v:=tR a) (by omega) (by omega)
  have:=mul_bd hf.1 hf.2 (show 0 ≤ tF b - tF a by omega) (show tF b - tF a ≤ 1000000000000 by omega)
  have e:(1000000000000:Int) * 1000000000000 = 1000000000000000000000000:=by decide
  rw [e] at this
  simp only [waysS,List.length_cons] at ih ⊢
  push_cast at ih ⊢
  omega
theorem rateM_bd:∀ (l:List tTier.T) (r0 lo:Int),0 ≤ r0→r0 ≤ 1000000000000→incT lo l→0 ≤ rateM r0 l∧rateM r0 l ≤ 1000000000000
 | [],r0,lo,h1,h2,h=>⟨h1,h2⟩
 | a :: r,r0,lo,h1,h2,h=>by
  obtain ⟨a1,a2,a3,a4,a5⟩:=h
  have hf:=farZ_bd (v:=tR a) (by omega) (by omega)
  exact rateM_bd r _ (tF a) (show 0 ≤ (if farZ (tR a) > r0 then farZ (tR a) else r0) by split <;> omega) (show (if farZ (tR a) > r0 then farZ (tR a) else r0) ≤ 1000000000000 by split <;> omega) a5
theorem scaleT_rg (F:Nat) {R:Type} (k:List tTier.T→Int→tBound_meter.T→tWide.T→tWide.T→Option R) (L:List tTier.T) (N:Int) (u x:tWide.T) (r6:tWide.T) (hL:L.length ≤ 16):∀ (xs:List tTier.T) (i:Nat) (rate w lo:Int),L.drop i = xs→-1 ≤ lo→incT lo xs→0 ≤ w→w + xs.length * 1000000000000000000000000 ≤ 20000000000000000000000000 →
  bound_meter_scale.l3.rg F (fun tiers rate _ _ _ _ m x _ ways=>k tiers rate m x ways) L N xs (i:Int) L rate (u,false) x r6 (mk w) = k L (rateM rate xs) (u,false) x (mk (w + waysS xs))
 | [],i,rate,w,lo,h,hlo,hi,hw,hw2=>by simp only [bound_meter_scale.l3.rg,rateM,waysS,List.foldl_nil,Int.add_zero]
 | a :: r,i,rate,w,lo,h,hlo,hi,hw,hw2=>by
  have ⟨a1,a2,a3,a4,a5⟩:=hi
  have h0:=rg_len h
  simp only [List.length_cons] at hw2
  push_cast at hw2
  have hf:=farZ_bd (v:=tR a) (by omega) (by omega)
  have hlen:=congrArg List.length h
  simp only [List.length_drop,List.length_cons] at hlen
  simp only [bound_meter_scale.l3.rg]
  rw [far_eq F (by omega) (by omega),wrap_i64 (n:=(i:Int) + 1) (by omega) (by omega)]
  simp only [oB_some]
  cases r with
  | nil =>
   simp only [List.length_nil] at hlen
   rw [decide_eq_false (show ¬ ((i:Int) + 1 < (L.length:Int)) by omega)]
   simp only [cond_false]
   have:=scaleT_rg F k L N u x r6 hL [] (i + 1) (if farZ (tR a) > rate then farZ (tR a) else rate) w (tF a) (rg_next h) (by omega) trivial hw (by simp; omega)
   rw [rg_cast] at this
   rw [this]
   rfl
  | cons b r =>
   simp only [List.length_cons] at hlen
   rw [decide_eq_true (show ((i:Int) + 1 < (L.length:Int)) by omega)]
   obtain ⟨b1,b2,b3,b4,b5⟩:=a5
   have hg:get tTier L (Int.toNat ((i:Int) + 1)) = b:=by
    rw [← rg_cast]; exact rg_get (rg_next h)
   have hid:idx ((i:Int) + 1) L.length = true:=idx_of (by omega) (by omega)
   have hp:=mul_bd hf.1 hf.2 (show 0 ≤ tF b - tF a by omega) (show tF b - tF a ≤ 1000000000000 by omega)
   rw [show (1000000000000:Int) * 1000000000000 = 1000000000000000000000000 by decide] at hp
   simp only [cond_true]
   rw [of_eq F (v:=farZ (tR a)) (by omega) (by omega),hid,hg,wrap_i64 (n:=tF b - tF a) (by omega) (by omega),of_eq F (v:=tF b - tF a) (by omega) (by omega)]
   simp only [oB_some,cond_true]
   rw [mmul_eq F u false (wf_mk (by rw [inR_iff]; omega)) (wf_mk (by rw [inR_iff]; omega))]
   simp only [oB_some,val_mk]
   have hin:inR (farZ (tR a) * (tF b - tF a)) = true:=by rw [inR_iff]; omega
   rw [(res_in hin).1,(res_in hin).2]
   rw [madd_eq F u _ (wf_mk (by rw [inR_iff]; omega)) (wf_mk hin)]
   simp only [oB_some,val_mk]
   have hin2:inR (w + farZ (tR a) * (tF b - tF a)) = true:=by rw [inR_iff]; omega
   rw [(res_in hin2).1,(res_in hin2).2]
   simp only [beq_self_eq_true,Bool.and_true,Bool.or_false,cond_true]
   have:=scaleT_rg F k L N u x r6 hL (b :: r) (i + 1) (if farZ (tR a) > rate then farZ (tR a) else rate) (w + farZ (tR a) * (tF b - tF a)) (tF a) (rg_next h) (by omega) ⟨b1,b2,b3,b4,b5⟩ (by omega) (by simp only [List.length_cons]; push_cast; simp only [List.length_cons] at hw2; push_cast at hw2; omega)
   rw [rg_cast] at this
   rw [this,Int.add_assoc]
   rfl
def lastF:List tTier.T→Int
 | []=>0
 | [a]=>tF a
 | _ :: b :: r=>lastF (b :: r)
theorem lastF_get:∀ (l:List tTier.T),1 ≤ l.length→tF (l.getD (l.length - 1) (0,0)) = lastF l
 | [],h=>by simp at h
 | [a],h=>rfl
 | a :: b :: r,h=>by
  have:=lastF_get (b :: r) (by simp)
  simp only [lastF,← this]
  rfl
theorem lastF_bd:∀ (l:List tTier.T) (lo:Int),-1 ≤ lo→incT lo l→0 ≤ lastF l∧lastF l ≤ 1000000000000
 | [],lo,h1,h=>by simp [lastF]
 | [a],lo,h1,h=>by
  obtain ⟨a1,a2,a3,a4,a5⟩:=h
  simp only [lastF]; omega
 | a :: b :: r,lo,h1,h=>by
  obtain ⟨a1,a2,a3,a4,a5⟩:=h
  exact lastF_bd (b :: r) (tF a) (by omega) a5
def scaleM (u x:Int) (l:List tTier.T):Int:=u * (rateM 0 l * (x + lastF l) + waysS l)
def BND:Int:=1329227995784915872903807060280344576
theorem mul_ge {a b:Int} (ha:1 ≤ a) (hb:0 ≤ b):b ≤ a * b:=by
 have:=Int.mul_le_mul_of_nonneg_right ha hb
 omega
def scaleK (F:Nat) (tiers7:List tTier.T) (rate7:Int) (m7:tBound_meter.T) (x7 ways7:tWide.T):Option bound_meter_scale.sg.R :=
 bif idx (IntKind.i64.wrap ((tiers7.length:Int) - 1)) tiers7.length then oB (wide_Of.sh F (get tTier tiers7 ((IntKind.i64.wrap ((tiers7.length:Int) - 1)).toNat)).1) fun c_8 =>
  oB (bound_meter_add.sh F m7 x7 c_8.1.1) fun c_9 =>
  bif (((m7.1.1 == c_9.2.1.1.1) && ((m7.1.2 == c_9.2.1.1.2) && true)) && true) then oB (wide_Of.sh F rate7) fun c_10 =>
   oB (bound_meter_mul.sh F c_9.2.1 c_10.1.1 c_9.1.1) fun c_11 =>
   bif (((c_9.2.1.1.1 == c_11.2.1.1.1) && ((c_9.2.1.1.2 == c_11.2.1.1.2) && true)) && true) then oB (bound_meter_add.sh F c_11.2.1 c_11.1.1 ways7) fun c_12 =>
    bif (((c_11.2.1.1.1 == c_12.2.1.1.1) && ((c_11.2.1.1.2 == c_12.2.1.1.2) && true)) && true) then oB (bound_meter_mul.sh F c_12.2.1 c_9.2.1.1 c_12.1.1) fun c_13 =>
     bif (((c_12.2.1.1.1 == c_13.2.1.1.1) && ((c_12.2.1.1.2 == c_13.2.1.1.2) && true)) && true) then some ((c_13.1.1,()),(c_13.2.1,()))
     else none
    else none
   else none
  else none
 else none
theorem inR_pos {v:Int} (h:0 ≤ v):(inR v = true∧v < 170141183460469231731687303715884105728) ∨ (inR v = false∧170141183460469231731687303715884105728 ≤ v):=by
 rcases Int.lt_or_le v 170141183460469231731687303715884105728 with h' | h'
 ·exact .inl ⟨by rw [inR_iff]; omega,h'⟩
 ·exact .inr ⟨by rw [inR_no]; omega,h'⟩
theorem scale_eq (F:Nat) (hF:64 < F) {u x:Int} (hu:1 ≤ u) (hu2:u ≤ 1000000000000000000000000) (hx:0 ≤ x) (hx2:x ≤ BND) {l:List tTier.T} (hl:risB l = true) :
  ∃ w o,bound_meter_scale.sh F (mk u,false) (mk x) l = some ((w,()),((mk u,o),()))∧wfW w∧0 ≤ scaleM u x l∧((o = true∧BND < scaleM u x l) ∨ (o = false∧w = mk (scaleM u x l)∧scaleM u x l < 170141183460469231731687303715884105728)):=by
 obtain ⟨l1,l2,l3⟩:=risB_inc hl
 have hBND:BND = 1329227995784915872903807060280344576:=rfl
 have hlast:=lastF_bd l (-1) (by omega) l3
 have hrate:=rateM_bd l 0 (-1) (by omega) (by omega) l3
 have hways:=waysS_bd l (-1) (by omega) l3
 have hX:bound_meter_scale.sh F (mk u,false) (mk x) l = scaleK F l (rateM 0 l) (mk u,false) (mk x) (mk (0 + waysS l)):=by
  refine Eq.trans (bound_meter_scale.l3.rg_eq F _ l _ rfl (by omega) l 0 F l 0 (mk u,false) (mk x) (0,0) (0,0) (by simp) (by omega)) ?_
  exact scaleT_rg F (scaleK F) l _ (mk u) (mk x) (0,0) l2 l 0 0 0 (-1) (by simp) (by omega) l3 (by omega) (by omega)
 rw [hX]
 unfold scaleK
 rw [wrap_i64 (n:=(l.length:Int) - 1) (by omega) (by omega),show ((l.length:Int) - 1) = ((l.length - 1:Nat):Int) by omega,rg_idx (by omega),Int.toNat_natCast,show (get tTier l (l.length - 1)).1 = lastF l from lastF_get l l1]
 simp only [cond_true,Int.zero_add]
 unfold scaleM
 generalize lastF l = lf at *
 generalize rateM 0 l = rt at *
 generalize waysS l = ws at *
 have iu:inR u = true:=by rw [inR_iff]; omega
 have iws:inR ws = true:=by rw [inR_iff]; omega
 have iR:inR (x + lf) = true:=by rw [inR_iff]; omega
 rw [of_eq F (by omega) (by omega)]
 simp only [oB_some]
 rw [madd_eq F _ _ (wf_mk (by rw [inR_iff]; omega)) (wf_mk (by rw [inR_iff]; omega))]
 simp only [oB_some,val_mk]
 rw [of_eq F (v:=rt) (by omega) (by omega),(res_in iR).1,(res_in iR).2]
 simp only [oB_some,beq_self_eq_true,Bool.and_true,Bool.or_false,cond_true]
 rw [mmul_eq F _ _ (wf_mk (by rw [inR_iff]; omega)) (wf_mk iR)]
 simp only [oB_some,val_mk,beq_self_eq_true,Bool.and_true,cond_true,Bool.false_or]
 have hp0:0 ≤ rt * (x + lf):=Int.mul_nonneg hrate.1 (by omega)
 have hs0:0 ≤ rt * (x + lf) + ws:=by omega
 have hg:=mul_ge hu hs0
 generalize rt * (x + lf) = p at *
 rw [madd_eq F _ _ (wf_resW p) (wf_mk iws)]
 simp only [oB_some,beq_self_eq_true,Bool.and_true,cond_true]
 rw [mmul_eq F _ _ (wf_mk iu) (wf_resW _)]
 simp only [oB_some,beq_self_eq_true,Bool.and_true,cond_true,val_mk]
 refine ⟨_,_,rfl,wf_resW _,by omega,?_⟩
 rcases inR_pos hp0 with ⟨i1,b1⟩ | ⟨i1,b1⟩
 ·rw [(res_in i1).1,(res_in i1).2,val_mk]
  rcases inR_pos hs0 with ⟨i2,b2⟩ | ⟨i2,b2⟩
  ·rw [(res_in i2).1,(res_in i2).2,val_mk]
   rcases inR_pos (v:=u * (p + ws)) (by omega) with ⟨i3,b3⟩ | ⟨i3,b3⟩
   ·rw [(res_in i3).1,(res_in i3).2]
    exact .inr ⟨rfl,rfl,b3⟩
   ·rw [res_out i3]
    exact .inl ⟨by simp,by omega⟩
  ·rw [res_out i2]
   exact .inl ⟨by simp,by omega⟩
 ·rw [res_out i1]
  exact .inl ⟨by simp,by omega⟩
def sumL (l:List Int):Int:=l.sum
def magN (u:Int) (D:List tDim.T) (n:tNode.T) (vs:List Int):Int :=
 bif nK n == 1 then nN n else bif nK n == 2 then nN n * u else bif nK n == 3 then 1099511627776
 else bif nK n == 4 then ceilD 1099511627776 (dS (D.getD (nN n).toNat (ByteArray.empty,0)))
 else bif nK n == 8 then vs.getD 0 0 * vs.getD 1 0
 else bif nK n == 13 || nK n == 14 then scaleM u (vs.getD 0 0) (nT n)
 else bif nK n == 15 then vs.getD 0 0
 else bif nK n == 11 || (nK n == 12 || nK n == 16) then sumL vs + nN n
 else sumL vs
def farN (n:tNode.T) (v:Int):Int:=bif nK n == 15 then v * 10000 else v
def mag (u:Int) (D:List tDim.T):Tree→Int:=Tree.fold (magN u D)
theorem mag_nd (u:Int) (D:List tDim.T) (n:tNode.T) (ks:List Tree):mag u D (.nd n ks) = magN u D n (ks.map (mag u D)):=Tree.fold_nd _ n ks
def magE (u:Int) (D:List tDim.T) (t:Tree):Int:=bif decide (farN t.root (mag u D t) > BND) then 90 else 0
theorem dE_sizes:∀ (l pre:List tDim.T),dE pre l = 0→∀ d ∈ l,1 ≤ dS d∧dS d ≤ 1000000000000
 | [],pre,h,d,hd=>by simp at hd
 | x :: r,pre,h,d,hd=>by
  simp only [dE] at h
  cases h1:nameB x.1.data.toList with
  | false=>rw [h1] at h; exact absurd (show (61:Int) = 0 from h) (by decide)
  | true =>
  rw [h1] at h
  cases h2:pre.any (fun e=>sameN e.1 x.1) with
  | true=>rw [h2] at h; exact absurd (show (61:Int) = 0 from h) (by decide)
  | false =>
  rw [h2] at h
  cases h3:decide (dS x < 1) with
  | true=>rw [h3] at h; exact absurd (show (50:Int) = 0 from h) (by decide)
  | false =>
  rw [h3] at h
  cases h4:decide (dS x > 1000000000000) with
  | true=>rw [h4] at h; exact absurd (show (50:Int) = 0 from h) (by decide)
  | false =>
  rw [h4] at h
  have h3:=of_decide_eq_false h3
  have h4:=of_decide_eq_false h4
  rcases List.mem_cons.1 hd with rfl | hd
  ·exact ⟨by omega,by omega⟩
  ·exact dE_sizes r _ h d hd
theorem sumV_mk:∀ (l:List Int),sumV (l.map mk) = sumL l
 | []=>rfl
 | x :: r=>by
  have:=sumV_mk r
  simp only [sumV,sumL,List.map_cons,List.sum_cons,val_mk] at *
  rw [this]
theorem sumL_bd {b:Int}:∀ (l:List Int),(∀ v ∈ l,0 ≤ v∧v ≤ b)→0 ≤ sumL l∧sumL l ≤ l.length * b
 | [],h=>by simp [sumL]
 | x :: r,h=>by
  have ih:=sumL_bd r (fun v hv=>h v (by simp [hv]))
  have hx:=h x (by simp)
  simp only [sumL,List.sum_cons,List.length_cons] at *
  push_cast
  rw [Int.add_mul]
  omega
theorem getD_bd {b:Int} {l:List Int} (h:∀ v ∈ l,0 ≤ v∧v ≤ b) {i:Nat} (hi:i < l.length):0 ≤ l.getD i 0∧l.getD i 0 ≤ b:=by
 rw [List.getD_eq_getElem?_getD,List.getElem?_eq_getElem hi]
 exact h _ (List.getElem_mem _)
theorem getD_mk {l:List Int} {i:Nat} (hi:i < l.length):get tWide (l.map mk) i = mk (l.getD i 0):=by
 unfold get
 rw [List.getD_eq_getElem?_getD,List.getD_eq_getElem?_getD,List.getElem?_map,List.getElem?_eq_getElem hi]
 rfl
theorem ceilD_bd {s:Int} (h1:1 ≤ s):0 ≤ ceilD 1099511627776 s∧ceilD 1099511627776 s ≤ 1099511627777:=by
 have hq1:0 ≤ 1099511627776 / s:=Int.ediv_nonneg (by omega) (by omega)
 have hq2:1099511627776 / s ≤ 1099511627776:=Int.ediv_le_self _ (by omega)
 unfold ceilD
 split <;> omega
def NodeR (u:Int) (D:List tDim.T) (n:tNode.T) (vs:List Int) (r:Option bound_meter_node.sg.R):Prop :=
 ∃ w o,r = some ((w,()),((mk u,o),()))∧wfW w∧0 ≤ magN u D n vs∧((o = true∧BND < farN n (magN u D n vs)) ∨ (o = false∧w = mk (magN u D n vs)∧farN n (magN u D n vs) < 170141183460469231731687303715884105728))
theorem NodeR.of {u:Int} {D:List tDim.T} {n:tNode.T} {vs:List Int} {v:Int} (hm:magN u D n vs = v) (hf:(nK n == 15) = false) (h0:0 ≤ v) {r:Option bound_meter_node.sg.R} (o:Bool)
  (hr:r = some ((resW v,()),((mk u,o || errW v != 0),()))) (ho:o = false):NodeR u D n vs r:=by
 subst ho
 refine ⟨_,_,hr,wf_resW _,by rw [hm]; exact h0,?_⟩
 have hBND:BND = 1329227995784915872903807060280344576:=rfl
 unfold farN
 rw [hm,hf]
 simp only [cond_false,Bool.false_or]
 rcases inR_pos h0 with ⟨i,b⟩ | ⟨i,b⟩
 ·rw [(res_in i).1,(res_in i).2]; exact .inr ⟨rfl,rfl,b⟩
 ·rw [res_out i]; exact .inl ⟨rfl,by omega⟩
end Go.VS
