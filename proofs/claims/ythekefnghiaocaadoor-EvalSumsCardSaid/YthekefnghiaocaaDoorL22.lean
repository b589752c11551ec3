import Derived.Test.YthekefnghiaocaaDoorL21
set_option linter.unusedVariables false
set_option linter.unusedSimpArgs false
set_option linter.unusedSectionVars false
set_option linter.unusedVariables false
set_option linter.unusedSimpArgs false
set_option maxRecDepth 100000
namespace Go.VS
open Go
theorem ekids_eq (F:Nat) {n:tNode.T} (hg:goodK n = true) (hk:kidsK n = true):eval_kids.sh F n = some (((ar n:Int),()),()):=by
 have h9:∀ k:Int,(nK n = k)→(k = 9 ∨ k = 10)→(ar n:Int) = nC n:=by
  intro k h hkk
  rw [kids_of h] at hk
  have hk:(decide (nC n ≥ 2) && decide (nC n ≤ 16)) = true:=by rcases hkk with rfl | rfl <;> exact hk
  simp at hk
  have:ar n = (nC n).toNat:=by rw [ar_of h]; rcases hkk with rfl | rfl <;> rfl
  omega
 unfold eval_kids.sh eval_kids.j6 eval_kids.j10
 rcases kinds16 hg with h | h | h | h | h | h | h | h | h | h | h | h | h | h | h | h <;> rw [show n.1 = _ from h]
 ·rw [ar_of h]; rfl
 ·rw [ar_of h]; rfl
 ·rw [ar_of h]; rfl
 ·rw [ar_of h]; rfl
 ·rw [ar_of h]; rfl
 ·rw [ar_of h]; rfl
 ·rw [ar_of h]; rfl
 ·rw [ar_of h]; rfl
 ·rw [h9 9 h (.inl rfl)]; rfl
 ·rw [h9 10 h (.inr rfl)]; rfl
 ·rw [ar_of h]; rfl
 ·rw [ar_of h]; rfl
 ·rw [ar_of h]; rfl
 ·rw [ar_of h]; rfl
 ·rw [ar_of h]; rfl
 ·rw [ar_of h]; rfl
structure Inv (u:Int) (D:List tDim.T) (q:List Int) (t:Tree):Prop where
 lo:-mag u D t ≤ ev u D q t
 hi:ev u D q t ≤ mag u D t
 bd:mag u D t ≤ BND
theorem kids_of_inv {u:Int} {D:List tDim.T} {q:List Int} {l:List Tree} (h:∀ t ∈ l,Inv u D q t):Kids l (ev u D q) (mag u D):=⟨fun k hk=>(h k hk).lo,fun k hk=>(h k hk).hi,fun k hk=>(h k hk).bd⟩
theorem farN_ge {n:tNode.T} {v:Int} (h0:0 ≤ v) (h:farN n v ≤ BND):v ≤ BND:=by
 unfold farN at h
 cases h15:(nK n == 15) with
 | true=>rw [h15] at h; simp only [cond_true] at h; omega
 | false=>rw [h15] at h; exact h
theorem step_inv (F:Nat) (hF:128 < F) {u:Int} (hu:1 ≤ u) (hu2:u ≤ 1000000000000000000000000) {p:tPlan.T} (hD:dE [] p.2.1 = 0) (hd4:p.2.1.length ≤ 4) {q:List Int} (hq:okQ p.2.1 q) {st:List Tree} {n:tNode.T}
  (hn:nodeE p.2.1.length n st.length = 0) (hI:∀ t ∈ st,Inv u p.2.1 q t) (hE:magE u p.2.1 (topT st n) = 0) :
  Inv u p.2.1 q (topT st n)∧(ar n = 0→eval_leaf.sh F p n (mk u) q = some ((mk (ev u p.2.1 q (topT st n)),()),())) ∧
  (1 ≤ ar n→eval_inner.sh F n (mk u) ((st.drop (st.length - ar n)).map fun t=>mk (ev u p.2.1 q t)) = some ((mk (ev u p.2.1 q (topT st n)),()),())):=by
 obtain ⟨g1,g2,g3,g4,g5,g6,g7,g8⟩:=nodeE_ok hn
 have hfar:farN n (mag u p.2.1 (topT st n)) ≤ BND:=by
  unfold magE at hE
  rw [show (topT st n).root = n from rfl] at hE
  cases hx:decide (farN n (mag u p.2.1 (topT st n)) > BND) with
  | true=>rw [hx] at hE; exact absurd (show (90:Int) = 0 from hE) (by decide)
  | false=>have:=of_decide_eq_false hx; omega
 have hm:mag u p.2.1 (topT st n) = magN u p.2.1 n ((st.drop (st.length - ar n)).map (mag u p.2.1)):=by unfold topT; rw [mag_nd]
 have hv:ev u p.2.1 q (topT st n) = evN u p.2.1 q n ((st.drop (st.length - ar n)).map (ev u p.2.1 q)):=by unfold topT; rw [ev_nd]
 by_cases ha:ar n = 0
 ·rw [ha,Nat.sub_zero,List.drop_of_length_le (Nat.le_refl _)] at hm hv
  simp only [List.map_nil] at hm hv
  obtain ⟨h1,h2,h3⟩:=eleaf_eq F hu hu2 hD hd4 hn hq ha
  rw [← hv] at h1 h2 h3
  rw [← hm] at h3
  exact ⟨⟨by omega,h3,farN_ge (by omega) hfar⟩,fun _=>h1,fun h=>by omega⟩
 ·have hk:Kids (st.drop (st.length - ar n)) (ev u p.2.1 q) (mag u p.2.1):=kids_of_inv (fun t ht=>hI t (List.mem_of_mem_drop ht))
  rw [hm] at hfar
  obtain ⟨h1,h2,h3⟩:=einner_eq F hF hu hu2 hd4 hn (q:=q) hk (by simp; omega) (by omega) hfar
  rw [← hv] at h1 h2 h3
  rw [← hm] at h2 h3 hfar
  exact ⟨⟨h2,h3,farN_ge (by omega) hfar⟩,fun h=>by omega,fun _=>h1⟩
theorem inv_news {u:Int} (hu:1 ≤ u) (hu2:u ≤ 1000000000000000000000000) {p:tPlan.T} (hD:dE [] p.2.1 = 0) (hd4:p.2.1.length ≤ 4) {q:List Int} (hq:okQ p.2.1 q):∀ (xs:List tNode.T) (st:List Tree),okS p.2.1.length st xs →
  (∀ t ∈ st,Inv u p.2.1 q t)→firstE (magE u p.2.1) (news st xs) 0 = none→∀ t ∈ news st xs,Inv u p.2.1 q t
 | [],st,h,hI,hf=>by simp [news]
 | n :: xs,st,h,hI,hf=>by
  simp only [news] at hf ⊢
  have hE:=firstE_mem hf (topT st n) (by simp)
  have hs:=(step_inv FU (by decide) hu hu2 hD hd4 hq h.1 hI hE).1
  have ih:=inv_news hu hu2 hD hd4 hq xs (stepT st n) h.2 (by
   intro t ht
   rcases List.mem_append.1 ht with ht | ht
   ·exact hI t (List.mem_of_mem_take ht)
   ·rw [List.mem_singleton.1 ht]; exact hs) (by
   simp only [firstE] at hf
   rw [show (magE u p.2.1 (topT st n) != 0) = false by simpa using hE] at hf
   exact firstE_none 0 hf)
  intro t ht
  rcases List.mem_cons.1 ht with rfl | ht
  ·exact hs
  ·exact ih t ht
theorem values_rg (F:Nat) (hF:128 < F) {R:Type} {u:Int} (hu:1 ≤ u) (hu2:u ≤ 1000000000000000000000000) {p:tPlan.T} (hD:dE [] p.2.1 = 0) (hd4:p.2.1.length ≤ 4) {q:List Int} (hq:okQ p.2.1 q) (kO:List tWide.T→Option R) (L:List tNode.T) (N:Int):∀ (xs:List tNode.T) (st:List Tree) (i:Int) (values:List tWide.T),
  okS p.2.1.length st xs→(flats st).length + xs.length ≤ 2048→values.length ≤ (flats st).length→(∀ t ∈ st,Inv u p.2.1 q t)→firstE (magE u p.2.1) (news st xs) 0 = none →
  eval_Values.l14.rg F (fun _ _ _ _ _ _ _ values _=>kO values) L N xs i q p (mk u) values (st.map fun t=>mk (ev u p.2.1 q t)) = kO (values ++ (news st xs).map fun t=>mk (ev u p.2.1 q t)):=by
 intro xs
 induction xs with
 | nil=>intro st i values h h2 h3 h4 hf; simp [eval_Values.l14.rg,news]
 | cons n xs ih =>
  intro st i values h h2 h3 h4 hf
  obtain ⟨g1,g2,g3,g4,g5,g6,g7,g8⟩:=nodeE_ok h.1
  have hst:=len_flats st
  have hfs:=congrArg List.length (flats_step st n)
  simp only [List.length_cons,List.length_append,List.length_nil] at h2 hfs
  simp only [news] at hf ⊢
  have hE:=firstE_mem hf (topT st n) (by simp)
  obtain ⟨s1,s2,s3⟩:=step_inv F hF hu hu2 hD hd4 hq h.1 h4 hE
  have hl:(st.map fun t=>mk (ev u p.2.1 q t)).length = st.length:=by simp
  have ew:=wrap_sub g7 (by omega)
  have hb1:=bounds_lo (show st.length - ar n ≤ st.length by omega)
  have hb2:=bounds_hi (show st.length - ar n ≤ st.length by omega)
  have htk:(st.map fun t=>mk (ev u p.2.1 q t)).take st.length = st.map fun t=>mk (ev u p.2.1 q t):=List.take_of_length_le (by omega)
  have hbl1:∀ y,Nat.ble (values.length + ([y]:List tWide.T).length) maxN = true:=fun y=>ble_of (by simp; omega)
  have hbl2:∀ y,Nat.ble (st.length - ar n + ([y]:List tWide.T).length) maxN = true:=fun y=>ble_of (by simp; omega)
  have hstep:(stepT st n).map (fun t=>mk (ev u p.2.1 q t)) = (st.map fun t=>mk (ev u p.2.1 q t)).take (st.length - ar n) ++ [mk (ev u p.2.1 q (topT st n))]:=by
   unfold stepT; simp [List.map_take]
  have IH:=ih (stepT st n) (i + 1) (values ++ [mk (ev u p.2.1 q (topT st n))]) h.2 (by omega) (by simp; omega) (by
   intro t ht
   rcases List.mem_append.1 ht with ht | ht
   ·exact h4 t (List.mem_of_mem_take ht)
   ·rw [List.mem_singleton.1 ht]; exact s1) (by
   simp only [firstE] at hf
   rw [show (magE u p.2.1 (topT st n) != 0) = false by simpa using hE] at hf
   exact firstE_none 0 hf)
  rw [hstep] at IH
  simp only [List.append_assoc,List.singleton_append] at IH
  have hdm:(st.map fun t=>mk (ev u p.2.1 q t)).drop (st.length - ar n) = (st.drop (st.length - ar n)).map fun t=>mk (ev u p.2.1 q t):=by rw [← List.map_drop]
  simp only [eval_Values.l14.rg]
  rw [ekids_eq F g1 g4,oB_some]
  simp only [hl,ew,hb1,hb2,htk,cond_true,hdm]
  by_cases ha:ar n = 0
  ·rw [decide_eq_false (show ¬ ((st.length - ar n:Nat):Int) < (st.length:Int) by omega)]
   simp only [cond_false]
   rw [s2 ha,oB_some]
   simp only [hbl1,hbl2,cond_true]
   exact IH
  ·rw [decide_eq_true (show ((st.length - ar n:Nat):Int) < (st.length:Int) by omega)]
   simp only [cond_true]
   rw [s3 (by omega),oB_some]
   simp only [hbl1,hbl2,cond_true]
   exact IH
def qB (x:Int):Bool:=decide (x < 0) || decide (x > 1099511627776)
theorem qty_rg (F:Nat) {R:Type} (k0:List tWide.T→Int→Option R) (k1:List Int→tPlan.T→tWide.T→Option R) (L:List Int) (N:Int) (q:List Int) (p:tPlan.T) (u:tWide.T):∀ (xs:List Int) (i:Int),
  eval_Values.l7.rg F k0 (fun q _ _ _ _ p u=>k1 q p u) L N xs i q p u = bif xs.any qB then k0 [] 101 else k1 q p u
 | [],i=>rfl
 | x :: r,i=>by
  rw [eval_Values.l7.rg,qty_rg F k0 k1 L N q p u r,List.any_cons]
  unfold qB
  cases decide (x < 0) with
  | true=>rfl
  | false=>cases decide (x > 1099511627776) <;> rfl
theorem okQ_of {D:List tDim.T} {q:List Int} (h1:q.length = D.length) (h2:q.any qB = false):okQ D q:=by
 refine ⟨h1,fun x hx=>?_⟩
 have:=(List.any_eq_false.1 h2) x hx
 simp [qB] at this
 omega
def valsR (D:List tDim.T) (t:Tree) (q:List Int):List tWide.T×Int :=
 bif (unitR D t).2.2 != 0 then ([],(unitR D t).2.2) else bif (q.length:Int) != (D.length:Int) then ([],100) else bif q.any qB then ([],101) else
 (t.subs.map fun s=>mk (ev (unitV t) D q s),0)
theorem unit_ok {p:tPlan.T} {t:Tree} (h:Good p t) (hu:(unitR p.2.1 t).2.2 = 0):deep t ≤ 6∧firstE tyE t.subs 0 = none∧ty t = 1∧firstE (magE (unitV t) p.2.1) t.subs 0 = none∧unitR p.2.1 t = (mk (unitV t),0,0):=by
 obtain ⟨a1,a2,a3,a4⟩:=unitR_ok hu
 exact ⟨a2,(typesR_ok a1).1,(typesR_ok a1).2,(measR_ok a3).1,a4⟩
theorem Values_gen (F:Nat) (hF:4096 < F) {p:tPlan.T} {t:Tree} (h:Good p t) (q:List Int) (hU:bound_Unit.sh F p = some (((unitR p.2.1 t).1,(unitR p.2.1 t).2.1,(unitR p.2.1 t).2.2,()),())):eval_Values.sh F p q = some (((valsR p.2.1 t q).1,(valsR p.2.1 t q).2,()),()):=by
 unfold eval_Values.sh valsR
 rw [hU,oB_some]
 cases hu:((unitR p.2.1 t).2.2 != 0) with
 | true=>simp only [cond_true,hu]
 | false =>
  have hu':(unitR p.2.1 t).2.2 = 0:=by simpa using hu
  obtain ⟨u1,u2,u3,u4,u5⟩:=unit_ok h hu'
  simp only [cond_false,hu]
  cases hql:((q.length:Int) != (p.2.1.length:Int)) with
  | true=>rfl
  | false =>
   have hql:(q.length:Int) = (p.2.1.length:Int):=by simpa using hql
   have hh:=headE_dims h.head
   have hl:=h.len
   simp only [cond_false]
   refine Eq.trans (eval_Values.l7.rg_eq F _ _ q _ rfl (by omega) q 0 F _ _ _ (by simp) (by omega)) ?_
   refine (qty_rg F (fun r42 r52=>(some ((r42,r52,()),()):Option eval_Values.sg.R)) (fun q3 p3 unit3=>eval_Values.l14 F (fun q7 t467 t477 t487 t497 p7 unit7 values7 pile7=>eval_Values.j24 F (fun r48 r58=>some ((r48,r58,()),())) values7) F q3 p3.2.2.2 (p3.2.2.2.length:Int) 0 p3 unit3 ([]) ([])) q _ q p _ q _).trans ?_
   cases hqa:q.any qB with
   | true=>rfl
   | false =>
    simp only [cond_false]
    have hub:=unitV_bd u1
    refine Eq.trans (eval_Values.l14.rg_eq F _ p.2.2.2 _ rfl (by omega) p.2.2.2 0 F _ _ _ _ _ (by simp) (by omega)) ?_
    rw [u5]
    refine (values_rg F (by omega) hub.1 hub.2 hh.2.2.1 hh.2.1 (okQ_of (by omega) hqa) (fun values=>(some ((values,0,()),()):Option eval_Values.sg.R)) p.2.2.2 _ p.2.2.2 [] 0 [] h.ok (by simp [flats]; omega) (by simp) (by simp) (by rw [h.subs]; exact u4)).trans ?_
    rw [h.subs]
    rfl
theorem Values_eq {p:tPlan.T} {t:Tree} (h:Good p t) (q:List Int):eval_Values.sh FU p q = some (((valsR p.2.1 t q).1,(valsR p.2.1 t q).2,()),()):=Values_gen FU FU_big h q (Unit_eq h)
theorem Values_bad {p:tPlan.T} (h:(checkS p).2 ≠ 0) (q:List Int):eval_Values.sh FU p q = some (([],(checkS p).2,()),()):=by
 unfold eval_Values.sh
 rw [Unit_bad h,oB_some]
 rw [show ((checkS p).2 != 0) = true by simpa using h]
 rfl
def exactR (D:List tDim.T) (t:Tree) (q:List Int):tWide.T×Int :=
 bif (valsR D t q).2 != 0 then ((0,0),(valsR D t q).2) else (mk (ev (unitV t) D q t),0)
theorem vals_ok {D:List tDim.T} {t:Tree} {q:List Int} (h:(valsR D t q).2 = 0):(unitR D t).2.2 = 0∧q.length = D.length∧q.any qB = false∧valsR D t q = (t.subs.map fun s=>mk (ev (unitV t) D q s),0):=by
 unfold valsR at *
 cases h1:((unitR D t).2.2 != 0) with
 | true =>
  rw [h1] at h
  have h:(unitR D t).2.2 = 0:=h
  rw [h] at h1
  exact absurd h1 (by decide)
 | false =>
  rw [h1] at h
  cases h2:((q.length:Int) != (D.length:Int)) with
  | true=>rw [h2] at h; exact absurd (show (100:Int) = 0 from h) (by decide)
  | false =>
   rw [h2] at h
   cases h3:q.any qB with
   | true=>rw [h3] at h; exact absurd (show (101:Int) = 0 from h) (by decide)
   | false =>
    have h2:(q.length:Int) = (D.length:Int):=by simpa using h2
    exact ⟨by simpa using h1,by omega,rfl,rfl⟩
theorem Exact_eq {p:tPlan.T} {t:Tree} (h:Good p t) (q:List Int):eval_Exact.sh FU p q = some (((exactR p.2.1 t q).1,(exactR p.2.1 t q).2,()),()):=by
 unfold eval_Exact.sh exactR
 rw [Values_eq h,oB_some]
 cases hv:((valsR p.2.1 t q).2 != 0) with
 | true=>simp only [cond_true,hv]
 | false =>
  have hv':(valsR p.2.1 t q).2 = 0:=by simpa using hv
  obtain ⟨v1,v2,v3,v4⟩:=vals_ok hv'
  obtain ⟨s,hs⟩:=subs_last t
  have hlen:(valsR p.2.1 t q).1.length = s.length + 1:=by rw [v4,hs]; simp
  have hn:s.length + 1 = p.2.2.2.length:=by rw [← h.flat,← subs_len,hs]; simp
  have hl:=h.len
  simp only [cond_false,hv,hlen]
  rw [wrap_i64 (n:=((s.length + 1:Nat):Int) - 1) (by omega) (by omega),show ((s.length + 1:Nat):Int) - 1 = ((s.length:Nat):Int) by omega,rg_idx (by omega),Int.toNat_natCast]
  simp only [cond_true]
  have hg:get tWide (valsR p.2.1 t q).1 s.length = mk (ev (unitV t) p.2.1 q t):=by
   rw [v4,hs,List.map_append]; exact get_last (by simp)
  rw [hg]
theorem Exact_bad {p:tPlan.T} (h:(checkS p).2 ≠ 0) (q:List Int):eval_Exact.sh FU p q = some (((0,0),(checkS p).2,()),()):=by
 unfold eval_Exact.sh
 rw [Values_bad h,oB_some]
 rw [show ((checkS p).2 != 0) = true by simpa using h]
 rfl
theorem exact_ok {D:List tDim.T} {t:Tree} {q:List Int} (h:(exactR D t q).2 = 0):(valsR D t q).2 = 0∧exactR D t q = (mk (ev (unitV t) D q t),0):=by
 unfold exactR at *
 cases h1:((valsR D t q).2 != 0) with
 | true =>
  rw [h1] at h
  have h:(valsR D t q).2 = 0:=h
  rw [h] at h1
  exact absurd h1 (by decide)
 | false=>exact ⟨by simpa using h1,rfl⟩
theorem subs_self (t:Tree):t ∈ t.subs:=by
 obtain ⟨s,hs⟩:=subs_last t
 rw [hs]; simp
theorem plan_inv {p:tPlan.T} {t:Tree} (h:Good p t) {q:List Int} (hv:(valsR p.2.1 t q).2 = 0):∀ s ∈ t.subs,Inv (unitV t) p.2.1 q s:=by
 obtain ⟨v1,v2,v3,v4⟩:=vals_ok hv
 obtain ⟨u1,u2,u3,u4,u5⟩:=unit_ok h v1
 have hh:=headE_dims h.head
 have hub:=unitV_bd u1
 have:=inv_news hub.1 hub.2 hh.2.2.1 hh.2.1 (okQ_of v2 v3) p.2.2.2 [] h.ok (by simp) (by rw [h.subs]; exact u4)
 rw [h.subs] at this
 exact this
end Go.VS
