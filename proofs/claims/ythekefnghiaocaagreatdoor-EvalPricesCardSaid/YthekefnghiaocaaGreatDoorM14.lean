import Derived.Test.YthekefnghiaocaaGreatDoorM13
import Derived.Test.YthekefnghiaocaaGreatDoorL23
set_option linter.unusedVariables false
set_option linter.unusedSimpArgs false
set_option linter.unusedSectionVars false
set_option linter.unusedVariables false
set_option linter.unusedSimpArgs false
set_option maxRecDepth 100000
namespace Go.VS
open Go
theorem off_whole {S u:Int} {D:List tDim.T} {q:List Int} {st:List Tree} {n:tNode.T} {dims:Nat} (hn:nodeE dims n st.length = 0) (hE:tyE (topT st n) = 0) (hd:deep (topT st n) ≤ S) (hk:∀ k ∈ st,Dv S u D q k) (h:nK n = 15) :
  ∃ c,((st.drop (st.length - ar n)).map (ev u D q)).getD 0 0 = c * 10000:=by
 have g7:=(nodeE_ok hn).2.2.2.2.2.2.1
 have hl:(st.drop (st.length - ar n)).length = 1:=by simp; rw [ar_of h] at *; have:(1:Nat) ≤ st.length:=g7; show st.length - (st.length - 1) = 1; omega
 have hks:∀ k ∈ st.drop (st.length - ar n),Dv S u D q k:=fun k hk'=>hk k (List.mem_of_mem_drop hk')
 unfold topT at hE hd
 generalize st.drop (st.length - ar n) = ks at *
 obtain ⟨a,rfl⟩:=List.length_eq_one_iff.1 hl
 have hdn:=deep_nd n [a]
 rw [h] at hdn
 have hdn:deep (.nd n [a]) = deep a + 1:=by rw [hdn]; rfl
 have hx0:tyN n ([a].map ty) = (bif ty a == 1 then (1:Int) else -1):=by unfold tyN; rw [h]; rfl
 have ht:ty (.nd n [a]) = (bif ty a == 1 then (1:Int) else -1):=by rw [ty_nd]; exact hx0
 have h1:ty a = 1:=by
  cases hta:(ty a == 1) with
  | true=>simpa using hta
  | false =>
   rw [hta] at ht
   unfold tyE at hE
   rw [ht] at hE
   exact absurd (show (80:Int) = 0 from hE) (by decide)
 obtain ⟨c,hc⟩:=hks a (by simp) h1
 refine ⟨c * 10000 ^ (S - deep a - 1).toNat,?_⟩
 show ev u D q a = _
 rw [hc,Int.mul_assoc,← Int.pow_succ,show (S - deep a - 1).toNat.succ = (S - deep a).toNat by omega]
theorem rvalues_l14 (F:Nat) (hF:4096 < F) {R:Type} {S u:Int} (hS0:0 ≤ S) (huS:u = 10000 ^ S.toNat) (hu:1 ≤ u) (hu2:u ≤ 1000000000000000000000000) {p:tPlan.T} (hD:dE [] p.2.1 = 0) (hd4:p.2.1.length ≤ 4) (hL:p.2.2.2.length ≤ 1024) {q:List Int} (hq:okQ p.2.1 q) (kO:List tWide.T→Option R) :
  ∀ (xs:List tNode.T) (st:List Tree) (out:List tWide.T) (fu:Nat),p.2.2.2 = flats st ++ xs→okS p.2.1.length st xs→out.length ≤ (flats st).length→(∀ t ∈ st,Inv u p.2.1 q t)→(∀ t ∈ st,Dv S u p.2.1 q t) →
  firstE (magE u p.2.1) (news st xs) 0 = none→firstE tyE (news st xs) 0 = none→(∀ t ∈ news st xs,deep t ≤ S)→xs.length < fu →
  octroiref10_Values.l14 F (fun _ _ _ _ _ out _=>kO out) fu q ((flats st).length:Int) p (mk u) out (st.map fun t=>mk (ev u p.2.1 q t)) = kO (out ++ (news st xs).map fun t=>mk (ev u p.2.1 q t)):=by
 intro xs
 induction xs with
 | nil =>
  intro st out fu h ho hout hI hv hm ht hdp hf
  obtain ⟨fu,rfl⟩:∃ j,fu = j + 1:=⟨fu - 1,by simp at hf; omega⟩
  have:p.2.2.2.length = (flats st).length:=by rw [h]; simp
  simp only [octroiref10_Values.l14,octroiref10_Values.l14.body,decide_eq_false (show ¬ (((flats st).length:Int) < (p.2.2.2.length:Int)) by omega),cond_false,news,List.map_nil,List.append_nil]
 | cons n xs ih =>
  intro st out fu h ho hout hI hv hm ht hdp hf
  obtain ⟨fu,rfl⟩:∃ j,fu = j + 1:=⟨fu - 1,by simp at hf; omega⟩
  have hlen:p.2.2.2.length = (flats st).length + (xs.length + 1):=by rw [h]; simp
  obtain ⟨g1,g2,g3,g4,g5,g6,g7,g8⟩:=nodeE_ok ho.1
  have hst:=len_flats st
  have hfs:=flats_step st n
  have hfl:=congrArg List.length hfs
  simp only [List.length_append,List.length_cons,List.length_nil] at hfl
  simp only [news] at hm ht hdp ⊢
  have hE:=firstE_mem hm (topT st n) (by simp)
  have hT:=firstE_mem ht (topT st n) (by simp)
  have hdt:=hdp (topT st n) (by simp)
  obtain ⟨s1,_,_⟩:=step_inv F (by omega) hu hu2 hD hd4 hq ho.1 hI hE
  have sd:Dv S u p.2.1 q (topT st n):=step_dv hS0 huS ho.1 (ks:=st.drop (st.length - ar n)) (by simp; omega) hdt (fun k hk=>hv k (List.mem_of_mem_drop hk))
  have hl:(st.map fun t=>mk (ev u p.2.1 q t)).length = st.length:=by simp
  have hdm:(st.map fun t=>mk (ev u p.2.1 q t)).drop (st.length - ar n) = (st.drop (st.length - ar n)).map fun t=>mk (ev u p.2.1 q t):=by rw [← List.map_drop]
  have ew:=wrap_sub g7 (by omega)
  have hb1:=bounds_lo (show st.length - ar n ≤ st.length by omega)
  have hb2:=bounds_hi (show st.length - ar n ≤ st.length by omega)
  have htk:(st.map fun t=>mk (ev u p.2.1 q t)).take st.length = st.map fun t=>mk (ev u p.2.1 q t):=List.take_of_length_le (by omega)
  have hbl1:∀ y,Nat.ble (out.length + ([y]:List tWide.T).length) maxN = true:=fun y=>ble_of (by simp; omega)
  have hbl2:∀ y,Nat.ble (st.length - ar n + ([y]:List tWide.T).length) maxN = true:=fun y=>ble_of (by simp; omega)
  obtain ⟨e1,e2⟩:=at_mid h rfl
  have ewi:IntKind.i64.wrap (((flats st).length:Int) + 1) = ((flats st).length:Int) + 1:=wrap_i64 (by omega) (by omega)
  have hstep:(stepT st n).map (fun t=>mk (ev u p.2.1 q t)) = (st.map fun t=>mk (ev u p.2.1 q t)).take (st.length - ar n) ++ [mk (ev u p.2.1 q (topT st n))]:=by
   unfold stepT; simp [List.map_take]
  have IH:=ih (stepT st n) (out ++ [mk (ev u p.2.1 q (topT st n))]) fu (by rw [hfs,h]; simp) ho.2 (by simp; omega) (by
   intro t ht
   rcases List.mem_append.1 ht with ht | ht
   ·exact hI t (List.mem_of_mem_take ht)
   ·rw [List.mem_singleton.1 ht]; exact s1) (by
   intro t ht
   rcases List.mem_append.1 ht with ht | ht
   ·exact hv t (List.mem_of_mem_take ht)
   ·rw [List.mem_singleton.1 ht]; exact sd) (by
   simp only [firstE] at hm
   rw [show (magE u p.2.1 (topT st n) != 0) = false by simpa using hE] at hm
   exact firstE_none 0 hm) (by
   simp only [firstE] at ht
   rw [show (tyE (topT st n) != 0) = false by simpa using hT] at ht
   exact firstE_none 0 ht) (fun t ht=>hdp t (by simp [ht])) (by simp at hf; omega)
  rw [hstep,hfl,show (((flats st).length + (0 + 1):Nat):Int) = ((flats st).length:Int) + 1 by omega] at IH
  simp only [List.append_assoc,List.singleton_append] at IH
  simp only [octroiref10_Values.l14,octroiref10_Values.l14.body,decide_eq_true (show (((flats st).length:Int) < (p.2.2.2.length:Int)) by omega),cond_true,e1,Int.toNat_natCast,e2]
  rw [rtakes_ok F g1 g4,oB_some]
  simp only [hl,ew,hb1,hb2,htk,cond_true,hdm,ewi]
  have hev:ev u p.2.1 q (topT st n) = evN u p.2.1 q n ((st.drop (st.length - ar n)).map (ev u p.2.1 q)):=by unfold topT; rw [ev_nd]
  by_cases ha:ar n = 0
  ·rw [show (((st.length - ar n:Nat):Int) == (st.length:Int)) = true by rw [beq_iff_eq]; omega]
   have hlf:=tleaf_eq F (by omega) hu hu2 hD hd4 ho.1 hq ha
   have hv0:evN u p.2.1 q n [] = ev u p.2.1 q (topT st n):=by
    rw [hev,ha,Nat.sub_zero,List.drop_of_length_le (Nat.le_refl _)]; rfl
   rw [hv0] at hlf
   simp only [cond_true]
   rw [hlf,oB_some]
   simp only [hbl1,hbl2,cond_true]
   exact IH
  ·rw [show (((st.length - ar n:Nat):Int) == (st.length:Int)) = false by rw [beq_eq_false_iff_ne]; omega]
   have hfar:farN n (magN u p.2.1 n ((st.drop (st.length - ar n)).map (mag u p.2.1))) ≤ BND:=by
    have hm2:mag u p.2.1 (topT st n) = magN u p.2.1 n ((st.drop (st.length - ar n)).map (mag u p.2.1)):=by unfold topT; rw [mag_nd]
    rw [← hm2]
    unfold magE at hE
    rw [show (topT st n).root = n from rfl] at hE
    cases hx:decide (farN n (mag u p.2.1 (topT st n)) > BND) with
    | true=>rw [hx] at hE; exact absurd (show (90:Int) = 0 from hE) (by decide)
    | false=>have:=of_decide_eq_false hx; omega
   have hin:=tinner_eq F (by omega) hu hu2 hd4 ho.1 (q:=q) (ks:=st.drop (st.length - ar n)) (V:=ev u p.2.1 q) (M:=mag u p.2.1) (kids_of_inv (fun t ht=>hI t (List.mem_of_mem_drop ht))) (by simp; omega) (by omega) hfar
    (fun h15=>off_whole ho.1 hT hdt hv h15)
   rw [← hev] at hin
   simp only [cond_false]
   rw [hin,oB_some]
   simp only [hbl1,hbl2,cond_true]
   exact IH
theorem rqty_rg (F:Nat) {R:Type} (k0:List tWide.T→Int→Option R) (k1:List Int→tPlan.T→tWide.T→Option R) (q:List Int) (p:tPlan.T) (u:tWide.T):∀ (xs:List Int) (i:Int),
  octroiref10_Values.l7.rg F k0 (fun q _ _ p u=>k1 q p u) q xs i p u = bif xs.any qB then k0 [] 101 else k1 q p u
 | [],i=>rfl
 | x :: r,i=>by
  rw [octroiref10_Values.l7.rg,rqty_rg F k0 k1 q p u r,List.any_cons]
  unfold qB
  cases decide (x < 0) with
  | true=>rfl
  | false=>cases decide (x > 1099511627776) <;> rfl
theorem rValues_gen (F:Nat) (hF:4096 < F) {p:tPlan.T} {t:Tree} (h:Good p t) (q:List Int) (hU:octroiref09_Unit.sh F p = some (((unitR p.2.1 t).1,(unitR p.2.1 t).2.1,(unitR p.2.1 t).2.2,()),())):octroiref10_Values.sh F p q = some (((valsR p.2.1 t q).1,(valsR p.2.1 t q).2,()),()):=by
 unfold octroiref10_Values.sh valsR
 rw [hU,oB_some]
 cases hu:((unitR p.2.1 t).2.2 != 0) with
 | true=>simp only [cond_true,hu]
 | false =>
  have hu':(unitR p.2.1 t).2.2 = 0:=by simpa using hu
  obtain ⟨u1,u2,u3,u4,u5⟩:=unit_ok h hu'
  simp only [cond_false,hu]
  cases hql:((q.length:Int) != (p.2.1.length:Int)) with
  | true=>rfl
  | false =>
   have hql:(q.length:Int) = (p.2.1.length:Int):=by simpa using hql
   have hh:=headE_dims h.head
   have hl:=h.len
   simp only [cond_false]
   refine Eq.trans (octroiref10_Values.l7.rg_eq F _ _ q (by omega) q 0 F _ _ (by simp) (by omega)) ?_
   refine (rqty_rg F (fun r42 r52=>(some ((r42,r52,()),()):Option octroiref10_Values.sg.R)) (fun q3 p3 unit3=>octroiref10_Values.l14 F (fun q7 i7 t537 p7 unit7 out7 pile7=>octroiref10_Values.j24 F (fun r48 r58=>some ((r48,r58,()),())) out7) F q3 0 p3 unit3 ([]) ([])) q p _ q _).trans ?_
   cases hqa:q.any qB with
   | true=>rfl
   | false =>
    simp only [cond_false]
    have hub:=unitV_bd u1
    rw [u5]
    have e:=rvalues_l14 F hF (deep_bd t).1 (show unitV t = 10000 ^ (deep t).toNat from rfl) hub.1 hub.2 hh.2.2.1 hh.2.1 hl (okQ_of (by omega) hqa) (fun out=>(some ((out,0,()),()):Option octroiref10_Values.sg.R)) p.2.2.2 [] [] F (by simp [flats]) h.ok (by simp) (by simp) (by simp)
     (by rw [h.subs]; exact u4) (by rw [h.subs]; exact u2) (by rw [h.subs]; exact deep_subs t) (by omega)
    rw [show (flats []).length = 0 from rfl,show ((0:Nat):Int) = 0 from rfl,h.subs] at e
    exact e
theorem rValues_eq {p:tPlan.T} {t:Tree} (h:Good p t) (q:List Int):octroiref10_Values.sh FU p q = some (((valsR p.2.1 t q).1,(valsR p.2.1 t q).2,()),()):=rValues_gen FU FU_big h q (rUnit_eq h)
theorem rValues_bad {p:tPlan.T} (h:(checkS p).2 ≠ 0) (q:List Int):octroiref10_Values.sh FU p q = some (([],(checkS p).2,()),()):=by
 unfold octroiref10_Values.sh
 rw [rUnit_bad h,oB_some]
 rw [show ((checkS p).2 != 0) = true by simpa using h]
 rfl
theorem rExact_eq {p:tPlan.T} {t:Tree} (h:Good p t) (q:List Int):octroiref10_Exact.sh FU p q = some (((exactR p.2.1 t q).1,(exactR p.2.1 t q).2,()),()):=by
 have e:=Exact_eq h q
 unfold eval_Exact.sh at e
 rw [Values_eq h,oB_some] at e
 unfold octroiref10_Exact.sh
 rw [rValues_eq h,oB_some]
 exact e
theorem rExact_bad {p:tPlan.T} (h:(checkS p).2 ≠ 0) (q:List Int):octroiref10_Exact.sh FU p q = some (((0,0),(checkS p).2,()),()):=by
 unfold octroiref10_Exact.sh
 rw [rValues_bad h,oB_some]
 rw [show ((checkS p).2 != 0) = true by simpa using h]
 rfl
theorem rPrice_eq {p:tPlan.T} {t:Tree} (h:Good p t) (q:List Int):octroiref10_Price.sh FU p q = some (((priceR p.2.2.1 p.2.1 t q).1,(priceR p.2.2.1 p.2.1 t q).2,()),()):=by
 unfold octroiref10_Price.sh priceR
 rw [rExact_eq h,oB_some]
 cases hx:((exactR p.2.1 t q).2 != 0) with
 | true=>simp only [cond_true,hx]
 | false =>
  have hx':(exactR p.2.1 t q).2 = 0:=by simpa using hx
  obtain ⟨x1,x2⟩:=exact_ok hx'
  obtain ⟨v1,v2,v3,v4⟩:=vals_ok x1
  obtain ⟨u1,u2,u3,u4,u5⟩:=unit_ok h v1
  have hh:=headE_dims h.head
  have hub:=unitV_bd u1
  have hI:=plan_inv h x1 t (subs_self t)
  have hBND:BND = 1329227995784915872903807060280344576:=rfl
  have i1:=hI.lo
  have i2:=hI.hi
  have i3:=hI.bd
  simp only [cond_false,hx]
  rw [x2,rUnit_eq h,oB_some,u5]
  have htq:=tq_bd (a:=ev (unitV t) p.2.1 q t) (b:=unitV t) (by omega)
  have hdv:=divM_bd (m:=p.2.2.1) (a:=ev (unitV t) p.2.1 q t) (b:=unitV t) (by omega)
  have hR:octroiref10_Rounded.sh FU (mk (ev (unitV t) p.2.1 q t)) (mk (unitV t)) p.2.2.1 = some (((roundR p.2.2.1 (ev (unitV t) p.2.1 q t) (unitV t)).1,(roundR p.2.2.1 (ev (unitV t) p.2.1 q t) (unitV t)).2,()),()):=by
   unfold octroiref10_Rounded.sh
   rw [rdiv_eq FU (by decide) (by rw [inR_iff]; omega) (by rw [inR_iff]; omega) (by omega) (by rw [inR_iff]; omega) hh.2.2.2.2.1 hh.2.2.2.2.2,oB_some]
   have hi:inR (divM p.2.2.1 (ev (unitV t) p.2.1 q t) (unitV t)) = true:=by rw [inR_iff]; omega
   have hrt:=round_tail FU hi (fun a b=>(some ((a,b,()),()):Option octroiref10_Rounded.sg.R))
   rw [int_eq FU hi] at hrt
   simp only [bne_self_eq_false,cond_false]
   rw [rint_eq FU hi]
   refine hrt.trans ?_
   unfold roundR
   cases (decide (divM p.2.2.1 (ev (unitV t) p.2.1 q t) (unitV t) < -1000000000000000) || decide (divM p.2.2.1 (ev (unitV t) p.2.1 q t) (unitV t) > 1000000000000000)) <;> rfl
  rw [hR,oB_some]
theorem rPrice_bad {p:tPlan.T} (h:(checkS p).2 ≠ 0) (q:List Int):octroiref10_Price.sh FU p q = some ((0,(checkS p).2,()),()):=by
 unfold octroiref10_Price.sh
 rw [rExact_bad h,oB_some]
 rw [show ((checkS p).2 != 0) = true by simpa using h]
 rfl
theorem price_both (p:tPlan.T) (q:List Int):∃ x e,eval_Price.sh FU p q = some ((x,e,()),())∧octroiref10_Price.sh FU p q = some ((x,e,()),()):=by
 by_cases h:(checkS p).2 = 0
 ·obtain ⟨t,ht⟩:=check_ok h
  exact ⟨_,_,Price_eq ht q,rPrice_eq ht q⟩
 ·exact ⟨_,_,Price_bad h q,rPrice_bad h q⟩
theorem prices_l4 {R:Type} (k0:Bool→Option R) (k1:Option R) (p:tPlan.T) (L:List (List Int)):∀ (n i fu:Nat),i + n = 64→n < fu→octroilaw10_EvalPrices.l4 FU k0 (fun _ _ _ _=>k1) fu L (i:Int) p = k1
 | n,i,0,hn,hf=>by omega
 | n,i,fu + 1,hn,hf=>by
  simp only [octroilaw10_EvalPrices.l4,octroilaw10_EvalPrices.l4.body]
  by_cases h1:(i:Int) < (L.length:Int)
  ·rw [decide_eq_true h1]
   by_cases h2:(i:Int) < 64
   ·obtain ⟨m,rfl⟩:∃ m,n = m + 1:=⟨n - 1,by omega⟩
    have IH:=prices_l4 k0 k1 p L m (i + 1) fu (by omega) (by omega)
    rw [decide_eq_true h2,rg_idx (show i < L.length by omega),Int.toNat_natCast]
    obtain ⟨x,e,e1,e2⟩:=price_both p (get (.sl (.int .i64)) L i)
    simp only [cond_true]
    rw [e1,oB_some,e2,oB_some,wrap_i64 (n:=(i:Int) + 1) (by omega) (by omega)]
    simp only [bne_self_eq_false,cond_false]
    exact IH
   ·rw [decide_eq_false h2]; rfl
  ·rw [decide_eq_false h1]; rfl
theorem prices_law (p:tPlan.T) (L:List (List Int)):octroilaw10_EvalPrices.sh FU p L = some ((true,()),()):=by
 unfold octroilaw10_EvalPrices.sh
 rw [awake_eq,oB_some]
 simp only [Bool.not_true,cond_false]
 exact prices_l4 (fun r44=>some ((r44,()),())) (some ((true,()),())) p L 64 0 FU (by omega) (by decide)
end Go.VS
