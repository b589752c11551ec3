import Derived.Test.YthekefnghiaocaaGreatDoorM9
set_option linter.unusedVariables false
set_option linter.unusedSimpArgs false
set_option linter.unusedSectionVars false
set_option linter.unusedVariables false
set_option linter.unusedSimpArgs false
set_option maxRecDepth 100000
namespace Go.VS
open Go
theorem cmp_bnd (F:Nat) (hF:20 < F) {x:Int} (h1:0 ≤ x) (h2:x < 170141183460469231731687303715884105728):∃ c,octroiref01_Cmp.sh F (mk x) (72057594037927936,0) = some ((c,()),())∧decide (c > 0) = decide (x > BND):=by
 have hB:val (72057594037927936,0) = BND:=rfl
 rw [rcmp_eq F hF (wf_mk (by rw [inR_iff]; omega)) (by simp [wfW])]
 refine ⟨_,rfl,?_⟩
 rw [val_mk,hB]
 unfold cmpZ
 rcases Int.lt_trichotomy x BND with h | h | h
 ·rw [if_pos h,decide_eq_false (show ¬ ((-1:Int) > 0) by decide),decide_eq_false (show ¬ (x > BND) by omega)]
 ·rw [if_neg (show ¬ x < BND by omega),if_pos h,decide_eq_false (show ¬ ((0:Int) > 0) by decide),decide_eq_false (show ¬ (x > BND) by omega)]
 ·rw [if_neg (show ¬ x < BND by omega),if_neg (show ¬ x = BND by omega),decide_eq_true (show ((1:Int) > 0) by decide),decide_eq_true (show (x > BND) by omega)]
theorem rmags_l11 (F:Nat) (hF:4096 < F) {R:Type} {u:Int} (hu:1 ≤ u) (hu2:u ≤ 1000000000000000000000000) {p:tPlan.T} (hD:dE [] p.2.1 = 0) (hd4:p.2.1.length ≤ 4) (hL:p.2.2.2.length ≤ 1024) (kE:List tWide.T→Int→Int→Option R) (kO:List tWide.T→Option R):∀ (xs:List tNode.T) (st:List Tree) (out:List tWide.T) (fu:Nat),p.2.2.2 = flats st ++ xs→okS p.2.1.length st xs→out.length ≤ (flats st).length→(∀ t ∈ st,0 ≤ mag u p.2.1 t∧mag u p.2.1 t ≤ BND)→xs.length < fu →
  octroiref09_Mags.l11 F kE (fun _ _ _ _ out _=>kO out) fu ((flats st).length:Int) p (mk u) out (st.map fun t=>(mk (mag u p.2.1 t),false)) =
   match firstE (magE u p.2.1) (news st xs) (flats st).length with
   | some (j,e)=>kE [] (j:Int) 90
   | none=>kO (out ++ (news st xs).map fun t=>mk (mag u p.2.1 t)):=by
 intro xs
 induction xs with
 | nil =>
  intro st out fu h ho hout hb hf
  obtain ⟨fu,rfl⟩:∃ j,fu = j + 1:=⟨fu - 1,by simp at hf; omega⟩
  have:p.2.2.2.length = (flats st).length:=by rw [h]; simp
  simp only [octroiref09_Mags.l11,octroiref09_Mags.l11.body,decide_eq_false (show ¬ (((flats st).length:Int) < (p.2.2.2.length:Int)) by omega),cond_false,news,firstE,List.map_nil,List.append_nil]
 | cons n xs ih =>
  intro st out fu h ho hout hb hf
  obtain ⟨fu,rfl⟩:∃ j,fu = j + 1:=⟨fu - 1,by simp at hf; omega⟩
  have hlen:p.2.2.2.length = (flats st).length + (xs.length + 1):=by rw [h]; simp
  obtain ⟨g1,g2,g3,g4,g5,g6,g7,g8⟩:=nodeE_ok ho.1
  have hst:=len_flats st
  have hfs:=flats_step st n
  have hfl:=congrArg List.length hfs
  simp only [List.length_append,List.length_cons,List.length_nil] at hfl
  have hdr:∀ t ∈ st.drop (st.length - ar n),0 ≤ mag u p.2.1 t∧mag u p.2.1 t ≤ BND:=fun t ht=>hb t (List.mem_of_mem_drop ht)
  have hmm:mag u p.2.1 (topT st n) = magN u p.2.1 n ((st.drop (st.length - ar n)).map (mag u p.2.1)):=by unfold topT; rw [mag_nd]
  obtain ⟨r,q1,q2⟩:=nmag_eq F (by omega) hu hu2 hD hd4 ho.1 (vs:=(st.drop (st.length - ar n)).map (mag u p.2.1)) (by simp; omega) (by
   intro v hv
   obtain ⟨t,ht,rfl⟩:=List.mem_map.1 hv
   exact hdr t ht)
  rw [← hmm] at q2
  have hl:(st.map fun t=>(mk (mag u p.2.1 t),false)).length = st.length:=by simp
  have hE:magE u p.2.1 (topT st n) = bif decide (farN n (mag u p.2.1 (topT st n)) > BND) then 90 else 0:=rfl
  have hdm:(st.map fun t=>(mk (mag u p.2.1 t),false)).drop (st.length - ar n) = ((st.drop (st.length - ar n)).map (mag u p.2.1)).map fun v=>(mk v,false):=by
   rw [← List.map_drop,List.map_map]; rfl
  have ew:=wrap_sub g7 (by omega)
  have hb1:=bounds_lo (show st.length - ar n ≤ st.length by omega)
  have hb2:=bounds_hi (show st.length - ar n ≤ st.length by omega)
  have htk:(st.map fun t=>(mk (mag u p.2.1 t),false)).take st.length = st.map fun t=>(mk (mag u p.2.1 t),false):=List.take_of_length_le (by omega)
  have hbl1:∀ y,Nat.ble (out.length + ([y]:List tWide.T).length) maxN = true:=fun y=>ble_of (by simp; omega)
  have hbl2:∀ y,Nat.ble (st.length - ar n + ([y]:List tBound_meter.T).length) maxN = true:=fun y=>ble_of (by simp; omega)
  obtain ⟨e1,e2⟩:=at_mid h rfl
  have ewi:IntKind.i64.wrap (((flats st).length:Int) + 1) = ((flats st).length:Int) + 1:=wrap_i64 (by omega) (by omega)
  have hgo:∀ v,v = mag u p.2.1 (topT st n)→0 ≤ v→farN n v ≤ BND→octroiref09_Mags.l11 F kE (fun _ _ _ _ out _=>kO out) fu (((flats st).length:Int) + 1) p (mk u) (out ++ [mk v]) ((st.map fun t=>(mk (mag u p.2.1 t),false)).take (st.length - ar n) ++ [(mk v,false)]) =
    match firstE (magE u p.2.1) (news (stepT st n) xs) ((flats st).length + 1) with
    | some (j,e)=>kE [] (j:Int) 90
    | none=>kO (out ++ (news st (n :: xs)).map fun t=>mk (mag u p.2.1 t)):=by
   rintro v rfl h0 hfar
   have hle:mag u p.2.1 (topT st n) ≤ BND:=by
    unfold farN at hfar
    cases h15:(nK n == 15) with
    | true=>rw [h15] at hfar; simp only [cond_true] at hfar; omega
    | false=>rw [h15] at hfar; exact hfar
   have hstep:(stepT st n).map (fun t=>(mk (mag u p.2.1 t),false)) = (st.map fun t=>(mk (mag u p.2.1 t),false)).take (st.length - ar n) ++ [(mk (mag u p.2.1 (topT st n)),false)]:=by
    unfold stepT; simp [List.map_take]
   have IH:=ih (stepT st n) (out ++ [mk (mag u p.2.1 (topT st n))]) fu (by rw [hfs,h]; simp) ho.2 (by simp; omega) (by
    intro t ht
    rcases List.mem_append.1 ht with ht | ht
    ·exact hb t (List.mem_of_mem_take ht)
    ·rw [List.mem_singleton.1 ht]; exact ⟨h0,hle⟩) (by simp at hf; omega)
   rw [hstep,hfl,show (((flats st).length + (0 + 1):Nat):Int) = ((flats st).length:Int) + 1 by omega] at IH
   refine IH.trans ?_
   simp only [List.append_assoc,List.singleton_append,news,List.map_cons]
  simp only [octroiref09_Mags.l11,octroiref09_Mags.l11.body,decide_eq_true (show (((flats st).length:Int) < (p.2.2.2.length:Int)) by omega),cond_true,e1,Int.toNat_natCast,e2]
  rw [rtakes_ok F g1 g4]
  simp only [oB_some,hl,ew,hb1,hb2,htk,cond_true,hdm,ewi]
  rw [q1]
  simp only [oB_some,hbl1,hbl2,cond_true]
  rw [show news st (n :: xs) = topT st n :: news (stepT st n) xs from rfl] at hgo ⊢
  simp only [firstE,hE]
  rw [show (n.1 == 15) = (nK n == 15) from rfl]
  rw [nof_eq F (v:=10000) (by omega) (by omega)]
  simp only [oB_some]
  rw [show octroiref09_Bound.sh F = some (((72057594037927936,0),()),()) from rfl]
  simp only [oB_some]
  cases h15:(nK n == 15) with
  | true =>
   have hsm:mag u p.2.1 (topT st n) ≤ BND:=by
    have ea:ar n = 1:=by rw [ar_of (show nK n = 15 by simpa using h15)]; rfl
    rw [hmm,show ∀ vs,magN u p.2.1 n vs = vs.getD 0 0 from fun vs=>by unfold magN; rw [show nK n = 15 by simpa using h15]; rfl]
    exact (getD_bd (b:=BND) (l:=(st.drop (st.length - ar n)).map (mag u p.2.1)) (by
     intro v hv
     obtain ⟨t,ht,rfl⟩:=List.mem_map.1 hv
     exact hdr t ht) (i:=0) (by simp; omega)).2
   rw [BND_eq] at hsm
   have h0:=q2.1
   obtain rfl:=q2.small (by omega)
   obtain ⟨r2,q3,q4⟩:=nby_eq F (by omega) (x:=mag u p.2.1 (topT st n)) (y:=10000) h0 (by omega) (NR.ok (by omega) (by omega)) (.inr rfl)
   rw [q3]
   simp only [oB_some,cond_true]
   have hfarE:farN n (mag u p.2.1 (topT st n)) = mag u p.2.1 (topT st n) * 10000:=by unfold farN; rw [h15]; rfl
   rcases q4.2.2 with ⟨c1,c2⟩ | ⟨rfl,c2⟩
   ·rw [c1,hfarE,decide_eq_true (show mag u p.2.1 (topT st n) * 10000 > BND by rw [BND_eq]; omega)]
    rfl
   ·obtain ⟨c,d1,d2⟩:=cmp_bnd F (by omega) (x:=mag u p.2.1 (topT st n) * 10000) (by omega) c2
    rw [d1]
    simp only [oB_some,d2,cond_false]
    rw [← hfarE]
    cases hfar:decide (farN n (mag u p.2.1 (topT st n)) > BND) with
    | true=>rfl
    | false =>
     have hfar:=of_decide_eq_false hfar
     exact hgo _ rfl h0 (by omega)
  | false =>
   simp only [cond_false]
   have hfarE:farN n (mag u p.2.1 (topT st n)) = mag u p.2.1 (topT st n):=by unfold farN; rw [h15]; rfl
   have h0:=q2.1
   rcases q2.2.2 with ⟨c1,c2⟩ | ⟨rfl,c2⟩
   ·rw [c1,hfarE,decide_eq_true (show mag u p.2.1 (topT st n) > BND by rw [BND_eq]; omega)]
    rfl
   ·obtain ⟨c,d1,d2⟩:=cmp_bnd F (by omega) (x:=mag u p.2.1 (topT st n)) h0 c2
    rw [d1]
    simp only [oB_some,d2,cond_false]
    rw [hfarE]
    cases hfar:decide (mag u p.2.1 (topT st n) > BND) with
    | true=>rfl
    | false =>
     have hfar:=of_decide_eq_false hfar
     exact hgo _ rfl h0 (by rw [hfarE]; omega)
theorem rMags_eq {p:tPlan.T} {t:Tree} (h:Good p t):octroiref09_Mags.sh FU p = some (((magsR p.2.1 t).1,(magsR p.2.1 t).2.1,(magsR p.2.1 t).2.2,()),()):=by
 have hl:=h.len
 have hs:t.size = p.2.2.2.length:=by rw [Tree.size,h.flat]
 have hp:=size_pos t
 have hFU:FU = 4194304:=rfl
 unfold octroiref09_Mags.sh
 rw [rTypes_eq FU FU_big h]
 simp only [oB_some]
 unfold magsR unitR
 cases h1:((typesR t).2.2 != 0) with
 | true=>simp only [cond_true,h1]
 | false =>
  simp only [cond_false]
  rw [rScale_eq FU FU_big h]
  simp only [oB_some]
  rw [← hs,wrap_i64 (n:=(t.size:Int) - 1) (by omega) (by omega)]
  cases h2:decide (deep t > 6) with
  | true=>rfl
  | false =>
   have h2:=of_decide_eq_false h2
   have hd:=(deep_bd t).1
   have hu:=unitV_bd (t:=t) (by omega)
   have hh:=headE_dims h.head
   simp only [cond_false]
   rw [rpower_eq FU (by decide) hd (by omega)]
   simp only [oB_some]
   have e:=rmags_l11 FU FU_big hu.1 hu.2 hh.2.2.1 hh.2.1 hl (fun r212 r312 r412=>(some ((r212,r312,r412,()),()):Option octroiref09_Mags.sg.R)) (fun out13=>octroiref09_Mags.j22 FU (fun r214 r314 r414=>some ((r214,r314,r414,()),())) out13) p.2.2.2 [] [] FU (by simp [flats]) h.ok (by simp) (by simp) (by rw [hFU]; omega)
   rw [show (flats []).length = 0 from rfl,show ((0:Nat):Int) = 0 from rfl,h.subs] at e
   rw [show (10000:Int) ^ (deep t).toNat = unitV t from rfl]
   refine Eq.trans e ?_
   unfold measR
   cases firstE (magE (unitV t) p.2.1) t.subs 0 with
   | some x =>
    obtain ⟨j,e⟩:=x
    simp only []
    rw [decide_eq_true (show (j:Int) ≥ 0 by omega)]
    rfl
   | none =>
    simp only [List.nil_append]
    rw [decide_eq_false (show ¬ ((-1:Int)) ≥ 0 by omega)]
    rfl
theorem rMags_bad {p:tPlan.T} (h:(checkS p).2 ≠ 0):octroiref09_Mags.sh FU p = some (([],(checkS p).1,(checkS p).2,()),()):=by
 unfold octroiref09_Mags.sh
 rw [rTypes_bad FU FU_big h]
 simp only [oB_some]
 rw [show ((checkS p).2 != 0) = true by simpa using h]
 rfl
theorem rUnit_eq {p:tPlan.T} {t:Tree} (h:Good p t):octroiref09_Unit.sh FU p = some (((unitR p.2.1 t).1,(unitR p.2.1 t).2.1,(unitR p.2.1 t).2.2,()),()):=by
 unfold octroiref09_Unit.sh
 rw [rMags_eq h]
 simp only [oB_some]
 cases h1:((unitR p.2.1 t).2.2 != 0) with
 | true =>
  have hm:magsR p.2.1 t = ([],(unitR p.2.1 t).2.1,(unitR p.2.1 t).2.2):=by unfold magsR; rw [h1]; rfl
  rw [hm]
  simp only [h1,cond_true]
  have hz:(unitR p.2.1 t).1 = (0,0):=by
   unfold unitR at h1 ⊢
   cases a1:((typesR t).2.2 != 0) with
   | true=>rfl
   | false =>
    rw [a1] at h1
    cases a2:decide (deep t > 6) with
    | true=>rfl
    | false =>
     rw [a2] at h1
     cases a3:decide ((measR (unitV t) p.2.1 t).2 ≥ 0) with
     | true=>rfl
     | false=>rw [a3] at h1; exact absurd (show ((0:Int) != 0) = true from h1) (by decide)
  rw [hz]
 | false =>
  have h1:(unitR p.2.1 t).2.2 = 0:=by simpa using h1
  obtain ⟨a1,a2,a3,a4⟩:=unitR_ok h1
  have hm:(magsR p.2.1 t).2.2 = 0:=by unfold magsR; rw [h1]; rfl
  have hd:=(deep_bd t).1
  rw [hm]
  simp only [bne_self_eq_false,cond_false]
  rw [rScale_eq FU FU_big h]
  simp only [oB_some]
  rw [rpower_eq FU (by decide) hd (by omega),a4]
  rfl
theorem rUnit_bad {p:tPlan.T} (h:(checkS p).2 ≠ 0):octroiref09_Unit.sh FU p = some (((0,0),(checkS p).1,(checkS p).2,()),()):=by
 unfold octroiref09_Unit.sh
 rw [rMags_bad h]
 simp only [oB_some]
 rw [show ((checkS p).2 != 0) = true by simpa using h]
 rfl
end Go.VS
