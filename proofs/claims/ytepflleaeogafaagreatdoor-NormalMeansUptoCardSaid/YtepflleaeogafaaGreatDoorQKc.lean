/- Plain laws, joined from smaller texts. -/
import Derived.Test.YtepflleaeogafaaGreatDoorQKb
import Derived.Test.YtepflleaeogafaaGreatDoorQKa
set_option linter.unusedVariables false
set_option linter.unusedSimpArgs false
set_option linter.unusedSectionVars false
set_option maxRecDepth 100000
namespace Go.VS
open Go
theorem chainB_of:∀ (ps:List PZ),chainZ ps→chainB (ps.map wP) = true
 | [],h=>rfl
 | [p],h=>rfl
 | p :: p' :: r,h=>by
  have ih:=chainB_of (p' :: r) h.2
  obtain ⟨h1,h2,h3⟩:=h.1
  show (pairB (wP p) (wP p') && chainB ((p' :: r).map wP)) = true
  rw [ih,Bool.and_true]
  unfold pairB
  rw [show lineB (wP p).2 (wP p').2 = false by show lineB (wL p.2) (wL p'.2) = false; rw [lineB_w]; exact decide_eq_false h3]
  show (!decide (p.1 ≥ p'.1) && (!decide (p'.1 > 1099511627776) && !false)) = true
  rw [decide_eq_false (show ¬ p.1 ≥ p'.1 by omega),decide_eq_false (show ¬ p'.1 > 1099511627776 by omega)]
  rfl
theorem pF_map (ps:List PZ) (i:Nat) (hi:i < ps.length):pF (ps.map wP) i = (ps.getD i (0,z0)).1:=by
 unfold pF get
 rw [List.getD_eq_getElem?_getD,List.getD_eq_getElem?_getD,List.getElem?_map,List.getElem?_eq_getElem hi]
 rfl
theorem line_isAt:∀ (ps:List PZ) (q:Int) (k:Nat),chainZ ps→isAt (ps.map wP) q k→(get tPiece (ps.map wP) k).2 = wL (lineAt ps q)
 | [],q,k,hc,h=>by have:=h.1; simp at this
 | [p],q,k,hc,h=>by
  have:k = 0:=by have:=h.1; simp at this; exact this
  subst this; rfl
 | p :: p' :: r,q,k,hc,h=>by
  obtain ⟨h1,h2,h3⟩:=h
  rw [lineAt_two]
  have hcb:=chainB_of _ hc
  cases k with
  | zero =>
   have:=h3 1 (by omega) (by simp)
   have:q < p'.1:=this
   rw [decide_eq_false (show ¬ p'.1 ≤ q by omega)]
   rfl
  | succ k =>
   have hp:p'.1 ≤ q:=by
    have h4:pF ((p :: p' :: r).map wP) 1 = p'.1:=rfl
    rcases Nat.eq_zero_or_pos k with hk | hk
    ·subst hk; rw [← h4]; exact h2
    ·have:=chain_lt' hcb (i:=1) (j:=k + 1) (by omega) h1
     omega
   rw [decide_eq_true hp]
   exact line_isAt (p' :: r) q k hc.2 ⟨by simpa using h1,h2,fun j hj hl=>h3 (j + 1) (by omega) (by simpa using hl)⟩
theorem ps_tab {u S:Int} {d:tDim.T} {t:Tree} (hs:1 ≤ dS d) (hs2:dS d ≤ 1000000000000) (h:PS u S d t) {sc:Int} (h0:0 ≤ sc) (h6:sc ≤ 6):okTab (dS d,sc,(pcs u (dS d) t).map wP):=by
 have g:=h.1.pg
 have hl:=g.len
 have hne:0 < (pcs u (dS d) t).length:=List.length_pos_iff.2 g.ne
 refine ⟨hs,hs2,h0,h6,by simpa using hne,by simpa using hl,?_,chainB_of _ g.ch⟩
 rw [pF_map _ 0 hne]
 cases hp:pcs u (dS d) t with
 | nil=>rw [hp] at hne; simp at hne
 | cons p r=>exact g.hd p (by rw [hp]; rfl)
theorem ps_at (F:Nat) (hF:257 < F) {u S:Int} {d:tDim.T} {t:Tree} (hs:1 ≤ dS d) (hs2:dS d ≤ 1000000000000) (h:PS u S d t) {sc:Int} (h0:0 ≤ sc) (h6:sc ≤ 6) {q:Int} (q0:0 ≤ q) (q1:q ≤ 1099511627776) :
  normal_At.sh F (dS d,sc,(pcs u (dS d) t).map wP) q = some ((mk (ev u [d] [q] t),0,()),()):=by
 have g:=h.1.pg
 have hok:=ps_tab hs hs2 h h0 h6
 have hBND:BND = 1329227995784915872903807060280344576:=rfl
 have hLIM:LIM = 85070591730234615865843651857942052864:=rfl
 have hmb:=h.1.mb
 obtain ⟨k,hk⟩:=isAt_ex hok q0
 have hk':isAt ((pcs u (dS d) t).map wP) q k:=hk
 rw [at_eq F hF (t:=(dS d,sc,(pcs u (dS d) t).map wP)) (by
  intro p hp
  obtain ⟨x,hx,rfl⟩:=List.mem_map.1 hp
  have:=g.sp x hx
  exact wf_wL hs (show spanZ (dS d) x.2 ≤ LIM by omega)) hok q0 q1 hk]
 have hsp:=(g.at q).1
 rw [show (get tPiece ((dS d,sc,(pcs u (dS d) t).map wP):tTable.T).2.2 k).2 = wL (lineAt (pcs u (dS d) t) q) from line_isAt _ q k g.ch hk',show ((dS d,sc,(pcs u (dS d) t).map wP):tTable.T).1 = dS d from rfl,
  Value_eq F (fit_of hs hs2 q0 q1) (show spanZ (dS d) (lineAt (pcs u (dS d) t) q) ≤ LIM by omega),g.vl q q0 q1]
theorem means_l13 (F:Nat) {R:Type} (k0:Int→Bool→tPlan.T→tTable.T→List Int→Option R) (p:tPlan.T) (t:tTable.T) (hn:t.2.2.length ≤ 256):∀ (n i fu:Nat) (all:List Int),i + n = t.2.2.length→n < fu→all.length + 2 * n ≤ 1099511627776 →
  ∃ i' all',octroilaw12_NormalMeans.l13 F k0 fu (i:Int) p t all = k0 i' false p t all'
 | n,i,0,all,h,hf,hb=>by omega
 | 0,i,fu + 1,all,h,hf,hb=>by
  refine ⟨(i:Int),all,?_⟩
  simp only [octroilaw12_NormalMeans.l13,octroilaw12_NormalMeans.l13.body]
  rw [decide_eq_false (show ¬ (i:Int) < (t.2.2.length:Int) by omega)]
  rfl
 | n + 1,i,fu + 1,all,h,hf,hb=>by
  simp only [octroilaw12_NormalMeans.l13,octroilaw12_NormalMeans.l13.body]
  rw [decide_eq_true (show (i:Int) < (t.2.2.length:Int) by omega),rg_idx (show i < t.2.2.length by omega)]
  simp only [cond_true]
  have hble:∀ a b:Int,Nat.ble (all.length + ([a,b]:List Int).length) maxN = true:=fun a b=>by
   rw [Nat.ble_eq]
   have:maxN = 1099511627776:=rfl
   simp only [List.length_cons,List.length_nil]
   omega
  rw [hble,wrap_i64 (n:=(i:Int) + 1) (by omega) (by omega),show (i:Int) + 1 = ((i + 1:Nat):Int) by omega]
  simp only [cond_true]
  exact means_l13 F k0 p t hn n (i + 1) fu _ (by omega) (by omega) (by simp; omega)
theorem means_l17 {R:Type} (k0 k1:Bool→Option R) (kT:Option R) (p:tPlan.T) (t:tTable.T) (h:∀ q:Int,(q < 0 ∨ q > 1099511627776)→(∃ v,normal_At.sh FU t q = some ((v,1,()),()))∧∃ v,eval_Exact.sh FU p [q] = some ((v,101,()),()))
  (h2:∀ q:Int,0 ≤ q→q ≤ 1099511627776→∃ v,normal_At.sh FU t q = some ((v,0,()),())∧eval_Exact.sh FU p [q] = some ((v,0,()),())) (all:List Int):∀ (n i fu:Nat),i + n = 1024→n < fu →
  octroilaw12_NormalMeans.l17 FU k0 k1 (fun _ _ _ _ _=>kT) fu all (i:Int) p t = kT
 | n,i,0,hn,hf=>by omega
 | n,i,fu + 1,hn,hf=>by
  simp only [octroilaw12_NormalMeans.l17,octroilaw12_NormalMeans.l17.body]
  by_cases h1:(i:Int) < (all.length:Int)
  ·rw [decide_eq_true h1]
   by_cases h3:(i:Int) < 1024
   ·obtain ⟨m,rfl⟩:∃ m,n = m + 1:=⟨n - 1,by omega⟩
    have IH:=means_l17 k0 k1 kT p t h h2 all m (i + 1) fu (by omega) (by omega)
    rw [decide_eq_true h3,rg_idx (show i < all.length by omega),Int.toNat_natCast]
    simp only [cond_true]
    generalize get (.int .i64) all i = q
    have hw:IntKind.i64.wrap ((i:Int) + 1) = ((i + 1:Nat):Int):=by rw [wrap_i64 (by omega) (by omega)]; omega
    by_cases hq0:q < 0
    ·obtain ⟨⟨v,e1⟩,w,e2⟩:=h q (.inl hq0)
     rw [e1,oB_some,e2,oB_some,decide_eq_true hq0,hw]
     exact IH
    ·by_cases hq1:q > 1099511627776
     ·obtain ⟨⟨v,e1⟩,w,e2⟩:=h q (.inr hq1)
      rw [e1,oB_some,e2,oB_some,decide_eq_false hq0,decide_eq_true hq1,hw]
      exact IH
     ·obtain ⟨v,e1,e2⟩:=h2 q (Int.not_lt.1 hq0) (Int.not_lt.1 hq1)
      rw [e1,oB_some,e2,oB_some,decide_eq_false hq0,decide_eq_false hq1,hw]
      simp only [bne_self_eq_false,beq_self_eq_true,cond_false,Bool.and_self,Bool.not_true]
      exact IH
   ·rw [decide_eq_false h3]; rfl
  ·rw [decide_eq_false h1]; rfl
theorem tabR_err {d:tDim.T} {t:Tree} (h:(tabR d t).2.2 ≠ 0):(tabR d t).1 = (0,0,[])∧(tabR d t).2.2 = 120∧0 ≤ (tabR d t).2.1∧(tabR d t).2.1 < (t.subs.length:Int):=by
 have hlt:∀ (l:List Tree) (i:Nat) (x:Nat×Int),firstE (pcE (unitV t) (dS d)) l i = some x→x.1 < i + l.length:=by
  intro l
  induction l with
  | nil=>intro i x hx; cases hx
  | cons a r ih =>
   intro i x hx
   simp only [firstE] at hx
   cases he:(pcE (unitV t) (dS d) a != 0) with
   | true=>rw [he] at hx; simp only [cond_true,Option.some.injEq] at hx; rw [← hx]; simp
   | false =>
    rw [he] at hx
    have:=ih (i + 1) x hx
    simp only [List.length_cons]; omega
 unfold tabR at h ⊢
 cases hf:firstE (pcE (unitV t) (dS d)) t.subs 0 with
 | none=>rw [hf] at h; exact absurd rfl h
 | some x =>
  have:=hlt _ _ x hf
  exact ⟨rfl,rfl,Int.natCast_nonneg _,by show (x.1:Int) < _; omega⟩
theorem tabR_okay {d:tDim.T} {t:Tree} (h:(tabR d t).2.2 = 0):tabR d t = ((dS d,deep t,(pcs (unitV t) (dS d) t).map wP),0,0):=by
 unfold tabR at h ⊢
 cases hf:firstE (pcE (unitV t) (dS d)) t.subs 0 with
 | none=>rfl
 | some x=>rw [hf] at h; exact absurd (show (120:Int) = 0 from h) (by decide)
theorem means_law (p:tPlan.T) (L:List Int) (hL:L.length ≤ 1048576):octroilaw12_NormalMeans.sh FU p L = some ((true,()),()):=by
 have hFU:FU = 4194304:=rfl
 unfold octroilaw12_NormalMeans.sh
 rw [awake_eq,oB_some]
 simp only [Bool.not_true,cond_false]
 by_cases h:(checkS p).2 = 0
 ·obtain ⟨t,ht⟩:=check_ok h
  have hh:=headE_dims ht.head
  rw [Table_eq ht,oB_some]
  cases he:((tableR p.2.1 t).2.2 != 0) with
  | true =>
   have he':(tableR p.2.1 t).2.2 ≠ 0:=by simpa using he
   simp only [cond_true]
   rw [Mags_eq ht,oB_some]
   cases hu:((unitR p.2.1 t).2.2 != 0) with
   | true =>
    have e1:magsR p.2.1 t = ([],(unitR p.2.1 t).2.1,(unitR p.2.1 t).2.2):=by unfold magsR; rw [hu]; rfl
    have e2:tableR p.2.1 t = ((0,0,[]),(unitR p.2.1 t).2.1,(unitR p.2.1 t).2.2):=by unfold tableR; rw [hu]; rfl
    rw [e1,e2]
    simp only [hu,beq_self_eq_true,cond_true]
    rfl
   | false =>
    have e1:(magsR p.2.1 t).2.2 = 0:=by unfold magsR; rw [hu]; rfl
    rw [e1]
    simp only [bne_self_eq_false,cond_false]
    cases hD:((p.2.1.length:Int) != 1) with
    | true =>
     have e2:tableR p.2.1 t = ((0,0,[]),-1,100):=by unfold tableR; rw [hu,hD]; rfl
     have hD':(p.2.1.length:Int) ≠ 1:=by simpa using hD
     rw [e2,decide_eq_true (show (p.2.1.length:Int) > 1 by omega)]
     rfl
    | false =>
     have e2:tableR p.2.1 t = tabR (p.2.1.getD 0 (ByteArray.empty,0)) t:=by unfold tableR; rw [hu,hD]; rfl
     have hD':(p.2.1.length:Int) = 1:=by simpa using hD
     rw [e2] at he' ⊢
     obtain ⟨t1,t2,t3,t4⟩:=tabR_err he'
     rw [subs_len,ht.flat] at t4
     rw [t1,t2,decide_eq_true t3,decide_eq_true t4,hD']
     rfl
  | false =>
   have he':(tableR p.2.1 t).2.2 = 0:=by simpa using he
   obtain ⟨d,hd,hs,hs2,hps⟩:=Table_ps ht he'
   have hu:(unitR p.2.1 t).2.2 = 0:=by
    cases hu:((unitR p.2.1 t).2.2 != 0) with
    | false=>simpa using hu
    | true=>unfold tableR at he'; rw [hu] at he'; have:(unitR p.2.1 t).2.2 = 0:=he'; exact this
   obtain ⟨u1,u2,u3,u4,u5⟩:=unit_ok ht hu
   have hub:=unitV_bd u1
   have hdp:=(deep_bd t).1
   have e2:tableR p.2.1 t = tabR d t:=by
    unfold tableR; rw [hu,hd]; rfl
   have e3:tableR p.2.1 t = ((dS d,deep t,(pcs (unitV t) (dS d) t).map wP),0,0):=by rw [e2]; exact tabR_okay (by rw [← e2]; exact he')
   have hok:=ps_tab hs hs2 hps hdp u1
   simp only [cond_false]
   rw [e3]
   rw [check12_eq FU (by omega),oB_some,tableB_iff.2 hok,show ((p.2.1.length:Int) != 1) = false by rw [hd]; rfl,show idx 0 p.2.1.length = true by rw [hd]; rfl,show (get tDim p.2.1 0).2 = dS d by rw [hd]; rfl]
   have hble:Nat.ble (([0,1099511627776]:List Int).length + L.length) maxN = true:=by
    rw [Nat.ble_eq]
    have:maxN = 1099511627776:=rfl
    simp only [List.length_cons,List.length_nil]
    omega
   simp only [bne_self_eq_false,Bool.not_true,cond_false,cond_true,hble]
   have hlen:((pcs (unitV t) (dS d) t).map wP).length ≤ 256:=by simpa using hps.1.pg.len
   obtain ⟨i',all',e13⟩:=means_l13 FU (fun i5 t1155 p5 t5 all5=>octroilaw12_NormalMeans.j16 FU (fun r411=>some ((r411,()),())) (fun r412=>some ((r412,()),())) (fun r413=>(some ((r413,()),()):Option octroilaw12_NormalMeans.sg.R)) all5 p5 t5) p (dS d,deep t,(pcs (unitV t) (dS d) t).map wP) hlen _ 0 FU
    (([0,1099511627776]:List Int) ++ L) (Nat.zero_add _) (by show ((pcs (unitV t) (dS d) t).map wP).length < FU; omega) (by show (([0,1099511627776]:List Int) ++ L).length + 2 * ((pcs (unitV t) (dS d) t).map wP).length ≤ _; simp only [List.length_append,List.length_cons,List.length_nil]; omega)
   refine e13.trans ?_
   have hv0:∀ q:Int,qB q = false→exactR p.2.1 t [q] = (mk (ev (unitV t) [d] [q] t),0):=fun q hq=>by
    unfold exactR valsR
    rw [hu,hd]
    simp only [List.any_cons,List.any_nil,hq]
    rfl
   have hv1:∀ q:Int,qB q = true→exactR p.2.1 t [q] = ((0,0),101):=fun q hq=>by
    unfold exactR valsR
    rw [hu,hd]
    simp only [List.any_cons,List.any_nil,hq]
    rfl
   refine means_l17 (fun r411=>some ((r411,()),())) (fun r412=>some ((r412,()),())) (some ((true,()),())) p _ (fun q hq=>⟨⟨_,at_bad FU (by omega) (.inr hq)⟩,?_⟩) (fun q q0 q1=>⟨_,ps_at FU (by omega) hs hs2 hps hdp u1 q0 q1,?_⟩) all' 1024 0 FU (by omega) (by omega)
   ·rw [Exact_eq ht,hv1 q (by unfold qB; rcases hq with hq | hq <;> simp [hq])]
    exact ⟨_,rfl⟩
   ·rw [Exact_eq ht,hv0 q (by unfold qB; rw [decide_eq_false (show ¬ q < 0 by omega),decide_eq_false (show ¬ q > 1099511627776 by omega)]; rfl)]
 ·rw [Table_bad h,oB_some,show ((checkS p).2 != 0) = true by simpa using h]
  simp only [cond_true]
  rw [Mags_bad h,oB_some,show ((checkS p).2 != 0) = true by simpa using h]
  simp only [cond_true,beq_self_eq_true]
  rfl
theorem sum_ones (l:List Int):(l.map (bulkT (.int .i64))).sum = l.length:=by
 induction l with
 | nil=>rfl
 | cons a r ih=>rw [List.map_cons,List.sum_cons,ih,List.length_cons]; simp [bulkT]; omega
theorem means_upto (x:TA octroilaw12_NormalMeans.sg.args) (hw:wfA octroilaw12_NormalMeans.sg.args x) (hb:bulkA octroilaw12_NormalMeans.sg.args x ≤ 1048576):octroilaw12_NormalMeans.sp FU x = some ((true,()),()):=by
 refine means_law x.1 x.2.1 ?_
 have h1:bulkA octroilaw12_NormalMeans.sg.args x = bulkT tPlan x.1 + ((List.map (bulkT (.int .i64)) x.2.1).sum + 1 + 0):=rfl
 rw [h1,sum_ones] at hb
 omega
end Go.VS
