import Derived.Test.YthekefnghiaocaaGreatDoorM8
set_option linter.unusedVariables false
set_option linter.unusedSimpArgs false
set_option linter.unusedSectionVars false
set_option linter.unusedVariables false
set_option linter.unusedSimpArgs false
set_option maxRecDepth 100000
namespace Go.VS
open Go
def NR (r:tBound_meter.T) (v:Int):Prop:=0 ≤ v∧wfW r.1∧((r.2 = true∧170141183460469231731687303715884105728 ≤ v) ∨ (r = (mk v,false)∧v < 170141183460469231731687303715884105728))
theorem NR.ok {v:Int} (h1:0 ≤ v) (h2:v < 170141183460469231731687303715884105728):NR (mk v,false) v:=⟨h1,wf_mk (by rw [inR_iff]; omega),.inr ⟨rfl,h2⟩⟩
theorem NR.of {v:Int} (h:0 ≤ v):NR (resW v,errW v != 0) v:=by
 refine ⟨h,wf_resW v,?_⟩
 rcases inR_pos h with ⟨i,b⟩ | ⟨i,b⟩
 ·rw [(res_in i).1,(res_in i).2]; exact .inr ⟨rfl,b⟩
 ·exact .inl ⟨res_out i,b⟩
theorem nof_eq (F:Nat) {v:Int} (h1:-9223372036854775808 ≤ v) (h2:v < 9223372036854775808):octroiref09_Of.sh F v = some (((mk v,false),()),()):=by
 unfold octroiref09_Of.sh
 rw [rof_eq F h1 h2]
 rfl
theorem nby_eq (F:Nat) (hF:20 < F) {x y:Int} (h1:0 ≤ x) (h2:x < 170141183460469231731687303715884105728) {b:tBound_meter.T} (hb:NR b y) (hx:1 ≤ x ∨ b.2 = false):∃ r,octroiref09_By.sh F (mk x,false) b = some ((r,()),())∧NR r (x * y):=by
 obtain ⟨b1,b2,b3⟩:=hb
 have hxy:=Int.mul_nonneg h1 b1
 unfold octroiref09_By.sh
 rw [rmul_eq F hF (wf_mk (by rw [inR_iff]; omega)) b2]
 simp only [oB_some,cond_false]
 rcases b3 with ⟨c1,c2⟩ | ⟨rfl,c2⟩
 ·rw [c1]
  refine ⟨_,rfl,hxy,wf_resW _,.inl ⟨rfl,?_⟩⟩
  rcases hx with hx | hx
  ·have:=mul_ge hx b1; omega
  ·rw [c1] at hx; cases hx
 ·simp only [val_mk,cond_false]
  exact ⟨_,rfl,NR.of hxy⟩
theorem nplus_eq (F:Nat) (hF:20 < F) {x y:Int} {a b:tBound_meter.T} (ha:NR a x) (hb:NR b y):∃ r,octroiref09_Plus.sh F a b = some ((r,()),())∧NR r (x + y):=by
 obtain ⟨a1,a2,a3⟩:=ha
 obtain ⟨b1,b2,b3⟩:=hb
 unfold octroiref09_Plus.sh
 rw [radd_eq F hF a2 b2]
 simp only [oB_some]
 rcases a3 with ⟨c1,c2⟩ | ⟨rfl,c2⟩
 ·rw [c1]
  exact ⟨_,rfl,by omega,wf_resW _,.inl ⟨rfl,by omega⟩⟩
 ·rcases b3 with ⟨d1,d2⟩ | ⟨rfl,d2⟩
  ·rw [d1]
   exact ⟨_,rfl,by omega,wf_resW _,.inl ⟨rfl,by omega⟩⟩
  ·simp only [val_mk,cond_false]
   exact ⟨_,rfl,NR.of (by omega)⟩
theorem NR.small {r:tBound_meter.T} {v:Int} (h:NR r v) (hv:v < 170141183460469231731687303715884105728):r = (mk v,false):=by
 rcases h.2.2 with ⟨_,h⟩ | ⟨h,_⟩
 ·omega
 ·exact h
theorem nfar_eq (F:Nat) {v:Int} (h1:-1000000000000 ≤ v) (h2:v ≤ 1000000000000):octroiref09_far.sh F v = some ((farZ v,()),()):=by
 unfold octroiref09_far.sh farZ
 rw [wrap_i64 (n:=0 - v) (by omega) (by omega)]
 by_cases h:v < 0
 ·rw [decide_eq_true h,if_pos (by omega)]; rfl
 ·rw [decide_eq_false h,if_neg (by omega)]; rfl
theorem nscale_rg (F:Nat) (hF:20 < F) {R:Type} (k:List tTier.T→Int→tBound_meter.T→tBound_meter.T→tBound_meter.T→Option R) (L:List tTier.T) (unit x r6:tBound_meter.T) (hL:L.length ≤ 16):∀ (xs:List tTier.T) (i:Nat) (rate w lo:Int),L.drop i = xs→-1 ≤ lo→incT lo xs→0 ≤ w→w + xs.length * 1000000000000000000000000 ≤ 20000000000000000000000000 →
  octroiref09_scale.l4.rg F (fun l r _ _ unit x _ w=>k l r unit x w) L xs (i:Int) rate unit x r6 (mk w,false) = k L (rateM rate xs) unit x (mk (w + waysS xs),false)
 | [],i,rate,w,lo,h,hlo,hi,hw,hw2=>by simp only [octroiref09_scale.l4.rg,rateM,waysS,List.foldl_nil,Int.add_zero]
 | a :: r,i,rate,w,lo,h,hlo,hi,hw,hw2=>by
  have ⟨a1,a2,a3,a4,a5⟩:=hi
  have h0:=rg_len h
  simp only [List.length_cons] at hw2
  push_cast at hw2
  have hf:=farZ_bd (v:=tR a) (by omega) (by omega)
  have hlen:=congrArg List.length h
  simp only [List.length_drop,List.length_cons] at hlen
  simp only [octroiref09_scale.l4.rg]
  rw [show octroiref09_far.sh F a.2 = _ from nfar_eq F (v:=tR a) (by omega) (by omega),wrap_i64 (n:=(L.length:Int) - 1) (by omega) (by omega),wrap_i64 (n:=(i:Int) + 1) (by omega) (by omega)]
  simp only [oB_some,cond_true]
  have hfin:∀ (w':Int),(∀ rt,octroiref09_scale.l4.rg F (fun l r _ _ unit x _ w=>k l r unit x w) L r ((i:Int) + 1) rt unit x r6 (mk w',false) = k L (rateM rt r) unit x (mk (w + waysS (a :: r)),false)) →
    (bif decide (farZ (tR a) > rate) then octroiref09_scale.l4.rg F (fun l r _ _ unit x _ w=>k l r unit x w) L r ((i:Int) + 1) (farZ (tR a)) unit x r6 (mk w',false) else octroiref09_scale.l4.rg F (fun l r _ _ unit x _ w=>k l r unit x w) L r ((i:Int) + 1) rate unit x r6 (mk w',false)) =
     k L (rateM rate (a :: r)) unit x (mk (w + waysS (a :: r)),false):=by
   intro w' hh
   rw [hh,hh,show rateM rate (a :: r) = rateM (if farZ (tR a) > rate then farZ (tR a) else rate) r from rfl]
   by_cases hr:farZ (tR a) > rate
   ·rw [decide_eq_true hr,if_pos hr]; rfl
   ·rw [decide_eq_false hr,if_neg hr]; rfl
  cases r with
  | nil =>
   simp only [List.length_nil] at hlen
   rw [decide_eq_false (show ¬ ((i:Int) < (L.length:Int) - 1) by omega)]
   simp only [cond_false]
   refine hfin w (fun rt=>?_)
   have:=nscale_rg F hF k L unit x r6 hL [] (i + 1) rt w (tF a) (rg_next h) (by omega) trivial hw (by simp; omega)
   rw [rg_cast] at this
   exact this
  | cons b r =>
   simp only [List.length_cons] at hlen
   rw [decide_eq_true (show ((i:Int) < (L.length:Int) - 1) by omega)]
   obtain ⟨b1,b2,b3,b4,b5⟩:=a5
   have hg:get tTier L (Int.toNat ((i:Int) + 1)) = b:=by
    rw [← rg_cast]; exact rg_get (rg_next h)
   have hid:idx ((i:Int) + 1) L.length = true:=idx_of (by omega) (by omega)
   have hp:=mul_bd hf.1 hf.2 (show 0 ≤ tF b - tF a by omega) (show tF b - tF a ≤ 1000000000000 by omega)
   rw [show (1000000000000:Int) * 1000000000000 = 1000000000000000000000000 by decide] at hp
   simp only [cond_true]
   rw [nof_eq F (v:=farZ (tR a)) (by omega) (by omega),hid,hg,show IntKind.i64.wrap (b.1 - a.1) = tF b - tF a from wrap_i64 (n:=tF b - tF a) (by omega) (by omega),nof_eq F (v:=tF b - tF a) (by omega) (by omega)]
   simp only [oB_some,cond_true]
   obtain ⟨r1,q1,q2⟩:=nby_eq F hF (x:=farZ (tR a)) (y:=tF b - tF a) (by omega) (by omega) (NR.ok (by omega) (by omega)) (.inr rfl)
   obtain rfl:=q2.small (by omega)
   rw [q1]
   simp only [oB_some]
   obtain ⟨r2,q3,q4⟩:=nplus_eq F hF (NR.ok hw (by omega)) (NR.ok (v:=farZ (tR a) * (tF b - tF a)) (by omega) (by omega))
   obtain rfl:=q4.small (by omega)
   rw [q3]
   simp only [oB_some]
   refine hfin _ (fun rt=>?_)
   have:=nscale_rg F hF k L unit x r6 hL (b :: r) (i + 1) rt (w + farZ (tR a) * (tF b - tF a)) (tF a) (rg_next h) (by omega) ⟨b1,b2,b3,b4,b5⟩ (by omega) (by simp only [List.length_cons]; push_cast; simp only [List.length_cons] at hw2; push_cast at hw2; omega)
   rw [rg_cast] at this
   rw [this,Int.add_assoc]
   rfl
theorem nscale_eq (F:Nat) (hF:64 < F) {u x:Int} (hu:1 ≤ u) (hu2:u ≤ 1000000000000000000000000) (hx:0 ≤ x) (hx2:x ≤ BND) {l:List tTier.T} (hl:risB l = true) :
  ∃ r,octroiref09_scale.sh F (mk u,false) (mk x,false) l = some ((r,()),())∧NR r (scaleM u x l):=by
 obtain ⟨l1,l2,l3⟩:=risB_inc hl
 have hBND:BND = 1329227995784915872903807060280344576:=rfl
 have hlast:=lastF_bd l (-1) (by omega) l3
 have hrate:=rateM_bd l 0 (-1) (by omega) (by omega) l3
 have hways:=waysS_bd l (-1) (by omega) l3
 unfold octroiref09_scale.sh
 rw [nof_eq F (v:=0) (by omega) (by omega)]
 simp only [oB_some]
 have e1:=fun k0=>octroiref09_scale.l4.rg_eq (R:=octroiref09_scale.sg.R) F k0 l (by omega) l 0 F 0 (mk u,false) (mk x,false) ((0,0),false) (mk 0,false) (by simp) (by omega)
 have e2:=nscale_rg F (by omega) (fun l14 r14 unit14 x14 w14=>oB (octroiref09_Of.sh F r14) fun c_15 =>
 bif idx (IntKind.i64.wrap ((l14.length:Int) - 1)) l14.length then oB (octroiref09_Of.sh F (get tTier l14 ((IntKind.i64.wrap ((l14.length:Int) - 1)).toNat)).1) fun c_16 =>
  oB (octroiref09_Plus.sh F x14 c_16.1.1) fun c_17 =>
  oB (octroiref09_By.sh F c_15.1.1 c_17.1.1) fun c_18 =>
  oB (octroiref09_Plus.sh F c_18.1.1 w14) fun c_19 =>
  oB (octroiref09_By.sh F unit14 c_19.1.1) fun c_20 =>
  (some ((c_20.1.1,()),()):Option octroiref09_scale.sg.R)
 else none) l (mk u,false) (mk x,false) ((0,0),false) l2 l 0 0 0 (-1) (by simp) (by omega) l3 (by omega) (by omega)
 rw [show ((0:Nat):Int) = 0 from rfl] at e1 e2
 rw [e1,e2]
 rw [nof_eq F (v:=rateM 0 l) (by omega) (by omega),wrap_i64 (n:=(l.length:Int) - 1) (by omega) (by omega),show ((l.length:Int) - 1) = ((l.length - 1:Nat):Int) by omega,rg_idx (by omega),Int.toNat_natCast,show (get tTier l (l.length - 1)).1 = lastF l from lastF_get l l1,nof_eq F (v:=lastF l) (by omega) (by omega)]
 simp only [oB_some,cond_true,Int.zero_add]
 unfold scaleM
 generalize lastF l = lf at *
 generalize rateM 0 l = rt at *
 generalize waysS l = ws at *
 obtain ⟨r1,q1,n1⟩:=nplus_eq F (by omega) (NR.ok hx (by omega)) (NR.ok hlast.1 (by omega))
 rw [q1]
 simp only [oB_some]
 obtain rfl:=n1.small (by omega)
 obtain ⟨r2,q2,n2⟩:=nby_eq F (by omega) (x:=rt) (y:=x + lf) (by omega) (by omega) n1 (.inr rfl)
 rw [q2]
 simp only [oB_some]
 obtain ⟨r3,q3,n3⟩:=nplus_eq F (by omega) n2 (NR.ok hways.1 (by omega))
 rw [q3]
 simp only [oB_some]
 obtain ⟨r4,q4,n4⟩:=nby_eq F (by omega) (x:=u) (by omega) (by omega) n3 (.inl hu)
 rw [q4]
 simp only [oB_some]
 exact ⟨_,rfl,n4⟩
theorem nsum_rg (F:Nat) (hF:20 < F) {R:Type} (k:List tBound_meter.T→tNode.T→tBound_meter.T→Option R) (L:List tBound_meter.T) (n:tNode.T) (r8:tBound_meter.T):∀ (vs:List Int) (i:Int) (s:tBound_meter.T) (sv:Int),(∀ v ∈ vs,0 ≤ v∧v ≤ BND)→NR s sv →
  ∃ s',octroiref09_mag.l20.rg F (fun l _ _ n _ s=>k l n s) L (vs.map fun v=>(mk v,false)) i n r8 s = k L n s'∧NR s' (sv + sumL vs)
 | [],i,s,sv,h,hs=>⟨s,rfl,by simp only [sumL,List.sum_nil,Int.add_zero]; exact hs⟩
 | v :: r,i,s,sv,h,hs=>by
  have hv:=h v (by simp)
  rw [BND_eq] at hv
  obtain ⟨s1,q1,n1⟩:=nplus_eq F hF hs (NR.ok (v:=v) hv.1 (by omega))
  obtain ⟨s',q2,n2⟩:=nsum_rg F hF k L n r8 r (i + 1) s1 (sv + v) (fun y hy=>h y (by simp [hy])) n1
  refine ⟨s',?_,?_⟩
  ·simp only [List.map_cons,octroiref09_mag.l20.rg]
   rw [q1]
   exact q2
  ·simp only [sumL,List.sum_cons] at n2 ⊢
   rw [← Int.add_assoc]; exact n2
theorem nmag_sum (F:Nat) (hF:64 < F) {n:tNode.T} {vs:List Int} (hv:∀ v ∈ vs,0 ≤ v∧v ≤ BND) (hl:vs.length ≤ 16) (hN:0 ≤ nN n) (hN2:nN n ≤ 1000000000000) :
  ∃ r,octroiref09_mag.j18 F (fun r=>(some ((r,()),()):Option octroiref09_mag.sg.R)) (vs.map fun v=>(mk v,false)) n ((0,0),false) = some ((r,()),())∧NR r (bif nK n == 11 || (nK n == 12 || nK n == 16) then sumL vs + nN n else sumL vs):=by
 unfold octroiref09_mag.j18
 rw [nof_eq F (v:=0) (by omega) (by omega)]
 simp only [oB_some]
 have e1:=fun k0=>octroiref09_mag.l20.rg_eq (R:=octroiref09_mag.sg.R) F k0 (vs.map fun v=>(mk v,false)) (by simp; omega) (vs.map fun v=>(mk v,false)) 0 F n ((0,0),false) (mk 0,false) (by simp) (by simp; omega)
 rw [show ((0:Nat):Int) = 0 from rfl] at e1
 rw [e1]
 obtain ⟨s',q1,n1⟩:=nsum_rg F (by omega) (fun l11 n11 s11=>bif (n11.1 == 11) then oB (octroiref09_Of.sh F n11.2.1) fun c_12 =>
  oB (octroiref09_Plus.sh F s11 c_12.1.1) fun c_13 =>
  (some ((c_13.1.1,()),()):Option octroiref09_mag.sg.R)
 else bif (n11.1 == 12) then oB (octroiref09_Of.sh F n11.2.1) fun c_14 =>
  oB (octroiref09_Plus.sh F s11 c_14.1.1) fun c_15 =>
  some ((c_15.1.1,()),())
 else bif (n11.1 == 16) then oB (octroiref09_Of.sh F n11.2.1) fun c_16 =>
  oB (octroiref09_Plus.sh F s11 c_16.1.1) fun c_17 =>
  some ((c_17.1.1,()),())
 else some ((s11,()),())) (vs.map fun v=>(mk v,false)) n ((0,0),false) vs 0 (mk 0,false) 0 hv (NR.ok (by omega) (by omega))
 rw [Int.zero_add] at n1
 obtain ⟨s2,q2,n2⟩:=nplus_eq F (by omega) n1 (NR.ok (v:=nN n) hN (by omega))
 have hof:=nof_eq F (v:=nN n) (by omega) (by omega)
 have key:(oB (octroiref09_Of.sh F n.2.1) fun c_12=>oB (octroiref09_Plus.sh F s' c_12.1.1) fun c_13=>(some ((c_13.1.1,()),()):Option octroiref09_mag.sg.R)) = some ((s2,()),()):=by
  rw [show octroiref09_Of.sh F n.2.1 = _ from hof]
  simp only [oB_some]
  rw [q2]
  rfl
 rw [q1]
 simp only []
 rw [key]
 rw [show (n.1 == 11) = (nK n == 11) from rfl,show (n.1 == 12) = (nK n == 12) from rfl,show (n.1 == 16) = (nK n == 16) from rfl]
 cases (nK n == 11) with
 | true=>exact ⟨_,rfl,n2⟩
 | false =>
  cases (nK n == 12) with
  | true=>exact ⟨_,rfl,n2⟩
  | false =>
   cases (nK n == 16) with
   | true=>exact ⟨_,rfl,n2⟩
   | false=>exact ⟨_,rfl,n1⟩
theorem getD_nr {l:List Int} {i:Nat} (hi:i < l.length):get tBound_meter (l.map fun v=>(mk v,false)) i = (mk (l.getD i 0),false):=by
 unfold get
 rw [List.getD_eq_getElem?_getD,List.getD_eq_getElem?_getD,List.getElem?_map,List.getElem?_eq_getElem hi]
 rfl
theorem nblocks_eq (F:Nat) {s:Int} (h1:1 ≤ s) (h2:s ≤ 1000000000000):octroiref09_Blocks.sh F 1099511627776 s = some ((ceilD 1099511627776 s,()),()):=by
 have hq1:0 ≤ 1099511627776 / s:=Int.ediv_nonneg (by omega) (by omega)
 have hq2:1099511627776 / s ≤ 1099511627776:=Int.ediv_le_self _ (by omega)
 unfold octroiref09_Blocks.sh ceilD
 rw [show (s != 0) = true from bne_iff_ne.2 (by omega),Int.tdiv_eq_ediv_of_nonneg (by omega),Int.tmod_eq_emod_of_nonneg (by omega),wrap_i64 (n:=1099511627776 / s) (by omega) (by omega),wrap_i64 (n:=1099511627776 / s + 1) (by omega) (by omega)]
 simp only [cond_true]
 by_cases hz:1099511627776 % s = 0
 ·rw [hz,if_pos rfl,Int.add_zero]; rfl
 ·rw [show (1099511627776 % s != 0) = true from bne_iff_ne.2 hz,if_neg hz]; rfl
theorem nmag_eq (F:Nat) (hF:64 < F) {u:Int} (hu:1 ≤ u) (hu2:u ≤ 1000000000000000000000000) {p:tPlan.T} (hD:dE [] p.2.1 = 0) (hd4:p.2.1.length ≤ 4) {n:tNode.T} {pile:Nat} (hn:nodeE p.2.1.length n pile = 0)
  {vs:List Int} (hl:vs.length = ar n) (hv:∀ v ∈ vs,0 ≤ v∧v ≤ BND):∃ r,octroiref09_mag.sh F p n (mk u,false) (vs.map fun v=>(mk v,false)) = some ((r,()),())∧NR r (magN u p.2.1 n vs):=by
 obtain ⟨g1,g2,g3,g4,g5,g6,g7,g8⟩:=nodeE_ok hn
 have ha:=ar_le g1 g4
 have hN2:=most_le hd4 g3 g1
 have hof:=nof_eq F (v:=nN n) (by omega) (by omega)
 have hsum:∀ k:Int,nK n = k→(k = 6 ∨ k = 7 ∨ k = 9 ∨ k = 10 ∨ k = 11 ∨ k = 12 ∨ k = 16)→∃ r,octroiref09_mag.sh F p n (mk u,false) (vs.map fun v=>(mk v,false)) = some ((r,()),())∧NR r (magN u p.2.1 n vs):=by
  intro k h hk
  obtain ⟨r,q1,q2⟩:=nmag_sum F hF (n:=n) hv (by omega) g2 hN2
  have hm:magN u p.2.1 n vs = bif nK n == 11 || (nK n == 12 || nK n == 16) then sumL vs + nN n else sumL vs:=by
   unfold magN
   rw [h]
   rcases hk with rfl | rfl | rfl | rfl | rfl | rfl | rfl <;> rfl
  rw [← hm] at q2
  refine ⟨r,Eq.trans ?_ q1,q2⟩
  unfold octroiref09_mag.sh
  rw [show n.1 = k from h]
  rcases hk with rfl | rfl | rfl | rfl | rfl | rfl | rfl <;> rfl
 rcases kinds16 g1 with h | h | h | h | h | h | h | h | h | h | h | h | h | h | h | h
 ·refine ⟨_,?_,show NR (mk (nN n),false) _ from ?_⟩
  ·refine Eq.trans (b:=oB (octroiref09_Of.sh F (nN n)) fun c_1=>some ((c_1.1.1,()),())) ?_ (by rw [hof]; rfl)
   unfold octroiref09_mag.sh; rw [show n.1 = _ from h]; rfl
  ·rw [show magN u p.2.1 n vs = nN n by unfold magN; rw [h]; rfl]
   exact NR.ok g2 (by omega)
 ·obtain ⟨r,q1,q2⟩:=nby_eq F (by omega) (x:=nN n) (y:=u) g2 (by omega) (NR.ok (by omega) (by omega)) (.inr rfl)
  refine ⟨r,?_,by rw [show magN u p.2.1 n vs = nN n * u by unfold magN; rw [h]; rfl]; exact q2⟩
  refine Eq.trans (b:=oB (octroiref09_Of.sh F (nN n)) fun c_2=>oB (octroiref09_By.sh F c_2.1.1 (mk u,false)) fun c_3=>some ((c_3.1.1,()),())) ?_ (by rw [hof]; simp only [oB_some]; rw [q1]; rfl)
  unfold octroiref09_mag.sh; rw [show n.1 = _ from h]; rfl
 ·refine ⟨_,?_,show NR (mk 1099511627776,false) _ from ?_⟩
  ·refine Eq.trans (b:=oB (octroiref09_Of.sh F 1099511627776) fun c_1=>some ((c_1.1.1,()),())) ?_ (by rw [nof_eq F (v:=1099511627776) (by omega) (by omega)]; rfl)
   unfold octroiref09_mag.sh; rw [show n.1 = _ from h]; rfl
  ·rw [show magN u p.2.1 n vs = 1099511627776 by unfold magN; rw [h]; rfl]
   exact NR.ok (by omega) (by omega)
 ·have hNd:nN n ≤ (p.2.1.length:Int) - 1:=by have:=g3; rw [most_of h] at this; exact this
  have hi:(nN n).toNat < p.2.1.length:=by omega
  have hsz:1 ≤ dS (p.2.1.getD (nN n).toNat (ByteArray.empty,0))∧dS (p.2.1.getD (nN n).toNat (ByteArray.empty,0)) ≤ 1000000000000:=by
   rw [List.getD_eq_getElem?_getD,List.getElem?_eq_getElem hi]
   exact dE_sizes p.2.1 [] hD _ (List.getElem_mem _)
  have hc:=ceilD_bd hsz.1
  have hid:idx (nN n) p.2.1.length = true:=idx_of (by omega) (by omega)
  refine ⟨_,?_,show NR (mk (ceilD 1099511627776 (dS (p.2.1.getD (nN n).toNat (ByteArray.empty,0)))),false) _ from ?_⟩
  ·refine Eq.trans (b:=bif idx (nN n) p.2.1.length then oB (octroiref09_Blocks.sh F 1099511627776 (dS (p.2.1.getD (nN n).toNat (ByteArray.empty,0)))) fun c_5=>oB (octroiref09_Of.sh F c_5.1.1) fun c_6=>some ((c_6.1.1,()),()) else none) ?_ (by
    rw [hid,nblocks_eq F hsz.1 hsz.2]
    simp only [oB_some,cond_true]
    rw [nof_eq F (by omega) (by omega)]; rfl)
   unfold octroiref09_mag.sh; rw [show n.1 = _ from h]; rfl
  ·rw [show magN u p.2.1 n vs = ceilD 1099511627776 (dS (p.2.1.getD (nN n).toNat (ByteArray.empty,0))) by unfold magN; rw [h]; rfl]
   exact NR.ok hc.1 (by omega)
 ·have e1:ar n = 1:=by rw [ar_of h]; rfl
  match vs,hl with
  | [v],_ =>
   have hv0:=hv v (by simp)
   rw [BND_eq] at hv0
   refine ⟨(mk v,false),?_,?_⟩
   ·unfold octroiref09_mag.sh; rw [show n.1 = _ from h]; rfl
   ·rw [show magN u p.2.1 n [v] = sumL [v] by unfold magN; rw [h]; rfl,show sumL [v] = v by simp [sumL]]
    exact NR.ok hv0.1 (by omega)
  | [],hl=>rw [e1] at hl; simp at hl
  | _ :: _ :: _,hl=>rw [e1] at hl; simp at hl
 ·exact hsum 6 h (by decide)
 ·exact hsum 7 h (by decide)
 ·have e2:ar n = 2:=by rw [ar_of h]; rfl
  have b0:=getD_bd hv (i:=0) (by omega)
  have b1:=getD_bd hv (i:=1) (by omega)
  rw [BND_eq] at b0 b1
  obtain ⟨r,q1,q2⟩:=nby_eq F (by omega) (x:=vs.getD 0 0) (y:=vs.getD 1 0) b0.1 (by omega) (NR.ok b1.1 (by omega)) (.inr rfl)
  refine ⟨r,?_,by rw [show magN u p.2.1 n vs = vs.getD 0 0 * vs.getD 1 0 by unfold magN; rw [h]; rfl]; exact q2⟩
  refine Eq.trans (b:=bif idx 0 (vs.map fun v=>(mk v,false)).length then bif idx 1 (vs.map fun v=>(mk v,false)).length then oB (octroiref09_By.sh F (get tBound_meter (vs.map fun v=>(mk v,false)) 0) (get tBound_meter (vs.map fun v=>(mk v,false)) 1)) fun c_7=>some ((c_7.1.1,()),()) else none else none) ?_ (by
   rw [idx0 (n:=(vs.map fun v=>(mk v,false)).length) (by simp; omega),idx1 (n:=(vs.map fun v=>(mk v,false)).length) (by simp; omega),getD_nr (i:=0) (by omega),getD_nr (i:=1) (by omega)]
   simp only [cond_true]
   rw [q1]; rfl)
  unfold octroiref09_mag.sh; rw [show n.1 = _ from h]; rfl
 ·exact hsum 9 h (by decide)
 ·exact hsum 10 h (by decide)
 ·exact hsum 11 h (by decide)
 ·exact hsum 12 h (by decide)
 ·have e1:ar n = 1:=by rw [ar_of h]; rfl
  have b0:=getD_bd hv (i:=0) (by omega)
  have ht:tierB n = true:=by unfold tierB asks; rw [h]; rfl
  obtain ⟨r,q1,q2⟩:=nscale_eq F hF hu hu2 b0.1 b0.2 (g8 ht)
  refine ⟨r,?_,by rw [show magN u p.2.1 n vs = scaleM u (vs.getD 0 0) (nT n) by unfold magN; rw [h]; rfl]; exact q2⟩
  refine Eq.trans (b:=bif idx 0 (vs.map fun v=>(mk v,false)).length then oB (octroiref09_scale.sh F (mk u,false) (get tBound_meter (vs.map fun v=>(mk v,false)) 0) (nT n)) fun c_7=>some ((c_7.1.1,()),()) else none) ?_ (by
   rw [idx0 (n:=(vs.map fun v=>(mk v,false)).length) (by simp; omega),getD_nr (i:=0) (by omega)]
   simp only [cond_true]
   rw [q1]; rfl)
  unfold octroiref09_mag.sh; rw [show n.1 = _ from h]; rfl
 ·have e1:ar n = 1:=by rw [ar_of h]; rfl
  have b0:=getD_bd hv (i:=0) (by omega)
  have ht:tierB n = true:=by unfold tierB asks; rw [h]; rfl
  obtain ⟨r,q1,q2⟩:=nscale_eq F hF hu hu2 b0.1 b0.2 (g8 ht)
  refine ⟨r,?_,by rw [show magN u p.2.1 n vs = scaleM u (vs.getD 0 0) (nT n) by unfold magN; rw [h]; rfl]; exact q2⟩
  refine Eq.trans (b:=bif idx 0 (vs.map fun v=>(mk v,false)).length then oB (octroiref09_scale.sh F (mk u,false) (get tBound_meter (vs.map fun v=>(mk v,false)) 0) (nT n)) fun c_7=>some ((c_7.1.1,()),()) else none) ?_ (by
   rw [idx0 (n:=(vs.map fun v=>(mk v,false)).length) (by simp; omega),getD_nr (i:=0) (by omega)]
   simp only [cond_true]
   rw [q1]; rfl)
  unfold octroiref09_mag.sh; rw [show n.1 = _ from h]; rfl
 ·have e1:ar n = 1:=by rw [ar_of h]; rfl
  have b0:=getD_bd hv (i:=0) (by omega)
  rw [BND_eq] at b0
  refine ⟨(mk (vs.getD 0 0),false),?_,by rw [show magN u p.2.1 n vs = vs.getD 0 0 by unfold magN; rw [h]; rfl]; exact NR.ok b0.1 (by omega)⟩
  refine Eq.trans (b:=bif idx 0 (vs.map fun v=>(mk v,false)).length then (some (((get tBound_meter (vs.map fun v=>(mk v,false)) 0),()),()):Option octroiref09_mag.sg.R) else none) ?_ (by
   rw [idx0 (n:=(vs.map fun v=>(mk v,false)).length) (by simp; omega),getD_nr (i:=0) (by omega)]; rfl)
  unfold octroiref09_mag.sh; rw [show n.1 = _ from h]; rfl
 ·exact hsum 16 h (by decide)
end Go.VS
