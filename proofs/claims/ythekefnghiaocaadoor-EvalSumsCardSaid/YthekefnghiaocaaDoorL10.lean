import Derived.Test.YthekefnghiaocaaDoorL9
set_option linter.unusedVariables false
set_option linter.unusedSimpArgs false
set_option linter.unusedSectionVars false
set_option linter.unusedVariables false
set_option linter.unusedSimpArgs false
set_option maxRecDepth 100000
namespace Go.VS
open Go
theorem BND_eq:BND = 1329227995784915872903807060280344576:=rfl
theorem j18_eq (F:Nat) (hF:64 < F) {u:Int} {n:tNode.T} {vs:List Int} (hv:∀ v ∈ vs,0 ≤ v∧v ≤ BND) (hl:vs.length ≤ 16) (hN:0 ≤ nN n) (hN2:nN n ≤ 1000000000000) :
  bound_meter_node.j18 F (fun m r=>(some ((r,()),(m,())):Option bound_meter_node.sg.R)) (vs.map mk) (mk u,false) n (0,0) =
   some ((mk (bif nK n == 11 || (nK n == 12 || nK n == 16) then sumL vs + nN n else sumL vs),()),((mk u,false),())):=by
 have hs:=sumL_bd vs hv
 have hsb:sumL vs ≤ 21267647932558653966460912964485513216:=by
  have:(vs.length:Int) * BND ≤ 16 * BND:=Int.mul_le_mul_of_nonneg_right (by omega) (by rw [BND_eq]; omega)
  rw [BND_eq] at this hs
  omega
 have i1:inR (sumL vs) = true:=by rw [inR_iff]; omega
 have i2:inR (sumL vs + nN n) = true:=by rw [inR_iff]; omega
 unfold bound_meter_node.j18
 rw [wsum_eq F (by
  intro x hx
  obtain ⟨v,hv',rfl⟩:=List.mem_map.1 hx
  have:=hv v hv'
  rw [BND_eq] at this
  exact wf_mk (by rw [inR_iff]; omega)) (by simp; omega) (by simp; omega)]
 simp only [oB_some,sumV_mk]
 rw [keep_eq,(res_in i1).1,(res_in i1).2]
 simp only [oB_some]
 rw [of_eq F (v:=nN n) (by omega) (by omega)]
 simp only [oB_some,Bool.or_false]
 rw [madd_eq F _ _ (wf_mk i1) (wf_mk (by rw [inR_iff]; omega))]
 simp only [oB_some,val_mk]
 rw [(res_in i2).1,(res_in i2).2]
 cases (nK n == 11) <;> cases (nK n == 12) <;> cases (nK n == 16) <;> rfl
theorem most_le {n:tNode.T} {dims:Nat} (hd:dims ≤ 4) (h:nN n ≤ mostN n dims) (hg:goodK n = true):nN n ≤ 1000000000000:=by
 rcases kinds16 hg with h' | h' | h' | h' | h' | h' | h' | h' | h' | h' | h' | h' | h' | h' | h' | h' <;> rw [most_of h'] at h
 ·exact h
 ·exact h
 ·have h:nN n ≤ (dims:Int) - 1:=h; omega
 ·have h:nN n ≤ (dims:Int) - 1:=h; omega
 ·have h:nN n ≤ 0:=h; omega
 ·have h:nN n ≤ 0:=h; omega
 ·have h:nN n ≤ 0:=h; omega
 ·have h:nN n ≤ 0:=h; omega
 ·have h:nN n ≤ 0:=h; omega
 ·have h:nN n ≤ 0:=h; omega
 ·exact h
 ·exact h
 ·have h:nN n ≤ 0:=h; omega
 ·have h:nN n ≤ 0:=h; omega
 ·have h:nN n ≤ 10000:=h; omega
 ·exact h
theorem node_sum (F:Nat) (hF:64 < F) {u:Int} (p:tPlan.T) {n:tNode.T} {vs:List Int} {D:List tDim.T} (hv:∀ v ∈ vs,0 ≤ v∧v ≤ BND) (hl:vs.length ≤ 16) (hN:0 ≤ nN n) (hN2:nN n ≤ 1000000000000) {k:Int} (h:nK n = k)
  (hk:k = 5 ∨ k = 6 ∨ k = 7 ∨ k = 9 ∨ k = 10 ∨ k = 11 ∨ k = 12 ∨ k = 16):NodeR u D n vs (bound_meter_node.sh F (mk u,false) p n (vs.map mk)):=by
 have hj:=j18_eq F hF (u:=u) (n:=n) hv hl hN hN2
 have hs:=sumL_bd vs hv
 have hsb:sumL vs ≤ 21267647932558653966460912964485513216:=by
  have:(vs.length:Int) * BND ≤ 16 * BND:=Int.mul_le_mul_of_nonneg_right (by omega) (by rw [BND_eq]; omega)
  rw [BND_eq] at this hs
  omega
 have hm:magN u D n vs = bif nK n == 11 || (nK n == 12 || nK n == 16) then sumL vs + nN n else sumL vs:=by
  unfold magN
  rw [h]
  rcases hk with rfl | rfl | rfl | rfl | rfl | rfl | rfl | rfl <;> rfl
 have he:bound_meter_node.sh F (mk u,false) p n (vs.map mk) = bound_meter_node.j18 F (fun m r=>(some ((r,()),(m,())):Option bound_meter_node.sg.R)) (vs.map mk) (mk u,false) n (0,0):=by
  unfold bound_meter_node.sh
  have h':n.1 = k:=h
  rw [h']
  rcases hk with rfl | rfl | rfl | rfl | rfl | rfl | rfl | rfl <;> rfl
 have hf:(nK n == 15) = false:=by rw [h]; rcases hk with rfl | rfl | rfl | rfl | rfl | rfl | rfl | rfl <;> rfl
 rw [he,hj]
 have hb:0 ≤ magN u D n vs∧magN u D n vs < 170141183460469231731687303715884105728:=by
  rw [hm]
  cases (nK n == 11 || (nK n == 12 || nK n == 16)) <;> simp only [cond_true,cond_false] <;> omega
 rw [← hm]
 refine ⟨_,_,rfl,wf_mk (by rw [inR_iff]; omega),hb.1,.inr ⟨rfl,rfl,?_⟩⟩
 unfold farN
 rw [hf]
 exact hb.2
theorem mnode_eq (F:Nat) (hF:64 < F) {u:Int} (hu:1 ≤ u) (hu2:u ≤ 1000000000000000000000000) {p:tPlan.T} (hD:dE [] p.2.1 = 0) (hd4:p.2.1.length ≤ 4) {n:tNode.T} {pile:Nat} (hn:nodeE p.2.1.length n pile = 0)
  {vs:List Int} (hl:vs.length = ar n) (hv:∀ v ∈ vs,0 ≤ v∧v ≤ BND):NodeR u p.2.1 n vs (bound_meter_node.sh F (mk u,false) p n (vs.map mk)):=by
 obtain ⟨g1,g2,g3,g4,g5,g6,g7,g8⟩:=nodeE_ok hn
 have ha:=ar_le g1 g4
 have hN2:=most_le hd4 g3 g1
 have iu:inR u = true:=by rw [inR_iff]; omega
 have iN:inR (nN n) = true:=by rw [inR_iff]; omega
 rcases kinds16 g1 with h | h | h | h | h | h | h | h | h | h | h | h | h | h | h | h
 ·refine NodeR.of (v:=nN n) (by unfold magN; rw [h]; rfl) (by rw [h]; rfl) g2 false ?_ rfl
  unfold bound_meter_node.sh
  have h':n.1 = 1:=h
  rw [h',of_eq F (v:=nN n) (by omega) (by omega),(res_in iN).1,(res_in iN).2]
  rfl
 ·refine NodeR.of (v:=nN n * u) (by unfold magN; rw [h]; rfl) (by rw [h]; rfl) (Int.mul_nonneg g2 (by omega)) false ?_ rfl
  unfold bound_meter_node.sh
  have h':n.1 = 2:=h
  rw [h',of_eq F (v:=nN n) (by omega) (by omega)]
  have e:=mmul_eq F (mk u) false (wf_mk iN) (wf_mk iu)
  rw [val_mk,val_mk] at e
  exact (congrArg (fun x=>oB x fun c_3=>(some ((c_3.1.1,()),(c_3.2.1,())):Option bound_meter_node.sg.R)) e).trans rfl
 ·refine NodeR.of (v:=1099511627776) (by unfold magN; rw [h]; rfl) (by rw [h]; rfl) (by decide) false ?_ rfl
  unfold bound_meter_node.sh
  have h':n.1 = 3:=h
  rw [h',of_eq F (v:=1099511627776) (by omega) (by omega)]
  rfl
 ·have hNd:nN n ≤ (p.2.1.length:Int) - 1:=by have:=g3; rw [most_of h] at this; exact this
  have hi:(nN n).toNat < p.2.1.length:=by omega
  have hsz:1 ≤ dS (p.2.1.getD (nN n).toNat (ByteArray.empty,0))∧dS (p.2.1.getD (nN n).toNat (ByteArray.empty,0)) ≤ 1000000000000:=by
   rw [List.getD_eq_getElem?_getD,List.getElem?_eq_getElem hi]
   exact dE_sizes p.2.1 [] hD _ (List.getElem_mem _)
  have hc:=ceilD_bd hsz.1
  have ic:inR (ceilD 1099511627776 (dS (p.2.1.getD (nN n).toNat (ByteArray.empty,0)))) = true:=by rw [inR_iff]; omega
  refine NodeR.of (v:=ceilD 1099511627776 (dS (p.2.1.getD (nN n).toNat (ByteArray.empty,0)))) (by unfold magN; rw [h]; rfl) (by rw [h]; rfl) hc.1 false ?_ rfl
  unfold bound_meter_node.sh
  have h':n.1 = 4:=h
  have hid:idx (nN n) p.2.1.length = true:=idx_of (by omega) (by omega)
  have hof:=of_eq F (v:=dS (p.2.1.getD (nN n).toNat (ByteArray.empty,0))) (by omega) (by omega)
  have e:=div_ceil F hsz.1 hsz.2
  have e2:=keep_eq F (mk u) false (mk (ceilD 1099511627776 (dS (p.2.1.getD (nN n).toNat (ByteArray.empty,0))))) 0
  rw [h',of_eq F (v:=1099511627776) (by omega) (by omega),show idx n.2.1 p.2.1.length = true from hid,show wide_Of.sh F (get tDim p.2.1 n.2.1.toNat).2 = _ from hof]
  rw [(res_in ic).1,(res_in ic).2]
  show (oB (times_Div.sh F (mk 1099511627776) (mk _) 1) fun c_7=>oB (bound_meter_keep.sh F (mk u,false) c_7.1.1 c_7.1.2.1) fun c_8=>some ((c_8.1.1,()),(c_8.2.1,()))) = _
  rw [e]
  simp only [oB_some]
  rw [e2]
  rfl
 ·exact node_sum F hF p hv (by omega) g2 hN2 h (by decide)
 ·exact node_sum F hF p hv (by omega) g2 hN2 h (by decide)
 ·exact node_sum F hF p hv (by omega) g2 hN2 h (by decide)
 ·have ea:ar n = 2:=by rw [ar_of h]; rfl
  have b0:=getD_bd hv (i:=0) (by omega)
  have b1:=getD_bd hv (i:=1) (by omega)
  rw [BND_eq] at b0 b1
  refine NodeR.of (v:=vs.getD 0 0 * vs.getD 1 0) (by unfold magN; rw [h]; rfl) (by rw [h]; rfl) (Int.mul_nonneg b0.1 b1.1) false ?_ rfl
  unfold bound_meter_node.sh
  have h':n.1 = 8:=h
  have e:=mmul_eq F (mk u) false (wf_mk (v:=vs.getD 0 0) (by rw [inR_iff]; omega)) (wf_mk (v:=vs.getD 1 0) (by rw [inR_iff]; omega))
  rw [val_mk,val_mk] at e
  rw [h',idx0 (n:=(vs.map mk).length) (by simp; omega),idx1 (n:=(vs.map mk).length) (by simp; omega),getD_mk (i:=0) (by omega),getD_mk (i:=1) (by omega)]
  exact (congrArg (fun x=>oB x fun c_3=>(some ((c_3.1.1,()),(c_3.2.1,())):Option bound_meter_node.sg.R)) e).trans rfl
 ·exact node_sum F hF p hv (by omega) g2 hN2 h (by decide)
 ·exact node_sum F hF p hv (by omega) g2 hN2 h (by decide)
 ·exact node_sum F hF p hv (by omega) g2 hN2 h (by decide)
 ·exact node_sum F hF p hv (by omega) g2 hN2 h (by decide)
 ·have ea:ar n = 1:=by rw [ar_of h]; rfl
  have b0:=getD_bd hv (i:=0) (by omega)
  have ht:tierB n = true:=by unfold tierB asks; rw [h]; rfl
  obtain ⟨w,o,q1,q2,q3,q4⟩:=scale_eq F hF hu hu2 b0.1 b0.2 (g8 ht)
  have hm:magN u p.2.1 n vs = scaleM u (vs.getD 0 0) (nT n):=by unfold magN; rw [h]; rfl
  have hf:farN n (magN u p.2.1 n vs) = scaleM u (vs.getD 0 0) (nT n):=by unfold farN; rw [h,hm]; rfl
  refine ⟨w,o,?_,q2,by rw [hm]; exact q3,by rw [hf,hm]; exact q4⟩
  unfold bound_meter_node.sh
  have h':n.1 = 13:=h
  rw [h',idx0 (n:=(vs.map mk).length) (by simp; omega),getD_mk (i:=0) (by omega)]
  exact (congrArg (fun x=>oB x fun c_3=>(some ((c_3.1.1,()),(c_3.2.1,())):Option bound_meter_node.sg.R)) q1).trans rfl
 ·have ea:ar n = 1:=by rw [ar_of h]; rfl
  have b0:=getD_bd hv (i:=0) (by omega)
  have ht:tierB n = true:=by unfold tierB asks; rw [h]; rfl
  obtain ⟨w,o,q1,q2,q3,q4⟩:=scale_eq F hF hu hu2 b0.1 b0.2 (g8 ht)
  have hm:magN u p.2.1 n vs = scaleM u (vs.getD 0 0) (nT n):=by unfold magN; rw [h]; rfl
  have hf:farN n (magN u p.2.1 n vs) = scaleM u (vs.getD 0 0) (nT n):=by unfold farN; rw [h,hm]; rfl
  refine ⟨w,o,?_,q2,by rw [hm]; exact q3,by rw [hf,hm]; exact q4⟩
  unfold bound_meter_node.sh
  have h':n.1 = 14:=h
  rw [h',idx0 (n:=(vs.map mk).length) (by simp; omega),getD_mk (i:=0) (by omega)]
  exact (congrArg (fun x=>oB x fun c_3=>(some ((c_3.1.1,()),(c_3.2.1,())):Option bound_meter_node.sg.R)) q1).trans rfl
 ·have ea:ar n = 1:=by rw [ar_of h]; rfl
  have b0:=getD_bd hv (i:=0) (by omega)
  rw [BND_eq] at b0
  have hm:magN u p.2.1 n vs = vs.getD 0 0:=by unfold magN; rw [h]; rfl
  have hf:farN n (magN u p.2.1 n vs) = vs.getD 0 0 * 10000:=by unfold farN; rw [h,hm]; rfl
  have h':n.1 = 15:=h
  have e:=mmul_eq F (mk u) false (wf_mk (v:=vs.getD 0 0) (by rw [inR_iff]; omega)) (wf_mk (v:=10000) (by rw [inR_iff]; omega))
  rw [val_mk,val_mk] at e
  refine ⟨mk (vs.getD 0 0),errW (vs.getD 0 0 * 10000) != 0,?_,wf_mk (by rw [inR_iff]; omega),by rw [hm]; exact b0.1,?_⟩
  ·unfold bound_meter_node.sh
   rw [h',idx0 (n:=(vs.map mk).length) (by simp; omega),getD_mk (i:=0) (by omega),of_eq F (v:=10000) (by omega) (by omega)]
   exact (congrArg (fun x=>oB x fun c_3=>(some ((mk (vs.getD 0 0),()),(c_3.2.1,())):Option bound_meter_node.sg.R)) e).trans rfl
  ·rw [hf,hm]
   rcases inR_pos (v:=vs.getD 0 0 * 10000) (by omega) with ⟨i,b⟩ | ⟨i,b⟩
   ·rw [(res_in i).2]; exact .inr ⟨rfl,rfl,b⟩
   ·rw [res_out i]; exact .inl ⟨rfl,by rw [BND_eq]; omega⟩
 ·exact node_sum F hF p hv (by omega) g2 hN2 h (by decide)
theorem above_eq (F:Nat) {n:tNode.T} {v:Int} (h0:0 ≤ v) (h:farN n v < 170141183460469231731687303715884105728):bound_above.sh F n (mk v) = some ((decide (farN n v > BND),()),()):=by
 have hB:val (72057594037927936,0) = BND:=rfl
 have wB:wfW (72057594037927936,0):=by simp [wfW]
 have hc:∀ x:Int,decide (cmpZ x BND > 0) = decide (x > BND):=by
  intro x
  unfold cmpZ
  rcases Int.lt_trichotomy x BND with h | h | h
  ·rw [if_pos h,decide_eq_false (by omega),decide_eq_false (by omega)]
  ·rw [if_neg (by omega),if_pos h,decide_eq_false (by omega),decide_eq_false (by omega)]
  ·rw [if_neg (by omega),if_neg (by omega),decide_eq_true (by omega),decide_eq_true (by omega)]
 unfold bound_above.sh farN at *
 cases h15:(nK n == 15) with
 | true =>
  rw [h15] at h
  simp only [cond_true] at h ⊢
  have iv:inR v = true:=by rw [inR_iff]; omega
  have i2:inR (v * 10000) = true:=by rw [inR_iff]; omega
  rw [of_eq F (v:=10000) (by omega) (by omega)]
  simp only [oB_some]
  rw [wmul_eq F (wf_mk iv) (wf_mk (v:=10000) (by rw [inR_iff]; omega))]
  simp only [oB_some,val_mk]
  rw [(res_in i2).1,cmp_eq F (wf_mk i2) wB]
  simp only [oB_some,val_mk,hB,hc]
 | false =>
  rw [h15] at h
  simp only [cond_false] at h ⊢
  have iv:inR v = true:=by rw [inR_iff]; omega
  rw [cmp_eq F (wf_mk iv) wB]
  simp only [oB_some,val_mk,hB,hc]
theorem btakes_eq (F:Nat) {n:tNode.T} (hg:goodK n = true) (hk:kidsK n = true):bound_takes.sh F n = some (((ar n:Int),()),()):=by
 have h9:∀ k:Int,(nK n = k)→(k = 9 ∨ k = 10)→(ar n:Int) = nC n:=by
  intro k h hkk
  rw [kids_of h] at hk
  have hk:(decide (nC n ≥ 2) && decide (nC n ≤ 16)) = true:=by rcases hkk with rfl | rfl <;> exact hk
  simp at hk
  have:ar n = (nC n).toNat:=by rw [ar_of h]; rcases hkk with rfl | rfl <;> rfl
  omega
 unfold bound_takes.sh
 rcases kinds16 hg with h | h | h | h | h | h | h | h | h | h | h | h | h | h | h | h <;> rw [show n.1 = _ from h]
 ·rw [ar_of h]; rfl
 ·rw [ar_of h]; rfl
 ·rw [ar_of h]; rfl
 ·rw [ar_of h]; rfl
 ·rw [ar_of h]; rfl
 ·rw [ar_of h]; rfl
 ·rw [ar_of h]; rfl
 ·rw [ar_of h]; rfl
 ·rw [h9 9 h (.inl rfl)]; rfl
 ·rw [h9 10 h (.inr rfl)]; rfl
 ·rw [ar_of h]; rfl
 ·rw [ar_of h]; rfl
 ·rw [ar_of h]; rfl
 ·rw [ar_of h]; rfl
 ·rw [ar_of h]; rfl
 ·rw [ar_of h]; rfl
theorem measured_rg (F:Nat) (hF:64 < F) {R:Type} {u:Int} (hu:1 ≤ u) (hu2:u ≤ 1000000000000000000000000) {p:tPlan.T} (hD:dE [] p.2.1 = 0) (hd4:p.2.1.length ≤ 4) (kE:List tWide.T→Int→Option R) (kO:List tWide.T→Option R) (L:List tNode.T) (N:Int):∀ (xs:List tNode.T) (st:List Tree) (i:Nat) (mags:List tWide.T),
  okS p.2.1.length st xs→(flats st).length + xs.length ≤ 2048→mags.length ≤ (flats st).length→(∀ t ∈ st,0 ≤ mag u p.2.1 t∧mag u p.2.1 t ≤ BND) →
  bound_measured.l4.rg F kE (fun _ _ _ _ _ _ mags _=>kO mags) L N xs (i:Int) p (mk u,false) mags (st.map fun t=>mk (mag u p.2.1 t)) =
   match firstE (magE u p.2.1) (news st xs) i with
   | some (j,e)=>kE [] (j:Int)
   | none=>kO (mags ++ (news st xs).map fun t=>mk (mag u p.2.1 t)):=by
 intro xs
 induction xs with
 | nil=>intro st i mags h h2 h3 h4; simp [bound_measured.l4.rg,news,firstE]
 | cons n xs ih =>
  intro st i mags h h2 h3 h4
  obtain ⟨g1,g2,g3,g4,g5,g6,g7,g8⟩:=nodeE_ok h.1
  have hst:=len_flats st
  have hfs:=congrArg List.length (flats_step st n)
  simp only [List.length_cons,List.length_append,List.length_nil] at h2 hfs
  have hdr:∀ t ∈ st.drop (st.length - ar n),0 ≤ mag u p.2.1 t∧mag u p.2.1 t ≤ BND:=fun t ht=>h4 t (List.mem_of_mem_drop ht)
  have hmm:mag u p.2.1 (topT st n) = magN u p.2.1 n ((st.drop (st.length - ar n)).map (mag u p.2.1)):=by unfold topT; rw [mag_nd]
  have hnode:=mnode_eq F hF hu hu2 hD hd4 h.1 (vs:=(st.drop (st.length - ar n)).map (mag u p.2.1)) (by simp; omega) (by
   intro v hv
   obtain ⟨t,ht,rfl⟩:=List.mem_map.1 hv
   exact hdr t ht)
  obtain ⟨w,o,q1,q2,q3,q4⟩:=hnode
  rw [← hmm] at q3 q4
  have hl:(st.map fun t=>mk (mag u p.2.1 t)).length = st.length:=by simp
  have hE:magE u p.2.1 (topT st n) = bif decide (farN n (mag u p.2.1 (topT st n)) > BND) then 90 else 0:=rfl
  have hdm:(st.map fun t=>mk (mag u p.2.1 t)).drop (st.length - ar n) = ((st.drop (st.length - ar n)).map (mag u p.2.1)).map mk:=by
   rw [← List.map_drop,List.map_map]; rfl
  have ew:=wrap_sub g7 (by omega)
  have hb1:=bounds_lo (show st.length - ar n ≤ st.length by omega)
  have hb2:=bounds_hi (show st.length - ar n ≤ st.length by omega)
  have htk:(st.map fun t=>mk (mag u p.2.1 t)).take st.length = st.map fun t=>mk (mag u p.2.1 t):=List.take_of_length_le (by omega)
  have hbl1:∀ y,Nat.ble (mags.length + ([y]:List tWide.T).length) maxN = true:=fun y=>ble_of (by simp; omega)
  have hbl2:∀ y,Nat.ble (st.length - ar n + ([y]:List tWide.T).length) maxN = true:=fun y=>ble_of (by simp; omega)
  simp only [bound_measured.l4.rg]
  rw [btakes_eq F g1 g4]
  simp only [oB_some,hl,ew,hb1,hb2,htk,cond_true,hdm]
  rw [q1]
  simp only [oB_some,news,firstE,hE]
  rcases q4 with ⟨rfl,hbig⟩ | ⟨rfl,rfl,hsm⟩
  ·rw [decide_eq_true hbig]
   rfl
  ·rw [above_eq F q3 hsm]
   simp only [oB_some,cond_false]
   cases hfar:decide (farN n (mag u p.2.1 (topT st n)) > BND) with
   | true=>rfl
   | false =>
    have hfar:=of_decide_eq_false hfar
    have hle:mag u p.2.1 (topT st n) ≤ BND:=by
     unfold farN at hfar
     cases h15:(nK n == 15) with
     | true=>rw [h15] at hfar; simp only [cond_true] at hfar; omega
     | false=>rw [h15] at hfar; simp only [cond_false] at hfar; omega
    have hstep:(stepT st n).map (fun t=>mk (mag u p.2.1 t)) = (st.map fun t=>mk (mag u p.2.1 t)).take (st.length - ar n) ++ [mk (mag u p.2.1 (topT st n))]:=by
     unfold stepT; simp [List.map_take]
    have IH:=ih (stepT st n) (i + 1) (mags ++ [mk (mag u p.2.1 (topT st n))]) h.2 (by omega) (by simp; omega) (by
     intro t ht
     rcases List.mem_append.1 ht with ht | ht
     ·exact h4 t (List.mem_of_mem_take ht)
     ·rw [List.mem_singleton.1 ht]; exact ⟨q3,hle⟩)
    rw [hstep,rg_cast] at IH
    simp only [hbl1,hbl2,cond_true,cond_false]
    refine IH.trans ?_
    simp only [List.append_assoc,List.singleton_append,List.map_cons]
    rfl
def measR (u:Int) (D:List tDim.T) (t:Tree):List tWide.T×Int :=
 match firstE (magE u D) t.subs 0 with
 | some (j,e)=>([],(j:Int))
 | none=>(t.subs.map fun t=>mk (mag u D t),-1)
theorem measured_eq (F:Nat) (hF:4096 < F) {u:Int} (hu:1 ≤ u) (hu2:u ≤ 1000000000000000000000000) {p:tPlan.T} {t:Tree} (h:Good p t):bound_measured.sh F p (mk u) = some (((measR u p.2.1 t).1,(measR u p.2.1 t).2,()),()):=by
 unfold bound_measured.sh
 have hl:=h.len
 have hh:=headE_dims h.head
 refine Eq.trans (bound_measured.l4.rg_eq F _ _ p.2.2.2 _ rfl (by omega) p.2.2.2 0 F _ _ _ _ (by simp) (by omega)) ?_
 refine (measured_rg F (by omega) hu hu2 hh.2.2.1 hh.2.1 (fun r44 r54=>(some ((r44,r54,()),()):Option bound_measured.sg.R)) (fun mags=>bound_measured.j13 F (fun r46 r56=>some ((r46,r56,()),())) mags) p.2.2.2 _ p.2.2.2 [] 0 [] h.ok (by simp [flats]; omega) (by simp) (by simp)).trans ?_
 rw [h.subs]
 unfold measR
 cases firstE (magE u p.2.1) t.subs 0 with
 | some x=>rfl
 | none=>rfl
def unitV (t:Tree):Int:=10000 ^ (deep t).toNat
theorem unitV_bd {t:Tree} (h:deep t ≤ 6):1 ≤ unitV t∧unitV t ≤ 1000000000000000000000000:=by
 have:=(deep_bd t).1
 unfold unitV
 have:(deep t).toNat = 0 ∨ (deep t).toNat = 1 ∨ (deep t).toNat = 2 ∨ (deep t).toNat = 3 ∨ (deep t).toNat = 4 ∨ (deep t).toNat = 5 ∨ (deep t).toNat = 6:=by omega
 rcases this with h | h | h | h | h | h | h <;> rw [h] <;> decide
def unitR (D:List tDim.T) (t:Tree):tWide.T×Int×Int :=
 bif (typesR t).2.2 != 0 then ((0,0),(typesR t).2.1,(typesR t).2.2)
 else bif decide (deep t > 6) then ((0,0),(t.size:Int) - 1,90)
 else bif decide ((measR (unitV t) D t).2 ≥ 0) then ((0,0),(measR (unitV t) D t).2,90)
 else (mk (unitV t),0,0)
theorem FU_big:4096 < FU:=by decide
theorem Unit_eq {p:tPlan.T} {t:Tree} (h:Good p t):bound_Unit.sh FU p = some (((unitR p.2.1 t).1,(unitR p.2.1 t).2.1,(unitR p.2.1 t).2.2,()),()):=by
 have hl:=h.len
 have hs:t.size = p.2.2.2.length:=by rw [Tree.size,h.flat]
 have hp:=size_pos t
 unfold bound_Unit.sh unitR
 rw [Types_eq FU FU_big h]
 simp only [oB_some]
 cases h1:((typesR t).2.2 != 0) with
 | true=>rfl
 | false =>
  simp only [cond_false]
  rw [Scale_eq FU FU_big h]
  simp only [oB_some]
  rw [← hs,wrap_i64 (n:=(t.size:Int) - 1) (by omega) (by omega)]
  cases h2:decide (deep t > 6) with
  | true=>rfl
  | false =>
   have h2:=of_decide_eq_false h2
   have hd:=(deep_bd t).1
   have hu:=unitV_bd (t:=t) (by omega)
   simp only [cond_false]
   rw [power_eq hd (by omega)]
   simp only [oB_some]
   have:=measured_eq FU FU_big hu.1 hu.2 h
   unfold unitV at *
   rw [this]
   simp only [oB_some]
   cases decide ((measR (10000 ^ (deep t).toNat) p.2.1 t).2 ≥ 0) <;> rfl
theorem Unit_bad {p:tPlan.T} (h:(checkS p).2 ≠ 0):bound_Unit.sh FU p = some (((0,0),(checkS p).1,(checkS p).2,()),()):=by
 unfold bound_Unit.sh
 rw [Types_bad FU FU_big h]
 simp only [oB_some]
 rw [show ((checkS p).2 != 0) = true by simpa using h]
 rfl
theorem unitR_ok {D:List tDim.T} {t:Tree} (h:(unitR D t).2.2 = 0):(typesR t).2.2 = 0∧deep t ≤ 6∧(measR (unitV t) D t).2 < 0∧unitR D t = (mk (unitV t),0,0):=by
 unfold unitR at *
 cases h1:((typesR t).2.2 != 0) with
 | true =>
  rw [h1] at h
  have h:(typesR t).2.2 = 0:=h
  rw [h] at h1
  exact absurd h1 (by decide)
 | false =>
  rw [h1] at h
  cases h2:decide (deep t > 6) with
  | true=>rw [h2] at h; exact absurd (show (90:Int) = 0 from h) (by decide)
  | false =>
   rw [h2] at h
   cases h3:decide ((measR (unitV t) D t).2 ≥ 0) with
   | true=>rw [h3] at h; exact absurd (show (90:Int) = 0 from h) (by decide)
   | false =>
    have h2:=of_decide_eq_false h2
    have h3:=of_decide_eq_false h3
    exact ⟨by simpa using h1,by omega,by omega,rfl⟩
end Go.VS
