import Derived.Test.YthekefnghiaocaaGreatDoorM4
set_option linter.unusedVariables false
set_option linter.unusedSimpArgs false
set_option linter.unusedSectionVars false
set_option linter.unusedVariables false
set_option linter.unusedSimpArgs false
set_option maxRecDepth 100000
namespace Go.VS
open Go
theorem rtakes_eq (F:Nat) {n:tNode.T} (hg:goodK n = true):octroiref05_Takes.sh F n = some ((bif decide (aK n ≥ 0) then aK n else nC n,()),()):=by
 unfold octroiref05_Takes.sh
 have h16:=kinds16 hg
 have ha:∀ k:Int,nK n = k→aK n = (get tTree_asks kindsL k.toNat).1:=fun k h=>by unfold aK asks; rw [h]
 rcases h16 with h | h | h | h | h | h | h | h | h | h | h | h | h | h | h | h <;> rw [ha _ h,show n.1 = _ from h] <;> rfl
theorem rtakes_bad (F:Nat) {n:tNode.T} (hg:goodK n = false):octroiref05_Takes.sh F n = some ((-1,()),()):=by
 have hk:∀ k:Int,1 ≤ k→k ≤ 16→(nK n == k) = false:=fun k h1 h2=>by
  rw [beq_eq_false_iff_ne]
  intro h
  rw [goodK_iff.2 (by omega)] at hg
  cases hg
 unfold octroiref05_Takes.sh octroiref05_Takes.j6 octroiref05_Takes.j13 octroiref05_Takes.j17
 simp only [show (n.1 == 1) = false from hk 1 (by decide) (by decide),show (n.1 == 2) = false from hk 2 (by decide) (by decide),show (n.1 == 3) = false from hk 3 (by decide) (by decide),show (n.1 == 4) = false from hk 4 (by decide) (by decide),show (n.1 == 5) = false from hk 5 (by decide) (by decide),show (n.1 == 6) = false from hk 6 (by decide) (by decide),show (n.1 == 7) = false from hk 7 (by decide) (by decide),show (n.1 == 8) = false from hk 8 (by decide) (by decide),show (n.1 == 9) = false from hk 9 (by decide) (by decide),show (n.1 == 10) = false from hk 10 (by decide) (by decide),show (n.1 == 11) = false from hk 11 (by decide) (by decide),show (n.1 == 12) = false from hk 12 (by decide) (by decide),show (n.1 == 13) = false from hk 13 (by decide) (by decide),show (n.1 == 14) = false from hk 14 (by decide) (by decide),show (n.1 == 15) = false from hk 15 (by decide) (by decide),show (n.1 == 16) = false from hk 16 (by decide) (by decide),cond_false]
theorem rtakes_ok (F:Nat) {n:tNode.T} (hg:goodK n = true) (hk:kidsK n = true):octroiref05_Takes.sh F n = some (((ar n:Int),()),()):=by
 rw [rtakes_eq F hg]
 have:(bif decide (aK n ≥ 0) then aK n else nC n) = (ar n:Int):=by
  unfold ar
  unfold kidsK at hk
  by_cases ha:aK n ≥ 0
  ·rw [decide_eq_true ha]; simp only [cond_true]; omega
  ·rw [decide_eq_true (show aK n < 0 by omega)] at hk
   simp at hk
   rw [decide_eq_false ha]; simp only [cond_false]; omega
 rw [this]
theorem rmost_eq (F:Nat) {n:tNode.T} (hg:goodK n = true) {dims:Nat} (hd:dims ≤ 32):octroiref05_most.sh F n.1 (dims:Int) = some ((mostN n dims,()),()):=by
 have hw:IntKind.i64.wrap ((dims:Int) - 1) = (dims:Int) - 1:=wrap_i64 (by omega) (by omega)
 unfold octroiref05_most.sh octroiref05_most.j7
 rw [hw]
 rcases kinds16 hg with h | h | h | h | h | h | h | h | h | h | h | h | h | h | h | h <;> rw [most_of h,show n.1 = _ from h] <;> rfl
def fieldsB (n:tNode.T) (dims:Nat):Bool:=!decide (nN n < 0) && (!decide (nN n > mostN n dims) && (opB n && (kidsK n && (tierB n || (((nT n).length:Int) == 0)))))
theorem dec_not {a b:Int}:decide (a < b) = !decide (a ≥ b):=by
 by_cases h:a < b
 ·rw [decide_eq_true h,decide_eq_false (by omega)]; rfl
 ·rw [decide_eq_false h,decide_eq_true (by omega)]; rfl
theorem dec_not' {a b:Int}:decide (a > b) = !decide (a ≤ b):=by
 by_cases h:a > b
 ·rw [decide_eq_true h,decide_eq_false (by omega)]; rfl
 ·rw [decide_eq_false h,decide_eq_true (by omega)]; rfl
theorem rf13 (F:Nat) {R:Type} (k:Bool→Option R) {n:tNode.T} (hg:goodK n = true):octroiref05_fields.j13 F k n = k (tierB n || (((nT n).length:Int) == 0)):=by
 unfold octroiref05_fields.j13 tierB asks
 rcases kinds16 hg with h | h | h | h | h | h | h | h | h | h | h | h | h | h | h | h <;> rw [h,show n.1 = _ from h] <;> rfl
theorem rf8 (F:Nat) {R:Type} (k:Bool→Option R) {n:tNode.T} (hg:goodK n = true):octroiref05_fields.j8 F k k k n = k (kidsK n && (tierB n || (((nT n).length:Int) == 0))):=by
 unfold octroiref05_fields.j8
 rw [rf13 F k hg]
 rw [show decide (n.2.2.2.1 < 2) = !decide (nC n ≥ 2) from dec_not (a:=nC n) (b:=2),show decide (n.2.2.2.1 > 16) = !decide (nC n ≤ 16) from dec_not' (a:=nC n) (b:=16),show (n.2.2.2.1 != 0) = !(nC n == 0) from rfl]
 rcases kinds16 hg with h | h | h | h | h | h | h | h | h | h | h | h | h | h | h | h <;> rw [kids_of h,show n.1 = _ from h] <;>
  first
  | (show (bif !(nC n == 0) then k false else k (tierB n || (((nT n).length:Int) == 0))) = k ((nC n == 0) && (tierB n || (((nT n).length:Int) == 0))); cases (nC n == 0) <;> rfl)
  | (show (bif !decide (nC n ≥ 2) then k false else bif !decide (nC n ≤ 16) then k false else k (tierB n || (((nT n).length:Int) == 0))) = k ((decide (nC n ≥ 2) && decide (nC n ≤ 16)) && (tierB n || (((nT n).length:Int) == 0))); cases decide (nC n ≥ 2) <;> cases decide (nC n ≤ 16) <;> rfl)
theorem rfields_eq (F:Nat) {n:tNode.T} (hg:goodK n = true) {dims:Nat} (hd:dims ≤ 32):octroiref05_fields.sh F n (dims:Int) = some ((fieldsB n dims,()),()):=by
 unfold octroiref05_fields.sh fieldsB
 rw [rmost_eq F hg hd]
 simp only [oB_some]
 rw [rf8 F (fun r45=>(some ((r45,()),()):Option octroiref05_fields.sg.R)) hg]
 cases decide (nN n < 0) with
 | true=>rfl
 | false =>
  cases decide (nN n > mostN n dims) with
  | true=>rfl
  | false =>
   simp only [cond_false,Bool.not_false,Bool.true_and]
   rw [show decide (n.2.2.1 < 1) = !decide (nO n ≥ 1) from dec_not (a:=nO n) (b:=1),show decide (n.2.2.1 > 6) = !decide (nO n ≤ 6) from dec_not' (a:=nO n) (b:=6),show (n.2.2.1 != 0) = !(nO n == 0) from rfl]
   generalize (kidsK n && (tierB n || (((nT n).length:Int) == 0))) = Z
   unfold opB asks
   rcases kinds16 hg with h | h | h | h | h | h | h | h | h | h | h | h | h | h | h | h <;> rw [h,show n.1 = _ from h] <;>
    first
    | (show (bif !(nO n == 0) then (some ((false,()),()):Option octroiref05_fields.sg.R) else some ((Z,()),())) = some (((nO n == 0) && Z,()),()); cases (nO n == 0) <;> rfl)
    | (show (bif !decide (nO n ≥ 1) then (some ((false,()),()):Option octroiref05_fields.sg.R) else bif !decide (nO n ≤ 6) then some ((false,()),()) else some ((Z,()),())) = some (((decide (nO n ≥ 1) && decide (nO n ≤ 6)) && Z,()),()); cases decide (nO n ≥ 1) <;> cases decide (nO n ≤ 6) <;> rfl)
theorem rtiers_l4 (F:Nat) {R:Type} (k:Bool→Option R) (k1:Option R) (l:List tTier.T) (hl:l.length ≤ 32):∀ (xs:List tTier.T) (i fu:Nat),l.drop i = xs→xs.length < fu →
  octroiref05_tiers.l4 F k k (fun _ _ _=>k1) fu l (i:Int) = bif okTiers l xs i then k1 else k false:=by
 intro xs
 induction xs with
 | nil =>
  intro i fu h hf
  obtain ⟨fu,rfl⟩:∃ j,fu = j + 1:=⟨fu - 1,by simp at hf; omega⟩
  have hn:l.length ≤ i:=by simpa using h
  simp only [octroiref05_tiers.l4,octroiref05_tiers.l4.body,decide_eq_false (show ¬ ((i:Int) < (l.length:Int)) by omega),cond_false,okTiers,cond_true]
 | cons x xs ih =>
  intro i fu h hf
  obtain ⟨fu,rfl⟩:∃ j,fu = j + 1:=⟨fu - 1,by simp at hf; omega⟩
  have hi:=rg_len h
  have hg:=rg_get (t:=tTier) h
  rw [Int.toNat_natCast] at hg
  have ih:=ih (i + 1) fu (rg_next h) (by simp at hf; omega)
  rw [rg_cast] at ih
  have hj8:octroiref05_tiers.j8 F (fun r=>k r) (fun l2 i2 _=>octroiref05_tiers.l4 F k k (fun _ _ _=>k1) fu l2 (IntKind.i64.wrap (i2 + 1))) l (i:Int) =
    bif (!decide (tF x > 1000000000000) && (!decide (tR x < -1000000000000) && !decide (tR x > 1000000000000))) && okTiers l xs (i + 1) then k1 else k false:=by
   simp only [octroiref05_tiers.j8,rg_idx hi,cond_true,Int.toNat_natCast,hg,wrap_i64 (n:=(i:Int) + 1) (by omega) (by omega),ih]
   cases decide (tF x > 1000000000000) <;> cases decide (tR x < -1000000000000) <;> cases decide (tR x > 1000000000000) <;> rfl
  simp only [octroiref05_tiers.l4,octroiref05_tiers.l4.body,decide_eq_true (show ((i:Int) < (l.length:Int)) by omega),cond_true,okTiers,okTier]
  by_cases h0:i = 0
  ·subst h0
   rw [decide_eq_false (show ¬ (((0:Nat):Int) > 0) by omega)]
   simp only [cond_false,decide_true,Bool.true_or,Bool.true_and]
   exact hj8
  ·have e2:IntKind.i64.wrap ((i:Int) - 1) = ((i - 1:Nat):Int):=by rw [wrap_i64 (by omega) (by omega)]; omega
   rw [decide_eq_true (show ((i:Int) > 0) by omega),e2,rg_idx (show i - 1 < l.length by omega),rg_idx hi,decide_eq_false h0]
   simp only [cond_true,Int.toNat_natCast,hg,Bool.false_or]
   rw [show decide ((get tTier l (i - 1)).1 ≥ x.1) = decide (tF x ≤ tF (l.getD (i - 1) (0,0))) from rfl]
   cases decide (tF x ≤ tF (l.getD (i - 1) (0,0))) with
   | true=>rfl
   | false =>
    simp only [cond_false,Bool.not_false,Bool.true_and]
    exact hj8
theorem rtiers_eq (F:Nat) (hF:64 < F) (l:List tTier.T):octroiref05_tiers.sh F l = some ((risB l,()),()):=by
 unfold octroiref05_tiers.sh risB
 by_cases h1:1 ≤ l.length
 ·rw [show ((l.length:Int) == 0) = false by rw [beq_eq_false_iff_ne]; omega,decide_eq_true h1]
  by_cases h2:l.length ≤ 16
  ·rw [decide_eq_false (show ¬ ((l.length:Int) > 16) by omega),decide_eq_true h2,idx0 h1]
   simp only [cond_true,cond_false,Bool.true_and]
   rw [show ((get tTier l 0).1 != 0) = !(tF (l.getD 0 (0,0)) == 0) from rfl]
   have e:=rtiers_l4 F (fun r=>(some ((r,()),()):Option octroiref05_tiers.sg.R)) (some ((true,()),())) l (by omega) l 0 F (by simp) (by omega)
   rw [show ((0:Nat):Int) = 0 from rfl] at e
   rw [e]
   by_cases h3:tF (l.getD 0 (0,0)) = 0
   ·rw [show (tF (l.getD 0 (0,0)) == 0) = true by rw [beq_iff_eq]; exact h3,decide_eq_true h3]
    simp only [Bool.not_true,cond_false,Bool.true_and]
    cases okTiers l l 0 <;> rfl
   ·rw [show (tF (l.getD 0 (0,0)) == 0) = false by rw [beq_eq_false_iff_ne]; exact h3,decide_eq_false h3]
    rfl
  ·rw [decide_eq_true (show ((l.length:Int) > 16) by omega),decide_eq_false h2]
   rfl
 ·rw [show ((l.length:Int) == 0) = true by rw [beq_iff_eq]; omega,decide_eq_false h1]
  rfl
theorem tier_kinds {n:tNode.T} (hg:goodK n = true):tierB n = ((nK n == 13) || (nK n == 14)):=by
 unfold tierB asks
 rcases kinds16 hg with h | h | h | h | h | h | h | h | h | h | h | h | h | h | h | h <;> rw [h] <;> rfl
theorem nodeE_fields {n:tNode.T} (hg:goodK n = true) (dims pile:Nat):nodeE dims n pile = bif !fieldsB n dims then 50 else bif decide ((pile:Int) < (ar n:Int)) then 50 else bif tierB n && !risB (nT n) then 51 else 0:=by
 unfold nodeE fieldsB
 rw [hg]
 have hl:(((nT n).length:Int) == 0) = !decide (((nT n).length:Int) > 0):=by
  by_cases h:((nT n).length:Int) > 0
  ·rw [decide_eq_true h,show (((nT n).length:Int) == 0) = false by rw [beq_eq_false_iff_ne]; omega]; rfl
  ·rw [decide_eq_false h,show (((nT n).length:Int) == 0) = true by rw [beq_iff_eq]; omega]; rfl
 rw [hl]
 cases decide (nN n < 0) <;> cases decide (nN n > mostN n dims) <;> cases kidsK n <;> cases opB n <;> cases tierB n <;> cases decide (((nT n).length:Int) > 0) <;> rfl
theorem fields_kids {n:tNode.T} {dims:Nat} (h:fieldsB n dims = true):kidsK n = true:=by
 unfold fieldsB at h
 simp only [Bool.and_eq_true] at h
 exact h.2.2.2.1
theorem rcheck_l8 (F:Nat) (hF:64 < F) {R:Type} (k0:Int→Int→Option R) (k1:Int→tPlan.T→Option R) (p:tPlan.T) (hp:p.2.1.length ≤ 32) (hL:p.2.2.2.length ≤ 2048):∀ (xs:List tNode.T) (i pile fu:Nat),p.2.2.2.drop i = xs→pile ≤ i→xs.length < fu →
  octroiref05_Check.l8 F k0 k0 (fun pile _ _ p=>k1 pile p) fu (pile:Int) (i:Int) p = match chkE p.2.1.length xs pile i with | some (j,e)=>k0 (j:Int) e | none=>k1 (chkP xs pile:Int) p:=by
 intro xs
 induction xs with
 | nil =>
  intro i pile fu h hpi hf
  obtain ⟨fu,rfl⟩:∃ j,fu = j + 1:=⟨fu - 1,by simp at hf; omega⟩
  have hn:p.2.2.2.length ≤ i:=by simpa using h
  simp only [octroiref05_Check.l8,octroiref05_Check.l8.body,decide_eq_false (show ¬ ((i:Int) < (p.2.2.2.length:Int)) by omega),cond_false]
  rfl
 | cons n xs ih =>
  intro i pile fu h hpi hf
  obtain ⟨fu,rfl⟩:∃ j,fu = j + 1:=⟨fu - 1,by simp at hf; omega⟩
  have hi:=rg_len h
  have hg:=rg_get (t:=tNode) h
  rw [Int.toNat_natCast] at hg
  simp only [octroiref05_Check.l8,octroiref05_Check.l8.body,decide_eq_true (show ((i:Int) < (p.2.2.2.length:Int)) by omega),cond_true,rg_idx hi,Int.toNat_natCast,hg,chkE,chkP]
  cases hgk:goodK n with
  | false =>
   rw [rtakes_bad F hgk]
   have:nodeE p.2.1.length n pile = 50:=by unfold nodeE; rw [hgk]; rfl
   rw [this]
   rfl
  | true =>
   rw [rtakes_eq F hgk,rfields_eq F hgk hp,nodeE_fields hgk]
   simp only [oB_some]
   cases hfi:fieldsB n p.2.1.length with
   | false =>
    simp only [Bool.not_false,cond_true]
    cases decide ((bif decide (aK n ≥ 0) then aK n else nC n) < 0) <;> rfl
   | true =>
    have hk:=fields_kids hfi
    have ha:=ar_le hgk hk
    have hta:(bif decide (aK n ≥ 0) then aK n else nC n) = (ar n:Int):=by
     have:=(rtakes_eq F hgk).symm.trans (rtakes_ok F hgk hk)
     simpa using this
    rw [hta,rtiers_eq F hF,decide_eq_false (show ¬ ((ar n:Int) < 0) by omega)]
    simp only [Bool.not_true,cond_false,oB_some]
    cases hpa:decide ((pile:Int) < (ar n:Int)) with
    | true=>rfl
    | false =>
     have hpa:=of_decide_eq_false hpa
     simp only [cond_false]
     rw [wrap_i64 (n:=(pile:Int) - (ar n:Int)) (by omega) (by omega),wrap_i64 (n:=(pile:Int) - (ar n:Int) + 1) (by omega) (by omega),wrap_i64 (n:=(i:Int) + 1) (by omega) (by omega),show (pile:Int) - (ar n:Int) + 1 = ((pile - ar n + 1:Nat):Int) by omega]
     have ih:=ih (i + 1) (pile - ar n + 1) fu (rg_next h) (by omega) (by simp at hf; omega)
     rw [rg_cast i] at ih
     rw [ih,tier_kinds hgk]
     cases (nK n == 13) <;> cases (nK n == 14) <;> cases risB (nT n) <;> rfl
theorem rcheck_eq (F:Nat) (hF:2048 < F) (p:tPlan.T):octroiref05_Check.sh F p = some (((checkS p).1,(checkS p).2,()),()):=by
 unfold octroiref05_Check.sh checkS
 rw [rhead_eq F (by omega)]
 simp only [oB_some]
 cases h:(headE p.1 p.2.1 p.2.2.1 != 0) with
 | true=>rfl
 | false =>
  have hh:=headE_dims (show headE p.1 p.2.1 p.2.2.1 = 0 by simpa using h)
  cases h1:decide ((p.2.2.2.length:Int) > 1024) with
  | true=>rfl
  | false =>
   have h1:=of_decide_eq_false h1
   simp only [cond_false]
   have e:=rcheck_l8 F (by omega) (fun r26 r36=>(some ((r26,r36,()),()):Option octroiref05_Check.sg.R)) (fun pile8 p8=>bif (pile8 != 1) then some (((p8.2.2.2.length:Int),50,()),()) else some ((0,0,()),())) p (by omega) (by omega) p.2.2.2 0 0 F (by simp) (by omega) (by omega)
   rw [show ((0:Nat):Int) = 0 from rfl] at e
   rw [e]
   cases chkE p.2.1.length p.2.2.2 0 0 with
   | some x=>rfl
   | none=>cases hc:((chkP p.2.2.2 0:Int) != 1) <;> simp only [cond_true,cond_false,hc]
end Go.VS
