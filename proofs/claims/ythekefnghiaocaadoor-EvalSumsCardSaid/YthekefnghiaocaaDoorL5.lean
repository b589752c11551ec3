import Derived.Test.YthekefnghiaocaaDoorL4
set_option linter.unusedVariables false
set_option linter.unusedSimpArgs false
set_option linter.unusedSectionVars false
set_option linter.unusedVariables false
set_option linter.unusedSimpArgs false
set_option maxRecDepth 100000
namespace Go.VS
open Go
theorem idx_of {n:Int} {len:Nat} (h1:0 ≤ n) (h2:n < (len:Int)):idx n len = true:=by
 unfold idx; rw [decide_eq_true h1,decide_eq_true h2]; rfl
def sameN (a b:ByteArray):Bool:=a.toList == b.toList
theorem d16_eq (F:Nat) (e d:tDim.T):slices_IndexFunc_Dim.d16 F (cl_tree_head_c1 + 1) (e,d,()) = some ((sameN e.1 d.1,()),()):=by
 unfold slices_IndexFunc_Dim.d16
 rw [show mkT slices_IndexFunc_Dim.ds16 [(fn_tree_head_c1,tree_head_c1.sp F)] (cl_tree_head_c1 + 1) (e,d,()) = tree_head_c1.sh F e d from rfl]
 rfl
theorem indexF_rg (F:Nat) {R:Type} (k:Int→Option R) (k':Option R) (L:List tDim.T) (N:Int) (d:tDim.T):∀ (xs:List tDim.T) (i:Nat),
  slices_IndexFunc_Dim.l2.rg F k (fun _ _ _ _ _=>k') L N xs (i:Int) (cl_tree_head_c1,d) = match xs.findIdx? (fun e=>sameN e.1 d.1) with | some j=>k ((i + j:Nat):Int) | none=>k':=by
 intro xs
 induction xs with
 | nil=>intro i; rfl
 | cons x xs ih =>
  intro i
  simp only [slices_IndexFunc_Dim.l2.rg]
  rw [d16_eq]
  simp only [oB_some]
  cases h:sameN x.1 d.1 with
  | true=>simp [List.findIdx?_cons,h]
  | false =>
   simp only [cond_false]
   rw [← rg_cast,ih (i + 1)]
   simp only [List.findIdx?_cons,h]
   cases hj:xs.findIdx? (fun e=>sameN e.1 d.1) with
   | none=>simp
   | some j=>simp; congr 1; omega
theorem containsF_eq (F:Nat) {l:List tDim.T} {d:tDim.T} (hl:l.length < F) (hL:l.length < 4611686018427387904):slices_ContainsFunc_Dim.sh F l (cl_tree_head_c1,d) = some ((l.any (fun e=>sameN e.1 d.1),()),()):=by
 unfold slices_ContainsFunc_Dim.sh slices_IndexFunc_Dim.sh
 have h1:=slices_IndexFunc_Dim.l2.rg_eq F (fun r42=>(some ((r42,()),()):Option slices_IndexFunc_Dim.sg.R)) (fun s3 f3 t73 t83 t93=>some (((-1),()),())) l (l.length:Int) rfl (by omega) l 0 F (cl_tree_head_c1,d) (by simp) hl
 have h2:=indexF_rg F (fun r=>(some ((r,()),()):Option slices_IndexFunc_Dim.sg.R)) (some (((-1),()),())) l (l.length:Int) d l 0
 have h3:=h1.trans h2
 rw [show ((0:Nat):Int) = 0 from rfl] at h3
 rw [h3]
 cases h:l.findIdx? (fun e=>sameN e.1 d.1) with
 | none =>
  have:l.any (fun e=>sameN e.1 d.1) = false:=by
   rw [List.findIdx?_eq_none_iff] at h
   rw [List.any_eq_false]
   intro x hx
   simpa using h x hx
  simp only [oB_some,this]
  rfl
 | some j =>
  have:l.any (fun e=>sameN e.1 d.1) = true:=by
   rw [List.findIdx?_eq_some_iff_getElem] at h
   obtain ⟨h1,h2,_⟩:=h
   rw [List.any_eq_true]
   exact ⟨l[j],List.getElem_mem _,h2⟩
  simp only [oB_some,this]
  have:decide (((0 + j:Nat):Int) ≥ 0) = true:=decide_eq_true (by omega)
  rw [this]
abbrev dS (d:tDim.T):Int:=d.2
def dE (pre:List tDim.T):List tDim.T→Int
 | []=>0
 | d :: r=>bif !nameB d.1.data.toList then 61 else bif pre.any (fun e=>sameN e.1 d.1) then 61 else bif decide (dS d < 1) then 50 else bif decide (dS d > 1000000000000) then 50 else dE (pre ++ [d]) r
def headE (name:ByteArray) (dims:List tDim.T) (mode:Int):Int :=
 bif !nameB name.data.toList then 61 else bif decide ((dims.length:Int) < 1) then 100 else bif decide ((dims.length:Int) > 4) then 100 else bif dE [] dims != 0 then dE [] dims else bif decide (mode < 0) then 50 else bif decide (mode > 4) then 50 else 0
theorem bounds_hi {n i:Nat} (h:i ≤ n):bounds n none (some (i:Int)) = (true,0,i):=by
 unfold bounds
 have e1:decide ((0:Int) ≤ ((i:Nat):Int)) = true:=decide_eq_true (by omega)
 have e2:decide (((i:Nat):Int) ≤ (n:Int)) = true:=decide_eq_true (by omega)
 simp only [Option.getD_none,Option.getD_some,e1,e2,Int.toNat_natCast]
 rfl
theorem bounds_lo {n i:Nat} (h:i ≤ n):bounds n (some (i:Int)) none = (true,i,n):=by
 unfold bounds
 have e1:decide ((0:Int) ≤ ((i:Nat):Int)) = true:=decide_eq_true (by omega)
 have e2:decide (((i:Nat):Int) ≤ (n:Int)) = true:=decide_eq_true (by omega)
 have e3:decide ((n:Int) ≤ (n:Int)) = true:=decide_eq_true (by omega)
 simp only [Option.getD_none,Option.getD_some,e1,e2,e3,Int.toNat_natCast]
 rfl
theorem head_rg (F:Nat) (hF:64 < F) {R:Type} (k:Int→Option R) (k2:tPlan.T→Option R) (L:List tDim.T) (N:Int) (p:tPlan.T) (hp:p.2.1 = L) (hL:L.length ≤ 32):∀ (xs:List tDim.T) (i:Nat),L.drop i = xs →
  tree_head.l6.rg F k k (fun _ _ _ _ p=>k2 p) L N xs (i:Int) p = bif dE (L.take i) xs != 0 then k (dE (L.take i) xs) else k2 p:=by
 intro xs
 induction xs with
 | nil=>intro i h; rfl
 | cons d xs ih =>
  intro i h
  have hi:=rg_len h
  have hd:L[i]? = some d:=by have:=congrArg (·[0]?) h; simpa using this
  have htake:L.take (i + 1) = L.take i ++ [d]:=by rw [List.take_add_one,hd]; rfl
  simp only [tree_head.l6.rg]
  rw [name_eq F hF]
  simp only [oB_some,dE]
  rw [← rg_cast,ih (i + 1) (rg_next h),htake]
  cases hn:nameB d.1.data.toList with
  | false=>rfl
  | true =>
   simp only [Bool.not_true,cond_false]
   rw [hp,bounds_hi (by omega)]
   simp only [cond_true,List.drop_zero]
   rw [containsF_eq F (by simp; omega) (by simp; omega)]
   simp only [oB_some]
   cases hc:(L.take i).any (fun e=>sameN e.1 d.1) with
   | true=>rfl
   | false =>
    simp only [cond_false]
    cases decide (dS d < 1) with
    | true=>rfl
    | false =>
     cases decide (dS d > 1000000000000) with
     | true=>rfl
     | false=>rfl
theorem head_eq (F:Nat) (hF:64 < F) (p:tPlan.T):tree_head.sh F p = some ((headE p.1 p.2.1 p.2.2.1,()),()):=by
 unfold tree_head.sh headE
 rw [name_eq F hF]
 simp only [oB_some]
 cases hn:nameB p.1.data.toList with
 | false=>rfl
 | true =>
  simp only [Bool.not_true,cond_false]
  cases h1:decide ((p.2.1.length:Int) < 1) with
  | true=>rfl
  | false =>
   cases h2:decide ((p.2.1.length:Int) > 4) with
   | true=>rfl
   | false =>
    have h2:=of_decide_eq_false h2
    simp only [cond_false]
    refine Eq.trans (tree_head.l6.rg_eq F _ _ _ p.2.1 _ rfl (by omega) p.2.1 0 F _ (by simp) (by omega)) ?_
    refine (head_rg F hF (fun r=>(some ((r,()),()):Option tree_head.sg.R)) (fun p=>bif decide (p.2.2.1 < 0) then some ((50,()),()) else bif decide (p.2.2.1 > 4) then some ((50,()),()) else some ((0,()),())) p.2.1 (p.2.1.length:Int) p rfl (by omega) p.2.1 0 (by simp)).trans ?_
    simp only [List.take_zero]
    cases (dE [] p.2.1 != 0) with
    | true=>rfl
    | false =>
     cases decide (p.2.2.1 < 0) with
     | true=>rfl
     | false=>cases decide (p.2.2.1 > 4) <;> rfl
abbrev nK (n:tNode.T):Int:=n.1
abbrev nN (n:tNode.T):Int:=n.2.1
abbrev nO (n:tNode.T):Int:=n.2.2.1
abbrev nC (n:tNode.T):Int:=n.2.2.2.1
abbrev nT (n:tNode.T):List tTier.T:=n.2.2.2.2.1
abbrev asks (n:tNode.T):Int×Int×Bool×Bool:=get tTree_asks kindsL (nK n).toNat
abbrev aK (n:tNode.T):Int:=(asks n).1
def ar (n:tNode.T):Nat:=bif decide (aK n ≥ 0) then (aK n).toNat else (nC n).toNat
def goodK (n:tNode.T):Bool:=decide (1 ≤ nK n) && decide (nK n ≤ 16)
def kidsK (n:tNode.T):Bool:=bif decide (aK n < 0) then decide (nC n ≥ 2) && decide (nC n ≤ 16) else nC n == 0
theorem goodK_iff {n:tNode.T}:goodK n = true ↔ 1 ≤ nK n∧nK n ≤ 16:=by simp [goodK]
theorem takes_eq (F:Nat) {n:tNode.T} (h:goodK n = true) (hk:kidsK n = true):tree_takes.sh F n = some (((ar n:Int),()),()):=by
 unfold tree_takes.sh
 have hg:=goodK_iff.1 h
 have e1:idx (nK n) 17 = true:=idx_of (by omega) (by omega)
 unfold ar
 unfold kidsK at hk
 rw [show idx n.1 17 = true from e1]
 simp only [cond_true]
 cases ha:decide (aK n ≥ 0) with
 | true =>
  have ha':=of_decide_eq_true ha
  simp only [cond_true]
  have:(((aK n).toNat:Nat):Int) = aK n:=by omega
  rw [this]
 | false =>
  have ha':=of_decide_eq_false ha
  simp only [cond_false]
  rw [decide_eq_true (show aK n < 0 by omega)] at hk
  simp at hk
  have:(((nC n).toNat:Nat):Int) = nC n:=by omega
  rw [this]
abbrev tF (x:tTier.T):Int:=x.1
abbrev tR (x:tTier.T):Int:=x.2
def okTier (l:List tTier.T) (i:Nat) (x:tTier.T):Bool:=(decide (i = 0) || !decide (tF x ≤ tF (l.getD (i - 1) (0,0)))) && (!decide (tF x > 1000000000000) && (!decide (tR x < -1000000000000) && !decide (tR x > 1000000000000)))
def okTiers (l:List tTier.T):List tTier.T→Nat→Bool
 | [],_=>true
 | x :: r,i=>okTier l i x && okTiers l r (i + 1)
def risB (l:List tTier.T):Bool:=decide (1 ≤ l.length) && (decide (l.length ≤ 16) && (decide (tF (l.getD 0 (0,0)) = 0) && okTiers l l 0))
theorem rising_rg (F:Nat) {R:Type} (k:Bool→Option R) (k1:Option R) (l:List tTier.T) (N:Int) (hl:l.length ≤ 32):∀ (xs:List tTier.T) (i:Nat),l.drop i = xs →
  tree_rising.l4.rg F k (fun _ _ _ _ _=>k1) l N xs (i:Int) l = bif okTiers l xs i then k1 else k false:=by
 intro xs
 induction xs with
 | nil=>intro i h; simp [tree_rising.l4.rg,okTiers]
 | cons x xs ih =>
  intro i h
  have hi:=rg_len h
  have ih:=ih (i + 1) (rg_next h)
  rw [rg_cast] at ih
  simp only [tree_rising.l4.rg,okTiers,okTier]
  by_cases h0:i = 0
  ·subst h0
   have e1:decide (((0:Nat):Int) > 0) = false:=rfl
   simp only [e1,cond_false,decide_true,Bool.true_or,Bool.true_and]
   cases decide (tF x > 1000000000000) <;> cases decide (tR x < -1000000000000) <;> cases decide (tR x > 1000000000000) <;> first | rfl | exact ih
  ·have e1:decide (((i:Nat):Int) > 0) = true:=decide_eq_true (by omega)
   have e2:IntKind.i64.wrap ((i:Int) - 1) = ((i - 1:Nat):Int):=by rw [wrap_i64 (by omega) (by omega)]; omega
   have e3:idx ((i - 1:Nat):Int) l.length = true:=rg_idx (by omega)
   have e4:get tTier l (((i - 1:Nat):Int).toNat) = l.getD (i - 1) (0,0):=rfl
   have e5:decide (i = 0) = false:=decide_eq_false h0
   simp only [e1,e2,e3,e4,e5,cond_true,Bool.false_or]
   cases decide (tF x ≤ tF (l.getD (i - 1) (0,0))) <;> cases decide (tF x > 1000000000000) <;> cases decide (tR x < -1000000000000) <;> cases decide (tR x > 1000000000000) <;> first | rfl | exact ih
theorem rising_eq (F:Nat) (hF:64 < F) (l:List tTier.T):tree_rising.sh F l = some ((risB l,()),()):=by
 unfold tree_rising.sh risB
 by_cases h1:1 ≤ l.length
 ·have e1:decide ((l.length:Int) < 1) = false:=decide_eq_false (by omega)
  by_cases h2:l.length ≤ 16
  ·have e2:decide ((l.length:Int) > 16) = false:=decide_eq_false (by omega)
   have e3:idx 0 l.length = true:=rg_idx (i:=0) (by omega)
   simp only [e1,e2,e3,cond_false,cond_true,h1,h2,decide_true,Bool.true_and]
   have e4:get tTier l 0 = l.getD 0 (0,0):=rfl
   rw [e4]
   by_cases h3:tF (l.getD 0 (0,0)) = 0
   ·have e5:(tF (l.getD 0 (0,0)) != 0) = false:=by rw [h3]; rfl
    rw [e5,h3]
    simp only [cond_false,decide_true,Bool.true_and]
    refine Eq.trans (tree_rising.l4.rg_eq F _ _ l _ rfl (by omega) l 0 F _ (by simp) (by omega)) ?_
    refine Eq.trans (rising_rg F (fun r=>(some ((r,()),()):Option tree_rising.sg.R)) (some ((true,()),())) l (l.length:Int) (by omega) l 0 (by simp)) ?_
    cases okTiers l l 0 <;> rfl
   ·have e5:(tF (l.getD 0 (0,0)) != 0) = true:=bne_iff_ne.2 h3
    have e6:decide (tF (l.getD 0 (0,0)) = 0) = false:=decide_eq_false h3
    rw [e5,e6]
    rfl
  ·have e2:decide ((l.length:Int) > 16) = true:=decide_eq_true (by omega)
   have e3:decide (l.length ≤ 16) = false:=decide_eq_false h2
   rw [e1,e2,e3]
   simp
 ·have e1:decide ((l.length:Int) < 1) = true:=decide_eq_true (by omega)
  have e3:decide (1 ≤ l.length) = false:=decide_eq_false h1
  rw [e1,e3]
  rfl
end Go.VS
