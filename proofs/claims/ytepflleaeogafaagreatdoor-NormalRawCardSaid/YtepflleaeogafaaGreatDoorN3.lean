import Derived.Test.YtepflleaeogafaaGreatDoorN2
set_option linter.unusedVariables false
set_option linter.unusedSimpArgs false
set_option linter.unusedSectionVars false
set_option linter.unusedVariables false
set_option linter.unusedSimpArgs false
set_option maxRecDepth 100000
namespace Go.VS
open Go
def lineB (l m:tLine.T):Bool:=(l.1.1 == m.1.1) && ((l.1.2 == m.1.2) && ((l.2.1.1 == m.2.1.1) && ((l.2.1.2 == m.2.1.2) && ((l.2.2.1 == m.2.2.1) && ((l.2.2.2 == m.2.2.2) && true)))))
def pairB (a b:tPiece.T):Bool:=!decide (a.1 ≥ b.1) && (!decide (b.1 > 1099511627776) && !lineB a.2 b.2)
def chainB:List tPiece.T→Bool
 | []=>true
 | a :: r=>(match r with | []=>true | b :: _=>pairB a b) && chainB r
def tableB (t:tTable.T):Bool:=!decide (t.1 < 1) && (!decide (t.1 > 1000000000000) && (!decide (t.2.1 < 0) && (!decide (t.2.1 > 6) && (!decide ((t.2.2.length:Int) < 1) && (!decide ((t.2.2.length:Int) > 256) && (((get tPiece t.2.2 0).1 == 0) && chainB t.2.2))))))
theorem check_l5 (F:Nat) {R:Type} (k0:Bool→Option R) (kT:Option R) (t:tTable.T) (hn:t.2.2.length ≤ 256):∀ (r:List tPiece.T) (a:tPiece.T) (i fu:Nat),t.2.2.drop i = a :: r→r.length < fu →
  normal_Check.l5 F k0 (fun _ _ _ _=>kT) fu ((t.2.2.length:Int) - 1) (i:Int) t = bif chainB (a :: r) then kT else k0 false
 | r,a,i,0,h,hf=>by omega
 | [],a,i,fu + 1,h,hf=>by
  have hl:=congrArg List.length h
  simp only [List.length_drop,List.length_cons,List.length_nil] at hl
  simp only [normal_Check.l5,normal_Check.l5.body,decide_eq_false (show ¬ (i:Int) < (t.2.2.length:Int) - 1 by omega),cond_false]
  rfl
 | b :: r,a,i,fu + 1,h,hf=>by
  have hl:=congrArg List.length h
  simp only [List.length_drop,List.length_cons] at hl
  have h2:=rg_next h
  have ih:=check_l5 F k0 kT t hn r b (i + 1) fu h2 (by simpa using hf)
  have g1:=rg_get (t:=tPiece) h
  have g2:=rg_get (t:=tPiece) h2
  have w:IntKind.i64.wrap ((i:Int) + 1) = ((i + 1:Nat):Int):=by rw [wrap_i64 (by omega) (by omega)]; simp
  simp only [normal_Check.l5,normal_Check.l5.body,decide_eq_true (show (i:Int) < (t.2.2.length:Int) - 1 by omega),cond_true,rg_idx (show i < t.2.2.length by omega),w,rg_idx (show i + 1 < t.2.2.length by omega),g1,g2]
  show (bif decide (a.1 ≥ b.1) then k0 false else bif decide (b.1 > 1099511627776) then k0 false else bif lineB a.2 b.2 then k0 false else _) = _
  rw [ih]
  show _ = bif pairB a b && chainB (b :: r) then kT else k0 false
  unfold pairB
  cases decide (a.1 ≥ b.1) with
  | true=>rfl
  | false =>
   cases decide (b.1 > 1099511627776) with
   | true=>rfl
   | false=>cases lineB a.2 b.2 <;> rfl
theorem check12_eq (F:Nat) (hF:256 < F) (t:tTable.T):normal_Check.sh F t = some ((tableB t,()),()):=by
 unfold normal_Check.sh tableB
 cases h1:decide (t.1 < 1) with
 | true=>rfl
 | false =>
 cases h2:decide (t.1 > 1000000000000) with
 | true=>rfl
 | false =>
 cases h3:decide (t.2.1 < 0) with
 | true=>rfl
 | false =>
 cases h4:decide (t.2.1 > 6) with
 | true=>rfl
 | false =>
 cases h5:decide ((t.2.2.length:Int) < 1) with
 | true=>rfl
 | false =>
 cases h6:decide ((t.2.2.length:Int) > 256) with
 | true=>rfl
 | false =>
  have h5:=of_decide_eq_false h5
  have h6:=of_decide_eq_false h6
  simp only [cond_false,Bool.not_false,Bool.true_and]
  rw [show idx 0 t.2.2.length = true from rg_idx (i:=0) (by omega)]
  simp only [cond_true]
  cases h7:((get tPiece t.2.2 0).1 != 0) with
  | true =>
   have:((get tPiece t.2.2 0).1 == 0) = false:=by simpa using h7
   rw [this]; rfl
  | false =>
   have:((get tPiece t.2.2 0).1 == 0) = true:=by simpa using h7
   rw [this,wrap_i64 (by omega) (by omega)]
   obtain ⟨a,r,hr⟩:∃ a r,t.2.2 = a :: r:=by
    cases h:t.2.2 with
    | nil=>rw [h] at h5; exact absurd (by decide) h5
    | cons a r=>exact ⟨a,r,rfl⟩
   have hd:t.2.2.drop 0 = a :: r:=hr
   have hl:=congrArg List.length hr
   simp only [List.length_cons] at hl
   simp only [cond_false,Bool.true_and]
   refine (check_l5 F (fun r21=>some ((r21,()),())) (some ((true,()),())) t (by omega) r a 0 F hd (by omega)).trans ?_
   rw [hr]
   cases chainB (a :: r) <;> rfl
theorem rcheck_l4 (F:Nat) {R:Type} (k0:Bool→Option R) (kT:Option R) (t:tTable.T) (hn:t.2.2.length ≤ 256):∀ (r:List tPiece.T) (a:tPiece.T) (i fu:Nat),t.2.2.drop i = a :: r→r.length < fu →
  octroiref12_Check.l4 F k0 k0 (fun _ _ _=>kT) fu ((i + 1:Nat):Int) t = bif chainB (a :: r) then kT else k0 false
 | r,a,i,0,h,hf=>by omega
 | [],a,i,fu + 1,h,hf=>by
  have hl:=congrArg List.length h
  simp only [List.length_drop,List.length_cons,List.length_nil] at hl
  simp only [octroiref12_Check.l4,octroiref12_Check.l4.body,decide_eq_false (show ¬ ((i + 1:Nat):Int) < (t.2.2.length:Int) by omega),cond_false]
  rfl
 | b :: r,a,i,fu + 1,h,hf=>by
  have hl:=congrArg List.length h
  simp only [List.length_drop,List.length_cons] at hl
  have h2:=rg_next h
  have ih:=rcheck_l4 F k0 kT t hn r b (i + 1) fu h2 (by simpa using hf)
  have g1:=rg_get (t:=tPiece) h
  have g2:=rg_get (t:=tPiece) h2
  have w:IntKind.i64.wrap (((i + 1:Nat):Int) - 1) = (i:Int):=by rw [wrap_i64 (by omega) (by omega)]; simp
  have w2:IntKind.i64.wrap (((i + 1:Nat):Int) + 1) = ((i + 1 + 1:Nat):Int):=by rw [wrap_i64 (by omega) (by omega)]; simp
  have e0:(((i + 1:Nat):Int) == 0) = false:=by simp; omega
  simp only [octroiref12_Check.l4,octroiref12_Check.l4.body,octroiref12_Check.j8,decide_eq_true (show ((i + 1:Nat):Int) < (t.2.2.length:Int) by omega),decide_eq_true (show ((i + 1:Nat):Int) > 0 by omega),cond_true,cond_false,e0,rg_idx (show i < t.2.2.length by omega),w,w2,rg_idx (show i + 1 < t.2.2.length by omega),g1,g2]
  show (bif decide (b.1 > 1099511627776) then k0 false else bif decide (a.1 ≥ b.1) then k0 false else bif lineB a.2 b.2 then k0 false else _) = _
  rw [ih]
  show _ = bif pairB a b && chainB (b :: r) then kT else k0 false
  unfold pairB
  cases decide (a.1 ≥ b.1) with
  | true=>cases decide (b.1 > 1099511627776) <;> rfl
  | false =>
   cases decide (b.1 > 1099511627776) with
   | true=>rfl
   | false=>cases lineB a.2 b.2 <;> rfl
theorem rcheck12_eq (F:Nat) (hF:257 < F) (t:tTable.T):octroiref12_Check.sh F t = some ((tableB t,()),()):=by
 unfold octroiref12_Check.sh tableB
 cases h1:decide (t.1 < 1) with
 | true=>rfl
 | false =>
 cases h2:decide (t.1 > 1000000000000) with
 | true=>rfl
 | false =>
 cases h3:decide (t.2.1 < 0) with
 | true=>rfl
 | false =>
 cases h4:decide (t.2.1 > 6) with
 | true=>rfl
 | false =>
 cases h5:((t.2.2.length:Int) == 0) with
 | true =>
  have h5:(t.2.2.length:Int) = 0:=by simpa using h5
  rw [decide_eq_true (show (t.2.2.length:Int) < 1 by omega)]
  rfl
 | false =>
 have h5:(t.2.2.length:Int) ≠ 0:=by simpa using h5
 rw [decide_eq_false (show ¬ (t.2.2.length:Int) < 1 by omega)]
 cases h6:decide ((t.2.2.length:Int) > 256) with
 | true=>rfl
 | false =>
  have h6:=of_decide_eq_false h6
  simp only [cond_false,Bool.not_false,Bool.true_and]
  obtain ⟨a,r,hr⟩:∃ a r,t.2.2 = a :: r:=by
   cases h:t.2.2 with
   | nil=>rw [h] at h5; exact absurd rfl h5
   | cons a r=>exact ⟨a,r,rfl⟩
  have hd:t.2.2.drop 0 = a :: r:=hr
  have hl:=congrArg List.length hr
  simp only [List.length_cons] at hl
  obtain ⟨fu,hfu⟩:∃ fu,F = fu + 1:=⟨F - 1,by omega⟩
  have g:get tPiece t.2.2 (0:Int).toNat = a:=by rw [hr]; rfl
  have g':get tPiece t.2.2 0 = a:=by rw [hr]; rfl
  have key:=rcheck_l4 F (fun r21=>(some ((r21,()),()):Option octroiref12_Check.sg.R)) (some ((true,()),())) t (by omega) r a 0 fu hd (by omega)
  rw [show octroiref12_Check.l4 F (fun r25=>(some ((r25,()),()):Option octroiref12_Check.sg.R)) (fun r26=>some ((r26,()),())) (fun i7 t387 t7=>some ((true,()),())) F 0 t = octroiref12_Check.l4 F (fun r25=>some ((r25,()),())) (fun r26=>some ((r26,()),())) (fun i7 t387 t7=>some ((true,()),())) (fu + 1) 0 t from by rw [← hfu]]
  simp only [octroiref12_Check.l4,octroiref12_Check.l4.body,octroiref12_Check.j8]
  rw [decide_eq_true (show (0:Int) < (t.2.2.length:Int) by omega),show idx 0 t.2.2.length = true from rg_idx (i:=0) (by omega),g,g']
  rw [show (decide ((0:Int) > 0)) = false from rfl,show ((0:Int) == 0) = true from rfl,show IntKind.i64.wrap (0 + 1) = ((0 + 1:Nat):Int) from rfl,key,← hr]
  simp only [cond_true,cond_false]
  cases h7:(a.1 == 0) with
  | true =>
   have:a.1 = 0:=by simpa using h7
   rw [decide_eq_false (show ¬ a.1 > 1099511627776 by rw [this]; decide),show (a.1 != 0) = false by simpa using this]
   simp only [cond_false,Bool.true_and]
   cases chainB t.2.2 <;> rfl
  | false =>
   have:(a.1 != 0) = true:=by simpa using h7
   rw [this]
   cases decide (a.1 > 1099511627776) <;> rfl
def pF (l:List tPiece.T) (i:Nat):Int:=(get tPiece l i).1
theorem pF_cons (a:tPiece.T) (l:List tPiece.T) (i:Nat):pF (a :: l) (i + 1) = pF l i:=rfl
theorem pairB_lt {a b:tPiece.T} (h:pairB a b = true):a.1 < b.1:=by
 unfold pairB at h
 simp only [Bool.and_eq_true,Bool.not_eq_true',decide_eq_false_iff_not] at h
 exact Int.not_le.1 h.1
theorem chain_next:∀ {l:List tPiece.T},chainB l = true→∀ i,i + 1 < l.length→pF l i < pF l (i + 1)
 | [],h,i,hi=>by simp at hi
 | [a],h,i,hi=>by simp at hi
 | a :: b :: r,h,i,hi=>by
  have h':(pairB a b && chainB (b :: r)) = true:=h
  rw [Bool.and_eq_true] at h'
  cases i with
  | zero=>exact pairB_lt h'.1
  | succ i=>rw [pF_cons,pF_cons]; exact chain_next h'.2 i (by simpa using hi)
theorem chain_lt {l:List tPiece.T} (h:chainB l = true) (i:Nat):∀ (d:Nat),i + (d + 1) < l.length→pF l i < pF l (i + (d + 1))
 | 0,hi=>chain_next h i hi
 | d + 1,hi=>Int.lt_trans (chain_lt h i d (by omega)) (chain_next h (i + (d + 1)) hi)
theorem chain_lt' {l:List tPiece.T} (h:chainB l = true) {i j:Nat} (hij:i < j) (hj:j < l.length):pF l i < pF l j:=by
 have:=chain_lt h i (j - i - 1) (by omega)
 rwa [show i + (j - i - 1 + 1) = j by omega] at this
def isAt (l:List tPiece.T) (q:Int) (i:Nat):Prop:=i < l.length∧pF l i ≤ q∧∀ j,i < j→j < l.length→q < pF l j
theorem isAt_inj {l:List tPiece.T} {q:Int} {i j:Nat} (hi:isAt l q i) (hj:isAt l q j):i = j:=by
 obtain ⟨a1,a2,a3⟩:=hi
 obtain ⟨b1,b2,b3⟩:=hj
 rcases Nat.lt_trichotomy i j with h | h | h
 ·have:=a3 j h b1; omega
 ·exact h
 ·have:=b3 i h a1; omega
theorem find_l2 (F:Nat) {R:Type} (kk:Int→Option R) {l:List tPiece.T} (hn:l.length ≤ 256) (hc:chainB l = true) {q:Int}:∀ (n i fu:Nat),i + n + 1 = l.length→n < fu→pF l i ≤ q →
  ∃ k:Nat,octroiref12_Find.l2 F (fun _ _ i _=>kk i) fu l q (i:Int) = kk (k:Int)∧isAt l q k
 | n,i,0,h,hf,hi=>by omega
 | 0,i,fu + 1,h,hf,hi=>by
  refine ⟨i,?_,by omega,hi,fun j h1 h2=>by omega⟩
  simp only [octroiref12_Find.l2,octroiref12_Find.l2.body]
  rw [wrap_i64 (n:=(l.length:Int) - 1) (by omega) (by omega),decide_eq_false (show ¬ (i:Int) < (l.length:Int) - 1 by omega)]
  rfl
 | n + 1,i,fu + 1,h,hf,hi=>by
  have w:IntKind.i64.wrap ((i:Int) + 1) = ((i + 1:Nat):Int):=by rw [wrap_i64 (by omega) (by omega)]; simp
  simp only [octroiref12_Find.l2,octroiref12_Find.l2.body]
  rw [wrap_i64 (n:=(l.length:Int) - 1) (by omega) (by omega),decide_eq_true (show (i:Int) < (l.length:Int) - 1 by omega),w,rg_idx (show i + 1 < l.length by omega),Int.toNat_natCast]
  simp only [cond_true]
  show ∃ k,(bif decide (pF l (i + 1) ≤ q) then _ else _) = _∧_
  by_cases hq:pF l (i + 1) ≤ q
  ·obtain ⟨k,e,hk⟩:=find_l2 F kk hn hc n (i + 1) fu (by omega) (by omega) hq
   exact ⟨k,by rw [decide_eq_true hq]; exact e,hk⟩
  ·refine ⟨i,by rw [decide_eq_false hq]; rfl,by omega,hi,fun j h1 h2=>?_⟩
   rcases Nat.lt_or_ge (i + 1) j with h' | h'
   ·have:=chain_lt' hc h' h2; omega
   ·have:j = i + 1:=by omega
    subst this; omega
theorem find_eq (F:Nat) (hF:256 < F) {l:List tPiece.T} (hn:l.length ≤ 256) (h0:0 < l.length) (hc:chainB l = true) {q:Int} (hq:pF l 0 ≤ q):∃ k:Nat,octroiref12_Find.sh F l q = some (((k:Int),()),())∧isAt l q k:=by
 unfold octroiref12_Find.sh
 exact find_l2 F (fun i=>(some ((i,()),()):Option octroiref12_Find.sg.R)) hn hc (l.length - 1) 0 F (by omega) (by omega) hq
def sgF (p q:Int):Int:=if 1 < (if (-1) > IntKind.i64.wrap (p - q) then (-1) else IntKind.i64.wrap (p - q)) then 1 else (if (-1) > IntKind.i64.wrap (p - q) then (-1) else IntKind.i64.wrap (p - q))
theorem sgF_lt {p q:Int} (h1:0 ≤ p) (h2:p ≤ 1099511627776) (h3:0 ≤ q) (h4:q ≤ 1099511627776):decide (sgF p q < 0) = decide (p < q):=by
 unfold sgF
 rw [wrap_i64 (n:=p - q) (by omega) (by omega)]
 apply decide_eq_decide.2
 split <;> split <;> omega
theorem sgF_eq {p q:Int} (h1:0 ≤ p) (h2:p ≤ 1099511627776) (h3:0 ≤ q) (h4:q ≤ 1099511627776):(sgF p q == 0) = decide (p = q):=by
 unfold sgF
 rw [wrap_i64 (n:=p - q) (by omega) (by omega)]
 rw [show ∀ x:Int,(x == 0) = decide (x = 0) from fun x=>rfl]
 apply decide_eq_decide.2
 split <;> split <;> omega
theorem halved {i j:Nat} (h:i + j ≤ 512):IntKind.i64.wrap ((IntKind.u64.wrap (IntKind.i64.wrap ((i:Int) + (j:Int)))).fdiv (2 ^ (min (1:Int).toNat IntKind.u64.bits))) = (((i + j) / 2:Nat):Int):=by
 have e:(2 ^ (min (1:Int).toNat IntKind.u64.bits):Int) = 2:=by decide
 rw [e,wrap_i64 (n:=(i:Int) + (j:Int)) (by omega) (by omega),wrap_u64 (by omega) (by omega),Int.fdiv_eq_ediv_of_nonneg _ (by omega),wrap_i64 (by omega) (by omega)]
 omega
theorem bs_l3 (F:Nat) {R:Type} (k0:(List tPiece.T)→Int→Nat→Int→Int→Int→Bool→Option R) {l:List tPiece.T} (hn:l.length ≤ 256) (hb:∀ i,i < l.length→0 ≤ pF l i∧pF l i ≤ 1099511627776) {q:Int} (q1:0 ≤ q) (q2:q ≤ 1099511627776) (N:Int) (hc:chainB l = true) :
  ∀ (fu i j:Nat),i ≤ j→j ≤ l.length→j - i < fu→(∀ k,k < i→pF l k < q)→(∀ k,j ≤ k→k < l.length→q ≤ pF l k) →
  ∃ (k:Nat) (j':Int) (b:Bool),slices_BinarySearchFunc_int64.l3 F k0 fu l q fn_normal_At_c1 N (i:Int) (j:Int) = k0 l q fn_normal_At_c1 N (k:Int) j' b∧k ≤ l.length∧(∀ m,m < k→pF l m < q)∧∀ m,k ≤ m→m < l.length→q ≤ pF l m
 | 0,i,j,h1,h2,h3,_,_=>by omega
 | fu + 1,i,j,h1,h2,h3,h4,h5=>by
  simp only [slices_BinarySearchFunc_int64.l3,slices_BinarySearchFunc_int64.l3.body]
  by_cases hij:i < j
  ·rw [decide_eq_true (show (i:Int) < (j:Int) by omega),halved (i:=i) (j:=j) (by omega),rg_idx (show (i + j) / 2 < l.length by omega),Int.toNat_natCast]
   simp only [cond_true]
   have e:slices_BinarySearchFunc_int64.d30 F fn_normal_At_c1 (get tPiece l ((i + j) / 2),q,()) = some ((sgF (pF l ((i + j) / 2)) q,()),()):=rfl
   obtain ⟨b1,b2⟩:=hb ((i + j) / 2) (by omega)
   rw [e,oB_some,sgF_lt b1 b2 q1 q2]
   by_cases hq:pF l ((i + j) / 2) < q
   ·rw [decide_eq_true hq,wrap_i64 (n:=(((i + j) / 2:Nat):Int) + 1) (by omega) (by omega)]
    simp only [cond_true]
    refine bs_l3 F k0 hn hb q1 q2 N hc fu ((i + j) / 2 + 1) j (by omega) h2 (by omega) (fun k hk=>?_) h5
    rcases Nat.lt_or_ge k ((i + j) / 2) with h' | h'
    ·have:=chain_lt' hc h' (by omega); omega
    ·have:k = (i + j) / 2:=by omega
     subst this; exact hq
   ·rw [decide_eq_false hq]
    simp only [cond_false]
    refine bs_l3 F k0 hn hb q1 q2 N hc fu i ((i + j) / 2) (by omega) (by omega) (by omega) h4 (fun k hk hk2=>?_)
    rcases Nat.lt_or_ge ((i + j) / 2) k with h' | h'
    ·have:=chain_lt' hc h' hk2; omega
    ·have:k = (i + j) / 2:=by omega
     subst this; omega
  ·rw [decide_eq_false (show ¬ (i:Int) < (j:Int) by omega)]
   exact ⟨i,_,_,rfl,by omega,h4,fun m hm hm2=>h5 m (by omega) hm2⟩
theorem bs_eq (F:Nat) (hF:257 < F) {l:List tPiece.T} (hn:l.length ≤ 256) (hb:∀ i,i < l.length→0 ≤ pF l i∧pF l i ≤ 1099511627776) {q:Int} (q1:0 ≤ q) (q2:q ≤ 1099511627776) (hc:chainB l = true) (h0:pF l 0 = 0) (hl:0 < l.length) :
  ∃ (k:Nat) (f:Bool),slices_BinarySearchFunc_int64.sh F l q fn_normal_At_c1 = some (((k:Int),f,()),())∧isAt l q (bif f then k else k - 1)∧(f = false→1 ≤ k)∧k ≤ l.length:=by
 unfold slices_BinarySearchFunc_int64.sh
 obtain ⟨k,j',b,e,k1,k2,k3⟩:=bs_l3 F (fun x2 target2 cmp2 n2 i2 j2 t172=>(bif decide (i2 < n2) then bif idx i2 x2.length then oB (slices_BinarySearchFunc_int64.d46 F cmp2 ((get tPiece x2 i2.toNat),target2,())) fun c_3 =>
   some ((i2,(c_3.1.1 == 0),()),())
  else none
 else some ((i2,false,()),()):Option slices_BinarySearchFunc_int64.sg.R)) hn hb q1 q2 (l.length:Int) hc F 0 l.length (by omega) (by omega) (by omega) (fun k hk=>by omega) (fun k h1 h2=>by omega)
 rw [show ((0:Nat):Int) = 0 from rfl] at e
 rw [e]
 by_cases hk:k < l.length
 ·obtain ⟨b1,b2⟩:=hb k hk
  have ed:slices_BinarySearchFunc_int64.d46 F fn_normal_At_c1 (get tPiece l k,q,()) = some ((sgF (pF l k) q,()),()):=rfl
  rw [decide_eq_true (show (k:Int) < (l.length:Int) by omega),rg_idx hk,Int.toNat_natCast,ed,oB_some,sgF_eq b1 b2 q1 q2]
  simp only [cond_true]
  have h6:=k3 k (by omega) hk
  by_cases hq:pF l k = q
  ·rw [decide_eq_true hq]
   refine ⟨k,true,rfl,⟨hk,by simp only [cond_true]; omega,fun j h1 h2=>by simp only [cond_true] at h1; have:=chain_lt' hc h1 h2; omega⟩,(fun h=>?_),k1⟩
   cases h
  ·rw [decide_eq_false hq]
   have hk1:1 ≤ k:=by
    rcases Nat.eq_zero_or_pos k with h | h
    ·subst h; omega
    ·exact h
   exact ⟨k,false,rfl,⟨by simp only [cond_false]; omega,by simp only [cond_false]; have:=k2 (k - 1) (by omega); omega,fun j h1 h2=>by
    simp only [cond_false] at h1
    rcases Nat.lt_or_ge k j with h' | h'
    ·have:=chain_lt' hc h' h2; omega
    ·have:j = k:=by omega
     subst this; omega⟩,fun _=>hk1,k1⟩
 ·rw [decide_eq_false (show ¬ (k:Int) < (l.length:Int) by omega)]
  exact ⟨k,false,rfl,⟨by simp only [cond_false]; omega,by simp only [cond_false]; have:=k2 (k - 1) (by omega); omega,fun j h1 h2=>by simp only [cond_false] at h1; omega⟩,fun _=>by omega,k1⟩
end Go.VS
